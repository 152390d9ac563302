/- Proved: the statement DomJoins. Conditions: none but those of the statement. -/
import Derived.Test.YtklanjkndoikeaaZ1
import Derived.Test.YtklanjkndoikeaaZ2
import Derived.Test.YtklanjkndoikeaaZ3
import Derived.Test.YtklanjkndoikeaaYDomJoins1

-- Written by wip/tools/px.py out of the translation. Lean checks it.
namespace Go.Proofs.Ytklanjkndoikeaa.P
open Go.RowKit Go.Proofs.YtklanjkndoikeaaW.PrintWords Go.Proofs.YtklanjkndoikeaaW.PrintLast Go.Proofs.YtklanjkndoikeaaW.PrintMore
attribute [local go_sem] max2_int min2_int max_two min_two max_three min_three max_four min_four   -- for this text's walks alone
set_option linter.unusedVariables false
set_option linter.unusedSimpArgs false

/-! ### secateurlaw02_DomJoins: function 9 -/
mutual
def secateurlaw02_DomJoins.j0 : Nat → List (S52) → List (S52) → List (S52) → List (S52) → List (S52) → List (S52) → List (S52) → List (S52) → Bool → Option (Bool)
 | 0, _, _, _, _, _, _, _, _, _ => none
 | k + 1, x7, x8, x9, x10, x11, x12, x13, x14, x76 => if x76 = true then (none) else (secateurlaw02_DomJoins.l0 k x7 x8 x9 x10 x11 x12 x13 x14 0)
def secateurlaw02_DomJoins.l0 : Nat → List (S52) → List (S52) → List (S52) → List (S52) → List (S52) → List (S52) → List (S52) → List (S52) → Int → Option (Bool)
 | 0, _, _, _, _, _, _, _, _, _ => none
 | k + 1, x7, x8, x9, x10, x11, x12, x13, x14, x15 => if x15 < (x11.length : Int) then (if 0 ≤ x15 then (secateurlaw02_DomJoins.l0 k x7 x8 x9 x10 (x11.set (x15 : Int).toNat (⟨999, (rd_T52 x11 x15).f1⟩ : S52)) x12 x13 x14 (wrap64 (x15 + 1))) else (none)) else (secateurlaw02_DomJoins.l1 k x7 x8 x9 x10 x12 x13 x14 0)
def secateurlaw02_DomJoins.l1 : Nat → List (S52) → List (S52) → List (S52) → List (S52) → List (S52) → List (S52) → List (S52) → Int → Option (Bool)
 | 0, _, _, _, _, _, _, _, _ => none
 | k + 1, x7, x8, x9, x10, x12, x13, x14, x16 => if x16 < (x12.length : Int) then (if 0 ≤ x16 then (secateurlaw02_DomJoins.l1 k x7 x8 x9 x10 (x12.set (x16 : Int).toNat (⟨999, (rd_T52 x12 x16).f1⟩ : S52)) x13 x14 (wrap64 (x16 + 1))) else (none)) else (secateurlaw02_DomJoins.l2 k x7 x8 x9 x10 x13 x14 0)
def secateurlaw02_DomJoins.l2 : Nat → List (S52) → List (S52) → List (S52) → List (S52) → List (S52) → List (S52) → Int → Option (Bool)
 | 0, _, _, _, _, _, _, _ => none
 | k + 1, x7, x8, x9, x10, x13, x14, x17 => if x17 < (x13.length : Int) then (if 0 ≤ x17 then (secateurlaw02_DomJoins.l2 k x7 x8 x9 x10 (x13.set (x17 : Int).toNat (⟨999, (rd_T52 x13 x17).f1⟩ : S52)) x14 (wrap64 (x17 + 1))) else (none)) else (secateurlaw02_DomJoins.l3 k x7 x8 x9 x10 x14 0)
def secateurlaw02_DomJoins.l3 : Nat → List (S52) → List (S52) → List (S52) → List (S52) → List (S52) → Int → Option (Bool)
 | 0, _, _, _, _, _, _ => none
 | k + 1, x7, x8, x9, x10, x14, x18 => if x18 < (x14.length : Int) then (if 0 ≤ x18 then (secateurlaw02_DomJoins.l3 k x7 x8 x9 x10 (x14.set (x18 : Int).toNat (⟨999, (rd_T52 x14 x18).f1⟩ : S52)) (wrap64 (x18 + 1))) else (none)) else ((secateurref02_Same.f k x7 x9).bind fun t654 => (if t654 = true then ((secateurref02_Same.f k x8 x10).bind fun t655 => (if t655 = true then ((dom_Same.f k x7 x8).bind fun t656 => ((secateurref02_Same.f k x7 x8).bind fun t657 => (if (t656 == t657) = true then ((secateurlaw02_fixed.f k).bind fun t658 => (some t658)) else (none)))) else (none))) else (none)))
end
def secateurlaw02_DomJoins.f (k : Nat) (l0 : List Int) (l1 : List Int) (a2_0 : Int) (a2_1 : Int) : Option (Bool) := (secateurlaw02_Small.f k l0).bind fun t604 => ((secateurlaw02_Small.f k l1).bind fun t607 => ((some (([] : List (S52)) : List (S52))).bind fun y610 => (if y610.length + t604.length < 8796093022208 then ((some (y610 ++ t604 : List (S52))).bind fun y613 => ((some (([] : List (S52)) : List (S52))).bind fun y616 => (if y616.length + t607.length < 8796093022208 then ((some (y616 ++ t607 : List (S52))).bind fun y619 => ((dom_Meet.f k t604 t607).bind fun t622 => ((dom_Join.f k t604 t607).bind fun t625 => ((dom_Minus.f k t604 t607).bind fun t628 => ((dom_Cut.f k t604 a2_0 a2_1).bind fun t631 => ((secateurref02_Pick.f k t604 t607 true).bind fun t634 => ((secateurref02_Same.f k t622 t634).bind fun t637 => (if t637 = true then ((secateurref02_Join.f k t604 t607).bind fun t638 => ((secateurref02_Same.f k t625 t638).bind fun t641 => (if t641 = true then ((secateurref02_Pick.f k t604 t607 false).bind fun t642 => ((secateurref02_Same.f k t628 t642).bind fun t645 => (if t645 = true then ((secateurref02_Cut.f k t604 a2_0 a2_1).bind fun t646 => ((secateurref02_Same.f k t631 t646).bind fun t649 => (secateurlaw02_DomJoins.j0 k t604 t607 y613 y619 t622 t625 t628 t631 (!t649)))) else (secateurlaw02_DomJoins.j0 k t604 t607 y613 y619 t622 t625 t628 t631 true)))) else (secateurlaw02_DomJoins.j0 k t604 t607 y613 y619 t622 t625 t628 t631 true)))) else (secateurlaw02_DomJoins.j0 k t604 t607 y613 y619 t622 t625 t628 t631 true))))))))) else (none)))) else (none))))
theorem secateurlaw02_DomJoins.mono_l : ∀ k, (∀ y0 y1 y2 y3 y4 y5 y6 y7 y8, LeO (secateurlaw02_DomJoins.j0 k y0 y1 y2 y3 y4 y5 y6 y7 y8) (secateurlaw02_DomJoins.j0 (k + 1) y0 y1 y2 y3 y4 y5 y6 y7 y8)) ∧ (∀ y0 y1 y2 y3 y4 y5 y6 y7 y8, LeO (secateurlaw02_DomJoins.l0 k y0 y1 y2 y3 y4 y5 y6 y7 y8) (secateurlaw02_DomJoins.l0 (k + 1) y0 y1 y2 y3 y4 y5 y6 y7 y8)) ∧ (∀ y0 y1 y2 y3 y4 y5 y6 y7, LeO (secateurlaw02_DomJoins.l1 k y0 y1 y2 y3 y4 y5 y6 y7) (secateurlaw02_DomJoins.l1 (k + 1) y0 y1 y2 y3 y4 y5 y6 y7)) ∧ (∀ y0 y1 y2 y3 y4 y5 y6, LeO (secateurlaw02_DomJoins.l2 k y0 y1 y2 y3 y4 y5 y6) (secateurlaw02_DomJoins.l2 (k + 1) y0 y1 y2 y3 y4 y5 y6)) ∧ (∀ y0 y1 y2 y3 y4 y5, LeO (secateurlaw02_DomJoins.l3 k y0 y1 y2 y3 y4 y5) (secateurlaw02_DomJoins.l3 (k + 1) y0 y1 y2 y3 y4 y5))
 | 0 => ⟨fun _ _ _ _ _ _ _ _ _ r h => by simp [secateurlaw02_DomJoins.j0] at h, fun _ _ _ _ _ _ _ _ _ r h => by simp [secateurlaw02_DomJoins.l0] at h, fun _ _ _ _ _ _ _ _ r h => by simp [secateurlaw02_DomJoins.l1] at h, fun _ _ _ _ _ _ _ r h => by simp [secateurlaw02_DomJoins.l2] at h, fun _ _ _ _ _ _ r h => by simp [secateurlaw02_DomJoins.l3] at h⟩
 | k + 1 => by
  obtain ⟨ih0, ih1, ih2, ih3, ih4⟩ := secateurlaw02_DomJoins.mono_l k
  refine ⟨?_, ?_, ?_, ?_, ?_⟩
  ·intro y0 y1 y2 y3 y4 y5 y6 y7 y8
   unfold secateurlaw02_DomJoins.j0
   repeat' first
   | (with_reducible exact ih0 _ _ _ _ _ _ _ _ _)
   | (with_reducible exact ih1 _ _ _ _ _ _ _ _ _)
   | (with_reducible exact ih2 _ _ _ _ _ _ _ _)
   | (with_reducible exact ih3 _ _ _ _ _ _ _)
   | (with_reducible exact ih4 _ _ _ _ _ _)
   | (with_reducible exact dom_Cut.mono _ _ _ _)
   | (with_reducible exact dom_Join.mono _ _ _)
   | (with_reducible exact dom_Meet.mono _ _ _)
   | (with_reducible exact dom_Minus.mono _ _ _)
   | (with_reducible exact dom_Same.mono _ _ _)
   | (with_reducible exact secateurlaw02_Small.mono _ _)
   | (with_reducible exact secateurlaw02_fixed.mono _)
   | (with_reducible exact secateurref02_Cut.mono _ _ _ _)
   | (with_reducible exact secateurref02_Join.mono _ _ _)
   | (with_reducible exact secateurref02_Pick.mono _ _ _ _)
   | (with_reducible exact secateurref02_Same.mono _ _ _)
   | (with_reducible exact LeO.refl _)
   | (with_reducible exact LeO.none _)
   | (with_reducible refine LeO.ite ?_ ?_)
   | (with_reducible refine LeO.bind ?_ (fun _ => ?_))
   | exact ih0 _ _ _ _ _ _ _ _ _
   | exact ih1 _ _ _ _ _ _ _ _ _
   | exact ih2 _ _ _ _ _ _ _ _
   | exact ih3 _ _ _ _ _ _ _
   | exact ih4 _ _ _ _ _ _
   | exact dom_Cut.mono _ _ _ _
   | exact dom_Join.mono _ _ _
   | exact dom_Meet.mono _ _ _
   | exact dom_Minus.mono _ _ _
   | exact dom_Same.mono _ _ _
   | exact secateurlaw02_Small.mono _ _
   | exact secateurlaw02_fixed.mono _
   | exact secateurref02_Cut.mono _ _ _ _
   | exact secateurref02_Join.mono _ _ _
   | exact secateurref02_Pick.mono _ _ _ _
   | exact secateurref02_Same.mono _ _ _
   | exact LeO.none _
   | refine LeO.ite ?_ ?_
   | refine LeO.bind ?_ (fun _ => ?_)
  ·intro y0 y1 y2 y3 y4 y5 y6 y7 y8
   unfold secateurlaw02_DomJoins.l0
   repeat' first
   | (with_reducible exact ih0 _ _ _ _ _ _ _ _ _)
   | (with_reducible exact ih1 _ _ _ _ _ _ _ _ _)
   | (with_reducible exact ih2 _ _ _ _ _ _ _ _)
   | (with_reducible exact ih3 _ _ _ _ _ _ _)
   | (with_reducible exact ih4 _ _ _ _ _ _)
   | (with_reducible exact dom_Cut.mono _ _ _ _)
   | (with_reducible exact dom_Join.mono _ _ _)
   | (with_reducible exact dom_Meet.mono _ _ _)
   | (with_reducible exact dom_Minus.mono _ _ _)
   | (with_reducible exact dom_Same.mono _ _ _)
   | (with_reducible exact secateurlaw02_Small.mono _ _)
   | (with_reducible exact secateurlaw02_fixed.mono _)
   | (with_reducible exact secateurref02_Cut.mono _ _ _ _)
   | (with_reducible exact secateurref02_Join.mono _ _ _)
   | (with_reducible exact secateurref02_Pick.mono _ _ _ _)
   | (with_reducible exact secateurref02_Same.mono _ _ _)
   | (with_reducible exact LeO.refl _)
   | (with_reducible exact LeO.none _)
   | (with_reducible refine LeO.ite ?_ ?_)
   | (with_reducible refine LeO.bind ?_ (fun _ => ?_))
   | exact ih0 _ _ _ _ _ _ _ _ _
   | exact ih1 _ _ _ _ _ _ _ _ _
   | exact ih2 _ _ _ _ _ _ _ _
   | exact ih3 _ _ _ _ _ _ _
   | exact ih4 _ _ _ _ _ _
   | exact dom_Cut.mono _ _ _ _
   | exact dom_Join.mono _ _ _
   | exact dom_Meet.mono _ _ _
   | exact dom_Minus.mono _ _ _
   | exact dom_Same.mono _ _ _
   | exact secateurlaw02_Small.mono _ _
   | exact secateurlaw02_fixed.mono _
   | exact secateurref02_Cut.mono _ _ _ _
   | exact secateurref02_Join.mono _ _ _
   | exact secateurref02_Pick.mono _ _ _ _
   | exact secateurref02_Same.mono _ _ _
   | exact LeO.none _
   | refine LeO.ite ?_ ?_
   | refine LeO.bind ?_ (fun _ => ?_)
  ·intro y0 y1 y2 y3 y4 y5 y6 y7
   unfold secateurlaw02_DomJoins.l1
   repeat' first
   | (with_reducible exact ih0 _ _ _ _ _ _ _ _ _)
   | (with_reducible exact ih1 _ _ _ _ _ _ _ _ _)
   | (with_reducible exact ih2 _ _ _ _ _ _ _ _)
   | (with_reducible exact ih3 _ _ _ _ _ _ _)
   | (with_reducible exact ih4 _ _ _ _ _ _)
   | (with_reducible exact dom_Cut.mono _ _ _ _)
   | (with_reducible exact dom_Join.mono _ _ _)
   | (with_reducible exact dom_Meet.mono _ _ _)
   | (with_reducible exact dom_Minus.mono _ _ _)
   | (with_reducible exact dom_Same.mono _ _ _)
   | (with_reducible exact secateurlaw02_Small.mono _ _)
   | (with_reducible exact secateurlaw02_fixed.mono _)
   | (with_reducible exact secateurref02_Cut.mono _ _ _ _)
   | (with_reducible exact secateurref02_Join.mono _ _ _)
   | (with_reducible exact secateurref02_Pick.mono _ _ _ _)
   | (with_reducible exact secateurref02_Same.mono _ _ _)
   | (with_reducible exact LeO.refl _)
   | (with_reducible exact LeO.none _)
   | (with_reducible refine LeO.ite ?_ ?_)
   | (with_reducible refine LeO.bind ?_ (fun _ => ?_))
   | exact ih0 _ _ _ _ _ _ _ _ _
   | exact ih1 _ _ _ _ _ _ _ _ _
   | exact ih2 _ _ _ _ _ _ _ _
   | exact ih3 _ _ _ _ _ _ _
   | exact ih4 _ _ _ _ _ _
   | exact dom_Cut.mono _ _ _ _
   | exact dom_Join.mono _ _ _
   | exact dom_Meet.mono _ _ _
   | exact dom_Minus.mono _ _ _
   | exact dom_Same.mono _ _ _
   | exact secateurlaw02_Small.mono _ _
   | exact secateurlaw02_fixed.mono _
   | exact secateurref02_Cut.mono _ _ _ _
   | exact secateurref02_Join.mono _ _ _
   | exact secateurref02_Pick.mono _ _ _ _
   | exact secateurref02_Same.mono _ _ _
   | exact LeO.none _
   | refine LeO.ite ?_ ?_
   | refine LeO.bind ?_ (fun _ => ?_)
  ·intro y0 y1 y2 y3 y4 y5 y6
   unfold secateurlaw02_DomJoins.l2
   repeat' first
   | (with_reducible exact ih0 _ _ _ _ _ _ _ _ _)
   | (with_reducible exact ih1 _ _ _ _ _ _ _ _ _)
   | (with_reducible exact ih2 _ _ _ _ _ _ _ _)
   | (with_reducible exact ih3 _ _ _ _ _ _ _)
   | (with_reducible exact ih4 _ _ _ _ _ _)
   | (with_reducible exact dom_Cut.mono _ _ _ _)
   | (with_reducible exact dom_Join.mono _ _ _)
   | (with_reducible exact dom_Meet.mono _ _ _)
   | (with_reducible exact dom_Minus.mono _ _ _)
   | (with_reducible exact dom_Same.mono _ _ _)
   | (with_reducible exact secateurlaw02_Small.mono _ _)
   | (with_reducible exact secateurlaw02_fixed.mono _)
   | (with_reducible exact secateurref02_Cut.mono _ _ _ _)
   | (with_reducible exact secateurref02_Join.mono _ _ _)
   | (with_reducible exact secateurref02_Pick.mono _ _ _ _)
   | (with_reducible exact secateurref02_Same.mono _ _ _)
   | (with_reducible exact LeO.refl _)
   | (with_reducible exact LeO.none _)
   | (with_reducible refine LeO.ite ?_ ?_)
   | (with_reducible refine LeO.bind ?_ (fun _ => ?_))
   | exact ih0 _ _ _ _ _ _ _ _ _
   | exact ih1 _ _ _ _ _ _ _ _ _
   | exact ih2 _ _ _ _ _ _ _ _
   | exact ih3 _ _ _ _ _ _ _
   | exact ih4 _ _ _ _ _ _
   | exact dom_Cut.mono _ _ _ _
   | exact dom_Join.mono _ _ _
   | exact dom_Meet.mono _ _ _
   | exact dom_Minus.mono _ _ _
   | exact dom_Same.mono _ _ _
   | exact secateurlaw02_Small.mono _ _
   | exact secateurlaw02_fixed.mono _
   | exact secateurref02_Cut.mono _ _ _ _
   | exact secateurref02_Join.mono _ _ _
   | exact secateurref02_Pick.mono _ _ _ _
   | exact secateurref02_Same.mono _ _ _
   | exact LeO.none _
   | refine LeO.ite ?_ ?_
   | refine LeO.bind ?_ (fun _ => ?_)
  ·intro y0 y1 y2 y3 y4 y5
   unfold secateurlaw02_DomJoins.l3
   repeat' first
   | (with_reducible exact ih0 _ _ _ _ _ _ _ _ _)
   | (with_reducible exact ih1 _ _ _ _ _ _ _ _ _)
   | (with_reducible exact ih2 _ _ _ _ _ _ _ _)
   | (with_reducible exact ih3 _ _ _ _ _ _ _)
   | (with_reducible exact ih4 _ _ _ _ _ _)
   | (with_reducible exact dom_Cut.mono _ _ _ _)
   | (with_reducible exact dom_Join.mono _ _ _)
   | (with_reducible exact dom_Meet.mono _ _ _)
   | (with_reducible exact dom_Minus.mono _ _ _)
   | (with_reducible exact dom_Same.mono _ _ _)
   | (with_reducible exact secateurlaw02_Small.mono _ _)
   | (with_reducible exact secateurlaw02_fixed.mono _)
   | (with_reducible exact secateurref02_Cut.mono _ _ _ _)
   | (with_reducible exact secateurref02_Join.mono _ _ _)
   | (with_reducible exact secateurref02_Pick.mono _ _ _ _)
   | (with_reducible exact secateurref02_Same.mono _ _ _)
   | (with_reducible exact LeO.refl _)
   | (with_reducible exact LeO.none _)
   | (with_reducible refine LeO.ite ?_ ?_)
   | (with_reducible refine LeO.bind ?_ (fun _ => ?_))
   | exact ih0 _ _ _ _ _ _ _ _ _
   | exact ih1 _ _ _ _ _ _ _ _ _
   | exact ih2 _ _ _ _ _ _ _ _
   | exact ih3 _ _ _ _ _ _ _
   | exact ih4 _ _ _ _ _ _
   | exact dom_Cut.mono _ _ _ _
   | exact dom_Join.mono _ _ _
   | exact dom_Meet.mono _ _ _
   | exact dom_Minus.mono _ _ _
   | exact dom_Same.mono _ _ _
   | exact secateurlaw02_Small.mono _ _
   | exact secateurlaw02_fixed.mono _
   | exact secateurref02_Cut.mono _ _ _ _
   | exact secateurref02_Join.mono _ _ _
   | exact secateurref02_Pick.mono _ _ _ _
   | exact secateurref02_Same.mono _ _ _
   | exact LeO.none _
   | refine LeO.ite ?_ ?_
   | refine LeO.bind ?_ (fun _ => ?_)
theorem secateurlaw02_DomJoins.mono : ∀ a0 a1 a2 a3 k, LeO (secateurlaw02_DomJoins.f k a0 a1 a2 a3) (secateurlaw02_DomJoins.f (k + 1) a0 a1 a2 a3) := by
 intro a0 a1 a2 a3 k
 obtain ⟨ih0, ih1, ih2, ih3, ih4⟩ := secateurlaw02_DomJoins.mono_l k
 unfold secateurlaw02_DomJoins.f
 repeat' first
   | (with_reducible exact ih0 _ _ _ _ _ _ _ _ _)
   | (with_reducible exact ih1 _ _ _ _ _ _ _ _ _)
   | (with_reducible exact ih2 _ _ _ _ _ _ _ _)
   | (with_reducible exact ih3 _ _ _ _ _ _ _)
   | (with_reducible exact ih4 _ _ _ _ _ _)
   | (with_reducible exact dom_Cut.mono _ _ _ _)
   | (with_reducible exact dom_Join.mono _ _ _)
   | (with_reducible exact dom_Meet.mono _ _ _)
   | (with_reducible exact dom_Minus.mono _ _ _)
   | (with_reducible exact dom_Same.mono _ _ _)
   | (with_reducible exact secateurlaw02_Small.mono _ _)
   | (with_reducible exact secateurlaw02_fixed.mono _)
   | (with_reducible exact secateurref02_Cut.mono _ _ _ _)
   | (with_reducible exact secateurref02_Join.mono _ _ _)
   | (with_reducible exact secateurref02_Pick.mono _ _ _ _)
   | (with_reducible exact secateurref02_Same.mono _ _ _)
   | (with_reducible exact LeO.refl _)
   | (with_reducible exact LeO.none _)
   | (with_reducible refine LeO.ite ?_ ?_)
   | (with_reducible refine LeO.bind ?_ (fun _ => ?_))
   | exact ih0 _ _ _ _ _ _ _ _ _
   | exact ih1 _ _ _ _ _ _ _ _ _
   | exact ih2 _ _ _ _ _ _ _ _
   | exact ih3 _ _ _ _ _ _ _
   | exact ih4 _ _ _ _ _ _
   | exact dom_Cut.mono _ _ _ _
   | exact dom_Join.mono _ _ _
   | exact dom_Meet.mono _ _ _
   | exact dom_Minus.mono _ _ _
   | exact dom_Same.mono _ _ _
   | exact secateurlaw02_Small.mono _ _
   | exact secateurlaw02_fixed.mono _
   | exact secateurref02_Cut.mono _ _ _ _
   | exact secateurref02_Join.mono _ _ _
   | exact secateurref02_Pick.mono _ _ _ _
   | exact secateurref02_Same.mono _ _ _
   | exact LeO.none _
   | refine LeO.ite ?_ ?_
   | refine LeO.bind ?_ (fun _ => ?_)
def secateurlaw02_DomJoins.T4 : Bool × List (List Nat × List Nat) := (true, [([], []), ([], []), ([0, 1], [0, 1]), ([], []), ([], []), ([4], [4]), ([], []), ([6], [6]), ([3, 5, 7, 2], [3, 5, 7]), ([2, 8, 0, 1, 2], [2]), ([8, 9, 0, 1, 2, 3, 4, 5, 6, 7, 8, 9], [8])])
def secateurlaw02_DomJoins.B4 : List Nat := [0, 0, 3, 0, 0, 16, 0, 64, 255, 511, 1023]
theorem secateurlaw02_DomJoins.tab4 : rtab .any (opsOf Try.f9 4) = secateurlaw02_DomJoins.T4 := by kernel_rfl
theorem secateurlaw02_DomJoins.bits4 : waitsOk secateurlaw02_DomJoins.T4.2 secateurlaw02_DomJoins.B4 = true := by kernel_rfl
set_option maxHeartbeats 8000000 in
set_option maxRecDepth 100000 in
theorem secateurlaw02_DomJoins.calls (k : Nat) (A0 : Option Addr) (c0 : Nat) (l0 : List Int) (A1 : Option Addr) (c1 : Nat) (l1 : List Int) (a2_0 : Int) (a2_1 : Int) (r : Bool) (w : World) (hr0 : Kd.C (Kd.int .i64) w A0 l0.length l0) (hc0 : l0.length ≤ c0) (hr1 : Kd.C (Kd.int .i64) w A1 l1.length l1) (hc1 : l1.length ≤ c1) (h : secateurlaw02_DomJoins.f k l0 l1 a2_0 a2_1 = some r) :
  Calls Try.prog 9 #[.slice A0 l0.length c0, .slice A1 l1.length c1, .agg #[.int .i64 a2_0, .int .i64 a2_1]] w fun e w' => e = .returned (.bool r) ∧ Below w.heap.size w w' := by
 have hu49 := Try.underlying49
 have HR0 := Aside0.mk hr0
 have HC0 := Aside0.mk hc0
 clear hr0 hc0
 have HR1 := Aside0.mk hr1
 have HC1 := Aside0.mk hc1
 clear hr1 hc1
 have HB := Aside0.mk (Below.refl w.heap.size w)
 have H : ((secateurlaw02_Small.f k l0).bind fun t604 => ((secateurlaw02_Small.f k l1).bind fun t607 => ((some (([] : List (S52)) : List (S52))).bind fun y610 => (if y610.length + t604.length < 8796093022208 then ((some (y610 ++ t604 : List (S52))).bind fun y613 => ((some (([] : List (S52)) : List (S52))).bind fun y616 => (if y616.length + t607.length < 8796093022208 then ((some (y616 ++ t607 : List (S52))).bind fun y619 => ((dom_Meet.f k t604 t607).bind fun t622 => ((dom_Join.f k t604 t607).bind fun t625 => ((dom_Minus.f k t604 t607).bind fun t628 => ((dom_Cut.f k t604 a2_0 a2_1).bind fun t631 => ((secateurref02_Pick.f k t604 t607 true).bind fun t634 => ((secateurref02_Same.f k t622 t634).bind fun t637 => (if t637 = true then ((secateurref02_Join.f k t604 t607).bind fun t638 => ((secateurref02_Same.f k t625 t638).bind fun t641 => (if t641 = true then ((secateurref02_Pick.f k t604 t607 false).bind fun t642 => ((secateurref02_Same.f k t628 t642).bind fun t645 => (if t645 = true then ((secateurref02_Cut.f k t604 a2_0 a2_1).bind fun t646 => ((secateurref02_Same.f k t631 t646).bind fun t649 => (secateurlaw02_DomJoins.j0 k t604 t607 y613 y619 t622 t625 t628 t631 (!t649)))) else (secateurlaw02_DomJoins.j0 k t604 t607 y613 y619 t622 t625 t628 t631 true)))) else (secateurlaw02_DomJoins.j0 k t604 t607 y613 y619 t622 t625 t628 t631 true)))) else (secateurlaw02_DomJoins.j0 k t604 t607 y613 y619 t622 t625 t628 t631 true))))))))) else (none)))) else (none))))) = some r := h
 clear h
 replace H := Option.bind_eq_some_iff.mp H
 obtain ⟨t604, A40, H⟩ := H
 replace H : ((secateurlaw02_Small.f k l1).bind fun t607 => ((some (([] : List (S52)) : List (S52))).bind fun y610 => (if y610.length + t604.length < 8796093022208 then ((some (y610 ++ t604 : List (S52))).bind fun y613 => ((some (([] : List (S52)) : List (S52))).bind fun y616 => (if y616.length + t607.length < 8796093022208 then ((some (y616 ++ t607 : List (S52))).bind fun y619 => ((dom_Meet.f k t604 t607).bind fun t622 => ((dom_Join.f k t604 t607).bind fun t625 => ((dom_Minus.f k t604 t607).bind fun t628 => ((dom_Cut.f k t604 a2_0 a2_1).bind fun t631 => ((secateurref02_Pick.f k t604 t607 true).bind fun t634 => ((secateurref02_Same.f k t622 t634).bind fun t637 => (if t637 = true then ((secateurref02_Join.f k t604 t607).bind fun t638 => ((secateurref02_Same.f k t625 t638).bind fun t641 => (if t641 = true then ((secateurref02_Pick.f k t604 t607 false).bind fun t642 => ((secateurref02_Same.f k t628 t642).bind fun t645 => (if t645 = true then ((secateurref02_Cut.f k t604 a2_0 a2_1).bind fun t646 => ((secateurref02_Same.f k t631 t646).bind fun t649 => (secateurlaw02_DomJoins.j0 k t604 t607 y613 y619 t622 t625 t628 t631 (!t649)))) else (secateurlaw02_DomJoins.j0 k t604 t607 y613 y619 t622 t625 t628 t631 true)))) else (secateurlaw02_DomJoins.j0 k t604 t607 y613 y619 t622 t625 t628 t631 true)))) else (secateurlaw02_DomJoins.j0 k t604 t607 y613 y619 t622 t625 t628 t631 true))))))))) else (none)))) else (none)))) = some r := H
 have A4 := Aside0.mk A40
 clear A40
 replace H := Option.bind_eq_some_iff.mp H
 obtain ⟨t607, A50, H⟩ := H
 replace H : ((some (([] : List (S52)) : List (S52))).bind fun y610 => (if y610.length + t604.length < 8796093022208 then ((some (y610 ++ t604 : List (S52))).bind fun y613 => ((some (([] : List (S52)) : List (S52))).bind fun y616 => (if y616.length + t607.length < 8796093022208 then ((some (y616 ++ t607 : List (S52))).bind fun y619 => ((dom_Meet.f k t604 t607).bind fun t622 => ((dom_Join.f k t604 t607).bind fun t625 => ((dom_Minus.f k t604 t607).bind fun t628 => ((dom_Cut.f k t604 a2_0 a2_1).bind fun t631 => ((secateurref02_Pick.f k t604 t607 true).bind fun t634 => ((secateurref02_Same.f k t622 t634).bind fun t637 => (if t637 = true then ((secateurref02_Join.f k t604 t607).bind fun t638 => ((secateurref02_Same.f k t625 t638).bind fun t641 => (if t641 = true then ((secateurref02_Pick.f k t604 t607 false).bind fun t642 => ((secateurref02_Same.f k t628 t642).bind fun t645 => (if t645 = true then ((secateurref02_Cut.f k t604 a2_0 a2_1).bind fun t646 => ((secateurref02_Same.f k t631 t646).bind fun t649 => (secateurlaw02_DomJoins.j0 k t604 t607 y613 y619 t622 t625 t628 t631 (!t649)))) else (secateurlaw02_DomJoins.j0 k t604 t607 y613 y619 t622 t625 t628 t631 true)))) else (secateurlaw02_DomJoins.j0 k t604 t607 y613 y619 t622 t625 t628 t631 true)))) else (secateurlaw02_DomJoins.j0 k t604 t607 y613 y619 t622 t625 t628 t631 true))))))))) else (none)))) else (none))) = some r := H
 have A5 := Aside0.mk A50
 clear A50
 obtain ⟨y610, hy610⟩ : ∃ y_ : List (S52), y_ = (([] : List (S52))) := ⟨_, rfl⟩
 replace H : (if y610.length + t604.length < 8796093022208 then ((some (y610 ++ t604 : List (S52))).bind fun y613 => ((some (([] : List (S52)) : List (S52))).bind fun y616 => (if y616.length + t607.length < 8796093022208 then ((some (y616 ++ t607 : List (S52))).bind fun y619 => ((dom_Meet.f k t604 t607).bind fun t622 => ((dom_Join.f k t604 t607).bind fun t625 => ((dom_Minus.f k t604 t607).bind fun t628 => ((dom_Cut.f k t604 a2_0 a2_1).bind fun t631 => ((secateurref02_Pick.f k t604 t607 true).bind fun t634 => ((secateurref02_Same.f k t622 t634).bind fun t637 => (if t637 = true then ((secateurref02_Join.f k t604 t607).bind fun t638 => ((secateurref02_Same.f k t625 t638).bind fun t641 => (if t641 = true then ((secateurref02_Pick.f k t604 t607 false).bind fun t642 => ((secateurref02_Same.f k t628 t642).bind fun t645 => (if t645 = true then ((secateurref02_Cut.f k t604 a2_0 a2_1).bind fun t646 => ((secateurref02_Same.f k t631 t646).bind fun t649 => (secateurlaw02_DomJoins.j0 k t604 t607 y613 y619 t622 t625 t628 t631 (!t649)))) else (secateurlaw02_DomJoins.j0 k t604 t607 y613 y619 t622 t625 t628 t631 true)))) else (secateurlaw02_DomJoins.j0 k t604 t607 y613 y619 t622 t625 t628 t631 true)))) else (secateurlaw02_DomJoins.j0 k t604 t607 y613 y619 t622 t625 t628 t631 true))))))))) else (none)))) else (none)) = some r := by first | (rw [hy610]; with_reducible exact H) | (have H2_ := (Option.bind_some _ _).symm.trans H; rw [hy610]; with_reducible exact H2_) | (have H2_ := (Option.bind_some _ _).symm.trans H; with_reducible exact H2_) | with_reducible exact H | (rw [hy610]; exact H) | exact H
 have Ny610 := Aside0.mk hy610
 clear hy610
 by_cases c6 : y610.length + t604.length < 8796093022208
 ·rw [if_pos c6] at H
  have LMc6 := Aside0.mk c6
  clear c6
  obtain ⟨y613, hy613⟩ : ∃ y_ : List (S52), y_ = (y610 ++ t604) := ⟨_, rfl⟩
  replace H : ((some (([] : List (S52)) : List (S52))).bind fun y616 => (if y616.length + t607.length < 8796093022208 then ((some (y616 ++ t607 : List (S52))).bind fun y619 => ((dom_Meet.f k t604 t607).bind fun t622 => ((dom_Join.f k t604 t607).bind fun t625 => ((dom_Minus.f k t604 t607).bind fun t628 => ((dom_Cut.f k t604 a2_0 a2_1).bind fun t631 => ((secateurref02_Pick.f k t604 t607 true).bind fun t634 => ((secateurref02_Same.f k t622 t634).bind fun t637 => (if t637 = true then ((secateurref02_Join.f k t604 t607).bind fun t638 => ((secateurref02_Same.f k t625 t638).bind fun t641 => (if t641 = true then ((secateurref02_Pick.f k t604 t607 false).bind fun t642 => ((secateurref02_Same.f k t628 t642).bind fun t645 => (if t645 = true then ((secateurref02_Cut.f k t604 a2_0 a2_1).bind fun t646 => ((secateurref02_Same.f k t631 t646).bind fun t649 => (secateurlaw02_DomJoins.j0 k t604 t607 y613 y619 t622 t625 t628 t631 (!t649)))) else (secateurlaw02_DomJoins.j0 k t604 t607 y613 y619 t622 t625 t628 t631 true)))) else (secateurlaw02_DomJoins.j0 k t604 t607 y613 y619 t622 t625 t628 t631 true)))) else (secateurlaw02_DomJoins.j0 k t604 t607 y613 y619 t622 t625 t628 t631 true))))))))) else (none))) = some r := by first | (rw [hy613]; with_reducible exact H) | (have H2_ := (Option.bind_some _ _).symm.trans H; rw [hy613]; with_reducible exact H2_) | (have H2_ := (Option.bind_some _ _).symm.trans H; with_reducible exact H2_) | with_reducible exact H | (rw [hy613]; exact H) | exact H
  have Ny613 := Aside0.mk hy613
  clear hy613
  obtain ⟨y616, hy616⟩ : ∃ y_ : List (S52), y_ = (([] : List (S52))) := ⟨_, rfl⟩
  replace H : (if y616.length + t607.length < 8796093022208 then ((some (y616 ++ t607 : List (S52))).bind fun y619 => ((dom_Meet.f k t604 t607).bind fun t622 => ((dom_Join.f k t604 t607).bind fun t625 => ((dom_Minus.f k t604 t607).bind fun t628 => ((dom_Cut.f k t604 a2_0 a2_1).bind fun t631 => ((secateurref02_Pick.f k t604 t607 true).bind fun t634 => ((secateurref02_Same.f k t622 t634).bind fun t637 => (if t637 = true then ((secateurref02_Join.f k t604 t607).bind fun t638 => ((secateurref02_Same.f k t625 t638).bind fun t641 => (if t641 = true then ((secateurref02_Pick.f k t604 t607 false).bind fun t642 => ((secateurref02_Same.f k t628 t642).bind fun t645 => (if t645 = true then ((secateurref02_Cut.f k t604 a2_0 a2_1).bind fun t646 => ((secateurref02_Same.f k t631 t646).bind fun t649 => (secateurlaw02_DomJoins.j0 k t604 t607 y613 y619 t622 t625 t628 t631 (!t649)))) else (secateurlaw02_DomJoins.j0 k t604 t607 y613 y619 t622 t625 t628 t631 true)))) else (secateurlaw02_DomJoins.j0 k t604 t607 y613 y619 t622 t625 t628 t631 true)))) else (secateurlaw02_DomJoins.j0 k t604 t607 y613 y619 t622 t625 t628 t631 true))))))))) else (none)) = some r := by first | (rw [hy616]; with_reducible exact H) | (have H2_ := (Option.bind_some _ _).symm.trans H; rw [hy616]; with_reducible exact H2_) | (have H2_ := (Option.bind_some _ _).symm.trans H; with_reducible exact H2_) | with_reducible exact H | (rw [hy616]; exact H) | exact H
  have Ny616 := Aside0.mk hy616
  clear hy616
  by_cases c7 : y616.length + t607.length < 8796093022208
  ·rw [if_pos c7] at H
   have LMc7 := Aside0.mk c7
   clear c7
   obtain ⟨y619, hy619⟩ : ∃ y_ : List (S52), y_ = (y616 ++ t607) := ⟨_, rfl⟩
   replace H : ((dom_Meet.f k t604 t607).bind fun t622 => ((dom_Join.f k t604 t607).bind fun t625 => ((dom_Minus.f k t604 t607).bind fun t628 => ((dom_Cut.f k t604 a2_0 a2_1).bind fun t631 => ((secateurref02_Pick.f k t604 t607 true).bind fun t634 => ((secateurref02_Same.f k t622 t634).bind fun t637 => (if t637 = true then ((secateurref02_Join.f k t604 t607).bind fun t638 => ((secateurref02_Same.f k t625 t638).bind fun t641 => (if t641 = true then ((secateurref02_Pick.f k t604 t607 false).bind fun t642 => ((secateurref02_Same.f k t628 t642).bind fun t645 => (if t645 = true then ((secateurref02_Cut.f k t604 a2_0 a2_1).bind fun t646 => ((secateurref02_Same.f k t631 t646).bind fun t649 => (secateurlaw02_DomJoins.j0 k t604 t607 y613 y619 t622 t625 t628 t631 (!t649)))) else (secateurlaw02_DomJoins.j0 k t604 t607 y613 y619 t622 t625 t628 t631 true)))) else (secateurlaw02_DomJoins.j0 k t604 t607 y613 y619 t622 t625 t628 t631 true)))) else (secateurlaw02_DomJoins.j0 k t604 t607 y613 y619 t622 t625 t628 t631 true)))))))) = some r := by first | (rw [hy619]; with_reducible exact H) | (have H2_ := (Option.bind_some _ _).symm.trans H; rw [hy619]; with_reducible exact H2_) | (have H2_ := (Option.bind_some _ _).symm.trans H; with_reducible exact H2_) | with_reducible exact H | (rw [hy619]; exact H) | exact H
   have Ny619 := Aside0.mk hy619
   clear hy619
   replace H := Option.bind_eq_some_iff.mp H
   obtain ⟨t622, A80, H⟩ := H
   replace H : ((dom_Join.f k t604 t607).bind fun t625 => ((dom_Minus.f k t604 t607).bind fun t628 => ((dom_Cut.f k t604 a2_0 a2_1).bind fun t631 => ((secateurref02_Pick.f k t604 t607 true).bind fun t634 => ((secateurref02_Same.f k t622 t634).bind fun t637 => (if t637 = true then ((secateurref02_Join.f k t604 t607).bind fun t638 => ((secateurref02_Same.f k t625 t638).bind fun t641 => (if t641 = true then ((secateurref02_Pick.f k t604 t607 false).bind fun t642 => ((secateurref02_Same.f k t628 t642).bind fun t645 => (if t645 = true then ((secateurref02_Cut.f k t604 a2_0 a2_1).bind fun t646 => ((secateurref02_Same.f k t631 t646).bind fun t649 => (secateurlaw02_DomJoins.j0 k t604 t607 y613 y619 t622 t625 t628 t631 (!t649)))) else (secateurlaw02_DomJoins.j0 k t604 t607 y613 y619 t622 t625 t628 t631 true)))) else (secateurlaw02_DomJoins.j0 k t604 t607 y613 y619 t622 t625 t628 t631 true)))) else (secateurlaw02_DomJoins.j0 k t604 t607 y613 y619 t622 t625 t628 t631 true))))))) = some r := H
   have A8 := Aside0.mk A80
   clear A80
   replace H := Option.bind_eq_some_iff.mp H
   obtain ⟨t625, A90, H⟩ := H
   replace H : ((dom_Minus.f k t604 t607).bind fun t628 => ((dom_Cut.f k t604 a2_0 a2_1).bind fun t631 => ((secateurref02_Pick.f k t604 t607 true).bind fun t634 => ((secateurref02_Same.f k t622 t634).bind fun t637 => (if t637 = true then ((secateurref02_Join.f k t604 t607).bind fun t638 => ((secateurref02_Same.f k t625 t638).bind fun t641 => (if t641 = true then ((secateurref02_Pick.f k t604 t607 false).bind fun t642 => ((secateurref02_Same.f k t628 t642).bind fun t645 => (if t645 = true then ((secateurref02_Cut.f k t604 a2_0 a2_1).bind fun t646 => ((secateurref02_Same.f k t631 t646).bind fun t649 => (secateurlaw02_DomJoins.j0 k t604 t607 y613 y619 t622 t625 t628 t631 (!t649)))) else (secateurlaw02_DomJoins.j0 k t604 t607 y613 y619 t622 t625 t628 t631 true)))) else (secateurlaw02_DomJoins.j0 k t604 t607 y613 y619 t622 t625 t628 t631 true)))) else (secateurlaw02_DomJoins.j0 k t604 t607 y613 y619 t622 t625 t628 t631 true)))))) = some r := H
   have A9 := Aside0.mk A90
   clear A90
   replace H := Option.bind_eq_some_iff.mp H
   obtain ⟨t628, A100, H⟩ := H
   replace H : ((dom_Cut.f k t604 a2_0 a2_1).bind fun t631 => ((secateurref02_Pick.f k t604 t607 true).bind fun t634 => ((secateurref02_Same.f k t622 t634).bind fun t637 => (if t637 = true then ((secateurref02_Join.f k t604 t607).bind fun t638 => ((secateurref02_Same.f k t625 t638).bind fun t641 => (if t641 = true then ((secateurref02_Pick.f k t604 t607 false).bind fun t642 => ((secateurref02_Same.f k t628 t642).bind fun t645 => (if t645 = true then ((secateurref02_Cut.f k t604 a2_0 a2_1).bind fun t646 => ((secateurref02_Same.f k t631 t646).bind fun t649 => (secateurlaw02_DomJoins.j0 k t604 t607 y613 y619 t622 t625 t628 t631 (!t649)))) else (secateurlaw02_DomJoins.j0 k t604 t607 y613 y619 t622 t625 t628 t631 true)))) else (secateurlaw02_DomJoins.j0 k t604 t607 y613 y619 t622 t625 t628 t631 true)))) else (secateurlaw02_DomJoins.j0 k t604 t607 y613 y619 t622 t625 t628 t631 true))))) = some r := H
   have A10 := Aside0.mk A100
   clear A100
   replace H := Option.bind_eq_some_iff.mp H
   obtain ⟨t631, A110, H⟩ := H
   replace H : ((secateurref02_Pick.f k t604 t607 true).bind fun t634 => ((secateurref02_Same.f k t622 t634).bind fun t637 => (if t637 = true then ((secateurref02_Join.f k t604 t607).bind fun t638 => ((secateurref02_Same.f k t625 t638).bind fun t641 => (if t641 = true then ((secateurref02_Pick.f k t604 t607 false).bind fun t642 => ((secateurref02_Same.f k t628 t642).bind fun t645 => (if t645 = true then ((secateurref02_Cut.f k t604 a2_0 a2_1).bind fun t646 => ((secateurref02_Same.f k t631 t646).bind fun t649 => (secateurlaw02_DomJoins.j0 k t604 t607 y613 y619 t622 t625 t628 t631 (!t649)))) else (secateurlaw02_DomJoins.j0 k t604 t607 y613 y619 t622 t625 t628 t631 true)))) else (secateurlaw02_DomJoins.j0 k t604 t607 y613 y619 t622 t625 t628 t631 true)))) else (secateurlaw02_DomJoins.j0 k t604 t607 y613 y619 t622 t625 t628 t631 true)))) = some r := H
   have A11 := Aside0.mk A110
   clear A110
   have HC12 := Aside0.mk H
   clear H
   go_enter Try.func9, Try.ntmps9
   try go_wp2_with (first | ((with_reducible refine gate_dst (N := 5) rfl ?_); refine box_event ?hg (N := 5) ?hd (cs := #[.int .i64 a2_0, .int .i64 a2_1]) (t := 49) ?hr ?_; (case hd => rfl); (case hg => rfl); (case hr => first | (go_simp; done) | (go_simp; rfl)); intro gb603 hg w13 hbox hb; have n0_ := Aside0.mk (below_step (by repeat (first | (with_reducible first | exact HB.out | apply below_alloc | apply pw_below_drewN | apply below_drew1) | exact HB.out)) hb); have n1_ := Aside0.mk (hbox); have n2_ := Aside0.mk ((by rw [hg]; exact (below_size (by repeat (first | (with_reducible first | exact HB.out | apply below_alloc | apply pw_below_drewN | apply below_drew1) | exact HB.out))) : w.heap.size ≤ gb603)); have n3_ := Aside0.mk ((by rw [hg]; exact (below_size (by repeat (first | (with_reducible first | exact HB.out | apply below_alloc | apply pw_below_drewN | apply below_drew1) | exact HB.out))) : w.heap.size ≤ gb603)); clear HB; have HB := n0_; have BK603 := n1_; have GW603 := n2_; have GE603 := n3_; clear n0_ n1_ n2_ n3_; clear hb hbox hg) | ((with_reducible refine gate_callee (f := 20) rfl ?_); refine goesL_ (some 20) rfl rfl Try.func20 (by kernel_rfl) rfl #[.slice A0 l0.length c0] rfl (by (try simp only [List.map_toArray, List.map_cons, List.map_nil]); first | done | rfl | (simp only [List.length_drop, List.length_take]; rfl)) ?_; (with_reducible refine (secateurlaw02_Small.calls k _ _ l0 t604 _ ?side1 ?side2 A4.out).mono ?_); (case side1 => repeat (first | exact (Kd.C_below HR0.out HB.out) | (with_reducible refine Kd.C_alloc ?_ _) | (with_reducible refine Kd.C_drewN ?_ _) | (with_reducible refine Kd.C_drew ?_))); (case side2 => exact HC0.out); rintro e w14 ⟨v605, rfl, ho0, hb⟩; refine ⟨_, rfl, ?_⟩; have n0_ := Aside0.mk (Kd.R_lower ho0 (below_size (by repeat (first | (with_reducible first | exact HB.out | apply below_alloc | apply pw_below_drewN | apply below_drew1 | refine below_set ?_ GE603.out) | exact HB.out)))); have n1_ := Aside0.mk (blk_below (g := gb603) (o := .cells #[.int .i64 a2_0, .int .i64 a2_1] 49 (0, 0)) (by (with_reducible repeat (first | refine blk_drewN ?_ _ | refine blk_drew ?_ | refine blk_alloc ?_ _)); exact BK603.out) hb); have n2_ := Aside0.mk (below_step (by repeat (first | (with_reducible first | exact HB.out | apply below_alloc | apply pw_below_drewN | apply below_drew1 | refine below_set ?_ GE603.out) | exact HB.out)) hb); clear BK603; clear HB; have HO606 := n0_; have BK603 := n1_; have HB := n2_; clear n0_ n1_ n2_; (try clear hb); (try clear hb2); (try clear hk); (try clear hi); (try clear ho0)) | ((with_reducible refine gate_callee (f := 20) rfl ?_); refine goesL_ (some 22) rfl rfl Try.func20 (by kernel_rfl) rfl #[.slice A1 l1.length c1] rfl (by (try simp only [List.map_toArray, List.map_cons, List.map_nil]); first | done | rfl | (simp only [List.length_drop, List.length_take]; rfl)) ?_; (with_reducible refine (secateurlaw02_Small.calls k _ _ l1 t607 _ ?side1 ?side2 A5.out).mono ?_); (case side1 => repeat (first | exact (Kd.C_below HR1.out HB.out) | (with_reducible refine Kd.C_alloc ?_ _) | (with_reducible refine Kd.C_drewN ?_ _) | (with_reducible refine Kd.C_drew ?_))); (case side2 => exact HC1.out); rintro e w15 ⟨v608, rfl, ho0, hb⟩; refine ⟨_, rfl, ?_⟩; have n0_ := Aside0.mk (Kd.R_elder' (by (with_reducible repeat (first | apply Kd.R_alloc | apply Kd.R_drewN | apply Kd.R_drew)); exact HO606.out) (Kd.R_base ho0) hb); have n1_ := Aside0.mk (Kd.R_lower (Kd.R_new' ho0 (Kd.R_lt (by (with_reducible repeat (first | apply Kd.R_alloc | apply Kd.R_drewN | apply Kd.R_drew)); exact HO606.out))) (below_size (by repeat (first | (with_reducible first | exact HB.out | apply below_alloc | apply pw_below_drewN | apply below_drew1 | refine below_set ?_ GE603.out) | exact HB.out)))); have n2_ := Aside0.mk (blk_below (g := gb603) (o := .cells #[.int .i64 a2_0, .int .i64 a2_1] 49 (0, 0)) (by (with_reducible repeat (first | refine blk_drewN ?_ _ | refine blk_drew ?_ | refine blk_alloc ?_ _)); exact BK603.out) hb); have n3_ := Aside0.mk (below_step (by repeat (first | (with_reducible first | exact HB.out | apply below_alloc | apply pw_below_drewN | apply below_drew1 | refine below_set ?_ GE603.out) | exact HB.out)) hb); clear HO606; clear BK603; clear HB; have HO606 := n0_; have HO609 := n1_; have BK603 := n2_; have HB := n3_; clear n0_ n1_ n2_ n3_; (try clear hb); (try clear hb2); (try clear hk); (try clear hi); (try clear ho0)) | ((with_reducible refine gate_dst (N := 23) rfl ?_); refine Kd.R_lit k52 _ 52 ?hg (N := 23) ?hd (xs := ([] : List (S52))) (inner := []) (ok := fun _ => True) (okp := fun _ => True) ?hr ?hp (fun _ hk => hk) trivial (Below.refl _ _) (Nat.le_refl _) (by simp) ?_; (case hd => rfl); (case hg => rfl); (case hr => first | (go_simp; done) | (go_simp; rfl)); (case hp => exact (Reps.none _ _)); intro v611 w16 ho17 hb hg_ hnew_; clear hg_ hnew_; (first | rw [← Ny610.out] at ho17 | (simp only [Int.reduceToNat] at ho17; rw [← Ny610.out] at ho17)); have n0_ := Aside0.mk (Kd.R_elder' (by (with_reducible repeat (first | apply Kd.R_alloc | apply Kd.R_drewN | apply Kd.R_drew)); exact HO606.out) (Kd.R_base ho17) hb); have n1_ := Aside0.mk (Kd.R_elder' (by (with_reducible repeat (first | apply Kd.R_alloc | apply Kd.R_drewN | apply Kd.R_drew)); exact HO609.out) (Kd.R_base ho17) hb); have n2_ := Aside0.mk (Kd.R_lower (Kd.R_new' (Kd.R_new' ho17 (Kd.R_lt (by (with_reducible repeat (first | apply Kd.R_alloc | apply Kd.R_drewN | apply Kd.R_drew)); exact HO606.out))) (Kd.R_lt (by (with_reducible repeat (first | apply Kd.R_alloc | apply Kd.R_drewN | apply Kd.R_drew)); exact HO609.out))) (below_size (by repeat (first | (with_reducible first | exact HB.out | apply below_alloc | apply pw_below_drewN | apply below_drew1 | refine below_set ?_ GE603.out) | exact HB.out)))); have n3_ := Aside0.mk (blk_below (g := gb603) (o := .cells #[.int .i64 a2_0, .int .i64 a2_1] 49 (0, 0)) (by (with_reducible repeat (first | refine blk_drewN ?_ _ | refine blk_drew ?_ | refine blk_alloc ?_ _)); exact BK603.out) hb); have n4_ := Aside0.mk (below_step (by repeat (first | (with_reducible first | exact HB.out | apply below_alloc | apply pw_below_drewN | apply below_drew1 | refine below_set ?_ GE603.out) | exact HB.out)) hb); clear HO606; clear HO609; clear BK603; clear HB; have HO606 := n0_; have HO609 := n1_; have HO612 := n2_; have BK603 := n3_; have HB := n4_; clear n0_ n1_ n2_ n3_ n4_; clear hb ho17; obtain ⟨Ao19, co19, eo19⟩ := Kd.R_slice HO606.out; subst eo19) | ((with_reducible refine gate_builtin (b := .append) (xs := #[.tmp 23, .tmp 24]) rfl ?_); at_builtin; refine Kd.R_append_rows k52 (w0 := w) w.heap.size rfl (.tmp 23) (.tmp 24) 22 52 (.agg #[(.int .i64 0), (.int .i64 0)]) 16 rfl Try.underlying22 info52 rfl (by decide) (by omega) v611 y610 t604 _ _ _ (fun k_ => some k_ ≠ (.slice Ao19 t604.length co19 : Value).ownBlock ∧ some k_ ≠ (v608 : Value).ownBlock) (fun _ => False) rfl rfl ?aO ?aR (fun _ _ h => h) (fun _ h => h.elim) ?aF ?aB ?aS ?aL ?_; (case aR => repeat (first | exact (Kd.R_reads' HO606.out).2.2 | (with_reducible refine Kd.C_alloc ?_ _) | (with_reducible refine Kd.C_drewN ?_ _) | (with_reducible refine Kd.C_drew ?_))); (case aB => exact (by repeat (first | (with_reducible first | exact HB.out | apply below_alloc | apply pw_below_drewN | apply below_drew1 | refine below_set ?_ GE603.out) | exact HB.out))); (case aF => exact (fun k_ hk => ⟨Kd.fresh' (Kd.R_lt (by (with_reducible repeat (first | apply Kd.R_alloc | apply Kd.R_drewN | apply Kd.R_drew)); exact HO606.out)) k_ hk, Kd.fresh' (Kd.R_lt (by (with_reducible repeat (first | apply Kd.R_alloc | apply Kd.R_drewN | apply Kd.R_drew)); exact HO609.out)) k_ hk⟩)); (case aO => exact (by (with_reducible repeat (first | apply Kd.R_alloc | apply Kd.R_drewN | apply Kd.R_drew)); exact Kd.R_mono HO612.out (fun _ hk => ⟨hk.1.2, hk.2⟩))); (case aS => exact (below_size (by repeat (first | (with_reducible first | exact HB.out | apply below_alloc | apply pw_below_drewN | apply below_drew1 | refine below_set ?_ GE603.out) | exact HB.out)))); (case aL => have := LMc6.out; omega); intro v614 w18 ho hb hg hat; rw [← Ny613.out] at ho; have n0_ := Aside0.mk (blk_grown (g := gb603) (o := .cells #[.int .i64 a2_0, .int .i64 a2_1] 49 (0, 0)) (by (with_reducible repeat (first | refine blk_drewN ?_ _ | refine blk_drew ?_ | refine blk_alloc ?_ _)); exact BK603.out) hg (Kd.R_ne HO612.out BK603.out (by decide))); have n1_ := Aside0.mk (Kd.R_after (ok := (fun k_ => some k_ ≠ (v608 : Value).ownBlock)) (by (with_reducible repeat (first | apply Kd.R_alloc | apply Kd.R_drewN | apply Kd.R_drew)); exact Kd.R_mono HO606.out (fun _ hk => ⟨hk.1.2, hk.2⟩)) hg hat); have n2_ := Aside0.mk (Kd.R_after (ok := (fun k_ => some k_ ≠ (.slice Ao19 t604.length co19 : Value).ownBlock)) (by (with_reducible repeat (first | apply Kd.R_alloc | apply Kd.R_drewN | apply Kd.R_drew)); exact Kd.R_mono HO609.out (fun _ hk => ⟨hk.1.2, hk.2⟩)) hg hat); have n3_ := Aside0.mk (hb); have n4_ := Aside0.mk (ho); clear BK603; clear HO606; clear HO609; clear HB; clear HO612; have BK603 := n0_; have HO606 := n1_; have HO609 := n2_; have HB := n3_; have HO615 := n4_; clear n0_ n1_ n2_ n3_ n4_; clear ho hb hg hat) | ((with_reducible refine gate_dst (N := 26) rfl ?_); refine Kd.R_lit k52 _ 52 ?hg (N := 26) ?hd (xs := ([] : List (S52))) (inner := []) (ok := fun _ => True) (okp := fun _ => True) ?hr ?hp (fun _ hk => hk) trivial (Below.refl _ _) (Nat.le_refl _) (by simp) ?_; (case hd => rfl); (case hg => rfl); (case hr => first | (go_simp; done) | (go_simp; rfl)); (case hp => exact (Reps.none _ _)); intro v617 w20 ho21 hb hg_ hnew_; clear hg_ hnew_; (first | rw [← Ny616.out] at ho21 | (simp only [Int.reduceToNat] at ho21; rw [← Ny616.out] at ho21)); have n0_ := Aside0.mk (Kd.R_elder' (by (with_reducible repeat (first | apply Kd.R_alloc | apply Kd.R_drewN | apply Kd.R_drew)); exact HO606.out) (Kd.R_base ho21) hb); have n1_ := Aside0.mk (Kd.R_elder' (by (with_reducible repeat (first | apply Kd.R_alloc | apply Kd.R_drewN | apply Kd.R_drew)); exact HO609.out) (Kd.R_base ho21) hb); have n2_ := Aside0.mk (Kd.R_elder' (by (with_reducible repeat (first | apply Kd.R_alloc | apply Kd.R_drewN | apply Kd.R_drew)); exact HO615.out) (Kd.R_base ho21) hb); have n3_ := Aside0.mk (Kd.R_lower (Kd.R_new' (Kd.R_new' (Kd.R_new' ho21 (Kd.R_lt (by (with_reducible repeat (first | apply Kd.R_alloc | apply Kd.R_drewN | apply Kd.R_drew)); exact HO606.out))) (Kd.R_lt (by (with_reducible repeat (first | apply Kd.R_alloc | apply Kd.R_drewN | apply Kd.R_drew)); exact HO609.out))) (Kd.R_lt (by (with_reducible repeat (first | apply Kd.R_alloc | apply Kd.R_drewN | apply Kd.R_drew)); exact HO615.out))) (below_size (by repeat (first | (with_reducible first | exact HB.out | apply below_alloc | apply pw_below_drewN | apply below_drew1 | refine below_set ?_ GE603.out) | exact HB.out)))); have n4_ := Aside0.mk (blk_below (g := gb603) (o := .cells #[.int .i64 a2_0, .int .i64 a2_1] 49 (0, 0)) (by (with_reducible repeat (first | refine blk_drewN ?_ _ | refine blk_drew ?_ | refine blk_alloc ?_ _)); exact BK603.out) hb); have n5_ := Aside0.mk (below_step (by repeat (first | (with_reducible first | exact HB.out | apply below_alloc | apply pw_below_drewN | apply below_drew1 | refine below_set ?_ GE603.out) | exact HB.out)) hb); clear HO606; clear HO609; clear HO615; clear BK603; clear HB; have HO606 := n0_; have HO609 := n1_; have HO615 := n2_; have HO618 := n3_; have BK603 := n4_; have HB := n5_; clear n0_ n1_ n2_ n3_ n4_ n5_; clear hb ho21; obtain ⟨Ao23, co23, eo23⟩ := Kd.R_slice HO609.out; subst eo23) | ((with_reducible refine gate_builtin (b := .append) (xs := #[.tmp 26, .tmp 27]) rfl ?_); at_builtin; refine Kd.R_append_rows k52 (w0 := w) w.heap.size rfl (.tmp 26) (.tmp 27) 22 52 (.agg #[(.int .i64 0), (.int .i64 0)]) 16 rfl Try.underlying22 info52 rfl (by decide) (by omega) v617 y616 t607 _ _ _ (fun k_ => some k_ ≠ (.slice Ao19 t604.length co19 : Value).ownBlock ∧ some k_ ≠ (.slice Ao23 t607.length co23 : Value).ownBlock ∧ some k_ ≠ (v614 : Value).ownBlock) (fun _ => False) rfl rfl ?aO ?aR (fun _ _ h => h) (fun _ h => h.elim) ?aF ?aB ?aS ?aL ?_; (case aR => repeat (first | exact (Kd.R_reads' HO609.out).2.2 | (with_reducible refine Kd.C_alloc ?_ _) | (with_reducible refine Kd.C_drewN ?_ _) | (with_reducible refine Kd.C_drew ?_))); (case aB => exact (by repeat (first | (with_reducible first | exact HB.out | apply below_alloc | apply pw_below_drewN | apply below_drew1 | refine below_set ?_ GE603.out) | exact HB.out))); (case aF => exact (fun k_ hk => ⟨Kd.fresh' (Kd.R_lt (by (with_reducible repeat (first | apply Kd.R_alloc | apply Kd.R_drewN | apply Kd.R_drew)); exact HO606.out)) k_ hk, Kd.fresh' (Kd.R_lt (by (with_reducible repeat (first | apply Kd.R_alloc | apply Kd.R_drewN | apply Kd.R_drew)); exact HO609.out)) k_ hk, Kd.fresh' (Kd.R_lt (by (with_reducible repeat (first | apply Kd.R_alloc | apply Kd.R_drewN | apply Kd.R_drew)); exact HO615.out)) k_ hk⟩)); (case aO => exact (by (with_reducible repeat (first | apply Kd.R_alloc | apply Kd.R_drewN | apply Kd.R_drew)); exact Kd.R_mono HO618.out (fun _ hk => ⟨hk.1.1.2, ⟨hk.1.2, hk.2⟩⟩))); (case aS => exact (below_size (by repeat (first | (with_reducible first | exact HB.out | apply below_alloc | apply pw_below_drewN | apply below_drew1 | refine below_set ?_ GE603.out) | exact HB.out)))); (case aL => have := LMc7.out; omega); intro v620 w22 ho hb hg hat; rw [← Ny619.out] at ho; have n0_ := Aside0.mk (blk_grown (g := gb603) (o := .cells #[.int .i64 a2_0, .int .i64 a2_1] 49 (0, 0)) (by (with_reducible repeat (first | refine blk_drewN ?_ _ | refine blk_drew ?_ | refine blk_alloc ?_ _)); exact BK603.out) hg (Kd.R_ne HO618.out BK603.out (by decide))); have n1_ := Aside0.mk (Kd.R_after (ok := (fun k_ => some k_ ≠ (.slice Ao23 t607.length co23 : Value).ownBlock ∧ some k_ ≠ (v614 : Value).ownBlock)) (by (with_reducible repeat (first | apply Kd.R_alloc | apply Kd.R_drewN | apply Kd.R_drew)); exact HO606.out) hg hat); have n2_ := Aside0.mk (Kd.R_after (ok := (fun k_ => some k_ ≠ (.slice Ao19 t604.length co19 : Value).ownBlock ∧ some k_ ≠ (v614 : Value).ownBlock)) (by (with_reducible repeat (first | apply Kd.R_alloc | apply Kd.R_drewN | apply Kd.R_drew)); exact HO609.out) hg hat); have n3_ := Aside0.mk (Kd.R_after (ok := (fun k_ => some k_ ≠ (.slice Ao19 t604.length co19 : Value).ownBlock ∧ some k_ ≠ (.slice Ao23 t607.length co23 : Value).ownBlock)) (by (with_reducible repeat (first | apply Kd.R_alloc | apply Kd.R_drewN | apply Kd.R_drew)); exact HO615.out) hg hat); have n4_ := Aside0.mk (hb); have n5_ := Aside0.mk (ho); clear BK603; clear HO606; clear HO609; clear HO615; clear HB; clear HO618; have BK603 := n0_; have HO606 := n1_; have HO609 := n2_; have HO615 := n3_; have HB := n4_; have HO621 := n5_; clear n0_ n1_ n2_ n3_ n4_ n5_; clear ho hb hg hat) | ((with_reducible refine gate_callee (f := 37) rfl ?_); refine goesL_ (some 31) rfl rfl Try.func37 (by kernel_rfl) rfl #[.slice Ao19 t604.length co19, .slice Ao23 t607.length co23] rfl (by (try simp only [List.map_toArray, List.map_cons, List.map_nil]); first | done | rfl | (simp only [List.length_drop, List.length_take]; rfl)) ?_; (with_reducible refine (dom_Meet.calls k _ _ t604 _ _ t607 t622 _ ?side1 ?side2 ?side3 ?side4 A8.out).mono ?_); (case side1 => repeat (first | exact (Kd.R_reads' HO606.out).2.2 | (with_reducible refine Kd.C_alloc ?_ _) | (with_reducible refine Kd.C_drewN ?_ _) | (with_reducible refine Kd.C_drew ?_))); (case side2 => exact (Kd.R_reads' HO606.out).2.1); (case side3 => repeat (first | exact (Kd.R_reads' HO609.out).2.2 | (with_reducible refine Kd.C_alloc ?_ _) | (with_reducible refine Kd.C_drewN ?_ _) | (with_reducible refine Kd.C_drew ?_))); (case side4 => exact (Kd.R_reads' HO609.out).2.1); rintro e w24 ⟨v623, rfl, ho0, hb⟩; refine ⟨_, rfl, ?_⟩; have n0_ := Aside0.mk (Kd.R_elder' (by (with_reducible repeat (first | apply Kd.R_alloc | apply Kd.R_drewN | apply Kd.R_drew)); exact HO606.out) (Kd.R_base ho0) hb); have n1_ := Aside0.mk (Kd.R_elder' (by (with_reducible repeat (first | apply Kd.R_alloc | apply Kd.R_drewN | apply Kd.R_drew)); exact HO609.out) (Kd.R_base ho0) hb); have n2_ := Aside0.mk (Kd.R_elder' (by (with_reducible repeat (first | apply Kd.R_alloc | apply Kd.R_drewN | apply Kd.R_drew)); exact HO615.out) (Kd.R_base ho0) hb); have n3_ := Aside0.mk (Kd.R_elder' (by (with_reducible repeat (first | apply Kd.R_alloc | apply Kd.R_drewN | apply Kd.R_drew)); exact HO621.out) (Kd.R_base ho0) hb); have n4_ := Aside0.mk (Kd.R_lower (Kd.R_new' (Kd.R_new' (Kd.R_new' (Kd.R_new' ho0 (Kd.R_lt (by (with_reducible repeat (first | apply Kd.R_alloc | apply Kd.R_drewN | apply Kd.R_drew)); exact HO606.out))) (Kd.R_lt (by (with_reducible repeat (first | apply Kd.R_alloc | apply Kd.R_drewN | apply Kd.R_drew)); exact HO609.out))) (Kd.R_lt (by (with_reducible repeat (first | apply Kd.R_alloc | apply Kd.R_drewN | apply Kd.R_drew)); exact HO615.out))) (Kd.R_lt (by (with_reducible repeat (first | apply Kd.R_alloc | apply Kd.R_drewN | apply Kd.R_drew)); exact HO621.out))) (below_size (by repeat (first | (with_reducible first | exact HB.out | apply below_alloc | apply pw_below_drewN | apply below_drew1 | refine below_set ?_ GE603.out) | exact HB.out)))); have n5_ := Aside0.mk (blk_below (g := gb603) (o := .cells #[.int .i64 a2_0, .int .i64 a2_1] 49 (0, 0)) (by (with_reducible repeat (first | refine blk_drewN ?_ _ | refine blk_drew ?_ | refine blk_alloc ?_ _)); exact BK603.out) hb); have n6_ := Aside0.mk (below_step (by repeat (first | (with_reducible first | exact HB.out | apply below_alloc | apply pw_below_drewN | apply below_drew1 | refine below_set ?_ GE603.out) | exact HB.out)) hb); clear HO606; clear HO609; clear HO615; clear HO621; clear BK603; clear HB; have HO606 := n0_; have HO609 := n1_; have HO615 := n2_; have HO621 := n3_; have HO624 := n4_; have BK603 := n5_; have HB := n6_; clear n0_ n1_ n2_ n3_ n4_ n5_ n6_; (try clear hb); (try clear hb2); (try clear hk); (try clear hi); (try clear ho0)) | ((with_reducible refine gate_callee (f := 38) rfl ?_); refine goesL_ (some 34) rfl rfl Try.func38 (by kernel_rfl) rfl #[.slice Ao19 t604.length co19, .slice Ao23 t607.length co23] rfl (by (try simp only [List.map_toArray, List.map_cons, List.map_nil]); first | done | rfl | (simp only [List.length_drop, List.length_take]; rfl)) ?_; (with_reducible refine (dom_Join.calls k _ _ t604 _ _ t607 t625 _ ?side1 ?side2 ?side3 ?side4 A9.out).mono ?_); (case side1 => repeat (first | exact (Kd.R_reads' HO606.out).2.2 | (with_reducible refine Kd.C_alloc ?_ _) | (with_reducible refine Kd.C_drewN ?_ _) | (with_reducible refine Kd.C_drew ?_))); (case side2 => exact (Kd.R_reads' HO606.out).2.1); (case side3 => repeat (first | exact (Kd.R_reads' HO609.out).2.2 | (with_reducible refine Kd.C_alloc ?_ _) | (with_reducible refine Kd.C_drewN ?_ _) | (with_reducible refine Kd.C_drew ?_))); (case side4 => exact (Kd.R_reads' HO609.out).2.1); rintro e w25 ⟨v626, rfl, ho0, hb⟩; refine ⟨_, rfl, ?_⟩; have n0_ := Aside0.mk (Kd.R_elder' (by (with_reducible repeat (first | apply Kd.R_alloc | apply Kd.R_drewN | apply Kd.R_drew)); exact HO606.out) (Kd.R_base ho0) hb); have n1_ := Aside0.mk (Kd.R_elder' (by (with_reducible repeat (first | apply Kd.R_alloc | apply Kd.R_drewN | apply Kd.R_drew)); exact HO609.out) (Kd.R_base ho0) hb); have n2_ := Aside0.mk (Kd.R_elder' (by (with_reducible repeat (first | apply Kd.R_alloc | apply Kd.R_drewN | apply Kd.R_drew)); exact HO615.out) (Kd.R_base ho0) hb); have n3_ := Aside0.mk (Kd.R_elder' (by (with_reducible repeat (first | apply Kd.R_alloc | apply Kd.R_drewN | apply Kd.R_drew)); exact HO621.out) (Kd.R_base ho0) hb); have n4_ := Aside0.mk (Kd.R_elder' (by (with_reducible repeat (first | apply Kd.R_alloc | apply Kd.R_drewN | apply Kd.R_drew)); exact HO624.out) (Kd.R_base ho0) hb); have n5_ := Aside0.mk (Kd.R_lower (Kd.R_new' (Kd.R_new' (Kd.R_new' (Kd.R_new' (Kd.R_new' ho0 (Kd.R_lt (by (with_reducible repeat (first | apply Kd.R_alloc | apply Kd.R_drewN | apply Kd.R_drew)); exact HO606.out))) (Kd.R_lt (by (with_reducible repeat (first | apply Kd.R_alloc | apply Kd.R_drewN | apply Kd.R_drew)); exact HO609.out))) (Kd.R_lt (by (with_reducible repeat (first | apply Kd.R_alloc | apply Kd.R_drewN | apply Kd.R_drew)); exact HO615.out))) (Kd.R_lt (by (with_reducible repeat (first | apply Kd.R_alloc | apply Kd.R_drewN | apply Kd.R_drew)); exact HO621.out))) (Kd.R_lt (by (with_reducible repeat (first | apply Kd.R_alloc | apply Kd.R_drewN | apply Kd.R_drew)); exact HO624.out))) (below_size (by repeat (first | (with_reducible first | exact HB.out | apply below_alloc | apply pw_below_drewN | apply below_drew1 | refine below_set ?_ GE603.out) | exact HB.out)))); have n6_ := Aside0.mk (blk_below (g := gb603) (o := .cells #[.int .i64 a2_0, .int .i64 a2_1] 49 (0, 0)) (by (with_reducible repeat (first | refine blk_drewN ?_ _ | refine blk_drew ?_ | refine blk_alloc ?_ _)); exact BK603.out) hb); have n7_ := Aside0.mk (below_step (by repeat (first | (with_reducible first | exact HB.out | apply below_alloc | apply pw_below_drewN | apply below_drew1 | refine below_set ?_ GE603.out) | exact HB.out)) hb); clear HO606; clear HO609; clear HO615; clear HO621; clear HO624; clear BK603; clear HB; have HO606 := n0_; have HO609 := n1_; have HO615 := n2_; have HO621 := n3_; have HO624 := n4_; have HO627 := n5_; have BK603 := n6_; have HB := n7_; clear n0_ n1_ n2_ n3_ n4_ n5_ n6_ n7_; (try clear hb); (try clear hb2); (try clear hk); (try clear hi); (try clear ho0)))
   have n0_ := Aside0.mk (Kd.R_drew HO606.out)
   have n1_ := Aside0.mk (Kd.R_drew HO609.out)
   have n2_ := Aside0.mk (Kd.R_drew HO615.out)
   have n3_ := Aside0.mk (Kd.R_drew HO621.out)
   have n4_ := Aside0.mk (Kd.R_drew HO624.out)
   have n5_ := Aside0.mk (Kd.R_drew HO627.out)
   have n6_ := Aside0.mk (blk_drew BK603.out)
   have n7_ := Aside0.mk (below_drew1 HB.out)
   clear HO606
   clear HO609
   clear HO615
   clear HO621
   clear HO624
   clear HO627
   clear BK603
   clear HB
   have HO606 := n0_
   have HO609 := n1_
   have HO615 := n2_
   have HO621 := n3_
   have HO624 := n4_
   have HO627 := n5_
   have BK603 := n6_
   have HB := n7_
   clear n0_ n1_ n2_ n3_ n4_ n5_ n6_ n7_
   refine start_ (n := 11) (S := fun w' => w'.cell? ⟨gb603, 0, none⟩ = some (.int .i64 a2_0) ∧ w'.cell? ⟨gb603, 1, none⟩ = some (.int .i64 a2_1)) (ds := []) #[false, false, false, false, false, false, false, false, false, false, false] (by kernel_rfl) rfl rfl ⟨(blk_cell BK603.out 0).trans rfl, (blk_cell BK603.out 1).trans rfl⟩ (fun hHeld => ?_); refine with_tabW secateurlaw02_DomJoins.tab4 secateurlaw02_DomJoins.bits4 (fun HT_ HW_ => ?_)
   generalize w25.drew = w26 at HO606 HO609 HO615 HO621 HO624 HO627 BK603 HB hHeld ⊢
   refine pure_ (i := 0) (N := some 35) (v := ?_) (a' := ?_) #[true, false, false, false, false, false, false, false, false, false, false] rfl rfl (any_of HT_.out (by kernel_rfl)) (fun _ _ _ h => h) (Or.inl ⟨by rfl, ?_⟩) ?_ ?_
   rotate_left
   ·intro w'
    go_simp
    with_reducible rfl
   rotate_left
   ·simp only [Act.put, List.setIfInBounds_toArray, List.set_cons_zero, List.set_cons_succ, i64_w, i32_w]
    rfl
   refine pure_ (i := 1) (N := some 36) (v := ?_) (a' := ?_) #[true, true, false, false, false, false, false, false, false, false, false] rfl rfl (any_of HT_.out (by kernel_rfl)) (fun _ _ _ h => h) (Or.inl ⟨by rfl, ?_⟩) ?_ ?_
   rotate_left
   ·intro w'
    go_simp
    with_reducible rfl
   rotate_left
   ·simp only [Act.put, List.setIfInBounds_toArray, List.set_cons_zero, List.set_cons_succ, i64_w, i32_w]
    rfl
   refine pure_ (i := 3) (N := some 38) (v := ?_) (a' := ?_) #[true, true, false, true, false, false, false, false, false, false, false] rfl rfl (any_of HT_.out (by kernel_rfl)) (fun _ _ _ h => h) (Or.inl ⟨by rfl, ?_⟩) ?_ ?_
   rotate_left
   ·intro w'
    go_simp
    with_reducible rfl
   rotate_left
   ·simp only [Act.put, List.setIfInBounds_toArray, List.set_cons_zero, List.set_cons_succ, i64_w, i32_w]
    rfl
   refine pure_ (i := 4) (N := some 39) (v := ?_) (a' := ?_) #[true, true, false, true, true, false, false, false, false, false, false] rfl rfl (any_of HT_.out (by kernel_rfl)) (fun _ _ _ h => h) (Or.inl ⟨by rfl, ?_⟩) ?_ ?_
   rotate_left
   ·intro w'
    go_simp
    with_reducible rfl
   rotate_left
   ·simp only [Act.put, List.setIfInBounds_toArray, List.set_cons_zero, List.set_cons_succ, i64_w, i32_w]
    rfl
   refine pure_ (i := 6) (N := some 41) (v := ?_) (a' := ?_) #[true, true, false, true, true, false, true, false, false, false, false] rfl rfl (any_of HT_.out (by kernel_rfl)) (fun _ _ _ h => h) (Or.inl ⟨by rfl, ?_⟩) ?_ ?_
   rotate_left
   ·intro w'
    go_simp
    with_reducible rfl
   rotate_left
   ·simp only [Act.put, List.setIfInBounds_toArray, List.set_cons_zero, List.set_cons_succ, i64_w, i32_w]
    rfl
   refine take_ (i := 5) (N := some 40) (v := ?_) (a' := ?_) #[true, true, false, true, true, true, true, false, false, false, false] rfl rfl (take_ofW HT_.out HW_.out (by kernel_rfl)) (fun _ _ _ h => h) (Or.inl ⟨by rfl, ?_⟩) hHeld ?_ ?_
   rotate_left
   ·rintro w' ⟨s0, s1⟩
    go_simp
    with_reducible rfl
   rotate_left
   ·simp only [Act.put, List.setIfInBounds_toArray, List.set_cons_zero, List.set_cons_succ, i64_w, i32_w]
    rfl
   refine take_ (i := 7) (N := some 42) (v := ?_) (a' := ?_) #[true, true, false, true, true, true, true, true, false, false, false] rfl rfl (take_ofW HT_.out HW_.out (by kernel_rfl)) (fun _ _ _ h => h) (Or.inl ⟨by rfl, ?_⟩) hHeld ?_ ?_
   rotate_left
   ·rintro w' ⟨s0, s1⟩
    go_simp
    with_reducible rfl
   rotate_left
   ·simp only [Act.put, List.setIfInBounds_toArray, List.set_cons_zero, List.set_cons_succ, i64_w, i32_w]
    rfl
   refine one_ (i := 2) (N := some 37) #[true, true, true, true, true, true, true, true, false, false, false] rfl rfl (one_of HT_.out (by kernel_rfl)) (by decide) (fun K hK => ?_)
   refine goes_ Try.func39 (by kernel_rfl) rfl #[.slice Ao19 t604.length co19, .slice Ao23 t607.length co23] (by rfl) rfl rfl (by (try simp only [List.map_toArray, List.map_cons, List.map_nil]); first | done | rfl | (simp only [List.length_drop, List.length_take]; rfl)) ?_
   with_reducible refine (dom_Minus.calls k _ _ t604 _ _ t607 t628 _ ?side1 ?side2 ?side3 ?side4 A10.out).mono ?_
   (case side1 => repeat (first | exact (Kd.R_reads' HO606.out).2.2 | (with_reducible refine Kd.C_alloc ?_ _) | (with_reducible refine Kd.C_drewN ?_ _) | (with_reducible refine Kd.C_drew ?_)))
   (case side2 => exact (Kd.R_reads' HO606.out).2.1)
   (case side3 => repeat (first | exact (Kd.R_reads' HO609.out).2.2 | (with_reducible refine Kd.C_alloc ?_ _) | (with_reducible refine Kd.C_drewN ?_ _) | (with_reducible refine Kd.C_drew ?_)))
   (case side4 => exact (Kd.R_reads' HO609.out).2.1)
   rintro e w27 ⟨v629, rfl, ho0, hb⟩
   refine ⟨_, rfl, ?_⟩
   have n0_ := Aside0.mk (Kd.R_elder' (by (with_reducible repeat (first | apply Kd.R_alloc | apply Kd.R_drewN | apply Kd.R_drew)); exact HO606.out) (Kd.R_base ho0) hb)
   have n1_ := Aside0.mk (Kd.R_elder' (by (with_reducible repeat (first | apply Kd.R_alloc | apply Kd.R_drewN | apply Kd.R_drew)); exact HO609.out) (Kd.R_base ho0) hb)
   have n2_ := Aside0.mk (Kd.R_elder' (by (with_reducible repeat (first | apply Kd.R_alloc | apply Kd.R_drewN | apply Kd.R_drew)); exact HO615.out) (Kd.R_base ho0) hb)
   have n3_ := Aside0.mk (Kd.R_elder' (by (with_reducible repeat (first | apply Kd.R_alloc | apply Kd.R_drewN | apply Kd.R_drew)); exact HO621.out) (Kd.R_base ho0) hb)
   have n4_ := Aside0.mk (Kd.R_elder' (by (with_reducible repeat (first | apply Kd.R_alloc | apply Kd.R_drewN | apply Kd.R_drew)); exact HO624.out) (Kd.R_base ho0) hb)
   have n5_ := Aside0.mk (Kd.R_elder' (by (with_reducible repeat (first | apply Kd.R_alloc | apply Kd.R_drewN | apply Kd.R_drew)); exact HO627.out) (Kd.R_base ho0) hb)
   have n6_ := Aside0.mk (Kd.R_lower (Kd.R_new' (Kd.R_new' (Kd.R_new' (Kd.R_new' (Kd.R_new' (Kd.R_new' ho0 (Kd.R_lt (by (with_reducible repeat (first | apply Kd.R_alloc | apply Kd.R_drewN | apply Kd.R_drew)); exact HO606.out))) (Kd.R_lt (by (with_reducible repeat (first | apply Kd.R_alloc | apply Kd.R_drewN | apply Kd.R_drew)); exact HO609.out))) (Kd.R_lt (by (with_reducible repeat (first | apply Kd.R_alloc | apply Kd.R_drewN | apply Kd.R_drew)); exact HO615.out))) (Kd.R_lt (by (with_reducible repeat (first | apply Kd.R_alloc | apply Kd.R_drewN | apply Kd.R_drew)); exact HO621.out))) (Kd.R_lt (by (with_reducible repeat (first | apply Kd.R_alloc | apply Kd.R_drewN | apply Kd.R_drew)); exact HO624.out))) (Kd.R_lt (by (with_reducible repeat (first | apply Kd.R_alloc | apply Kd.R_drewN | apply Kd.R_drew)); exact HO627.out))) (below_size (by repeat (first | (with_reducible first | exact HB.out | apply below_alloc | apply pw_below_drewN | apply below_drew1 | refine below_set ?_ GE603.out) | exact HB.out))))
   have n7_ := Aside0.mk (blk_below (g := gb603) (o := .cells #[.int .i64 a2_0, .int .i64 a2_1] 49 (0, 0)) (by (with_reducible repeat (first | refine blk_drewN ?_ _ | refine blk_drew ?_ | refine blk_alloc ?_ _)); exact BK603.out) hb)
   have n8_ := Aside0.mk (below_step (by repeat (first | (with_reducible first | exact HB.out | apply below_alloc | apply pw_below_drewN | apply below_drew1 | refine below_set ?_ GE603.out) | exact HB.out)) hb)
   clear HO606
   clear HO609
   clear HO615
   clear HO621
   clear HO624
   clear HO627
   clear BK603
   clear HB
   have HO606 := n0_
   have HO609 := n1_
   have HO615 := n2_
   have HO621 := n3_
   have HO624 := n4_
   have HO627 := n5_
   have HO630 := n6_
   have BK603 := n7_
   have HB := n8_
   clear n0_ n1_ n2_ n3_ n4_ n5_ n6_ n7_ n8_
   (try clear hb)
   (try clear hb2)
   (try clear hk)
   (try clear hi)
   (try clear ho0)
   refine hK.out _ _ ⟨(blk_cell BK603.out 0).trans rfl, (blk_cell BK603.out 1).trans rfl⟩ (fun hHeld => ?_)
   clear hK K
   refine norm_ (a' := ?_) ?_ ?_
   rotate_left
   ·show Act.put _ (some 37) _ = _
    simp only [Act.put, List.setIfInBounds_toArray, List.set_cons_zero, List.set_cons_succ, i64_w, i32_w]
    rfl
   refine one_ (i := 8) (N := some 43) #[true, true, true, true, true, true, true, true, true, false, false] rfl rfl (one_of HT_.out (by kernel_rfl)) (by decide) (fun K hK => ?_)
   refine goes_ Try.func40 (by kernel_rfl) rfl #[.slice Ao19 t604.length co19, .int .i64 a2_0, .int .i64 a2_1] (by rfl) rfl rfl (by (try simp only [List.map_toArray, List.map_cons, List.map_nil]); first | done | rfl | (simp only [List.length_drop, List.length_take]; rfl)) ?_
   with_reducible refine (dom_Cut.calls k _ _ t604 a2_0 a2_1 t631 _ ?side1 ?side2 A11.out).mono ?_
   (case side1 => repeat (first | exact (Kd.R_reads' HO606.out).2.2 | (with_reducible refine Kd.C_alloc ?_ _) | (with_reducible refine Kd.C_drewN ?_ _) | (with_reducible refine Kd.C_drew ?_)))
   (case side2 => exact (Kd.R_reads' HO606.out).2.1)
   rintro e w28 ⟨v632, rfl, ho0, hb⟩
   refine ⟨_, rfl, ?_⟩
   have n0_ := Aside0.mk (Kd.R_elder' (by (with_reducible repeat (first | apply Kd.R_alloc | apply Kd.R_drewN | apply Kd.R_drew)); exact HO606.out) (Kd.R_base ho0) hb)
   have n1_ := Aside0.mk (Kd.R_elder' (by (with_reducible repeat (first | apply Kd.R_alloc | apply Kd.R_drewN | apply Kd.R_drew)); exact HO609.out) (Kd.R_base ho0) hb)
   have n2_ := Aside0.mk (Kd.R_elder' (by (with_reducible repeat (first | apply Kd.R_alloc | apply Kd.R_drewN | apply Kd.R_drew)); exact HO615.out) (Kd.R_base ho0) hb)
   have n3_ := Aside0.mk (Kd.R_elder' (by (with_reducible repeat (first | apply Kd.R_alloc | apply Kd.R_drewN | apply Kd.R_drew)); exact HO621.out) (Kd.R_base ho0) hb)
   have n4_ := Aside0.mk (Kd.R_elder' (by (with_reducible repeat (first | apply Kd.R_alloc | apply Kd.R_drewN | apply Kd.R_drew)); exact HO624.out) (Kd.R_base ho0) hb)
   have n5_ := Aside0.mk (Kd.R_elder' (by (with_reducible repeat (first | apply Kd.R_alloc | apply Kd.R_drewN | apply Kd.R_drew)); exact HO627.out) (Kd.R_base ho0) hb)
   have n6_ := Aside0.mk (Kd.R_elder' (by (with_reducible repeat (first | apply Kd.R_alloc | apply Kd.R_drewN | apply Kd.R_drew)); exact HO630.out) (Kd.R_base ho0) hb)
   have n7_ := Aside0.mk (Kd.R_lower (Kd.R_new' (Kd.R_new' (Kd.R_new' (Kd.R_new' (Kd.R_new' (Kd.R_new' (Kd.R_new' ho0 (Kd.R_lt (by (with_reducible repeat (first | apply Kd.R_alloc | apply Kd.R_drewN | apply Kd.R_drew)); exact HO606.out))) (Kd.R_lt (by (with_reducible repeat (first | apply Kd.R_alloc | apply Kd.R_drewN | apply Kd.R_drew)); exact HO609.out))) (Kd.R_lt (by (with_reducible repeat (first | apply Kd.R_alloc | apply Kd.R_drewN | apply Kd.R_drew)); exact HO615.out))) (Kd.R_lt (by (with_reducible repeat (first | apply Kd.R_alloc | apply Kd.R_drewN | apply Kd.R_drew)); exact HO621.out))) (Kd.R_lt (by (with_reducible repeat (first | apply Kd.R_alloc | apply Kd.R_drewN | apply Kd.R_drew)); exact HO624.out))) (Kd.R_lt (by (with_reducible repeat (first | apply Kd.R_alloc | apply Kd.R_drewN | apply Kd.R_drew)); exact HO627.out))) (Kd.R_lt (by (with_reducible repeat (first | apply Kd.R_alloc | apply Kd.R_drewN | apply Kd.R_drew)); exact HO630.out))) (below_size (by repeat (first | (with_reducible first | exact HB.out | apply below_alloc | apply pw_below_drewN | apply below_drew1 | refine below_set ?_ GE603.out) | exact HB.out))))
   have n8_ := Aside0.mk (blk_below (g := gb603) (o := .cells #[.int .i64 a2_0, .int .i64 a2_1] 49 (0, 0)) (by (with_reducible repeat (first | refine blk_drewN ?_ _ | refine blk_drew ?_ | refine blk_alloc ?_ _)); exact BK603.out) hb)
   have n9_ := Aside0.mk (below_step (by repeat (first | (with_reducible first | exact HB.out | apply below_alloc | apply pw_below_drewN | apply below_drew1 | refine below_set ?_ GE603.out) | exact HB.out)) hb)
   clear HO606
   clear HO609
   clear HO615
   clear HO621
   clear HO624
   clear HO627
   clear HO630
   clear BK603
   clear HB
   have HO606 := n0_
   have HO609 := n1_
   have HO615 := n2_
   have HO621 := n3_
   have HO624 := n4_
   have HO627 := n5_
   have HO630 := n6_
   have HO633 := n7_
   have BK603 := n8_
   have HB := n9_
   clear n0_ n1_ n2_ n3_ n4_ n5_ n6_ n7_ n8_ n9_
   (try clear hb)
   (try clear hb2)
   (try clear hk)
   (try clear hi)
   (try clear ho0)
   refine hK.out _ _ ⟨(blk_cell BK603.out 0).trans rfl, (blk_cell BK603.out 1).trans rfl⟩ (fun hHeld => ?_)
   clear hK K
   refine norm_ (a' := ?_) ?_ ?_
   rotate_left
   ·show Act.put _ (some 43) _ = _
    simp only [Act.put, List.setIfInBounds_toArray, List.set_cons_zero, List.set_cons_succ, i64_w, i32_w]
    rfl
   refine pure_ (i := 9) (N := some 13) (v := ?_) (a' := ?_) #[true, true, true, true, true, true, true, true, true, true, false] rfl rfl (any_of HT_.out (by kernel_rfl)) (fun _ _ _ h => h) (Or.inl ⟨by rfl, ?_⟩) ?_ ?_
   rotate_left
   ·intro w'
    go_simp
    with_reducible rfl
   rotate_left
   ·simp only [Act.put, List.setIfInBounds_toArray, List.set_cons_zero, List.set_cons_succ, i64_w, i32_w]
    rfl
   refine pure_ (i := 10) (N := some 14) (v := ?_) (a' := ?_) #[true, true, true, true, true, true, true, true, true, true, true] rfl rfl (any_of HT_.out (by kernel_rfl)) (fun _ _ _ h => h) (Or.inl ⟨by rfl, ?_⟩) ?_ ?_
   rotate_left
   ·intro w'
    go_simp
    with_reducible rfl
   rotate_left
   ·simp only [Act.put, List.setIfInBounds_toArray, List.set_cons_zero, List.set_cons_succ, i64_w, i32_w]
    rfl
   refine done_ (done_of HT_.out (by kernel_rfl)) ?_
   go_upto_region 5 with (fail)
   go_cut [76] (fun v76 wc => ∃ (kq : Nat) (x76_11 : Bool), v76 = .bool x76_11 ∧ Aside0 (secateurlaw02_DomJoins.j0 kq t604 t607 y613 y619 t622 t625 t628 t631 x76_11 = some r) ∧ Aside0 (kq ≤ k) ∧ Aside0 (Kd.R k52 52 wc w.heap.size (fun k_ => some k_ ≠ ((.slice Ao23 t607.length co23) : Value).ownBlock ∧ some k_ ≠ (v614 : Value).ownBlock ∧ some k_ ≠ (v620 : Value).ownBlock ∧ some k_ ≠ (v623 : Value).ownBlock ∧ some k_ ≠ (v626 : Value).ownBlock ∧ some k_ ≠ (v629 : Value).ownBlock ∧ some k_ ≠ (v632 : Value).ownBlock) (.slice Ao19 t604.length co19) t604) ∧ Aside0 (Kd.R k52 52 wc w.heap.size (fun k_ => some k_ ≠ ((.slice Ao19 t604.length co19) : Value).ownBlock ∧ some k_ ≠ (v614 : Value).ownBlock ∧ some k_ ≠ (v620 : Value).ownBlock ∧ some k_ ≠ (v623 : Value).ownBlock ∧ some k_ ≠ (v626 : Value).ownBlock ∧ some k_ ≠ (v629 : Value).ownBlock ∧ some k_ ≠ (v632 : Value).ownBlock) (.slice Ao23 t607.length co23) t607) ∧ Aside0 (Kd.R k52 52 wc w.heap.size (fun k_ => some k_ ≠ ((.slice Ao19 t604.length co19) : Value).ownBlock ∧ some k_ ≠ ((.slice Ao23 t607.length co23) : Value).ownBlock ∧ some k_ ≠ (v620 : Value).ownBlock ∧ some k_ ≠ (v623 : Value).ownBlock ∧ some k_ ≠ (v626 : Value).ownBlock ∧ some k_ ≠ (v629 : Value).ownBlock ∧ some k_ ≠ (v632 : Value).ownBlock) v614 y613) ∧ Aside0 (Kd.R k52 52 wc w.heap.size (fun k_ => some k_ ≠ ((.slice Ao19 t604.length co19) : Value).ownBlock ∧ some k_ ≠ ((.slice Ao23 t607.length co23) : Value).ownBlock ∧ some k_ ≠ (v614 : Value).ownBlock ∧ some k_ ≠ (v623 : Value).ownBlock ∧ some k_ ≠ (v626 : Value).ownBlock ∧ some k_ ≠ (v629 : Value).ownBlock ∧ some k_ ≠ (v632 : Value).ownBlock) v620 y619) ∧ Aside0 (Kd.R k52 52 wc w.heap.size (fun k_ => some k_ ≠ ((.slice Ao19 t604.length co19) : Value).ownBlock ∧ some k_ ≠ ((.slice Ao23 t607.length co23) : Value).ownBlock ∧ some k_ ≠ (v614 : Value).ownBlock ∧ some k_ ≠ (v620 : Value).ownBlock ∧ some k_ ≠ (v626 : Value).ownBlock ∧ some k_ ≠ (v629 : Value).ownBlock ∧ some k_ ≠ (v632 : Value).ownBlock) v623 t622) ∧ Aside0 (Kd.R k52 52 wc w.heap.size (fun k_ => some k_ ≠ ((.slice Ao19 t604.length co19) : Value).ownBlock ∧ some k_ ≠ ((.slice Ao23 t607.length co23) : Value).ownBlock ∧ some k_ ≠ (v614 : Value).ownBlock ∧ some k_ ≠ (v620 : Value).ownBlock ∧ some k_ ≠ (v623 : Value).ownBlock ∧ some k_ ≠ (v629 : Value).ownBlock ∧ some k_ ≠ (v632 : Value).ownBlock) v626 t625) ∧ Aside0 (Kd.R k52 52 wc w.heap.size (fun k_ => some k_ ≠ ((.slice Ao19 t604.length co19) : Value).ownBlock ∧ some k_ ≠ ((.slice Ao23 t607.length co23) : Value).ownBlock ∧ some k_ ≠ (v614 : Value).ownBlock ∧ some k_ ≠ (v620 : Value).ownBlock ∧ some k_ ≠ (v623 : Value).ownBlock ∧ some k_ ≠ (v626 : Value).ownBlock ∧ some k_ ≠ (v632 : Value).ownBlock) v629 t628) ∧ Aside0 (Kd.R k52 52 wc w.heap.size (fun k_ => some k_ ≠ ((.slice Ao19 t604.length co19) : Value).ownBlock ∧ some k_ ≠ ((.slice Ao23 t607.length co23) : Value).ownBlock ∧ some k_ ≠ (v614 : Value).ownBlock ∧ some k_ ≠ (v620 : Value).ownBlock ∧ some k_ ≠ (v623 : Value).ownBlock ∧ some k_ ≠ (v626 : Value).ownBlock ∧ some k_ ≠ (v629 : Value).ownBlock) v632 t631) ∧ Aside0 (wc.heap[gb603]? = some (.cells #[.int .i64 a2_0, .int .i64 a2_1] 49 (0, 0))) ∧ Aside0 (Below w.heap.size w wc))
   case first =>
    have H := HC12.out
    clear HC12
    replace H := Option.bind_eq_some_iff.mp H
    obtain ⟨t634, A290, H⟩ := H
    replace H : ((secateurref02_Same.f k t622 t634).bind fun t637 => (if t637 = true then ((secateurref02_Join.f k t604 t607).bind fun t638 => ((secateurref02_Same.f k t625 t638).bind fun t641 => (if t641 = true then ((secateurref02_Pick.f k t604 t607 false).bind fun t642 => ((secateurref02_Same.f k t628 t642).bind fun t645 => (if t645 = true then ((secateurref02_Cut.f k t604 a2_0 a2_1).bind fun t646 => ((secateurref02_Same.f k t631 t646).bind fun t649 => (secateurlaw02_DomJoins.j0 k t604 t607 y613 y619 t622 t625 t628 t631 (!t649)))) else (secateurlaw02_DomJoins.j0 k t604 t607 y613 y619 t622 t625 t628 t631 true)))) else (secateurlaw02_DomJoins.j0 k t604 t607 y613 y619 t622 t625 t628 t631 true)))) else (secateurlaw02_DomJoins.j0 k t604 t607 y613 y619 t622 t625 t628 t631 true))) = some r := H
    have A29 := Aside0.mk A290
    clear A290
    replace H := Option.bind_eq_some_iff.mp H
    obtain ⟨t637, A300, H⟩ := H
    replace H : (if t637 = true then ((secateurref02_Join.f k t604 t607).bind fun t638 => ((secateurref02_Same.f k t625 t638).bind fun t641 => (if t641 = true then ((secateurref02_Pick.f k t604 t607 false).bind fun t642 => ((secateurref02_Same.f k t628 t642).bind fun t645 => (if t645 = true then ((secateurref02_Cut.f k t604 a2_0 a2_1).bind fun t646 => ((secateurref02_Same.f k t631 t646).bind fun t649 => (secateurlaw02_DomJoins.j0 k t604 t607 y613 y619 t622 t625 t628 t631 (!t649)))) else (secateurlaw02_DomJoins.j0 k t604 t607 y613 y619 t622 t625 t628 t631 true)))) else (secateurlaw02_DomJoins.j0 k t604 t607 y613 y619 t622 t625 t628 t631 true)))) else (secateurlaw02_DomJoins.j0 k t604 t607 y613 y619 t622 t625 t628 t631 true)) = some r := H
    have A30 := Aside0.mk A300
    clear A300
    by_cases c31 : t637 = true
    ·subst c31
     have H1 : ((secateurref02_Join.f k t604 t607).bind fun t638 => ((secateurref02_Same.f k t625 t638).bind fun t641 => (if t641 = true then ((secateurref02_Pick.f k t604 t607 false).bind fun t642 => ((secateurref02_Same.f k t628 t642).bind fun t645 => (if t645 = true then ((secateurref02_Cut.f k t604 a2_0 a2_1).bind fun t646 => ((secateurref02_Same.f k t631 t646).bind fun t649 => (secateurlaw02_DomJoins.j0 k t604 t607 y613 y619 t622 t625 t628 t631 (!t649)))) else (secateurlaw02_DomJoins.j0 k t604 t607 y613 y619 t622 t625 t628 t631 true)))) else (secateurlaw02_DomJoins.j0 k t604 t607 y613 y619 t622 t625 t628 t631 true)))) = some r := by rw [if_pos rfl] at H; exact H
     clear H
     have H := H1
     clear H1
     replace H := Option.bind_eq_some_iff.mp H
     obtain ⟨t638, A320, H⟩ := H
     replace H : ((secateurref02_Same.f k t625 t638).bind fun t641 => (if t641 = true then ((secateurref02_Pick.f k t604 t607 false).bind fun t642 => ((secateurref02_Same.f k t628 t642).bind fun t645 => (if t645 = true then ((secateurref02_Cut.f k t604 a2_0 a2_1).bind fun t646 => ((secateurref02_Same.f k t631 t646).bind fun t649 => (secateurlaw02_DomJoins.j0 k t604 t607 y613 y619 t622 t625 t628 t631 (!t649)))) else (secateurlaw02_DomJoins.j0 k t604 t607 y613 y619 t622 t625 t628 t631 true)))) else (secateurlaw02_DomJoins.j0 k t604 t607 y613 y619 t622 t625 t628 t631 true))) = some r := H
     have A32 := Aside0.mk A320
     clear A320
     replace H := Option.bind_eq_some_iff.mp H
     obtain ⟨t641, A330, H⟩ := H
     replace H : (if t641 = true then ((secateurref02_Pick.f k t604 t607 false).bind fun t642 => ((secateurref02_Same.f k t628 t642).bind fun t645 => (if t645 = true then ((secateurref02_Cut.f k t604 a2_0 a2_1).bind fun t646 => ((secateurref02_Same.f k t631 t646).bind fun t649 => (secateurlaw02_DomJoins.j0 k t604 t607 y613 y619 t622 t625 t628 t631 (!t649)))) else (secateurlaw02_DomJoins.j0 k t604 t607 y613 y619 t622 t625 t628 t631 true)))) else (secateurlaw02_DomJoins.j0 k t604 t607 y613 y619 t622 t625 t628 t631 true)) = some r := H
     have A33 := Aside0.mk A330
     clear A330
     by_cases c34 : t641 = true
     ·subst c34
      have H1 : ((secateurref02_Pick.f k t604 t607 false).bind fun t642 => ((secateurref02_Same.f k t628 t642).bind fun t645 => (if t645 = true then ((secateurref02_Cut.f k t604 a2_0 a2_1).bind fun t646 => ((secateurref02_Same.f k t631 t646).bind fun t649 => (secateurlaw02_DomJoins.j0 k t604 t607 y613 y619 t622 t625 t628 t631 (!t649)))) else (secateurlaw02_DomJoins.j0 k t604 t607 y613 y619 t622 t625 t628 t631 true)))) = some r := by rw [if_pos rfl] at H; exact H
      clear H
      have H := H1
      clear H1
      replace H := Option.bind_eq_some_iff.mp H
      obtain ⟨t642, A350, H⟩ := H
      replace H : ((secateurref02_Same.f k t628 t642).bind fun t645 => (if t645 = true then ((secateurref02_Cut.f k t604 a2_0 a2_1).bind fun t646 => ((secateurref02_Same.f k t631 t646).bind fun t649 => (secateurlaw02_DomJoins.j0 k t604 t607 y613 y619 t622 t625 t628 t631 (!t649)))) else (secateurlaw02_DomJoins.j0 k t604 t607 y613 y619 t622 t625 t628 t631 true))) = some r := H
      have A35 := Aside0.mk A350
      clear A350
      replace H := Option.bind_eq_some_iff.mp H
      obtain ⟨t645, A360, H⟩ := H
      replace H : (if t645 = true then ((secateurref02_Cut.f k t604 a2_0 a2_1).bind fun t646 => ((secateurref02_Same.f k t631 t646).bind fun t649 => (secateurlaw02_DomJoins.j0 k t604 t607 y613 y619 t622 t625 t628 t631 (!t649)))) else (secateurlaw02_DomJoins.j0 k t604 t607 y613 y619 t622 t625 t628 t631 true)) = some r := H
      have A36 := Aside0.mk A360
      clear A360
      by_cases c37 : t645 = true
      ·subst c37
       have H1 : ((secateurref02_Cut.f k t604 a2_0 a2_1).bind fun t646 => ((secateurref02_Same.f k t631 t646).bind fun t649 => (secateurlaw02_DomJoins.j0 k t604 t607 y613 y619 t622 t625 t628 t631 (!t649)))) = some r := by rw [if_pos rfl] at H; exact H
       clear H
       have H := H1
       clear H1
       replace H := Option.bind_eq_some_iff.mp H
       obtain ⟨t646, A380, H⟩ := H
       replace H : ((secateurref02_Same.f k t631 t646).bind fun t649 => (secateurlaw02_DomJoins.j0 k t604 t607 y613 y619 t622 t625 t628 t631 (!t649))) = some r := H
       have A38 := Aside0.mk A380
       clear A380
       replace H := Option.bind_eq_some_iff.mp H
       obtain ⟨t649, A390, H⟩ := H
       replace H : (secateurlaw02_DomJoins.j0 k t604 t607 y613 y619 t622 t625 t628 t631 (!t649)) = some r := H
       have A39 := Aside0.mk A390
       clear A390
       have H' := Aside0.mk H
       clear H
       go_wp2_with (first | ((with_reducible refine gate_callee (f := 41) rfl ?_); refine goesL_ (some 47) rfl rfl Try.func41 (by kernel_rfl) rfl #[.slice Ao19 t604.length co19, .slice Ao23 t607.length co23, .bool true] rfl (by (try simp only [List.map_toArray, List.map_cons, List.map_nil]); first | done | rfl | (simp only [List.length_drop, List.length_take]; rfl)) ?_; (with_reducible refine (secateurref02_Pick.calls k _ _ t604 _ _ t607 true t634 _ ?side1 ?side2 ?side3 ?side4 A29.out).mono ?_); (case side1 => repeat (first | exact (Kd.R_reads' HO606.out).2.2 | (with_reducible refine Kd.C_alloc ?_ _) | (with_reducible refine Kd.C_drewN ?_ _) | (with_reducible refine Kd.C_drew ?_))); (case side2 => exact (Kd.R_reads' HO606.out).2.1); (case side3 => repeat (first | exact (Kd.R_reads' HO609.out).2.2 | (with_reducible refine Kd.C_alloc ?_ _) | (with_reducible refine Kd.C_drewN ?_ _) | (with_reducible refine Kd.C_drew ?_))); (case side4 => exact (Kd.R_reads' HO609.out).2.1); rintro e w40 ⟨v635, rfl, ho0, hb⟩; refine ⟨_, rfl, ?_⟩; have n0_ := Aside0.mk (Kd.R_elder' (by (with_reducible repeat (first | apply Kd.R_alloc | apply Kd.R_drewN | apply Kd.R_drew)); exact HO606.out) (Kd.R_base ho0) hb); have n1_ := Aside0.mk (Kd.R_elder' (by (with_reducible repeat (first | apply Kd.R_alloc | apply Kd.R_drewN | apply Kd.R_drew)); exact HO609.out) (Kd.R_base ho0) hb); have n2_ := Aside0.mk (Kd.R_elder' (by (with_reducible repeat (first | apply Kd.R_alloc | apply Kd.R_drewN | apply Kd.R_drew)); exact HO615.out) (Kd.R_base ho0) hb); have n3_ := Aside0.mk (Kd.R_elder' (by (with_reducible repeat (first | apply Kd.R_alloc | apply Kd.R_drewN | apply Kd.R_drew)); exact HO621.out) (Kd.R_base ho0) hb); have n4_ := Aside0.mk (Kd.R_elder' (by (with_reducible repeat (first | apply Kd.R_alloc | apply Kd.R_drewN | apply Kd.R_drew)); exact HO624.out) (Kd.R_base ho0) hb); have n5_ := Aside0.mk (Kd.R_elder' (by (with_reducible repeat (first | apply Kd.R_alloc | apply Kd.R_drewN | apply Kd.R_drew)); exact HO627.out) (Kd.R_base ho0) hb); have n6_ := Aside0.mk (Kd.R_elder' (by (with_reducible repeat (first | apply Kd.R_alloc | apply Kd.R_drewN | apply Kd.R_drew)); exact HO630.out) (Kd.R_base ho0) hb); have n7_ := Aside0.mk (Kd.R_elder' (by (with_reducible repeat (first | apply Kd.R_alloc | apply Kd.R_drewN | apply Kd.R_drew)); exact HO633.out) (Kd.R_base ho0) hb); have n8_ := Aside0.mk (Kd.R_lower (Kd.R_new' (Kd.R_new' (Kd.R_new' (Kd.R_new' (Kd.R_new' (Kd.R_new' (Kd.R_new' (Kd.R_new' ho0 (Kd.R_lt (by (with_reducible repeat (first | apply Kd.R_alloc | apply Kd.R_drewN | apply Kd.R_drew)); exact HO606.out))) (Kd.R_lt (by (with_reducible repeat (first | apply Kd.R_alloc | apply Kd.R_drewN | apply Kd.R_drew)); exact HO609.out))) (Kd.R_lt (by (with_reducible repeat (first | apply Kd.R_alloc | apply Kd.R_drewN | apply Kd.R_drew)); exact HO615.out))) (Kd.R_lt (by (with_reducible repeat (first | apply Kd.R_alloc | apply Kd.R_drewN | apply Kd.R_drew)); exact HO621.out))) (Kd.R_lt (by (with_reducible repeat (first | apply Kd.R_alloc | apply Kd.R_drewN | apply Kd.R_drew)); exact HO624.out))) (Kd.R_lt (by (with_reducible repeat (first | apply Kd.R_alloc | apply Kd.R_drewN | apply Kd.R_drew)); exact HO627.out))) (Kd.R_lt (by (with_reducible repeat (first | apply Kd.R_alloc | apply Kd.R_drewN | apply Kd.R_drew)); exact HO630.out))) (Kd.R_lt (by (with_reducible repeat (first | apply Kd.R_alloc | apply Kd.R_drewN | apply Kd.R_drew)); exact HO633.out))) (below_size (by repeat (first | (with_reducible first | exact HB.out | apply below_alloc | apply pw_below_drewN | apply below_drew1 | refine below_set ?_ GE603.out) | exact HB.out)))); have n9_ := Aside0.mk (blk_below (g := gb603) (o := .cells #[.int .i64 a2_0, .int .i64 a2_1] 49 (0, 0)) (by (with_reducible repeat (first | refine blk_drewN ?_ _ | refine blk_drew ?_ | refine blk_alloc ?_ _)); exact BK603.out) hb); have n10_ := Aside0.mk (below_step (by repeat (first | (with_reducible first | exact HB.out | apply below_alloc | apply pw_below_drewN | apply below_drew1 | refine below_set ?_ GE603.out) | exact HB.out)) hb); clear HO606; clear HO609; clear HO615; clear HO621; clear HO624; clear HO627; clear HO630; clear HO633; clear BK603; clear HB; have HO606 := n0_; have HO609 := n1_; have HO615 := n2_; have HO621 := n3_; have HO624 := n4_; have HO627 := n5_; have HO630 := n6_; have HO633 := n7_; have HO636 := n8_; have BK603 := n9_; have HB := n10_; clear n0_ n1_ n2_ n3_ n4_ n5_ n6_ n7_ n8_ n9_ n10_; (try clear hb); (try clear hb2); (try clear hk); (try clear hi); (try clear ho0); obtain ⟨Ao41, co41, eo41⟩ := Kd.R_slice HO624.out; subst eo41; obtain ⟨Ao42, co42, eo42⟩ := Kd.R_slice HO636.out; subst eo42) | ((with_reducible refine gate_callee (f := 17) rfl ?_); refine goesL_ (some 48) rfl rfl Try.func17 (by kernel_rfl) rfl #[.slice Ao41 t622.length co41, .slice Ao42 t634.length co42] rfl (by (try simp only [List.map_toArray, List.map_cons, List.map_nil]); first | done | rfl | (simp only [List.length_drop, List.length_take]; rfl)) ?_; (with_reducible refine (secateurref02_Same.calls k _ _ t622 _ _ t634 true _ ?side1 ?side2 ?side3 ?side4 A30.out).mono ?_); (case side1 => repeat (first | exact (Kd.R_reads' HO624.out).2.2 | (with_reducible refine Kd.C_alloc ?_ _) | (with_reducible refine Kd.C_drewN ?_ _) | (with_reducible refine Kd.C_drew ?_))); (case side2 => exact (Kd.R_reads' HO624.out).2.1); (case side3 => repeat (first | exact (Kd.R_reads' HO636.out).2.2 | (with_reducible refine Kd.C_alloc ?_ _) | (with_reducible refine Kd.C_drewN ?_ _) | (with_reducible refine Kd.C_drew ?_))); (case side4 => exact (Kd.R_reads' HO636.out).2.1); rintro e w' ⟨rfl, ⟨nd, rfl⟩⟩; refine ⟨_, rfl, ?_⟩) | (go_at_call 42; (with_reducible refine (secateurref02_Join.calls k _ _ t604 _ _ t607 t638 _ ?side1 ?side2 ?side3 ?side4 A32.out).mono ?_); (case side1 => repeat (first | exact (Kd.R_reads' HO606.out).2.2 | (with_reducible refine Kd.C_alloc ?_ _) | (with_reducible refine Kd.C_drewN ?_ _) | (with_reducible refine Kd.C_drew ?_))); (case side2 => exact (Kd.R_reads' HO606.out).2.1); (case side3 => repeat (first | exact (Kd.R_reads' HO609.out).2.2 | (with_reducible refine Kd.C_alloc ?_ _) | (with_reducible refine Kd.C_drewN ?_ _) | (with_reducible refine Kd.C_drew ?_))); (case side4 => exact (Kd.R_reads' HO609.out).2.1); rintro e w43 ⟨v639, rfl, ho0, hb⟩; have n0_ := Aside0.mk (Kd.R_elder' (by (with_reducible repeat (first | apply Kd.R_alloc | apply Kd.R_drewN | apply Kd.R_drew)); exact HO606.out) (Kd.R_base ho0) hb); have n1_ := Aside0.mk (Kd.R_elder' (by (with_reducible repeat (first | apply Kd.R_alloc | apply Kd.R_drewN | apply Kd.R_drew)); exact HO609.out) (Kd.R_base ho0) hb); have n2_ := Aside0.mk (Kd.R_elder' (by (with_reducible repeat (first | apply Kd.R_alloc | apply Kd.R_drewN | apply Kd.R_drew)); exact HO615.out) (Kd.R_base ho0) hb); have n3_ := Aside0.mk (Kd.R_elder' (by (with_reducible repeat (first | apply Kd.R_alloc | apply Kd.R_drewN | apply Kd.R_drew)); exact HO621.out) (Kd.R_base ho0) hb); have n4_ := Aside0.mk (Kd.R_elder' (by (with_reducible repeat (first | apply Kd.R_alloc | apply Kd.R_drewN | apply Kd.R_drew)); exact HO624.out) (Kd.R_base ho0) hb); have n5_ := Aside0.mk (Kd.R_elder' (by (with_reducible repeat (first | apply Kd.R_alloc | apply Kd.R_drewN | apply Kd.R_drew)); exact HO627.out) (Kd.R_base ho0) hb); have n6_ := Aside0.mk (Kd.R_elder' (by (with_reducible repeat (first | apply Kd.R_alloc | apply Kd.R_drewN | apply Kd.R_drew)); exact HO630.out) (Kd.R_base ho0) hb); have n7_ := Aside0.mk (Kd.R_elder' (by (with_reducible repeat (first | apply Kd.R_alloc | apply Kd.R_drewN | apply Kd.R_drew)); exact HO633.out) (Kd.R_base ho0) hb); have n8_ := Aside0.mk (Kd.R_elder' (by (with_reducible repeat (first | apply Kd.R_alloc | apply Kd.R_drewN | apply Kd.R_drew)); exact HO636.out) (Kd.R_base ho0) hb); have n9_ := Aside0.mk (Kd.R_lower (Kd.R_new' (Kd.R_new' (Kd.R_new' (Kd.R_new' (Kd.R_new' (Kd.R_new' (Kd.R_new' (Kd.R_new' (Kd.R_new' ho0 (Kd.R_lt (by (with_reducible repeat (first | apply Kd.R_alloc | apply Kd.R_drewN | apply Kd.R_drew)); exact HO606.out))) (Kd.R_lt (by (with_reducible repeat (first | apply Kd.R_alloc | apply Kd.R_drewN | apply Kd.R_drew)); exact HO609.out))) (Kd.R_lt (by (with_reducible repeat (first | apply Kd.R_alloc | apply Kd.R_drewN | apply Kd.R_drew)); exact HO615.out))) (Kd.R_lt (by (with_reducible repeat (first | apply Kd.R_alloc | apply Kd.R_drewN | apply Kd.R_drew)); exact HO621.out))) (Kd.R_lt (by (with_reducible repeat (first | apply Kd.R_alloc | apply Kd.R_drewN | apply Kd.R_drew)); exact HO624.out))) (Kd.R_lt (by (with_reducible repeat (first | apply Kd.R_alloc | apply Kd.R_drewN | apply Kd.R_drew)); exact HO627.out))) (Kd.R_lt (by (with_reducible repeat (first | apply Kd.R_alloc | apply Kd.R_drewN | apply Kd.R_drew)); exact HO630.out))) (Kd.R_lt (by (with_reducible repeat (first | apply Kd.R_alloc | apply Kd.R_drewN | apply Kd.R_drew)); exact HO633.out))) (Kd.R_lt (by (with_reducible repeat (first | apply Kd.R_alloc | apply Kd.R_drewN | apply Kd.R_drew)); exact HO636.out))) (below_size (by repeat (first | (with_reducible first | exact HB.out | apply below_alloc | apply pw_below_drewN | apply below_drew1 | refine below_set ?_ GE603.out) | exact HB.out)))); have n10_ := Aside0.mk (blk_below (g := gb603) (o := .cells #[.int .i64 a2_0, .int .i64 a2_1] 49 (0, 0)) (by (with_reducible repeat (first | refine blk_drewN ?_ _ | refine blk_drew ?_ | refine blk_alloc ?_ _)); exact BK603.out) hb); have n11_ := Aside0.mk (below_step (by repeat (first | (with_reducible first | exact HB.out | apply below_alloc | apply pw_below_drewN | apply below_drew1 | refine below_set ?_ GE603.out) | exact HB.out)) hb); clear HO606; clear HO609; clear HO615; clear HO621; clear HO624; clear HO627; clear HO630; clear HO633; clear HO636; clear BK603; clear HB; have HO606 := n0_; have HO609 := n1_; have HO615 := n2_; have HO621 := n3_; have HO624 := n4_; have HO627 := n5_; have HO630 := n6_; have HO633 := n7_; have HO636 := n8_; have HO640 := n9_; have BK603 := n10_; have HB := n11_; clear n0_ n1_ n2_ n3_ n4_ n5_ n6_ n7_ n8_ n9_ n10_ n11_; (try clear hb); (try clear hb2); (try clear hk); (try clear hi); (try clear ho0); obtain ⟨Ao44, co44, eo44⟩ := Kd.R_slice HO627.out; subst eo44; obtain ⟨Ao45, co45, eo45⟩ := Kd.R_slice HO640.out; subst eo45) | (go_at_call 17; (with_reducible refine (secateurref02_Same.calls k _ _ t625 _ _ t638 true _ ?side1 ?side2 ?side3 ?side4 A33.out).mono ?_); (case side1 => repeat (first | exact (Kd.R_reads' HO627.out).2.2 | (with_reducible refine Kd.C_alloc ?_ _) | (with_reducible refine Kd.C_drewN ?_ _) | (with_reducible refine Kd.C_drew ?_))); (case side2 => exact (Kd.R_reads' HO627.out).2.1); (case side3 => repeat (first | exact (Kd.R_reads' HO640.out).2.2 | (with_reducible refine Kd.C_alloc ?_ _) | (with_reducible refine Kd.C_drewN ?_ _) | (with_reducible refine Kd.C_drew ?_))); (case side4 => exact (Kd.R_reads' HO640.out).2.1); rintro e w' ⟨rfl, ⟨nd, rfl⟩⟩) | (go_at_call 41; (with_reducible refine (secateurref02_Pick.calls k _ _ t604 _ _ t607 false t642 _ ?side1 ?side2 ?side3 ?side4 A35.out).mono ?_); (case side1 => repeat (first | exact (Kd.R_reads' HO606.out).2.2 | (with_reducible refine Kd.C_alloc ?_ _) | (with_reducible refine Kd.C_drewN ?_ _) | (with_reducible refine Kd.C_drew ?_))); (case side2 => exact (Kd.R_reads' HO606.out).2.1); (case side3 => repeat (first | exact (Kd.R_reads' HO609.out).2.2 | (with_reducible refine Kd.C_alloc ?_ _) | (with_reducible refine Kd.C_drewN ?_ _) | (with_reducible refine Kd.C_drew ?_))); (case side4 => exact (Kd.R_reads' HO609.out).2.1); rintro e w46 ⟨v643, rfl, ho0, hb⟩; have n0_ := Aside0.mk (Kd.R_elder' (by (with_reducible repeat (first | apply Kd.R_alloc | apply Kd.R_drewN | apply Kd.R_drew)); exact HO606.out) (Kd.R_base ho0) hb); have n1_ := Aside0.mk (Kd.R_elder' (by (with_reducible repeat (first | apply Kd.R_alloc | apply Kd.R_drewN | apply Kd.R_drew)); exact HO609.out) (Kd.R_base ho0) hb); have n2_ := Aside0.mk (Kd.R_elder' (by (with_reducible repeat (first | apply Kd.R_alloc | apply Kd.R_drewN | apply Kd.R_drew)); exact HO615.out) (Kd.R_base ho0) hb); have n3_ := Aside0.mk (Kd.R_elder' (by (with_reducible repeat (first | apply Kd.R_alloc | apply Kd.R_drewN | apply Kd.R_drew)); exact HO621.out) (Kd.R_base ho0) hb); have n4_ := Aside0.mk (Kd.R_elder' (by (with_reducible repeat (first | apply Kd.R_alloc | apply Kd.R_drewN | apply Kd.R_drew)); exact HO624.out) (Kd.R_base ho0) hb); have n5_ := Aside0.mk (Kd.R_elder' (by (with_reducible repeat (first | apply Kd.R_alloc | apply Kd.R_drewN | apply Kd.R_drew)); exact HO627.out) (Kd.R_base ho0) hb); have n6_ := Aside0.mk (Kd.R_elder' (by (with_reducible repeat (first | apply Kd.R_alloc | apply Kd.R_drewN | apply Kd.R_drew)); exact HO630.out) (Kd.R_base ho0) hb); have n7_ := Aside0.mk (Kd.R_elder' (by (with_reducible repeat (first | apply Kd.R_alloc | apply Kd.R_drewN | apply Kd.R_drew)); exact HO633.out) (Kd.R_base ho0) hb); have n8_ := Aside0.mk (Kd.R_elder' (by (with_reducible repeat (first | apply Kd.R_alloc | apply Kd.R_drewN | apply Kd.R_drew)); exact HO636.out) (Kd.R_base ho0) hb); have n9_ := Aside0.mk (Kd.R_elder' (by (with_reducible repeat (first | apply Kd.R_alloc | apply Kd.R_drewN | apply Kd.R_drew)); exact HO640.out) (Kd.R_base ho0) hb); have n10_ := Aside0.mk (Kd.R_lower (Kd.R_new' (Kd.R_new' (Kd.R_new' (Kd.R_new' (Kd.R_new' (Kd.R_new' (Kd.R_new' (Kd.R_new' (Kd.R_new' (Kd.R_new' ho0 (Kd.R_lt (by (with_reducible repeat (first | apply Kd.R_alloc | apply Kd.R_drewN | apply Kd.R_drew)); exact HO606.out))) (Kd.R_lt (by (with_reducible repeat (first | apply Kd.R_alloc | apply Kd.R_drewN | apply Kd.R_drew)); exact HO609.out))) (Kd.R_lt (by (with_reducible repeat (first | apply Kd.R_alloc | apply Kd.R_drewN | apply Kd.R_drew)); exact HO615.out))) (Kd.R_lt (by (with_reducible repeat (first | apply Kd.R_alloc | apply Kd.R_drewN | apply Kd.R_drew)); exact HO621.out))) (Kd.R_lt (by (with_reducible repeat (first | apply Kd.R_alloc | apply Kd.R_drewN | apply Kd.R_drew)); exact HO624.out))) (Kd.R_lt (by (with_reducible repeat (first | apply Kd.R_alloc | apply Kd.R_drewN | apply Kd.R_drew)); exact HO627.out))) (Kd.R_lt (by (with_reducible repeat (first | apply Kd.R_alloc | apply Kd.R_drewN | apply Kd.R_drew)); exact HO630.out))) (Kd.R_lt (by (with_reducible repeat (first | apply Kd.R_alloc | apply Kd.R_drewN | apply Kd.R_drew)); exact HO633.out))) (Kd.R_lt (by (with_reducible repeat (first | apply Kd.R_alloc | apply Kd.R_drewN | apply Kd.R_drew)); exact HO636.out))) (Kd.R_lt (by (with_reducible repeat (first | apply Kd.R_alloc | apply Kd.R_drewN | apply Kd.R_drew)); exact HO640.out))) (below_size (by repeat (first | (with_reducible first | exact HB.out | apply below_alloc | apply pw_below_drewN | apply below_drew1 | refine below_set ?_ GE603.out) | exact HB.out)))); have n11_ := Aside0.mk (blk_below (g := gb603) (o := .cells #[.int .i64 a2_0, .int .i64 a2_1] 49 (0, 0)) (by (with_reducible repeat (first | refine blk_drewN ?_ _ | refine blk_drew ?_ | refine blk_alloc ?_ _)); exact BK603.out) hb); have n12_ := Aside0.mk (below_step (by repeat (first | (with_reducible first | exact HB.out | apply below_alloc | apply pw_below_drewN | apply below_drew1 | refine below_set ?_ GE603.out) | exact HB.out)) hb); clear HO606; clear HO609; clear HO615; clear HO621; clear HO624; clear HO627; clear HO630; clear HO633; clear HO636; clear HO640; clear BK603; clear HB; have HO606 := n0_; have HO609 := n1_; have HO615 := n2_; have HO621 := n3_; have HO624 := n4_; have HO627 := n5_; have HO630 := n6_; have HO633 := n7_; have HO636 := n8_; have HO640 := n9_; have HO644 := n10_; have BK603 := n11_; have HB := n12_; clear n0_ n1_ n2_ n3_ n4_ n5_ n6_ n7_ n8_ n9_ n10_ n11_ n12_; (try clear hb); (try clear hb2); (try clear hk); (try clear hi); (try clear ho0); obtain ⟨Ao47, co47, eo47⟩ := Kd.R_slice HO630.out; subst eo47; obtain ⟨Ao48, co48, eo48⟩ := Kd.R_slice HO644.out; subst eo48) | (go_at_call 17; (with_reducible refine (secateurref02_Same.calls k _ _ t628 _ _ t642 true _ ?side1 ?side2 ?side3 ?side4 A36.out).mono ?_); (case side1 => repeat (first | exact (Kd.R_reads' HO630.out).2.2 | (with_reducible refine Kd.C_alloc ?_ _) | (with_reducible refine Kd.C_drewN ?_ _) | (with_reducible refine Kd.C_drew ?_))); (case side2 => exact (Kd.R_reads' HO630.out).2.1); (case side3 => repeat (first | exact (Kd.R_reads' HO644.out).2.2 | (with_reducible refine Kd.C_alloc ?_ _) | (with_reducible refine Kd.C_drewN ?_ _) | (with_reducible refine Kd.C_drew ?_))); (case side4 => exact (Kd.R_reads' HO644.out).2.1); rintro e w' ⟨rfl, ⟨nd, rfl⟩⟩; have hcz49_0 : w46.cell? ⟨gb603, 0, none⟩ = some (.int .i64 a2_0) := (blk_cell BK603.out 0).trans rfl; have hcz49_1 : w46.cell? ⟨gb603, 1, none⟩ = some (.int .i64 a2_1) := (blk_cell BK603.out 1).trans rfl; have hfz49_0 := blk_frozen BK603.out 0; have hfz49_1 := blk_frozen BK603.out 1) | (go_at_call 43; (with_reducible refine (secateurref02_Cut.calls k _ _ t604 a2_0 a2_1 t646 _ ?side1 ?side2 A38.out).mono ?_); (case side1 => repeat (first | exact (Kd.R_reads' HO606.out).2.2 | (with_reducible refine Kd.C_alloc ?_ _) | (with_reducible refine Kd.C_drewN ?_ _) | (with_reducible refine Kd.C_drew ?_))); (case side2 => exact (Kd.R_reads' HO606.out).2.1); rintro e w50 ⟨v647, rfl, ho0, hb⟩; have n0_ := Aside0.mk (Kd.R_elder' (by (with_reducible repeat (first | apply Kd.R_alloc | apply Kd.R_drewN | apply Kd.R_drew)); exact HO606.out) (Kd.R_base ho0) hb); have n1_ := Aside0.mk (Kd.R_elder' (by (with_reducible repeat (first | apply Kd.R_alloc | apply Kd.R_drewN | apply Kd.R_drew)); exact HO609.out) (Kd.R_base ho0) hb); have n2_ := Aside0.mk (Kd.R_elder' (by (with_reducible repeat (first | apply Kd.R_alloc | apply Kd.R_drewN | apply Kd.R_drew)); exact HO615.out) (Kd.R_base ho0) hb); have n3_ := Aside0.mk (Kd.R_elder' (by (with_reducible repeat (first | apply Kd.R_alloc | apply Kd.R_drewN | apply Kd.R_drew)); exact HO621.out) (Kd.R_base ho0) hb); have n4_ := Aside0.mk (Kd.R_elder' (by (with_reducible repeat (first | apply Kd.R_alloc | apply Kd.R_drewN | apply Kd.R_drew)); exact HO624.out) (Kd.R_base ho0) hb); have n5_ := Aside0.mk (Kd.R_elder' (by (with_reducible repeat (first | apply Kd.R_alloc | apply Kd.R_drewN | apply Kd.R_drew)); exact HO627.out) (Kd.R_base ho0) hb); have n6_ := Aside0.mk (Kd.R_elder' (by (with_reducible repeat (first | apply Kd.R_alloc | apply Kd.R_drewN | apply Kd.R_drew)); exact HO630.out) (Kd.R_base ho0) hb); have n7_ := Aside0.mk (Kd.R_elder' (by (with_reducible repeat (first | apply Kd.R_alloc | apply Kd.R_drewN | apply Kd.R_drew)); exact HO633.out) (Kd.R_base ho0) hb); have n8_ := Aside0.mk (Kd.R_elder' (by (with_reducible repeat (first | apply Kd.R_alloc | apply Kd.R_drewN | apply Kd.R_drew)); exact HO636.out) (Kd.R_base ho0) hb); have n9_ := Aside0.mk (Kd.R_elder' (by (with_reducible repeat (first | apply Kd.R_alloc | apply Kd.R_drewN | apply Kd.R_drew)); exact HO640.out) (Kd.R_base ho0) hb); have n10_ := Aside0.mk (Kd.R_elder' (by (with_reducible repeat (first | apply Kd.R_alloc | apply Kd.R_drewN | apply Kd.R_drew)); exact HO644.out) (Kd.R_base ho0) hb); have n11_ := Aside0.mk (Kd.R_lower (Kd.R_new' (Kd.R_new' (Kd.R_new' (Kd.R_new' (Kd.R_new' (Kd.R_new' (Kd.R_new' (Kd.R_new' (Kd.R_new' (Kd.R_new' (Kd.R_new' ho0 (Kd.R_lt (by (with_reducible repeat (first | apply Kd.R_alloc | apply Kd.R_drewN | apply Kd.R_drew)); exact HO606.out))) (Kd.R_lt (by (with_reducible repeat (first | apply Kd.R_alloc | apply Kd.R_drewN | apply Kd.R_drew)); exact HO609.out))) (Kd.R_lt (by (with_reducible repeat (first | apply Kd.R_alloc | apply Kd.R_drewN | apply Kd.R_drew)); exact HO615.out))) (Kd.R_lt (by (with_reducible repeat (first | apply Kd.R_alloc | apply Kd.R_drewN | apply Kd.R_drew)); exact HO621.out))) (Kd.R_lt (by (with_reducible repeat (first | apply Kd.R_alloc | apply Kd.R_drewN | apply Kd.R_drew)); exact HO624.out))) (Kd.R_lt (by (with_reducible repeat (first | apply Kd.R_alloc | apply Kd.R_drewN | apply Kd.R_drew)); exact HO627.out))) (Kd.R_lt (by (with_reducible repeat (first | apply Kd.R_alloc | apply Kd.R_drewN | apply Kd.R_drew)); exact HO630.out))) (Kd.R_lt (by (with_reducible repeat (first | apply Kd.R_alloc | apply Kd.R_drewN | apply Kd.R_drew)); exact HO633.out))) (Kd.R_lt (by (with_reducible repeat (first | apply Kd.R_alloc | apply Kd.R_drewN | apply Kd.R_drew)); exact HO636.out))) (Kd.R_lt (by (with_reducible repeat (first | apply Kd.R_alloc | apply Kd.R_drewN | apply Kd.R_drew)); exact HO640.out))) (Kd.R_lt (by (with_reducible repeat (first | apply Kd.R_alloc | apply Kd.R_drewN | apply Kd.R_drew)); exact HO644.out))) (below_size (by repeat (first | (with_reducible first | exact HB.out | apply below_alloc | apply pw_below_drewN | apply below_drew1 | refine below_set ?_ GE603.out) | exact HB.out)))); have n12_ := Aside0.mk (blk_below (g := gb603) (o := .cells #[.int .i64 a2_0, .int .i64 a2_1] 49 (0, 0)) (by (with_reducible repeat (first | refine blk_drewN ?_ _ | refine blk_drew ?_ | refine blk_alloc ?_ _)); exact BK603.out) hb); have n13_ := Aside0.mk (below_step (by repeat (first | (with_reducible first | exact HB.out | apply below_alloc | apply pw_below_drewN | apply below_drew1 | refine below_set ?_ GE603.out) | exact HB.out)) hb); clear HO606; clear HO609; clear HO615; clear HO621; clear HO624; clear HO627; clear HO630; clear HO633; clear HO636; clear HO640; clear HO644; clear BK603; clear HB; have HO606 := n0_; have HO609 := n1_; have HO615 := n2_; have HO621 := n3_; have HO624 := n4_; have HO627 := n5_; have HO630 := n6_; have HO633 := n7_; have HO636 := n8_; have HO640 := n9_; have HO644 := n10_; have HO648 := n11_; have BK603 := n12_; have HB := n13_; clear n0_ n1_ n2_ n3_ n4_ n5_ n6_ n7_ n8_ n9_ n10_ n11_ n12_ n13_; (try clear hb); (try clear hb2); (try clear hk); (try clear hi); (try clear ho0); obtain ⟨Ao51, co51, eo51⟩ := Kd.R_slice HO633.out; subst eo51; obtain ⟨Ao52, co52, eo52⟩ := Kd.R_slice HO648.out; subst eo52) | (go_at_call 17; (with_reducible refine (secateurref02_Same.calls k _ _ t631 _ _ t646 t649 _ ?side1 ?side2 ?side3 ?side4 A39.out).mono ?_); (case side1 => repeat (first | exact (Kd.R_reads' HO633.out).2.2 | (with_reducible refine Kd.C_alloc ?_ _) | (with_reducible refine Kd.C_drewN ?_ _) | (with_reducible refine Kd.C_drew ?_))); (case side2 => exact (Kd.R_reads' HO633.out).2.1); (case side3 => repeat (first | exact (Kd.R_reads' HO648.out).2.2 | (with_reducible refine Kd.C_alloc ?_ _) | (with_reducible refine Kd.C_drewN ?_ _) | (with_reducible refine Kd.C_drew ?_))); (case side4 => exact (Kd.R_reads' HO648.out).2.1); rintro e w' ⟨rfl, ⟨nd, rfl⟩⟩))
       go_meet
       case rel => exact ⟨_, (!t649), (by first | rfl | (simp; done) | (simp [*]; done)), H', ⟨by first | omega | exact Nat.le_refl _⟩, ⟨by (with_reducible repeat (first | apply Kd.R_alloc | apply Kd.R_drewN | apply Kd.R_drew)); exact Kd.R_mono HO606.out (fun _ hk => ⟨hk.1.1.1.1.1.1.1.1.1.1, ⟨hk.1.1.1.1.1.1.1.1.1.2, ⟨hk.1.1.1.1.1.1.1.1.2, ⟨hk.1.1.1.1.1.1.1.2, ⟨hk.1.1.1.1.1.1.2, ⟨hk.1.1.1.1.1.2, hk.1.1.1.1.2⟩⟩⟩⟩⟩⟩)⟩, ⟨by (with_reducible repeat (first | apply Kd.R_alloc | apply Kd.R_drewN | apply Kd.R_drew)); exact Kd.R_mono HO609.out (fun _ hk => ⟨hk.1.1.1.1.1.1.1.1.1.1, ⟨hk.1.1.1.1.1.1.1.1.1.2, ⟨hk.1.1.1.1.1.1.1.1.2, ⟨hk.1.1.1.1.1.1.1.2, ⟨hk.1.1.1.1.1.1.2, ⟨hk.1.1.1.1.1.2, hk.1.1.1.1.2⟩⟩⟩⟩⟩⟩)⟩, ⟨by (with_reducible repeat (first | apply Kd.R_alloc | apply Kd.R_drewN | apply Kd.R_drew)); exact Kd.R_mono HO615.out (fun _ hk => ⟨hk.1.1.1.1.1.1.1.1.1.1, ⟨hk.1.1.1.1.1.1.1.1.1.2, ⟨hk.1.1.1.1.1.1.1.1.2, ⟨hk.1.1.1.1.1.1.1.2, ⟨hk.1.1.1.1.1.1.2, ⟨hk.1.1.1.1.1.2, hk.1.1.1.1.2⟩⟩⟩⟩⟩⟩)⟩, ⟨by (with_reducible repeat (first | apply Kd.R_alloc | apply Kd.R_drewN | apply Kd.R_drew)); exact Kd.R_mono HO621.out (fun _ hk => ⟨hk.1.1.1.1.1.1.1.1.1, ⟨hk.1.1.1.1.1.1.1.1.2.1, ⟨hk.1.1.1.1.1.1.1.1.2.2, ⟨hk.1.1.1.1.1.1.1.2, ⟨hk.1.1.1.1.1.1.2, ⟨hk.1.1.1.1.1.2, hk.1.1.1.1.2⟩⟩⟩⟩⟩⟩)⟩, ⟨by (with_reducible repeat (first | apply Kd.R_alloc | apply Kd.R_drewN | apply Kd.R_drew)); exact Kd.R_mono HO624.out (fun _ hk => ⟨hk.1.1.1.1.1.1.1.1.1.1.2, ⟨hk.1.1.1.1.1.1.1.1.1.2, ⟨hk.1.1.1.1.1.1.1.1.2, ⟨hk.1.1.1.1.1.1.1.2, ⟨hk.1.1.1.1.1.1.2, ⟨hk.1.1.1.1.1.2, hk.1.1.1.1.2⟩⟩⟩⟩⟩⟩)⟩, ⟨by (with_reducible repeat (first | apply Kd.R_alloc | apply Kd.R_drewN | apply Kd.R_drew)); exact Kd.R_mono HO627.out (fun _ hk => ⟨hk.1.1.1.1.1.1.1.1.1.1.2, ⟨hk.1.1.1.1.1.1.1.1.1.2, ⟨hk.1.1.1.1.1.1.1.1.2, ⟨hk.1.1.1.1.1.1.1.2, ⟨hk.1.1.1.1.1.1.2, ⟨hk.1.1.1.1.1.2, hk.1.1.1.1.2⟩⟩⟩⟩⟩⟩)⟩, ⟨by (with_reducible repeat (first | apply Kd.R_alloc | apply Kd.R_drewN | apply Kd.R_drew)); exact Kd.R_mono HO630.out (fun _ hk => ⟨hk.1.1.1.1.1.1.1.1.1.1.2, ⟨hk.1.1.1.1.1.1.1.1.1.2, ⟨hk.1.1.1.1.1.1.1.1.2, ⟨hk.1.1.1.1.1.1.1.2, ⟨hk.1.1.1.1.1.1.2, ⟨hk.1.1.1.1.1.2, hk.1.1.1.1.2⟩⟩⟩⟩⟩⟩)⟩, ⟨by (with_reducible repeat (first | apply Kd.R_alloc | apply Kd.R_drewN | apply Kd.R_drew)); exact Kd.R_mono HO633.out (fun _ hk => ⟨hk.1.1.1.1.1.1.1.1.1.1.2, ⟨hk.1.1.1.1.1.1.1.1.1.2, ⟨hk.1.1.1.1.1.1.1.1.2, ⟨hk.1.1.1.1.1.1.1.2, ⟨hk.1.1.1.1.1.1.2, ⟨hk.1.1.1.1.1.2, hk.1.1.1.1.2⟩⟩⟩⟩⟩⟩)⟩, ⟨by (with_reducible repeat (first | refine blk_drewN ?_ _ | refine blk_drew ?_ | refine blk_alloc ?_ _)); exact BK603.out⟩, ⟨by repeat (first | (with_reducible first | exact HB.out | apply below_alloc | apply pw_below_drewN | apply below_drew1 | refine below_set ?_ GE603.out) | exact HB.out)⟩⟩
      ·replace c37 := Bool.eq_false_iff.mpr c37
       subst c37
       have H1 : (secateurlaw02_DomJoins.j0 k t604 t607 y613 y619 t622 t625 t628 t631 true) = some r := by rw [if_neg (show ¬ (false = true) by decide)] at H; exact H
       clear H
       have H := H1
       clear H1
       have H' := Aside0.mk H
       clear H
       go_wp2_with (first | ((with_reducible refine gate_callee (f := 41) rfl ?_); refine goesL_ (some 47) rfl rfl Try.func41 (by kernel_rfl) rfl #[.slice Ao19 t604.length co19, .slice Ao23 t607.length co23, .bool true] rfl (by (try simp only [List.map_toArray, List.map_cons, List.map_nil]); first | done | rfl | (simp only [List.length_drop, List.length_take]; rfl)) ?_; (with_reducible refine (secateurref02_Pick.calls k _ _ t604 _ _ t607 true t634 _ ?side1 ?side2 ?side3 ?side4 A29.out).mono ?_); (case side1 => repeat (first | exact (Kd.R_reads' HO606.out).2.2 | (with_reducible refine Kd.C_alloc ?_ _) | (with_reducible refine Kd.C_drewN ?_ _) | (with_reducible refine Kd.C_drew ?_))); (case side2 => exact (Kd.R_reads' HO606.out).2.1); (case side3 => repeat (first | exact (Kd.R_reads' HO609.out).2.2 | (with_reducible refine Kd.C_alloc ?_ _) | (with_reducible refine Kd.C_drewN ?_ _) | (with_reducible refine Kd.C_drew ?_))); (case side4 => exact (Kd.R_reads' HO609.out).2.1); rintro e w53 ⟨v635, rfl, ho0, hb⟩; refine ⟨_, rfl, ?_⟩; have n0_ := Aside0.mk (Kd.R_elder' (by (with_reducible repeat (first | apply Kd.R_alloc | apply Kd.R_drewN | apply Kd.R_drew)); exact HO606.out) (Kd.R_base ho0) hb); have n1_ := Aside0.mk (Kd.R_elder' (by (with_reducible repeat (first | apply Kd.R_alloc | apply Kd.R_drewN | apply Kd.R_drew)); exact HO609.out) (Kd.R_base ho0) hb); have n2_ := Aside0.mk (Kd.R_elder' (by (with_reducible repeat (first | apply Kd.R_alloc | apply Kd.R_drewN | apply Kd.R_drew)); exact HO615.out) (Kd.R_base ho0) hb); have n3_ := Aside0.mk (Kd.R_elder' (by (with_reducible repeat (first | apply Kd.R_alloc | apply Kd.R_drewN | apply Kd.R_drew)); exact HO621.out) (Kd.R_base ho0) hb); have n4_ := Aside0.mk (Kd.R_elder' (by (with_reducible repeat (first | apply Kd.R_alloc | apply Kd.R_drewN | apply Kd.R_drew)); exact HO624.out) (Kd.R_base ho0) hb); have n5_ := Aside0.mk (Kd.R_elder' (by (with_reducible repeat (first | apply Kd.R_alloc | apply Kd.R_drewN | apply Kd.R_drew)); exact HO627.out) (Kd.R_base ho0) hb); have n6_ := Aside0.mk (Kd.R_elder' (by (with_reducible repeat (first | apply Kd.R_alloc | apply Kd.R_drewN | apply Kd.R_drew)); exact HO630.out) (Kd.R_base ho0) hb); have n7_ := Aside0.mk (Kd.R_elder' (by (with_reducible repeat (first | apply Kd.R_alloc | apply Kd.R_drewN | apply Kd.R_drew)); exact HO633.out) (Kd.R_base ho0) hb); have n8_ := Aside0.mk (Kd.R_lower (Kd.R_new' (Kd.R_new' (Kd.R_new' (Kd.R_new' (Kd.R_new' (Kd.R_new' (Kd.R_new' (Kd.R_new' ho0 (Kd.R_lt (by (with_reducible repeat (first | apply Kd.R_alloc | apply Kd.R_drewN | apply Kd.R_drew)); exact HO606.out))) (Kd.R_lt (by (with_reducible repeat (first | apply Kd.R_alloc | apply Kd.R_drewN | apply Kd.R_drew)); exact HO609.out))) (Kd.R_lt (by (with_reducible repeat (first | apply Kd.R_alloc | apply Kd.R_drewN | apply Kd.R_drew)); exact HO615.out))) (Kd.R_lt (by (with_reducible repeat (first | apply Kd.R_alloc | apply Kd.R_drewN | apply Kd.R_drew)); exact HO621.out))) (Kd.R_lt (by (with_reducible repeat (first | apply Kd.R_alloc | apply Kd.R_drewN | apply Kd.R_drew)); exact HO624.out))) (Kd.R_lt (by (with_reducible repeat (first | apply Kd.R_alloc | apply Kd.R_drewN | apply Kd.R_drew)); exact HO627.out))) (Kd.R_lt (by (with_reducible repeat (first | apply Kd.R_alloc | apply Kd.R_drewN | apply Kd.R_drew)); exact HO630.out))) (Kd.R_lt (by (with_reducible repeat (first | apply Kd.R_alloc | apply Kd.R_drewN | apply Kd.R_drew)); exact HO633.out))) (below_size (by repeat (first | (with_reducible first | exact HB.out | apply below_alloc | apply pw_below_drewN | apply below_drew1 | refine below_set ?_ GE603.out) | exact HB.out)))); have n9_ := Aside0.mk (blk_below (g := gb603) (o := .cells #[.int .i64 a2_0, .int .i64 a2_1] 49 (0, 0)) (by (with_reducible repeat (first | refine blk_drewN ?_ _ | refine blk_drew ?_ | refine blk_alloc ?_ _)); exact BK603.out) hb); have n10_ := Aside0.mk (below_step (by repeat (first | (with_reducible first | exact HB.out | apply below_alloc | apply pw_below_drewN | apply below_drew1 | refine below_set ?_ GE603.out) | exact HB.out)) hb); clear HO606; clear HO609; clear HO615; clear HO621; clear HO624; clear HO627; clear HO630; clear HO633; clear BK603; clear HB; have HO606 := n0_; have HO609 := n1_; have HO615 := n2_; have HO621 := n3_; have HO624 := n4_; have HO627 := n5_; have HO630 := n6_; have HO633 := n7_; have HO636 := n8_; have BK603 := n9_; have HB := n10_; clear n0_ n1_ n2_ n3_ n4_ n5_ n6_ n7_ n8_ n9_ n10_; (try clear hb); (try clear hb2); (try clear hk); (try clear hi); (try clear ho0); obtain ⟨Ao54, co54, eo54⟩ := Kd.R_slice HO624.out; subst eo54; obtain ⟨Ao55, co55, eo55⟩ := Kd.R_slice HO636.out; subst eo55) | ((with_reducible refine gate_callee (f := 17) rfl ?_); refine goesL_ (some 48) rfl rfl Try.func17 (by kernel_rfl) rfl #[.slice Ao54 t622.length co54, .slice Ao55 t634.length co55] rfl (by (try simp only [List.map_toArray, List.map_cons, List.map_nil]); first | done | rfl | (simp only [List.length_drop, List.length_take]; rfl)) ?_; (with_reducible refine (secateurref02_Same.calls k _ _ t622 _ _ t634 true _ ?side1 ?side2 ?side3 ?side4 A30.out).mono ?_); (case side1 => repeat (first | exact (Kd.R_reads' HO624.out).2.2 | (with_reducible refine Kd.C_alloc ?_ _) | (with_reducible refine Kd.C_drewN ?_ _) | (with_reducible refine Kd.C_drew ?_))); (case side2 => exact (Kd.R_reads' HO624.out).2.1); (case side3 => repeat (first | exact (Kd.R_reads' HO636.out).2.2 | (with_reducible refine Kd.C_alloc ?_ _) | (with_reducible refine Kd.C_drewN ?_ _) | (with_reducible refine Kd.C_drew ?_))); (case side4 => exact (Kd.R_reads' HO636.out).2.1); rintro e w' ⟨rfl, ⟨nd, rfl⟩⟩; refine ⟨_, rfl, ?_⟩) | (go_at_call 42; (with_reducible refine (secateurref02_Join.calls k _ _ t604 _ _ t607 t638 _ ?side1 ?side2 ?side3 ?side4 A32.out).mono ?_); (case side1 => repeat (first | exact (Kd.R_reads' HO606.out).2.2 | (with_reducible refine Kd.C_alloc ?_ _) | (with_reducible refine Kd.C_drewN ?_ _) | (with_reducible refine Kd.C_drew ?_))); (case side2 => exact (Kd.R_reads' HO606.out).2.1); (case side3 => repeat (first | exact (Kd.R_reads' HO609.out).2.2 | (with_reducible refine Kd.C_alloc ?_ _) | (with_reducible refine Kd.C_drewN ?_ _) | (with_reducible refine Kd.C_drew ?_))); (case side4 => exact (Kd.R_reads' HO609.out).2.1); rintro e w56 ⟨v639, rfl, ho0, hb⟩; have n0_ := Aside0.mk (Kd.R_elder' (by (with_reducible repeat (first | apply Kd.R_alloc | apply Kd.R_drewN | apply Kd.R_drew)); exact HO606.out) (Kd.R_base ho0) hb); have n1_ := Aside0.mk (Kd.R_elder' (by (with_reducible repeat (first | apply Kd.R_alloc | apply Kd.R_drewN | apply Kd.R_drew)); exact HO609.out) (Kd.R_base ho0) hb); have n2_ := Aside0.mk (Kd.R_elder' (by (with_reducible repeat (first | apply Kd.R_alloc | apply Kd.R_drewN | apply Kd.R_drew)); exact HO615.out) (Kd.R_base ho0) hb); have n3_ := Aside0.mk (Kd.R_elder' (by (with_reducible repeat (first | apply Kd.R_alloc | apply Kd.R_drewN | apply Kd.R_drew)); exact HO621.out) (Kd.R_base ho0) hb); have n4_ := Aside0.mk (Kd.R_elder' (by (with_reducible repeat (first | apply Kd.R_alloc | apply Kd.R_drewN | apply Kd.R_drew)); exact HO624.out) (Kd.R_base ho0) hb); have n5_ := Aside0.mk (Kd.R_elder' (by (with_reducible repeat (first | apply Kd.R_alloc | apply Kd.R_drewN | apply Kd.R_drew)); exact HO627.out) (Kd.R_base ho0) hb); have n6_ := Aside0.mk (Kd.R_elder' (by (with_reducible repeat (first | apply Kd.R_alloc | apply Kd.R_drewN | apply Kd.R_drew)); exact HO630.out) (Kd.R_base ho0) hb); have n7_ := Aside0.mk (Kd.R_elder' (by (with_reducible repeat (first | apply Kd.R_alloc | apply Kd.R_drewN | apply Kd.R_drew)); exact HO633.out) (Kd.R_base ho0) hb); have n8_ := Aside0.mk (Kd.R_elder' (by (with_reducible repeat (first | apply Kd.R_alloc | apply Kd.R_drewN | apply Kd.R_drew)); exact HO636.out) (Kd.R_base ho0) hb); have n9_ := Aside0.mk (Kd.R_lower (Kd.R_new' (Kd.R_new' (Kd.R_new' (Kd.R_new' (Kd.R_new' (Kd.R_new' (Kd.R_new' (Kd.R_new' (Kd.R_new' ho0 (Kd.R_lt (by (with_reducible repeat (first | apply Kd.R_alloc | apply Kd.R_drewN | apply Kd.R_drew)); exact HO606.out))) (Kd.R_lt (by (with_reducible repeat (first | apply Kd.R_alloc | apply Kd.R_drewN | apply Kd.R_drew)); exact HO609.out))) (Kd.R_lt (by (with_reducible repeat (first | apply Kd.R_alloc | apply Kd.R_drewN | apply Kd.R_drew)); exact HO615.out))) (Kd.R_lt (by (with_reducible repeat (first | apply Kd.R_alloc | apply Kd.R_drewN | apply Kd.R_drew)); exact HO621.out))) (Kd.R_lt (by (with_reducible repeat (first | apply Kd.R_alloc | apply Kd.R_drewN | apply Kd.R_drew)); exact HO624.out))) (Kd.R_lt (by (with_reducible repeat (first | apply Kd.R_alloc | apply Kd.R_drewN | apply Kd.R_drew)); exact HO627.out))) (Kd.R_lt (by (with_reducible repeat (first | apply Kd.R_alloc | apply Kd.R_drewN | apply Kd.R_drew)); exact HO630.out))) (Kd.R_lt (by (with_reducible repeat (first | apply Kd.R_alloc | apply Kd.R_drewN | apply Kd.R_drew)); exact HO633.out))) (Kd.R_lt (by (with_reducible repeat (first | apply Kd.R_alloc | apply Kd.R_drewN | apply Kd.R_drew)); exact HO636.out))) (below_size (by repeat (first | (with_reducible first | exact HB.out | apply below_alloc | apply pw_below_drewN | apply below_drew1 | refine below_set ?_ GE603.out) | exact HB.out)))); have n10_ := Aside0.mk (blk_below (g := gb603) (o := .cells #[.int .i64 a2_0, .int .i64 a2_1] 49 (0, 0)) (by (with_reducible repeat (first | refine blk_drewN ?_ _ | refine blk_drew ?_ | refine blk_alloc ?_ _)); exact BK603.out) hb); have n11_ := Aside0.mk (below_step (by repeat (first | (with_reducible first | exact HB.out | apply below_alloc | apply pw_below_drewN | apply below_drew1 | refine below_set ?_ GE603.out) | exact HB.out)) hb); clear HO606; clear HO609; clear HO615; clear HO621; clear HO624; clear HO627; clear HO630; clear HO633; clear HO636; clear BK603; clear HB; have HO606 := n0_; have HO609 := n1_; have HO615 := n2_; have HO621 := n3_; have HO624 := n4_; have HO627 := n5_; have HO630 := n6_; have HO633 := n7_; have HO636 := n8_; have HO640 := n9_; have BK603 := n10_; have HB := n11_; clear n0_ n1_ n2_ n3_ n4_ n5_ n6_ n7_ n8_ n9_ n10_ n11_; (try clear hb); (try clear hb2); (try clear hk); (try clear hi); (try clear ho0); obtain ⟨Ao57, co57, eo57⟩ := Kd.R_slice HO627.out; subst eo57; obtain ⟨Ao58, co58, eo58⟩ := Kd.R_slice HO640.out; subst eo58) | (go_at_call 17; (with_reducible refine (secateurref02_Same.calls k _ _ t625 _ _ t638 true _ ?side1 ?side2 ?side3 ?side4 A33.out).mono ?_); (case side1 => repeat (first | exact (Kd.R_reads' HO627.out).2.2 | (with_reducible refine Kd.C_alloc ?_ _) | (with_reducible refine Kd.C_drewN ?_ _) | (with_reducible refine Kd.C_drew ?_))); (case side2 => exact (Kd.R_reads' HO627.out).2.1); (case side3 => repeat (first | exact (Kd.R_reads' HO640.out).2.2 | (with_reducible refine Kd.C_alloc ?_ _) | (with_reducible refine Kd.C_drewN ?_ _) | (with_reducible refine Kd.C_drew ?_))); (case side4 => exact (Kd.R_reads' HO640.out).2.1); rintro e w' ⟨rfl, ⟨nd, rfl⟩⟩) | (go_at_call 41; (with_reducible refine (secateurref02_Pick.calls k _ _ t604 _ _ t607 false t642 _ ?side1 ?side2 ?side3 ?side4 A35.out).mono ?_); (case side1 => repeat (first | exact (Kd.R_reads' HO606.out).2.2 | (with_reducible refine Kd.C_alloc ?_ _) | (with_reducible refine Kd.C_drewN ?_ _) | (with_reducible refine Kd.C_drew ?_))); (case side2 => exact (Kd.R_reads' HO606.out).2.1); (case side3 => repeat (first | exact (Kd.R_reads' HO609.out).2.2 | (with_reducible refine Kd.C_alloc ?_ _) | (with_reducible refine Kd.C_drewN ?_ _) | (with_reducible refine Kd.C_drew ?_))); (case side4 => exact (Kd.R_reads' HO609.out).2.1); rintro e w59 ⟨v643, rfl, ho0, hb⟩; have n0_ := Aside0.mk (Kd.R_elder' (by (with_reducible repeat (first | apply Kd.R_alloc | apply Kd.R_drewN | apply Kd.R_drew)); exact HO606.out) (Kd.R_base ho0) hb); have n1_ := Aside0.mk (Kd.R_elder' (by (with_reducible repeat (first | apply Kd.R_alloc | apply Kd.R_drewN | apply Kd.R_drew)); exact HO609.out) (Kd.R_base ho0) hb); have n2_ := Aside0.mk (Kd.R_elder' (by (with_reducible repeat (first | apply Kd.R_alloc | apply Kd.R_drewN | apply Kd.R_drew)); exact HO615.out) (Kd.R_base ho0) hb); have n3_ := Aside0.mk (Kd.R_elder' (by (with_reducible repeat (first | apply Kd.R_alloc | apply Kd.R_drewN | apply Kd.R_drew)); exact HO621.out) (Kd.R_base ho0) hb); have n4_ := Aside0.mk (Kd.R_elder' (by (with_reducible repeat (first | apply Kd.R_alloc | apply Kd.R_drewN | apply Kd.R_drew)); exact HO624.out) (Kd.R_base ho0) hb); have n5_ := Aside0.mk (Kd.R_elder' (by (with_reducible repeat (first | apply Kd.R_alloc | apply Kd.R_drewN | apply Kd.R_drew)); exact HO627.out) (Kd.R_base ho0) hb); have n6_ := Aside0.mk (Kd.R_elder' (by (with_reducible repeat (first | apply Kd.R_alloc | apply Kd.R_drewN | apply Kd.R_drew)); exact HO630.out) (Kd.R_base ho0) hb); have n7_ := Aside0.mk (Kd.R_elder' (by (with_reducible repeat (first | apply Kd.R_alloc | apply Kd.R_drewN | apply Kd.R_drew)); exact HO633.out) (Kd.R_base ho0) hb); have n8_ := Aside0.mk (Kd.R_elder' (by (with_reducible repeat (first | apply Kd.R_alloc | apply Kd.R_drewN | apply Kd.R_drew)); exact HO636.out) (Kd.R_base ho0) hb); have n9_ := Aside0.mk (Kd.R_elder' (by (with_reducible repeat (first | apply Kd.R_alloc | apply Kd.R_drewN | apply Kd.R_drew)); exact HO640.out) (Kd.R_base ho0) hb); have n10_ := Aside0.mk (Kd.R_lower (Kd.R_new' (Kd.R_new' (Kd.R_new' (Kd.R_new' (Kd.R_new' (Kd.R_new' (Kd.R_new' (Kd.R_new' (Kd.R_new' (Kd.R_new' ho0 (Kd.R_lt (by (with_reducible repeat (first | apply Kd.R_alloc | apply Kd.R_drewN | apply Kd.R_drew)); exact HO606.out))) (Kd.R_lt (by (with_reducible repeat (first | apply Kd.R_alloc | apply Kd.R_drewN | apply Kd.R_drew)); exact HO609.out))) (Kd.R_lt (by (with_reducible repeat (first | apply Kd.R_alloc | apply Kd.R_drewN | apply Kd.R_drew)); exact HO615.out))) (Kd.R_lt (by (with_reducible repeat (first | apply Kd.R_alloc | apply Kd.R_drewN | apply Kd.R_drew)); exact HO621.out))) (Kd.R_lt (by (with_reducible repeat (first | apply Kd.R_alloc | apply Kd.R_drewN | apply Kd.R_drew)); exact HO624.out))) (Kd.R_lt (by (with_reducible repeat (first | apply Kd.R_alloc | apply Kd.R_drewN | apply Kd.R_drew)); exact HO627.out))) (Kd.R_lt (by (with_reducible repeat (first | apply Kd.R_alloc | apply Kd.R_drewN | apply Kd.R_drew)); exact HO630.out))) (Kd.R_lt (by (with_reducible repeat (first | apply Kd.R_alloc | apply Kd.R_drewN | apply Kd.R_drew)); exact HO633.out))) (Kd.R_lt (by (with_reducible repeat (first | apply Kd.R_alloc | apply Kd.R_drewN | apply Kd.R_drew)); exact HO636.out))) (Kd.R_lt (by (with_reducible repeat (first | apply Kd.R_alloc | apply Kd.R_drewN | apply Kd.R_drew)); exact HO640.out))) (below_size (by repeat (first | (with_reducible first | exact HB.out | apply below_alloc | apply pw_below_drewN | apply below_drew1 | refine below_set ?_ GE603.out) | exact HB.out)))); have n11_ := Aside0.mk (blk_below (g := gb603) (o := .cells #[.int .i64 a2_0, .int .i64 a2_1] 49 (0, 0)) (by (with_reducible repeat (first | refine blk_drewN ?_ _ | refine blk_drew ?_ | refine blk_alloc ?_ _)); exact BK603.out) hb); have n12_ := Aside0.mk (below_step (by repeat (first | (with_reducible first | exact HB.out | apply below_alloc | apply pw_below_drewN | apply below_drew1 | refine below_set ?_ GE603.out) | exact HB.out)) hb); clear HO606; clear HO609; clear HO615; clear HO621; clear HO624; clear HO627; clear HO630; clear HO633; clear HO636; clear HO640; clear BK603; clear HB; have HO606 := n0_; have HO609 := n1_; have HO615 := n2_; have HO621 := n3_; have HO624 := n4_; have HO627 := n5_; have HO630 := n6_; have HO633 := n7_; have HO636 := n8_; have HO640 := n9_; have HO644 := n10_; have BK603 := n11_; have HB := n12_; clear n0_ n1_ n2_ n3_ n4_ n5_ n6_ n7_ n8_ n9_ n10_ n11_ n12_; (try clear hb); (try clear hb2); (try clear hk); (try clear hi); (try clear ho0); obtain ⟨Ao60, co60, eo60⟩ := Kd.R_slice HO630.out; subst eo60; obtain ⟨Ao61, co61, eo61⟩ := Kd.R_slice HO644.out; subst eo61) | (go_at_call 17; (with_reducible refine (secateurref02_Same.calls k _ _ t628 _ _ t642 false _ ?side1 ?side2 ?side3 ?side4 A36.out).mono ?_); (case side1 => repeat (first | exact (Kd.R_reads' HO630.out).2.2 | (with_reducible refine Kd.C_alloc ?_ _) | (with_reducible refine Kd.C_drewN ?_ _) | (with_reducible refine Kd.C_drew ?_))); (case side2 => exact (Kd.R_reads' HO630.out).2.1); (case side3 => repeat (first | exact (Kd.R_reads' HO644.out).2.2 | (with_reducible refine Kd.C_alloc ?_ _) | (with_reducible refine Kd.C_drewN ?_ _) | (with_reducible refine Kd.C_drew ?_))); (case side4 => exact (Kd.R_reads' HO644.out).2.1); rintro e w' ⟨rfl, ⟨nd, rfl⟩⟩))
       go_meet
       case rel => exact ⟨_, (true), (by first | rfl | (simp; done) | (simp [*]; done)), H', ⟨by first | omega | exact Nat.le_refl _⟩, ⟨by (with_reducible repeat (first | apply Kd.R_alloc | apply Kd.R_drewN | apply Kd.R_drew)); exact Kd.R_mono HO606.out (fun _ hk => ⟨hk.1.1.1.1.1.1.1.1.1, ⟨hk.1.1.1.1.1.1.1.1.2, ⟨hk.1.1.1.1.1.1.1.2, ⟨hk.1.1.1.1.1.1.2, ⟨hk.1.1.1.1.1.2, ⟨hk.1.1.1.1.2, hk.1.1.1.2⟩⟩⟩⟩⟩⟩)⟩, ⟨by (with_reducible repeat (first | apply Kd.R_alloc | apply Kd.R_drewN | apply Kd.R_drew)); exact Kd.R_mono HO609.out (fun _ hk => ⟨hk.1.1.1.1.1.1.1.1.1, ⟨hk.1.1.1.1.1.1.1.1.2, ⟨hk.1.1.1.1.1.1.1.2, ⟨hk.1.1.1.1.1.1.2, ⟨hk.1.1.1.1.1.2, ⟨hk.1.1.1.1.2, hk.1.1.1.2⟩⟩⟩⟩⟩⟩)⟩, ⟨by (with_reducible repeat (first | apply Kd.R_alloc | apply Kd.R_drewN | apply Kd.R_drew)); exact Kd.R_mono HO615.out (fun _ hk => ⟨hk.1.1.1.1.1.1.1.1.1, ⟨hk.1.1.1.1.1.1.1.1.2, ⟨hk.1.1.1.1.1.1.1.2, ⟨hk.1.1.1.1.1.1.2, ⟨hk.1.1.1.1.1.2, ⟨hk.1.1.1.1.2, hk.1.1.1.2⟩⟩⟩⟩⟩⟩)⟩, ⟨by (with_reducible repeat (first | apply Kd.R_alloc | apply Kd.R_drewN | apply Kd.R_drew)); exact Kd.R_mono HO621.out (fun _ hk => ⟨hk.1.1.1.1.1.1.1.1, ⟨hk.1.1.1.1.1.1.1.2.1, ⟨hk.1.1.1.1.1.1.1.2.2, ⟨hk.1.1.1.1.1.1.2, ⟨hk.1.1.1.1.1.2, ⟨hk.1.1.1.1.2, hk.1.1.1.2⟩⟩⟩⟩⟩⟩)⟩, ⟨by (with_reducible repeat (first | apply Kd.R_alloc | apply Kd.R_drewN | apply Kd.R_drew)); exact Kd.R_mono HO624.out (fun _ hk => ⟨hk.1.1.1.1.1.1.1.1.1.2, ⟨hk.1.1.1.1.1.1.1.1.2, ⟨hk.1.1.1.1.1.1.1.2, ⟨hk.1.1.1.1.1.1.2, ⟨hk.1.1.1.1.1.2, ⟨hk.1.1.1.1.2, hk.1.1.1.2⟩⟩⟩⟩⟩⟩)⟩, ⟨by (with_reducible repeat (first | apply Kd.R_alloc | apply Kd.R_drewN | apply Kd.R_drew)); exact Kd.R_mono HO627.out (fun _ hk => ⟨hk.1.1.1.1.1.1.1.1.1.2, ⟨hk.1.1.1.1.1.1.1.1.2, ⟨hk.1.1.1.1.1.1.1.2, ⟨hk.1.1.1.1.1.1.2, ⟨hk.1.1.1.1.1.2, ⟨hk.1.1.1.1.2, hk.1.1.1.2⟩⟩⟩⟩⟩⟩)⟩, ⟨by (with_reducible repeat (first | apply Kd.R_alloc | apply Kd.R_drewN | apply Kd.R_drew)); exact Kd.R_mono HO630.out (fun _ hk => ⟨hk.1.1.1.1.1.1.1.1.1.2, ⟨hk.1.1.1.1.1.1.1.1.2, ⟨hk.1.1.1.1.1.1.1.2, ⟨hk.1.1.1.1.1.1.2, ⟨hk.1.1.1.1.1.2, ⟨hk.1.1.1.1.2, hk.1.1.1.2⟩⟩⟩⟩⟩⟩)⟩, ⟨by (with_reducible repeat (first | apply Kd.R_alloc | apply Kd.R_drewN | apply Kd.R_drew)); exact Kd.R_mono HO633.out (fun _ hk => ⟨hk.1.1.1.1.1.1.1.1.1.2, ⟨hk.1.1.1.1.1.1.1.1.2, ⟨hk.1.1.1.1.1.1.1.2, ⟨hk.1.1.1.1.1.1.2, ⟨hk.1.1.1.1.1.2, ⟨hk.1.1.1.1.2, hk.1.1.1.2⟩⟩⟩⟩⟩⟩)⟩, ⟨by (with_reducible repeat (first | refine blk_drewN ?_ _ | refine blk_drew ?_ | refine blk_alloc ?_ _)); exact BK603.out⟩, ⟨by repeat (first | (with_reducible first | exact HB.out | apply below_alloc | apply pw_below_drewN | apply below_drew1 | refine below_set ?_ GE603.out) | exact HB.out)⟩⟩
     ·replace c34 := Bool.eq_false_iff.mpr c34
      subst c34
      have H1 : (secateurlaw02_DomJoins.j0 k t604 t607 y613 y619 t622 t625 t628 t631 true) = some r := by rw [if_neg (show ¬ (false = true) by decide)] at H; exact H
      clear H
      have H := H1
      clear H1
      have H' := Aside0.mk H
      clear H
      go_wp2_with (first | ((with_reducible refine gate_callee (f := 41) rfl ?_); refine goesL_ (some 47) rfl rfl Try.func41 (by kernel_rfl) rfl #[.slice Ao19 t604.length co19, .slice Ao23 t607.length co23, .bool true] rfl (by (try simp only [List.map_toArray, List.map_cons, List.map_nil]); first | done | rfl | (simp only [List.length_drop, List.length_take]; rfl)) ?_; (with_reducible refine (secateurref02_Pick.calls k _ _ t604 _ _ t607 true t634 _ ?side1 ?side2 ?side3 ?side4 A29.out).mono ?_); (case side1 => repeat (first | exact (Kd.R_reads' HO606.out).2.2 | (with_reducible refine Kd.C_alloc ?_ _) | (with_reducible refine Kd.C_drewN ?_ _) | (with_reducible refine Kd.C_drew ?_))); (case side2 => exact (Kd.R_reads' HO606.out).2.1); (case side3 => repeat (first | exact (Kd.R_reads' HO609.out).2.2 | (with_reducible refine Kd.C_alloc ?_ _) | (with_reducible refine Kd.C_drewN ?_ _) | (with_reducible refine Kd.C_drew ?_))); (case side4 => exact (Kd.R_reads' HO609.out).2.1); rintro e w62 ⟨v635, rfl, ho0, hb⟩; refine ⟨_, rfl, ?_⟩; have n0_ := Aside0.mk (Kd.R_elder' (by (with_reducible repeat (first | apply Kd.R_alloc | apply Kd.R_drewN | apply Kd.R_drew)); exact HO606.out) (Kd.R_base ho0) hb); have n1_ := Aside0.mk (Kd.R_elder' (by (with_reducible repeat (first | apply Kd.R_alloc | apply Kd.R_drewN | apply Kd.R_drew)); exact HO609.out) (Kd.R_base ho0) hb); have n2_ := Aside0.mk (Kd.R_elder' (by (with_reducible repeat (first | apply Kd.R_alloc | apply Kd.R_drewN | apply Kd.R_drew)); exact HO615.out) (Kd.R_base ho0) hb); have n3_ := Aside0.mk (Kd.R_elder' (by (with_reducible repeat (first | apply Kd.R_alloc | apply Kd.R_drewN | apply Kd.R_drew)); exact HO621.out) (Kd.R_base ho0) hb); have n4_ := Aside0.mk (Kd.R_elder' (by (with_reducible repeat (first | apply Kd.R_alloc | apply Kd.R_drewN | apply Kd.R_drew)); exact HO624.out) (Kd.R_base ho0) hb); have n5_ := Aside0.mk (Kd.R_elder' (by (with_reducible repeat (first | apply Kd.R_alloc | apply Kd.R_drewN | apply Kd.R_drew)); exact HO627.out) (Kd.R_base ho0) hb); have n6_ := Aside0.mk (Kd.R_elder' (by (with_reducible repeat (first | apply Kd.R_alloc | apply Kd.R_drewN | apply Kd.R_drew)); exact HO630.out) (Kd.R_base ho0) hb); have n7_ := Aside0.mk (Kd.R_elder' (by (with_reducible repeat (first | apply Kd.R_alloc | apply Kd.R_drewN | apply Kd.R_drew)); exact HO633.out) (Kd.R_base ho0) hb); have n8_ := Aside0.mk (Kd.R_lower (Kd.R_new' (Kd.R_new' (Kd.R_new' (Kd.R_new' (Kd.R_new' (Kd.R_new' (Kd.R_new' (Kd.R_new' ho0 (Kd.R_lt (by (with_reducible repeat (first | apply Kd.R_alloc | apply Kd.R_drewN | apply Kd.R_drew)); exact HO606.out))) (Kd.R_lt (by (with_reducible repeat (first | apply Kd.R_alloc | apply Kd.R_drewN | apply Kd.R_drew)); exact HO609.out))) (Kd.R_lt (by (with_reducible repeat (first | apply Kd.R_alloc | apply Kd.R_drewN | apply Kd.R_drew)); exact HO615.out))) (Kd.R_lt (by (with_reducible repeat (first | apply Kd.R_alloc | apply Kd.R_drewN | apply Kd.R_drew)); exact HO621.out))) (Kd.R_lt (by (with_reducible repeat (first | apply Kd.R_alloc | apply Kd.R_drewN | apply Kd.R_drew)); exact HO624.out))) (Kd.R_lt (by (with_reducible repeat (first | apply Kd.R_alloc | apply Kd.R_drewN | apply Kd.R_drew)); exact HO627.out))) (Kd.R_lt (by (with_reducible repeat (first | apply Kd.R_alloc | apply Kd.R_drewN | apply Kd.R_drew)); exact HO630.out))) (Kd.R_lt (by (with_reducible repeat (first | apply Kd.R_alloc | apply Kd.R_drewN | apply Kd.R_drew)); exact HO633.out))) (below_size (by repeat (first | (with_reducible first | exact HB.out | apply below_alloc | apply pw_below_drewN | apply below_drew1 | refine below_set ?_ GE603.out) | exact HB.out)))); have n9_ := Aside0.mk (blk_below (g := gb603) (o := .cells #[.int .i64 a2_0, .int .i64 a2_1] 49 (0, 0)) (by (with_reducible repeat (first | refine blk_drewN ?_ _ | refine blk_drew ?_ | refine blk_alloc ?_ _)); exact BK603.out) hb); have n10_ := Aside0.mk (below_step (by repeat (first | (with_reducible first | exact HB.out | apply below_alloc | apply pw_below_drewN | apply below_drew1 | refine below_set ?_ GE603.out) | exact HB.out)) hb); clear HO606; clear HO609; clear HO615; clear HO621; clear HO624; clear HO627; clear HO630; clear HO633; clear BK603; clear HB; have HO606 := n0_; have HO609 := n1_; have HO615 := n2_; have HO621 := n3_; have HO624 := n4_; have HO627 := n5_; have HO630 := n6_; have HO633 := n7_; have HO636 := n8_; have BK603 := n9_; have HB := n10_; clear n0_ n1_ n2_ n3_ n4_ n5_ n6_ n7_ n8_ n9_ n10_; (try clear hb); (try clear hb2); (try clear hk); (try clear hi); (try clear ho0); obtain ⟨Ao63, co63, eo63⟩ := Kd.R_slice HO624.out; subst eo63; obtain ⟨Ao64, co64, eo64⟩ := Kd.R_slice HO636.out; subst eo64) | ((with_reducible refine gate_callee (f := 17) rfl ?_); refine goesL_ (some 48) rfl rfl Try.func17 (by kernel_rfl) rfl #[.slice Ao63 t622.length co63, .slice Ao64 t634.length co64] rfl (by (try simp only [List.map_toArray, List.map_cons, List.map_nil]); first | done | rfl | (simp only [List.length_drop, List.length_take]; rfl)) ?_; (with_reducible refine (secateurref02_Same.calls k _ _ t622 _ _ t634 true _ ?side1 ?side2 ?side3 ?side4 A30.out).mono ?_); (case side1 => repeat (first | exact (Kd.R_reads' HO624.out).2.2 | (with_reducible refine Kd.C_alloc ?_ _) | (with_reducible refine Kd.C_drewN ?_ _) | (with_reducible refine Kd.C_drew ?_))); (case side2 => exact (Kd.R_reads' HO624.out).2.1); (case side3 => repeat (first | exact (Kd.R_reads' HO636.out).2.2 | (with_reducible refine Kd.C_alloc ?_ _) | (with_reducible refine Kd.C_drewN ?_ _) | (with_reducible refine Kd.C_drew ?_))); (case side4 => exact (Kd.R_reads' HO636.out).2.1); rintro e w' ⟨rfl, ⟨nd, rfl⟩⟩; refine ⟨_, rfl, ?_⟩) | (go_at_call 42; (with_reducible refine (secateurref02_Join.calls k _ _ t604 _ _ t607 t638 _ ?side1 ?side2 ?side3 ?side4 A32.out).mono ?_); (case side1 => repeat (first | exact (Kd.R_reads' HO606.out).2.2 | (with_reducible refine Kd.C_alloc ?_ _) | (with_reducible refine Kd.C_drewN ?_ _) | (with_reducible refine Kd.C_drew ?_))); (case side2 => exact (Kd.R_reads' HO606.out).2.1); (case side3 => repeat (first | exact (Kd.R_reads' HO609.out).2.2 | (with_reducible refine Kd.C_alloc ?_ _) | (with_reducible refine Kd.C_drewN ?_ _) | (with_reducible refine Kd.C_drew ?_))); (case side4 => exact (Kd.R_reads' HO609.out).2.1); rintro e w65 ⟨v639, rfl, ho0, hb⟩; have n0_ := Aside0.mk (Kd.R_elder' (by (with_reducible repeat (first | apply Kd.R_alloc | apply Kd.R_drewN | apply Kd.R_drew)); exact HO606.out) (Kd.R_base ho0) hb); have n1_ := Aside0.mk (Kd.R_elder' (by (with_reducible repeat (first | apply Kd.R_alloc | apply Kd.R_drewN | apply Kd.R_drew)); exact HO609.out) (Kd.R_base ho0) hb); have n2_ := Aside0.mk (Kd.R_elder' (by (with_reducible repeat (first | apply Kd.R_alloc | apply Kd.R_drewN | apply Kd.R_drew)); exact HO615.out) (Kd.R_base ho0) hb); have n3_ := Aside0.mk (Kd.R_elder' (by (with_reducible repeat (first | apply Kd.R_alloc | apply Kd.R_drewN | apply Kd.R_drew)); exact HO621.out) (Kd.R_base ho0) hb); have n4_ := Aside0.mk (Kd.R_elder' (by (with_reducible repeat (first | apply Kd.R_alloc | apply Kd.R_drewN | apply Kd.R_drew)); exact HO624.out) (Kd.R_base ho0) hb); have n5_ := Aside0.mk (Kd.R_elder' (by (with_reducible repeat (first | apply Kd.R_alloc | apply Kd.R_drewN | apply Kd.R_drew)); exact HO627.out) (Kd.R_base ho0) hb); have n6_ := Aside0.mk (Kd.R_elder' (by (with_reducible repeat (first | apply Kd.R_alloc | apply Kd.R_drewN | apply Kd.R_drew)); exact HO630.out) (Kd.R_base ho0) hb); have n7_ := Aside0.mk (Kd.R_elder' (by (with_reducible repeat (first | apply Kd.R_alloc | apply Kd.R_drewN | apply Kd.R_drew)); exact HO633.out) (Kd.R_base ho0) hb); have n8_ := Aside0.mk (Kd.R_elder' (by (with_reducible repeat (first | apply Kd.R_alloc | apply Kd.R_drewN | apply Kd.R_drew)); exact HO636.out) (Kd.R_base ho0) hb); have n9_ := Aside0.mk (Kd.R_lower (Kd.R_new' (Kd.R_new' (Kd.R_new' (Kd.R_new' (Kd.R_new' (Kd.R_new' (Kd.R_new' (Kd.R_new' (Kd.R_new' ho0 (Kd.R_lt (by (with_reducible repeat (first | apply Kd.R_alloc | apply Kd.R_drewN | apply Kd.R_drew)); exact HO606.out))) (Kd.R_lt (by (with_reducible repeat (first | apply Kd.R_alloc | apply Kd.R_drewN | apply Kd.R_drew)); exact HO609.out))) (Kd.R_lt (by (with_reducible repeat (first | apply Kd.R_alloc | apply Kd.R_drewN | apply Kd.R_drew)); exact HO615.out))) (Kd.R_lt (by (with_reducible repeat (first | apply Kd.R_alloc | apply Kd.R_drewN | apply Kd.R_drew)); exact HO621.out))) (Kd.R_lt (by (with_reducible repeat (first | apply Kd.R_alloc | apply Kd.R_drewN | apply Kd.R_drew)); exact HO624.out))) (Kd.R_lt (by (with_reducible repeat (first | apply Kd.R_alloc | apply Kd.R_drewN | apply Kd.R_drew)); exact HO627.out))) (Kd.R_lt (by (with_reducible repeat (first | apply Kd.R_alloc | apply Kd.R_drewN | apply Kd.R_drew)); exact HO630.out))) (Kd.R_lt (by (with_reducible repeat (first | apply Kd.R_alloc | apply Kd.R_drewN | apply Kd.R_drew)); exact HO633.out))) (Kd.R_lt (by (with_reducible repeat (first | apply Kd.R_alloc | apply Kd.R_drewN | apply Kd.R_drew)); exact HO636.out))) (below_size (by repeat (first | (with_reducible first | exact HB.out | apply below_alloc | apply pw_below_drewN | apply below_drew1 | refine below_set ?_ GE603.out) | exact HB.out)))); have n10_ := Aside0.mk (blk_below (g := gb603) (o := .cells #[.int .i64 a2_0, .int .i64 a2_1] 49 (0, 0)) (by (with_reducible repeat (first | refine blk_drewN ?_ _ | refine blk_drew ?_ | refine blk_alloc ?_ _)); exact BK603.out) hb); have n11_ := Aside0.mk (below_step (by repeat (first | (with_reducible first | exact HB.out | apply below_alloc | apply pw_below_drewN | apply below_drew1 | refine below_set ?_ GE603.out) | exact HB.out)) hb); clear HO606; clear HO609; clear HO615; clear HO621; clear HO624; clear HO627; clear HO630; clear HO633; clear HO636; clear BK603; clear HB; have HO606 := n0_; have HO609 := n1_; have HO615 := n2_; have HO621 := n3_; have HO624 := n4_; have HO627 := n5_; have HO630 := n6_; have HO633 := n7_; have HO636 := n8_; have HO640 := n9_; have BK603 := n10_; have HB := n11_; clear n0_ n1_ n2_ n3_ n4_ n5_ n6_ n7_ n8_ n9_ n10_ n11_; (try clear hb); (try clear hb2); (try clear hk); (try clear hi); (try clear ho0); obtain ⟨Ao66, co66, eo66⟩ := Kd.R_slice HO627.out; subst eo66; obtain ⟨Ao67, co67, eo67⟩ := Kd.R_slice HO640.out; subst eo67) | (go_at_call 17; (with_reducible refine (secateurref02_Same.calls k _ _ t625 _ _ t638 false _ ?side1 ?side2 ?side3 ?side4 A33.out).mono ?_); (case side1 => repeat (first | exact (Kd.R_reads' HO627.out).2.2 | (with_reducible refine Kd.C_alloc ?_ _) | (with_reducible refine Kd.C_drewN ?_ _) | (with_reducible refine Kd.C_drew ?_))); (case side2 => exact (Kd.R_reads' HO627.out).2.1); (case side3 => repeat (first | exact (Kd.R_reads' HO640.out).2.2 | (with_reducible refine Kd.C_alloc ?_ _) | (with_reducible refine Kd.C_drewN ?_ _) | (with_reducible refine Kd.C_drew ?_))); (case side4 => exact (Kd.R_reads' HO640.out).2.1); rintro e w' ⟨rfl, ⟨nd, rfl⟩⟩))
      go_meet
      case rel => exact ⟨_, (true), (by first | rfl | (simp; done) | (simp [*]; done)), H', ⟨by first | omega | exact Nat.le_refl _⟩, ⟨by (with_reducible repeat (first | apply Kd.R_alloc | apply Kd.R_drewN | apply Kd.R_drew)); exact Kd.R_mono HO606.out (fun _ hk => ⟨hk.1.1.1.1.1.1.1.1, ⟨hk.1.1.1.1.1.1.1.2, ⟨hk.1.1.1.1.1.1.2, ⟨hk.1.1.1.1.1.2, ⟨hk.1.1.1.1.2, ⟨hk.1.1.1.2, hk.1.1.2⟩⟩⟩⟩⟩⟩)⟩, ⟨by (with_reducible repeat (first | apply Kd.R_alloc | apply Kd.R_drewN | apply Kd.R_drew)); exact Kd.R_mono HO609.out (fun _ hk => ⟨hk.1.1.1.1.1.1.1.1, ⟨hk.1.1.1.1.1.1.1.2, ⟨hk.1.1.1.1.1.1.2, ⟨hk.1.1.1.1.1.2, ⟨hk.1.1.1.1.2, ⟨hk.1.1.1.2, hk.1.1.2⟩⟩⟩⟩⟩⟩)⟩, ⟨by (with_reducible repeat (first | apply Kd.R_alloc | apply Kd.R_drewN | apply Kd.R_drew)); exact Kd.R_mono HO615.out (fun _ hk => ⟨hk.1.1.1.1.1.1.1.1, ⟨hk.1.1.1.1.1.1.1.2, ⟨hk.1.1.1.1.1.1.2, ⟨hk.1.1.1.1.1.2, ⟨hk.1.1.1.1.2, ⟨hk.1.1.1.2, hk.1.1.2⟩⟩⟩⟩⟩⟩)⟩, ⟨by (with_reducible repeat (first | apply Kd.R_alloc | apply Kd.R_drewN | apply Kd.R_drew)); exact Kd.R_mono HO621.out (fun _ hk => ⟨hk.1.1.1.1.1.1.1, ⟨hk.1.1.1.1.1.1.2.1, ⟨hk.1.1.1.1.1.1.2.2, ⟨hk.1.1.1.1.1.2, ⟨hk.1.1.1.1.2, ⟨hk.1.1.1.2, hk.1.1.2⟩⟩⟩⟩⟩⟩)⟩, ⟨by (with_reducible repeat (first | apply Kd.R_alloc | apply Kd.R_drewN | apply Kd.R_drew)); exact Kd.R_mono HO624.out (fun _ hk => ⟨hk.1.1.1.1.1.1.1.1.2, ⟨hk.1.1.1.1.1.1.1.2, ⟨hk.1.1.1.1.1.1.2, ⟨hk.1.1.1.1.1.2, ⟨hk.1.1.1.1.2, ⟨hk.1.1.1.2, hk.1.1.2⟩⟩⟩⟩⟩⟩)⟩, ⟨by (with_reducible repeat (first | apply Kd.R_alloc | apply Kd.R_drewN | apply Kd.R_drew)); exact Kd.R_mono HO627.out (fun _ hk => ⟨hk.1.1.1.1.1.1.1.1.2, ⟨hk.1.1.1.1.1.1.1.2, ⟨hk.1.1.1.1.1.1.2, ⟨hk.1.1.1.1.1.2, ⟨hk.1.1.1.1.2, ⟨hk.1.1.1.2, hk.1.1.2⟩⟩⟩⟩⟩⟩)⟩, ⟨by (with_reducible repeat (first | apply Kd.R_alloc | apply Kd.R_drewN | apply Kd.R_drew)); exact Kd.R_mono HO630.out (fun _ hk => ⟨hk.1.1.1.1.1.1.1.1.2, ⟨hk.1.1.1.1.1.1.1.2, ⟨hk.1.1.1.1.1.1.2, ⟨hk.1.1.1.1.1.2, ⟨hk.1.1.1.1.2, ⟨hk.1.1.1.2, hk.1.1.2⟩⟩⟩⟩⟩⟩)⟩, ⟨by (with_reducible repeat (first | apply Kd.R_alloc | apply Kd.R_drewN | apply Kd.R_drew)); exact Kd.R_mono HO633.out (fun _ hk => ⟨hk.1.1.1.1.1.1.1.1.2, ⟨hk.1.1.1.1.1.1.1.2, ⟨hk.1.1.1.1.1.1.2, ⟨hk.1.1.1.1.1.2, ⟨hk.1.1.1.1.2, ⟨hk.1.1.1.2, hk.1.1.2⟩⟩⟩⟩⟩⟩)⟩, ⟨by (with_reducible repeat (first | refine blk_drewN ?_ _ | refine blk_drew ?_ | refine blk_alloc ?_ _)); exact BK603.out⟩, ⟨by repeat (first | (with_reducible first | exact HB.out | apply below_alloc | apply pw_below_drewN | apply below_drew1 | refine below_set ?_ GE603.out) | exact HB.out)⟩⟩
    ·replace c31 := Bool.eq_false_iff.mpr c31
     subst c31
     have H1 : (secateurlaw02_DomJoins.j0 k t604 t607 y613 y619 t622 t625 t628 t631 true) = some r := by rw [if_neg (show ¬ (false = true) by decide)] at H; exact H
     clear H
     have H := H1
     clear H1
     have H' := Aside0.mk H
     clear H
     go_wp2_with (first | ((with_reducible refine gate_callee (f := 41) rfl ?_); refine goesL_ (some 47) rfl rfl Try.func41 (by kernel_rfl) rfl #[.slice Ao19 t604.length co19, .slice Ao23 t607.length co23, .bool true] rfl (by (try simp only [List.map_toArray, List.map_cons, List.map_nil]); first | done | rfl | (simp only [List.length_drop, List.length_take]; rfl)) ?_; (with_reducible refine (secateurref02_Pick.calls k _ _ t604 _ _ t607 true t634 _ ?side1 ?side2 ?side3 ?side4 A29.out).mono ?_); (case side1 => repeat (first | exact (Kd.R_reads' HO606.out).2.2 | (with_reducible refine Kd.C_alloc ?_ _) | (with_reducible refine Kd.C_drewN ?_ _) | (with_reducible refine Kd.C_drew ?_))); (case side2 => exact (Kd.R_reads' HO606.out).2.1); (case side3 => repeat (first | exact (Kd.R_reads' HO609.out).2.2 | (with_reducible refine Kd.C_alloc ?_ _) | (with_reducible refine Kd.C_drewN ?_ _) | (with_reducible refine Kd.C_drew ?_))); (case side4 => exact (Kd.R_reads' HO609.out).2.1); rintro e w68 ⟨v635, rfl, ho0, hb⟩; refine ⟨_, rfl, ?_⟩; have n0_ := Aside0.mk (Kd.R_elder' (by (with_reducible repeat (first | apply Kd.R_alloc | apply Kd.R_drewN | apply Kd.R_drew)); exact HO606.out) (Kd.R_base ho0) hb); have n1_ := Aside0.mk (Kd.R_elder' (by (with_reducible repeat (first | apply Kd.R_alloc | apply Kd.R_drewN | apply Kd.R_drew)); exact HO609.out) (Kd.R_base ho0) hb); have n2_ := Aside0.mk (Kd.R_elder' (by (with_reducible repeat (first | apply Kd.R_alloc | apply Kd.R_drewN | apply Kd.R_drew)); exact HO615.out) (Kd.R_base ho0) hb); have n3_ := Aside0.mk (Kd.R_elder' (by (with_reducible repeat (first | apply Kd.R_alloc | apply Kd.R_drewN | apply Kd.R_drew)); exact HO621.out) (Kd.R_base ho0) hb); have n4_ := Aside0.mk (Kd.R_elder' (by (with_reducible repeat (first | apply Kd.R_alloc | apply Kd.R_drewN | apply Kd.R_drew)); exact HO624.out) (Kd.R_base ho0) hb); have n5_ := Aside0.mk (Kd.R_elder' (by (with_reducible repeat (first | apply Kd.R_alloc | apply Kd.R_drewN | apply Kd.R_drew)); exact HO627.out) (Kd.R_base ho0) hb); have n6_ := Aside0.mk (Kd.R_elder' (by (with_reducible repeat (first | apply Kd.R_alloc | apply Kd.R_drewN | apply Kd.R_drew)); exact HO630.out) (Kd.R_base ho0) hb); have n7_ := Aside0.mk (Kd.R_elder' (by (with_reducible repeat (first | apply Kd.R_alloc | apply Kd.R_drewN | apply Kd.R_drew)); exact HO633.out) (Kd.R_base ho0) hb); have n8_ := Aside0.mk (Kd.R_lower (Kd.R_new' (Kd.R_new' (Kd.R_new' (Kd.R_new' (Kd.R_new' (Kd.R_new' (Kd.R_new' (Kd.R_new' ho0 (Kd.R_lt (by (with_reducible repeat (first | apply Kd.R_alloc | apply Kd.R_drewN | apply Kd.R_drew)); exact HO606.out))) (Kd.R_lt (by (with_reducible repeat (first | apply Kd.R_alloc | apply Kd.R_drewN | apply Kd.R_drew)); exact HO609.out))) (Kd.R_lt (by (with_reducible repeat (first | apply Kd.R_alloc | apply Kd.R_drewN | apply Kd.R_drew)); exact HO615.out))) (Kd.R_lt (by (with_reducible repeat (first | apply Kd.R_alloc | apply Kd.R_drewN | apply Kd.R_drew)); exact HO621.out))) (Kd.R_lt (by (with_reducible repeat (first | apply Kd.R_alloc | apply Kd.R_drewN | apply Kd.R_drew)); exact HO624.out))) (Kd.R_lt (by (with_reducible repeat (first | apply Kd.R_alloc | apply Kd.R_drewN | apply Kd.R_drew)); exact HO627.out))) (Kd.R_lt (by (with_reducible repeat (first | apply Kd.R_alloc | apply Kd.R_drewN | apply Kd.R_drew)); exact HO630.out))) (Kd.R_lt (by (with_reducible repeat (first | apply Kd.R_alloc | apply Kd.R_drewN | apply Kd.R_drew)); exact HO633.out))) (below_size (by repeat (first | (with_reducible first | exact HB.out | apply below_alloc | apply pw_below_drewN | apply below_drew1 | refine below_set ?_ GE603.out) | exact HB.out)))); have n9_ := Aside0.mk (blk_below (g := gb603) (o := .cells #[.int .i64 a2_0, .int .i64 a2_1] 49 (0, 0)) (by (with_reducible repeat (first | refine blk_drewN ?_ _ | refine blk_drew ?_ | refine blk_alloc ?_ _)); exact BK603.out) hb); have n10_ := Aside0.mk (below_step (by repeat (first | (with_reducible first | exact HB.out | apply below_alloc | apply pw_below_drewN | apply below_drew1 | refine below_set ?_ GE603.out) | exact HB.out)) hb); clear HO606; clear HO609; clear HO615; clear HO621; clear HO624; clear HO627; clear HO630; clear HO633; clear BK603; clear HB; have HO606 := n0_; have HO609 := n1_; have HO615 := n2_; have HO621 := n3_; have HO624 := n4_; have HO627 := n5_; have HO630 := n6_; have HO633 := n7_; have HO636 := n8_; have BK603 := n9_; have HB := n10_; clear n0_ n1_ n2_ n3_ n4_ n5_ n6_ n7_ n8_ n9_ n10_; (try clear hb); (try clear hb2); (try clear hk); (try clear hi); (try clear ho0); obtain ⟨Ao69, co69, eo69⟩ := Kd.R_slice HO624.out; subst eo69; obtain ⟨Ao70, co70, eo70⟩ := Kd.R_slice HO636.out; subst eo70) | ((with_reducible refine gate_callee (f := 17) rfl ?_); refine goesL_ (some 48) rfl rfl Try.func17 (by kernel_rfl) rfl #[.slice Ao69 t622.length co69, .slice Ao70 t634.length co70] rfl (by (try simp only [List.map_toArray, List.map_cons, List.map_nil]); first | done | rfl | (simp only [List.length_drop, List.length_take]; rfl)) ?_; (with_reducible refine (secateurref02_Same.calls k _ _ t622 _ _ t634 false _ ?side1 ?side2 ?side3 ?side4 A30.out).mono ?_); (case side1 => repeat (first | exact (Kd.R_reads' HO624.out).2.2 | (with_reducible refine Kd.C_alloc ?_ _) | (with_reducible refine Kd.C_drewN ?_ _) | (with_reducible refine Kd.C_drew ?_))); (case side2 => exact (Kd.R_reads' HO624.out).2.1); (case side3 => repeat (first | exact (Kd.R_reads' HO636.out).2.2 | (with_reducible refine Kd.C_alloc ?_ _) | (with_reducible refine Kd.C_drewN ?_ _) | (with_reducible refine Kd.C_drew ?_))); (case side4 => exact (Kd.R_reads' HO636.out).2.1); rintro e w' ⟨rfl, ⟨nd, rfl⟩⟩; refine ⟨_, rfl, ?_⟩))
     go_meet
     case rel => exact ⟨_, (true), (by first | rfl | (simp; done) | (simp [*]; done)), H', ⟨by first | omega | exact Nat.le_refl _⟩, ⟨by (with_reducible repeat (first | apply Kd.R_alloc | apply Kd.R_drewN | apply Kd.R_drew)); exact Kd.R_mono HO606.out (fun _ hk => ⟨hk.1.1.1.1.1.1.1, ⟨hk.1.1.1.1.1.1.2, ⟨hk.1.1.1.1.1.2, ⟨hk.1.1.1.1.2, ⟨hk.1.1.1.2, ⟨hk.1.1.2, hk.1.2⟩⟩⟩⟩⟩⟩)⟩, ⟨by (with_reducible repeat (first | apply Kd.R_alloc | apply Kd.R_drewN | apply Kd.R_drew)); exact Kd.R_mono HO609.out (fun _ hk => ⟨hk.1.1.1.1.1.1.1, ⟨hk.1.1.1.1.1.1.2, ⟨hk.1.1.1.1.1.2, ⟨hk.1.1.1.1.2, ⟨hk.1.1.1.2, ⟨hk.1.1.2, hk.1.2⟩⟩⟩⟩⟩⟩)⟩, ⟨by (with_reducible repeat (first | apply Kd.R_alloc | apply Kd.R_drewN | apply Kd.R_drew)); exact Kd.R_mono HO615.out (fun _ hk => ⟨hk.1.1.1.1.1.1.1, ⟨hk.1.1.1.1.1.1.2, ⟨hk.1.1.1.1.1.2, ⟨hk.1.1.1.1.2, ⟨hk.1.1.1.2, ⟨hk.1.1.2, hk.1.2⟩⟩⟩⟩⟩⟩)⟩, ⟨by (with_reducible repeat (first | apply Kd.R_alloc | apply Kd.R_drewN | apply Kd.R_drew)); exact Kd.R_mono HO621.out (fun _ hk => ⟨hk.1.1.1.1.1.1, ⟨hk.1.1.1.1.1.2.1, ⟨hk.1.1.1.1.1.2.2, ⟨hk.1.1.1.1.2, ⟨hk.1.1.1.2, ⟨hk.1.1.2, hk.1.2⟩⟩⟩⟩⟩⟩)⟩, ⟨by (with_reducible repeat (first | apply Kd.R_alloc | apply Kd.R_drewN | apply Kd.R_drew)); exact Kd.R_mono HO624.out (fun _ hk => ⟨hk.1.1.1.1.1.1.1.2, ⟨hk.1.1.1.1.1.1.2, ⟨hk.1.1.1.1.1.2, ⟨hk.1.1.1.1.2, ⟨hk.1.1.1.2, ⟨hk.1.1.2, hk.1.2⟩⟩⟩⟩⟩⟩)⟩, ⟨by (with_reducible repeat (first | apply Kd.R_alloc | apply Kd.R_drewN | apply Kd.R_drew)); exact Kd.R_mono HO627.out (fun _ hk => ⟨hk.1.1.1.1.1.1.1.2, ⟨hk.1.1.1.1.1.1.2, ⟨hk.1.1.1.1.1.2, ⟨hk.1.1.1.1.2, ⟨hk.1.1.1.2, ⟨hk.1.1.2, hk.1.2⟩⟩⟩⟩⟩⟩)⟩, ⟨by (with_reducible repeat (first | apply Kd.R_alloc | apply Kd.R_drewN | apply Kd.R_drew)); exact Kd.R_mono HO630.out (fun _ hk => ⟨hk.1.1.1.1.1.1.1.2, ⟨hk.1.1.1.1.1.1.2, ⟨hk.1.1.1.1.1.2, ⟨hk.1.1.1.1.2, ⟨hk.1.1.1.2, ⟨hk.1.1.2, hk.1.2⟩⟩⟩⟩⟩⟩)⟩, ⟨by (with_reducible repeat (first | apply Kd.R_alloc | apply Kd.R_drewN | apply Kd.R_drew)); exact Kd.R_mono HO633.out (fun _ hk => ⟨hk.1.1.1.1.1.1.1.2, ⟨hk.1.1.1.1.1.1.2, ⟨hk.1.1.1.1.1.2, ⟨hk.1.1.1.1.2, ⟨hk.1.1.1.2, ⟨hk.1.1.2, hk.1.2⟩⟩⟩⟩⟩⟩)⟩, ⟨by (with_reducible repeat (first | refine blk_drewN ?_ _ | refine blk_drew ?_ | refine blk_alloc ?_ _)); exact BK603.out⟩, ⟨by repeat (first | (with_reducible first | exact HB.out | apply below_alloc | apply pw_below_drewN | apply below_drew1 | refine below_set ?_ GE603.out) | exact HB.out)⟩⟩
   case rest =>
    clear HC12
    try clear c1
    try clear c2
    try clear p2
    try clear c3
    try clear c4
    try clear c6
    try clear c7
    try clear c9
    try clear c17
    try clear c20
    try clear c31
    try clear c34
    try clear c37
    try clear c38
    try clear c39
    try clear c40
    try clear c41
    try clear hcz49_0
    try clear hcz49_1
    try clear hfz49_0
    try clear hfz49_1
    obtain ⟨kq, x76_11, rfl, HA, HJ11, HO_7, HO_8, HO_9, HO_10, HO_11, HO_12, HO_13, HO_14, BK603, HB⟩ := hcut
    cases kq with
    | zero => exact absurd HA.out (by simp [secateurlaw02_DomJoins.j0])
    | succ kj11 =>
     have H := HA.out
     clear HA
     simp only [secateurlaw02_DomJoins.j0] at H
     by_cases c71 : x76_11 = true
     ·subst c71
      have H1 : (none) = some r := by rw [if_pos rfl] at H; exact H
      clear H
      have H := H1
      clear H1
      exact absurd H (by simp)
     ·replace c71 := Bool.eq_false_iff.mpr c71
      subst c71
      have H1 : (secateurlaw02_DomJoins.l0 kj11 t604 t607 y613 y619 t622 t625 t628 t631 0) = some r := by rw [if_neg (show ¬ (false = true) by decide)] at H; exact H
      clear H
      have H := H1
      clear H1
      have H' := Aside0.mk H
      clear H
      go_wp2
      go_loopg [15] kj11 (fun kq v15 w' => ∃ (x11_2 : List (S52)) (x15_2 : Int), v15 = .int .i64 x15_2 ∧ Aside0 (secateurlaw02_DomJoins.l0 kq t604 t607 y613 y619 x11_2 t625 t628 t631 x15_2 = some r) ∧ Aside0 (kq ≤ kj11) ∧ Aside0 (Kd.R k52 52 w' w.heap.size (fun k_ => some k_ ≠ ((.slice Ao23 t607.length co23) : Value).ownBlock ∧ some k_ ≠ (v614 : Value).ownBlock ∧ some k_ ≠ (v620 : Value).ownBlock ∧ some k_ ≠ (v623 : Value).ownBlock ∧ some k_ ≠ (v626 : Value).ownBlock ∧ some k_ ≠ (v629 : Value).ownBlock ∧ some k_ ≠ (v632 : Value).ownBlock) (.slice Ao19 t604.length co19) t604) ∧ Aside0 (Kd.R k52 52 w' w.heap.size (fun k_ => some k_ ≠ ((.slice Ao19 t604.length co19) : Value).ownBlock ∧ some k_ ≠ (v614 : Value).ownBlock ∧ some k_ ≠ (v620 : Value).ownBlock ∧ some k_ ≠ (v623 : Value).ownBlock ∧ some k_ ≠ (v626 : Value).ownBlock ∧ some k_ ≠ (v629 : Value).ownBlock ∧ some k_ ≠ (v632 : Value).ownBlock) (.slice Ao23 t607.length co23) t607) ∧ Aside0 (Kd.R k52 52 w' w.heap.size (fun k_ => some k_ ≠ ((.slice Ao19 t604.length co19) : Value).ownBlock ∧ some k_ ≠ ((.slice Ao23 t607.length co23) : Value).ownBlock ∧ some k_ ≠ (v620 : Value).ownBlock ∧ some k_ ≠ (v623 : Value).ownBlock ∧ some k_ ≠ (v626 : Value).ownBlock ∧ some k_ ≠ (v629 : Value).ownBlock ∧ some k_ ≠ (v632 : Value).ownBlock) v614 y613) ∧ Aside0 (Kd.R k52 52 w' w.heap.size (fun k_ => some k_ ≠ ((.slice Ao19 t604.length co19) : Value).ownBlock ∧ some k_ ≠ ((.slice Ao23 t607.length co23) : Value).ownBlock ∧ some k_ ≠ (v614 : Value).ownBlock ∧ some k_ ≠ (v623 : Value).ownBlock ∧ some k_ ≠ (v626 : Value).ownBlock ∧ some k_ ≠ (v629 : Value).ownBlock ∧ some k_ ≠ (v632 : Value).ownBlock) v620 y619) ∧ Aside0 (Kd.R k52 52 w' w.heap.size (fun k_ => some k_ ≠ ((.slice Ao19 t604.length co19) : Value).ownBlock ∧ some k_ ≠ ((.slice Ao23 t607.length co23) : Value).ownBlock ∧ some k_ ≠ (v614 : Value).ownBlock ∧ some k_ ≠ (v620 : Value).ownBlock ∧ some k_ ≠ (v626 : Value).ownBlock ∧ some k_ ≠ (v629 : Value).ownBlock ∧ some k_ ≠ (v632 : Value).ownBlock) v623 x11_2) ∧ Aside0 (Kd.R k52 52 w' w.heap.size (fun k_ => some k_ ≠ ((.slice Ao19 t604.length co19) : Value).ownBlock ∧ some k_ ≠ ((.slice Ao23 t607.length co23) : Value).ownBlock ∧ some k_ ≠ (v614 : Value).ownBlock ∧ some k_ ≠ (v620 : Value).ownBlock ∧ some k_ ≠ (v623 : Value).ownBlock ∧ some k_ ≠ (v629 : Value).ownBlock ∧ some k_ ≠ (v632 : Value).ownBlock) v626 t625) ∧ Aside0 (Kd.R k52 52 w' w.heap.size (fun k_ => some k_ ≠ ((.slice Ao19 t604.length co19) : Value).ownBlock ∧ some k_ ≠ ((.slice Ao23 t607.length co23) : Value).ownBlock ∧ some k_ ≠ (v614 : Value).ownBlock ∧ some k_ ≠ (v620 : Value).ownBlock ∧ some k_ ≠ (v623 : Value).ownBlock ∧ some k_ ≠ (v626 : Value).ownBlock ∧ some k_ ≠ (v632 : Value).ownBlock) v629 t628) ∧ Aside0 (Kd.R k52 52 w' w.heap.size (fun k_ => some k_ ≠ ((.slice Ao19 t604.length co19) : Value).ownBlock ∧ some k_ ≠ ((.slice Ao23 t607.length co23) : Value).ownBlock ∧ some k_ ≠ (v614 : Value).ownBlock ∧ some k_ ≠ (v620 : Value).ownBlock ∧ some k_ ≠ (v623 : Value).ownBlock ∧ some k_ ≠ (v626 : Value).ownBlock ∧ some k_ ≠ (v629 : Value).ownBlock) v632 t631) ∧ Aside0 (w'.heap[gb603]? = some (.cells #[.int .i64 a2_0, .int .i64 a2_1] 49 (0, 0))) ∧ Aside0 (Below w.heap.size w w'))
      case atStart => exact ⟨(t622), (0), (by first | rfl | (simp; done) | (simp [*]; done)), H', ⟨Nat.le_refl _⟩, ⟨by (with_reducible repeat (first | apply Kd.R_alloc | apply Kd.R_drewN | apply Kd.R_drew)); exact HO_7.out⟩, ⟨by (with_reducible repeat (first | apply Kd.R_alloc | apply Kd.R_drewN | apply Kd.R_drew)); exact HO_8.out⟩, ⟨by (with_reducible repeat (first | apply Kd.R_alloc | apply Kd.R_drewN | apply Kd.R_drew)); exact HO_9.out⟩, ⟨by (with_reducible repeat (first | apply Kd.R_alloc | apply Kd.R_drewN | apply Kd.R_drew)); exact HO_10.out⟩, ⟨by (with_reducible repeat (first | apply Kd.R_alloc | apply Kd.R_drewN | apply Kd.R_drew)); exact HO_11.out⟩, ⟨by (with_reducible repeat (first | apply Kd.R_alloc | apply Kd.R_drewN | apply Kd.R_drew)); exact HO_12.out⟩, ⟨by (with_reducible repeat (first | apply Kd.R_alloc | apply Kd.R_drewN | apply Kd.R_drew)); exact HO_13.out⟩, ⟨by (with_reducible repeat (first | apply Kd.R_alloc | apply Kd.R_drewN | apply Kd.R_drew)); exact HO_14.out⟩, ⟨by (with_reducible repeat (first | refine blk_drewN ?_ _ | refine blk_drew ?_ | refine blk_alloc ?_ _)); exact BK603.out⟩, ⟨by repeat (first | (with_reducible first | exact HB.out | apply below_alloc | apply pw_below_drewN | apply below_drew1 | refine below_set ?_ GE603.out) | exact HB.out)⟩⟩
      case round =>
       clear H'
       try clear c1
       try clear c2
       try clear p2
       try clear c3
       try clear c4
       try clear c6
       try clear c7
       try clear c9
       try clear c17
       try clear c20
       try clear c31
       try clear c34
       try clear c37
       try clear c38
       try clear c39
       try clear c40
       try clear c41
       try clear c71
       try clear hcz49_0
       try clear hcz49_1
       try clear hfz49_0
       try clear hfz49_1
       try clear p2
       obtain ⟨x11_2, x15_2, rfl, HA, HK2, HO_7, HO_8, HO_9, HO_10, HO_11, HO_12, HO_13, HO_14, BK603, HB⟩ := hrel
       cases gk with
       | zero => exact absurd HA.out (by simp [secateurlaw02_DomJoins.l0])
       | succ k2 =>
        have H := HA.out
        clear HA
        simp only [secateurlaw02_DomJoins.l0] at H
        by_cases c72 : x15_2 < (x11_2.length : Int)
        ·rw [if_pos c72] at H
         have c72b0 : decide (x15_2 < (x11_2.length : Int)) = true := decide_eq_true c72
         clear c72
         by_cases c73 : 0 ≤ x15_2
         ·rw [if_pos c73] at H
          have c73b0 : decide (0 ≤ x15_2) = true := decide_eq_true c73
          clear c73
          obtain ⟨y650, hy650⟩ : ∃ y_ : List (S52), y_ = (x11_2.set (x15_2 : Int).toNat (⟨999, (rd_T52 x11_2 x15_2).f1⟩ : S52)) := ⟨_, rfl⟩
          replace H : (secateurlaw02_DomJoins.l0 k2 t604 t607 y613 y619 y650 t625 t628 t631 (wrap64 (x15_2 + 1))) = some r := by first | (rw [hy650]; with_reducible exact H) | (have H2_ := (Option.bind_some _ _).symm.trans H; rw [hy650]; with_reducible exact H2_) | (have H2_ := (Option.bind_some _ _).symm.trans H; with_reducible exact H2_) | with_reducible exact H | (rw [hy650]; exact H) | exact H
          have Ny650 := Aside0.mk hy650
          clear hy650
          have H' := Aside0.mk H
          clear H
          obtain ⟨Ao75, co75, eo75⟩ := Kd.R_slice HO_11.out
          subst eo75
          have p74 : 0 ≤ (x15_2 : Int) := of_decide_eq_true (by first | (with_reducible assumption) | assumption)
          have q74 : (x15_2 : Int) < ((x11_2.length : Int) : Int) := of_decide_eq_true (by first | (with_reducible assumption) | assumption)
          obtain ⟨go74, co74, eo74, gb74, gl74, cl74, HG74⟩ := Kd.R_form HO_11.out (by omega)
          (first | cases eo74 | (injection eo74 with ea_ en_ ec_; (first | subst ea_ | (injection ea_ with ea_; subst ea_)); subst ec_; clear en_))
          have GB74 := Aside0.mk gb74
          have GG74 := Aside0.mk HG74
          clear gb74 gl74 HG74
          obtain ⟨ce74, hcl74, hM74, hcc74, hfr74⟩ := Kd.R_elem HO_11.out z52 (x15_2 : Int) p74 q74
          obtain rfl := k52_openM hM74
          have hx74_0 : wr.cell? ⟨go74, (x15_2 : Int).toNat * 2, none⟩ = some (.int .i64 ((rd_T52 x11_2 x15_2).f0)) := hcc74 0 _ rfl
          have hx74_1 : wr.cell? ⟨go74, (x15_2 : Int).toNat * 2 + 1, none⟩ = some (.int .i64 ((rd_T52 x11_2 x15_2).f1)) := hcc74 1 _ rfl
          have hf74_0 : wr.frozen? ⟨go74, (x15_2 : Int).toNat * 2, none⟩ = false := hfr74 0
          have hf74_1 : wr.frozen? ⟨go74, (x15_2 : Int).toNat * 2 + 1, none⟩ = false := hfr74 1
          clear hcl74 hcc74 hfr74 hM74
          replace p74 := eq_true p74
          replace q74 := eq_true q74
          have HX76 := Aside0.mk (show Kd.R k52 52 wr w.heap.size (fun k_ => some k_ ≠ (.slice Ao19 t604.length co19 : Value).ownBlock ∧ some k_ ≠ (.slice Ao23 t607.length co23 : Value).ownBlock ∧ some k_ ≠ (v614 : Value).ownBlock ∧ some k_ ≠ (v620 : Value).ownBlock ∧ some k_ ≠ (v626 : Value).ownBlock ∧ some k_ ≠ (v629 : Value).ownBlock ∧ some k_ ≠ (v632 : Value).ownBlock) (.slice (some ⟨go74, 0, none⟩) x11_2.length co75) x11_2 from (by (with_reducible repeat (first | apply Kd.R_alloc | apply Kd.R_drewN | apply Kd.R_drew)); exact HO_11.out))
          obtain ⟨ce76, hcl76, hM76, hcc76, hfr76⟩ := Kd.R_elem HX76.out z52 (x15_2 : Int) (of_decide_eq_true (by first | (with_reducible assumption) | assumption)) (by have h_ : (x15_2 : Int) < ((x11_2.length : Int) : Int) := of_decide_eq_true (by first | (with_reducible assumption) | assumption); first | exact h_ | (have e_ := (Kd.R_reads' HO_11.out).1; omega) | simpa using h_)
          obtain rfl := k52_openM hM76
          have HP76 := Kd.R_seg HX76.out (x15_2 : Int) (of_decide_eq_true (by first | (with_reducible assumption) | assumption)) (by have h_ : (x15_2 : Int) < ((x11_2.length : Int) : Int) := of_decide_eq_true (by first | (with_reducible assumption) | assumption); first | exact h_ | (have e_ := (Kd.R_reads' HO_11.out).1; omega) | simpa using h_) (seg := [.int .i64 999]) (j := 0) hcl76 hcc76 (show 1 ≤ 2 from by decide) (x' := (⟨999, (rd_T52 x11_2 x15_2).f1⟩ : S52)) (k52_mkM _ _ _ (⟨999, (rd_T52 x11_2 x15_2).f1⟩ : S52) ) (fun _ hk => hk)
          have hx76_0 := hcc76 0 _ rfl
          (try simp only [show (k52).sz = 2 from rfl, Nat.mul_one, Nat.add_zero] at hx76_0)
          have hf76_0 := hfr76 0
          (try simp only [show (k52).sz = 2 from rfl, Nat.mul_one, Nat.add_zero] at hf76_0)
          clear hcl76 hcc76 hfr76 hM76
          go_wp2_with (first | ((with_reducible refine gate_store (t := 3) (p := 86) rfl ?_); refine store_event (t := 3) (p := 86) (v := ?vo_w77) (w1 := (wr.setCell ⟨go74, (x15_2 : Int).toNat * 2, none⟩ (.int .i64 999))) ?hg ?ho ?hn ?hr ?_; (case ho => rfl); (case hg => rfl); (case hn => rfl); (case hr => first | (go_simp; done) | (go_simp; rfl)); intro w77 hw; have hg : wr.grownBy w77 (some go74) := (by rw [hw]; exact HP76.2); have hp_ : Kd.R k52 52 w77 w.heap.size (fun k_ => some k_ ≠ (.slice Ao19 t604.length co19 : Value).ownBlock ∧ some k_ ≠ (.slice Ao23 t607.length co23 : Value).ownBlock ∧ some k_ ≠ (v614 : Value).ownBlock ∧ some k_ ≠ (v620 : Value).ownBlock ∧ some k_ ≠ (v626 : Value).ownBlock ∧ some k_ ≠ (v629 : Value).ownBlock ∧ some k_ ≠ (v632 : Value).ownBlock) (.slice (some ⟨go74, 0, none⟩) x11_2.length co75) y650 := (by rw [hw, Ny650.out]; exact HP76.1); clear HP76; have n0_ := Aside0.mk (Kd.R_after (v := (.slice (some ⟨go74, 0, none⟩) x11_2.length co75)) (v1 := (.slice (some ⟨go74, 0, none⟩) x11_2.length co75)) (ok := (fun k_ => some k_ ≠ (.slice Ao23 t607.length co23 : Value).ownBlock ∧ some k_ ≠ (v614 : Value).ownBlock ∧ some k_ ≠ (v620 : Value).ownBlock ∧ some k_ ≠ (v626 : Value).ownBlock ∧ some k_ ≠ (v629 : Value).ownBlock ∧ some k_ ≠ (v632 : Value).ownBlock)) (by (with_reducible repeat (first | apply Kd.R_alloc | apply Kd.R_drewN | apply Kd.R_drew)); exact Kd.R_mono HO_7.out (fun _ hk => ⟨⟨hk.1, ⟨hk.2.1, ⟨hk.2.2.1, ⟨hk.2.2.2.2.1, ⟨hk.2.2.2.2.2.1, hk.2.2.2.2.2.2⟩⟩⟩⟩⟩, hk.2.2.2.1⟩)) hg (.inl rfl)); have n1_ := Aside0.mk (Kd.R_after (v := (.slice (some ⟨go74, 0, none⟩) x11_2.length co75)) (v1 := (.slice (some ⟨go74, 0, none⟩) x11_2.length co75)) (ok := (fun k_ => some k_ ≠ (.slice Ao19 t604.length co19 : Value).ownBlock ∧ some k_ ≠ (v614 : Value).ownBlock ∧ some k_ ≠ (v620 : Value).ownBlock ∧ some k_ ≠ (v626 : Value).ownBlock ∧ some k_ ≠ (v629 : Value).ownBlock ∧ some k_ ≠ (v632 : Value).ownBlock)) (by (with_reducible repeat (first | apply Kd.R_alloc | apply Kd.R_drewN | apply Kd.R_drew)); exact Kd.R_mono HO_8.out (fun _ hk => ⟨⟨hk.1, ⟨hk.2.1, ⟨hk.2.2.1, ⟨hk.2.2.2.2.1, ⟨hk.2.2.2.2.2.1, hk.2.2.2.2.2.2⟩⟩⟩⟩⟩, hk.2.2.2.1⟩)) hg (.inl rfl)); have n2_ := Aside0.mk (Kd.R_after (v := (.slice (some ⟨go74, 0, none⟩) x11_2.length co75)) (v1 := (.slice (some ⟨go74, 0, none⟩) x11_2.length co75)) (ok := (fun k_ => some k_ ≠ (.slice Ao19 t604.length co19 : Value).ownBlock ∧ some k_ ≠ (.slice Ao23 t607.length co23 : Value).ownBlock ∧ some k_ ≠ (v620 : Value).ownBlock ∧ some k_ ≠ (v626 : Value).ownBlock ∧ some k_ ≠ (v629 : Value).ownBlock ∧ some k_ ≠ (v632 : Value).ownBlock)) (by (with_reducible repeat (first | apply Kd.R_alloc | apply Kd.R_drewN | apply Kd.R_drew)); exact Kd.R_mono HO_9.out (fun _ hk => ⟨⟨hk.1, ⟨hk.2.1, ⟨hk.2.2.1, ⟨hk.2.2.2.2.1, ⟨hk.2.2.2.2.2.1, hk.2.2.2.2.2.2⟩⟩⟩⟩⟩, hk.2.2.2.1⟩)) hg (.inl rfl)); have n3_ := Aside0.mk (Kd.R_after (v := (.slice (some ⟨go74, 0, none⟩) x11_2.length co75)) (v1 := (.slice (some ⟨go74, 0, none⟩) x11_2.length co75)) (ok := (fun k_ => some k_ ≠ (.slice Ao19 t604.length co19 : Value).ownBlock ∧ some k_ ≠ (.slice Ao23 t607.length co23 : Value).ownBlock ∧ some k_ ≠ (v614 : Value).ownBlock ∧ some k_ ≠ (v626 : Value).ownBlock ∧ some k_ ≠ (v629 : Value).ownBlock ∧ some k_ ≠ (v632 : Value).ownBlock)) (by (with_reducible repeat (first | apply Kd.R_alloc | apply Kd.R_drewN | apply Kd.R_drew)); exact Kd.R_mono HO_10.out (fun _ hk => ⟨⟨hk.1, ⟨hk.2.1, ⟨hk.2.2.1, ⟨hk.2.2.2.2.1, ⟨hk.2.2.2.2.2.1, hk.2.2.2.2.2.2⟩⟩⟩⟩⟩, hk.2.2.2.1⟩)) hg (.inl rfl)); have n4_ := Aside0.mk (hp_); have n5_ := Aside0.mk (Kd.R_after (v := (.slice (some ⟨go74, 0, none⟩) x11_2.length co75)) (v1 := (.slice (some ⟨go74, 0, none⟩) x11_2.length co75)) (ok := (fun k_ => some k_ ≠ (.slice Ao19 t604.length co19 : Value).ownBlock ∧ some k_ ≠ (.slice Ao23 t607.length co23 : Value).ownBlock ∧ some k_ ≠ (v614 : Value).ownBlock ∧ some k_ ≠ (v620 : Value).ownBlock ∧ some k_ ≠ (v629 : Value).ownBlock ∧ some k_ ≠ (v632 : Value).ownBlock)) (by (with_reducible repeat (first | apply Kd.R_alloc | apply Kd.R_drewN | apply Kd.R_drew)); exact Kd.R_mono HO_12.out (fun _ hk => ⟨⟨hk.1, ⟨hk.2.1, ⟨hk.2.2.1, ⟨hk.2.2.2.1, ⟨hk.2.2.2.2.2.1, hk.2.2.2.2.2.2⟩⟩⟩⟩⟩, hk.2.2.2.2.1⟩)) hg (.inl rfl)); have n6_ := Aside0.mk (Kd.R_after (v := (.slice (some ⟨go74, 0, none⟩) x11_2.length co75)) (v1 := (.slice (some ⟨go74, 0, none⟩) x11_2.length co75)) (ok := (fun k_ => some k_ ≠ (.slice Ao19 t604.length co19 : Value).ownBlock ∧ some k_ ≠ (.slice Ao23 t607.length co23 : Value).ownBlock ∧ some k_ ≠ (v614 : Value).ownBlock ∧ some k_ ≠ (v620 : Value).ownBlock ∧ some k_ ≠ (v626 : Value).ownBlock ∧ some k_ ≠ (v632 : Value).ownBlock)) (by (with_reducible repeat (first | apply Kd.R_alloc | apply Kd.R_drewN | apply Kd.R_drew)); exact Kd.R_mono HO_13.out (fun _ hk => ⟨⟨hk.1, ⟨hk.2.1, ⟨hk.2.2.1, ⟨hk.2.2.2.1, ⟨hk.2.2.2.2.2.1, hk.2.2.2.2.2.2⟩⟩⟩⟩⟩, hk.2.2.2.2.1⟩)) hg (.inl rfl)); have n7_ := Aside0.mk (Kd.R_after (v := (.slice (some ⟨go74, 0, none⟩) x11_2.length co75)) (v1 := (.slice (some ⟨go74, 0, none⟩) x11_2.length co75)) (ok := (fun k_ => some k_ ≠ (.slice Ao19 t604.length co19 : Value).ownBlock ∧ some k_ ≠ (.slice Ao23 t607.length co23 : Value).ownBlock ∧ some k_ ≠ (v614 : Value).ownBlock ∧ some k_ ≠ (v620 : Value).ownBlock ∧ some k_ ≠ (v626 : Value).ownBlock ∧ some k_ ≠ (v629 : Value).ownBlock)) (by (with_reducible repeat (first | apply Kd.R_alloc | apply Kd.R_drewN | apply Kd.R_drew)); exact Kd.R_mono HO_14.out (fun _ hk => ⟨⟨hk.1, ⟨hk.2.1, ⟨hk.2.2.1, ⟨hk.2.2.2.1, ⟨hk.2.2.2.2.2.1, hk.2.2.2.2.2.2⟩⟩⟩⟩⟩, hk.2.2.2.2.1⟩)) hg (.inl rfl)); have n8_ := Aside0.mk (blk_grown (g := gb603) (o := .cells #[.int .i64 a2_0, .int .i64 a2_1] 49 (0, 0)) (by (with_reducible repeat (first | refine blk_drewN ?_ _ | refine blk_drew ?_ | refine blk_alloc ?_ _)); exact BK603.out) hg (Kd.R_ne HO_11.out BK603.out (by decide))); have n9_ := Aside0.mk ((by rw [hw]; exact below_set (HB.out) GB74.out : Below w.heap.size w w77)); clear HO_7; clear HO_8; clear HO_9; clear HO_10; clear HO_11; clear HO_12; clear HO_13; clear HO_14; clear BK603; clear HB; have HO_7 := n0_; have HO_8 := n1_; have HO_9 := n2_; have HO_10 := n3_; have HO_11 := n4_; have HO_12 := n5_; have HO_13 := n6_; have HO_14 := n7_; have BK603 := n8_; have HB := n9_; clear n0_ n1_ n2_ n3_ n4_ n5_ n6_ n7_ n8_ n9_; clear hg hw hp_))
          go_roundg k2
          case measure => have := HJ11.out; have := HK2.out; omega
          case rel => exact ⟨(y650), (wrap64 (x15_2 + 1)), (by first | rfl | (simp; done) | (simp [*]; done)), H', ⟨by have := HJ11.out; have := HK2.out; omega⟩, ⟨by (with_reducible repeat (first | apply Kd.R_alloc | apply Kd.R_drewN | apply Kd.R_drew)); exact Kd.R_mono HO_7.out (fun _ hk => ⟨hk.1.1, ⟨hk.1.2.1, ⟨hk.1.2.2.1, ⟨hk.2, ⟨hk.1.2.2.2.1, ⟨hk.1.2.2.2.2.1, hk.1.2.2.2.2.2⟩⟩⟩⟩⟩⟩)⟩, ⟨by (with_reducible repeat (first | apply Kd.R_alloc | apply Kd.R_drewN | apply Kd.R_drew)); exact Kd.R_mono HO_8.out (fun _ hk => ⟨hk.1.1, ⟨hk.1.2.1, ⟨hk.1.2.2.1, ⟨hk.2, ⟨hk.1.2.2.2.1, ⟨hk.1.2.2.2.2.1, hk.1.2.2.2.2.2⟩⟩⟩⟩⟩⟩)⟩, ⟨by (with_reducible repeat (first | apply Kd.R_alloc | apply Kd.R_drewN | apply Kd.R_drew)); exact Kd.R_mono HO_9.out (fun _ hk => ⟨hk.1.1, ⟨hk.1.2.1, ⟨hk.1.2.2.1, ⟨hk.2, ⟨hk.1.2.2.2.1, ⟨hk.1.2.2.2.2.1, hk.1.2.2.2.2.2⟩⟩⟩⟩⟩⟩)⟩, ⟨by (with_reducible repeat (first | apply Kd.R_alloc | apply Kd.R_drewN | apply Kd.R_drew)); exact Kd.R_mono HO_10.out (fun _ hk => ⟨hk.1.1, ⟨hk.1.2.1, ⟨hk.1.2.2.1, ⟨hk.2, ⟨hk.1.2.2.2.1, ⟨hk.1.2.2.2.2.1, hk.1.2.2.2.2.2⟩⟩⟩⟩⟩⟩)⟩, ⟨by (with_reducible repeat (first | apply Kd.R_alloc | apply Kd.R_drewN | apply Kd.R_drew)); exact HO_11.out⟩, ⟨by (with_reducible repeat (first | apply Kd.R_alloc | apply Kd.R_drewN | apply Kd.R_drew)); exact Kd.R_mono HO_12.out (fun _ hk => ⟨hk.1.1, ⟨hk.1.2.1, ⟨hk.1.2.2.1, ⟨hk.1.2.2.2.1, ⟨hk.2, ⟨hk.1.2.2.2.2.1, hk.1.2.2.2.2.2⟩⟩⟩⟩⟩⟩)⟩, ⟨by (with_reducible repeat (first | apply Kd.R_alloc | apply Kd.R_drewN | apply Kd.R_drew)); exact Kd.R_mono HO_13.out (fun _ hk => ⟨hk.1.1, ⟨hk.1.2.1, ⟨hk.1.2.2.1, ⟨hk.1.2.2.2.1, ⟨hk.2, ⟨hk.1.2.2.2.2.1, hk.1.2.2.2.2.2⟩⟩⟩⟩⟩⟩)⟩, ⟨by (with_reducible repeat (first | apply Kd.R_alloc | apply Kd.R_drewN | apply Kd.R_drew)); exact Kd.R_mono HO_14.out (fun _ hk => ⟨hk.1.1, ⟨hk.1.2.1, ⟨hk.1.2.2.1, ⟨hk.1.2.2.2.1, ⟨hk.2, ⟨hk.1.2.2.2.2.1, hk.1.2.2.2.2.2⟩⟩⟩⟩⟩⟩)⟩, ⟨by (with_reducible repeat (first | refine blk_drewN ?_ _ | refine blk_drew ?_ | refine blk_alloc ?_ _)); exact BK603.out⟩, ⟨by repeat (first | (with_reducible first | exact HB.out | apply below_alloc | apply pw_below_drewN | apply below_drew1 | refine below_set ?_ GE603.out) | exact HB.out)⟩⟩
         ·rw [if_neg c73] at H
          exact absurd H (by simp)
        ·rw [if_neg c72] at H
         have c72b0 : decide (x15_2 < (x11_2.length : Int)) = false := decide_eq_false c72
         clear c72
         have H' := Aside0.mk H
         clear H
         obtain ⟨Ao78, co78, eo78⟩ := Kd.R_slice HO_11.out
         subst eo78
         go_wp2
         go_loopg [16] k2 (fun kq v16 w' => ∃ (x12_3 : List (S52)) (x16_3 : Int), v16 = .int .i64 x16_3 ∧ Aside0 (secateurlaw02_DomJoins.l1 kq t604 t607 y613 y619 x12_3 t628 t631 x16_3 = some r) ∧ Aside0 (kq ≤ k2) ∧ Aside0 (Kd.R k52 52 w' w.heap.size (fun k_ => some k_ ≠ ((.slice Ao23 t607.length co23) : Value).ownBlock ∧ some k_ ≠ (v614 : Value).ownBlock ∧ some k_ ≠ (v620 : Value).ownBlock ∧ some k_ ≠ (v626 : Value).ownBlock ∧ some k_ ≠ (v629 : Value).ownBlock ∧ some k_ ≠ (v632 : Value).ownBlock) (.slice Ao19 t604.length co19) t604) ∧ Aside0 (Kd.R k52 52 w' w.heap.size (fun k_ => some k_ ≠ ((.slice Ao19 t604.length co19) : Value).ownBlock ∧ some k_ ≠ (v614 : Value).ownBlock ∧ some k_ ≠ (v620 : Value).ownBlock ∧ some k_ ≠ (v626 : Value).ownBlock ∧ some k_ ≠ (v629 : Value).ownBlock ∧ some k_ ≠ (v632 : Value).ownBlock) (.slice Ao23 t607.length co23) t607) ∧ Aside0 (Kd.R k52 52 w' w.heap.size (fun k_ => some k_ ≠ ((.slice Ao19 t604.length co19) : Value).ownBlock ∧ some k_ ≠ ((.slice Ao23 t607.length co23) : Value).ownBlock ∧ some k_ ≠ (v620 : Value).ownBlock ∧ some k_ ≠ (v626 : Value).ownBlock ∧ some k_ ≠ (v629 : Value).ownBlock ∧ some k_ ≠ (v632 : Value).ownBlock) v614 y613) ∧ Aside0 (Kd.R k52 52 w' w.heap.size (fun k_ => some k_ ≠ ((.slice Ao19 t604.length co19) : Value).ownBlock ∧ some k_ ≠ ((.slice Ao23 t607.length co23) : Value).ownBlock ∧ some k_ ≠ (v614 : Value).ownBlock ∧ some k_ ≠ (v626 : Value).ownBlock ∧ some k_ ≠ (v629 : Value).ownBlock ∧ some k_ ≠ (v632 : Value).ownBlock) v620 y619) ∧ Aside0 (Kd.R k52 52 w' w.heap.size (fun k_ => some k_ ≠ ((.slice Ao19 t604.length co19) : Value).ownBlock ∧ some k_ ≠ ((.slice Ao23 t607.length co23) : Value).ownBlock ∧ some k_ ≠ (v614 : Value).ownBlock ∧ some k_ ≠ (v620 : Value).ownBlock ∧ some k_ ≠ (v629 : Value).ownBlock ∧ some k_ ≠ (v632 : Value).ownBlock) v626 x12_3) ∧ Aside0 (Kd.R k52 52 w' w.heap.size (fun k_ => some k_ ≠ ((.slice Ao19 t604.length co19) : Value).ownBlock ∧ some k_ ≠ ((.slice Ao23 t607.length co23) : Value).ownBlock ∧ some k_ ≠ (v614 : Value).ownBlock ∧ some k_ ≠ (v620 : Value).ownBlock ∧ some k_ ≠ (v626 : Value).ownBlock ∧ some k_ ≠ (v632 : Value).ownBlock) v629 t628) ∧ Aside0 (Kd.R k52 52 w' w.heap.size (fun k_ => some k_ ≠ ((.slice Ao19 t604.length co19) : Value).ownBlock ∧ some k_ ≠ ((.slice Ao23 t607.length co23) : Value).ownBlock ∧ some k_ ≠ (v614 : Value).ownBlock ∧ some k_ ≠ (v620 : Value).ownBlock ∧ some k_ ≠ (v626 : Value).ownBlock ∧ some k_ ≠ (v629 : Value).ownBlock) v632 t631) ∧ Aside0 (w'.heap[gb603]? = some (.cells #[.int .i64 a2_0, .int .i64 a2_1] 49 (0, 0))) ∧ Aside0 (Below w.heap.size w w'))
         case atStart => exact ⟨(t625), (0), (by first | rfl | (simp; done) | (simp [*]; done)), H', ⟨Nat.le_refl _⟩, ⟨by (with_reducible repeat (first | apply Kd.R_alloc | apply Kd.R_drewN | apply Kd.R_drew)); exact Kd.R_mono HO_7.out (fun _ hk => ⟨hk.1, ⟨hk.2.1, ⟨hk.2.2.1, ⟨hk.2.2.2.2.1, ⟨hk.2.2.2.2.2.1, hk.2.2.2.2.2.2⟩⟩⟩⟩⟩)⟩, ⟨by (with_reducible repeat (first | apply Kd.R_alloc | apply Kd.R_drewN | apply Kd.R_drew)); exact Kd.R_mono HO_8.out (fun _ hk => ⟨hk.1, ⟨hk.2.1, ⟨hk.2.2.1, ⟨hk.2.2.2.2.1, ⟨hk.2.2.2.2.2.1, hk.2.2.2.2.2.2⟩⟩⟩⟩⟩)⟩, ⟨by (with_reducible repeat (first | apply Kd.R_alloc | apply Kd.R_drewN | apply Kd.R_drew)); exact Kd.R_mono HO_9.out (fun _ hk => ⟨hk.1, ⟨hk.2.1, ⟨hk.2.2.1, ⟨hk.2.2.2.2.1, ⟨hk.2.2.2.2.2.1, hk.2.2.2.2.2.2⟩⟩⟩⟩⟩)⟩, ⟨by (with_reducible repeat (first | apply Kd.R_alloc | apply Kd.R_drewN | apply Kd.R_drew)); exact Kd.R_mono HO_10.out (fun _ hk => ⟨hk.1, ⟨hk.2.1, ⟨hk.2.2.1, ⟨hk.2.2.2.2.1, ⟨hk.2.2.2.2.2.1, hk.2.2.2.2.2.2⟩⟩⟩⟩⟩)⟩, ⟨by (with_reducible repeat (first | apply Kd.R_alloc | apply Kd.R_drewN | apply Kd.R_drew)); exact Kd.R_mono HO_12.out (fun _ hk => ⟨hk.1, ⟨hk.2.1, ⟨hk.2.2.1, ⟨hk.2.2.2.1, ⟨hk.2.2.2.2.2.1, hk.2.2.2.2.2.2⟩⟩⟩⟩⟩)⟩, ⟨by (with_reducible repeat (first | apply Kd.R_alloc | apply Kd.R_drewN | apply Kd.R_drew)); exact Kd.R_mono HO_13.out (fun _ hk => ⟨hk.1, ⟨hk.2.1, ⟨hk.2.2.1, ⟨hk.2.2.2.1, ⟨hk.2.2.2.2.2.1, hk.2.2.2.2.2.2⟩⟩⟩⟩⟩)⟩, ⟨by (with_reducible repeat (first | apply Kd.R_alloc | apply Kd.R_drewN | apply Kd.R_drew)); exact Kd.R_mono HO_14.out (fun _ hk => ⟨hk.1, ⟨hk.2.1, ⟨hk.2.2.1, ⟨hk.2.2.2.1, ⟨hk.2.2.2.2.2.1, hk.2.2.2.2.2.2⟩⟩⟩⟩⟩)⟩, ⟨by (with_reducible repeat (first | refine blk_drewN ?_ _ | refine blk_drew ?_ | refine blk_alloc ?_ _)); exact BK603.out⟩, ⟨by repeat (first | (with_reducible first | exact HB.out | apply below_alloc | apply pw_below_drewN | apply below_drew1 | refine below_set ?_ GE603.out) | exact HB.out)⟩⟩
         case round =>
          clear H'
          try clear c1
          try clear c2
          try clear p2
          try clear c3
          try clear c4
          try clear c6
          try clear p6
          try clear c7
          try clear p7
          try clear q7
          try clear hx7
          try clear hf7
          try clear c9
          try clear c17
          try clear c20
          try clear c31
          try clear c34
          try clear c37
          try clear c38
          try clear c39
          try clear c40
          try clear c41
          try clear p64
          try clear c71
          try clear c72
          try clear c72b0
          try clear c73
          try clear c73b0
          try clear c74
          try clear p74
          try clear q74
          try clear hx74
          try clear hf74
          try clear c76
          try clear hx76
          try clear hf76
          try clear hcz49_0
          try clear hcz49_1
          try clear hfz49_0
          try clear hfz49_1
          try clear hx74_0
          try clear hx74_1
          try clear hx76_0
          try clear p2
          try clear p74
          try clear q74
          obtain ⟨x12_3, x16_3, rfl, HA, HK3, HO_7, HO_8, HO_9, HO_10, HO_12, HO_13, HO_14, BK603, HB⟩ := hrel
          cases gk with
          | zero => exact absurd HA.out (by simp [secateurlaw02_DomJoins.l1])
          | succ k3 =>
           have H := HA.out
           clear HA
           simp only [secateurlaw02_DomJoins.l1] at H
           by_cases c79 : x16_3 < (x12_3.length : Int)
           ·rw [if_pos c79] at H
            have c79b0 : decide (x16_3 < (x12_3.length : Int)) = true := decide_eq_true c79
            clear c79
            by_cases c80 : 0 ≤ x16_3
            ·rw [if_pos c80] at H
             have c80b0 : decide (0 ≤ x16_3) = true := decide_eq_true c80
             clear c80
             obtain ⟨y651, hy651⟩ : ∃ y_ : List (S52), y_ = (x12_3.set (x16_3 : Int).toNat (⟨999, (rd_T52 x12_3 x16_3).f1⟩ : S52)) := ⟨_, rfl⟩
             replace H : (secateurlaw02_DomJoins.l1 k3 t604 t607 y613 y619 y651 t628 t631 (wrap64 (x16_3 + 1))) = some r := by first | (rw [hy651]; with_reducible exact H) | (have H2_ := (Option.bind_some _ _).symm.trans H; rw [hy651]; with_reducible exact H2_) | (have H2_ := (Option.bind_some _ _).symm.trans H; with_reducible exact H2_) | with_reducible exact H | (rw [hy651]; exact H) | exact H
             have Ny651 := Aside0.mk hy651
             clear hy651
             have H' := Aside0.mk H
             clear H
             obtain ⟨Ao82, co82, eo82⟩ := Kd.R_slice HO_12.out
             subst eo82
             have p81 : 0 ≤ (x16_3 : Int) := of_decide_eq_true (by first | (with_reducible assumption) | assumption)
             have q81 : (x16_3 : Int) < ((x12_3.length : Int) : Int) := of_decide_eq_true (by first | (with_reducible assumption) | assumption)
             obtain ⟨go81, co81, eo81, gb81, gl81, cl81, HG81⟩ := Kd.R_form HO_12.out (by omega)
             (first | cases eo81 | (injection eo81 with ea_ en_ ec_; (first | subst ea_ | (injection ea_ with ea_; subst ea_)); subst ec_; clear en_))
             have GB81 := Aside0.mk gb81
             have GG81 := Aside0.mk HG81
             clear gb81 gl81 HG81
             obtain ⟨ce81, hcl81, hM81, hcc81, hfr81⟩ := Kd.R_elem HO_12.out z52 (x16_3 : Int) p81 q81
             obtain rfl := k52_openM hM81
             have hx81_0 : wr.cell? ⟨go81, (x16_3 : Int).toNat * 2, none⟩ = some (.int .i64 ((rd_T52 x12_3 x16_3).f0)) := hcc81 0 _ rfl
             have hx81_1 : wr.cell? ⟨go81, (x16_3 : Int).toNat * 2 + 1, none⟩ = some (.int .i64 ((rd_T52 x12_3 x16_3).f1)) := hcc81 1 _ rfl
             have hf81_0 : wr.frozen? ⟨go81, (x16_3 : Int).toNat * 2, none⟩ = false := hfr81 0
             have hf81_1 : wr.frozen? ⟨go81, (x16_3 : Int).toNat * 2 + 1, none⟩ = false := hfr81 1
             clear hcl81 hcc81 hfr81 hM81
             replace p81 := eq_true p81
             replace q81 := eq_true q81
             have HX83 := Aside0.mk (show Kd.R k52 52 wr w.heap.size (fun k_ => some k_ ≠ (.slice Ao19 t604.length co19 : Value).ownBlock ∧ some k_ ≠ (.slice Ao23 t607.length co23 : Value).ownBlock ∧ some k_ ≠ (v614 : Value).ownBlock ∧ some k_ ≠ (v620 : Value).ownBlock ∧ some k_ ≠ (v629 : Value).ownBlock ∧ some k_ ≠ (v632 : Value).ownBlock) (.slice (some ⟨go81, 0, none⟩) x12_3.length co82) x12_3 from (by (with_reducible repeat (first | apply Kd.R_alloc | apply Kd.R_drewN | apply Kd.R_drew)); exact HO_12.out))
             obtain ⟨ce83, hcl83, hM83, hcc83, hfr83⟩ := Kd.R_elem HX83.out z52 (x16_3 : Int) (of_decide_eq_true (by first | (with_reducible assumption) | assumption)) (by have h_ : (x16_3 : Int) < ((x12_3.length : Int) : Int) := of_decide_eq_true (by first | (with_reducible assumption) | assumption); first | exact h_ | (have e_ := (Kd.R_reads' HO_12.out).1; omega) | simpa using h_)
             obtain rfl := k52_openM hM83
             have HP83 := Kd.R_seg HX83.out (x16_3 : Int) (of_decide_eq_true (by first | (with_reducible assumption) | assumption)) (by have h_ : (x16_3 : Int) < ((x12_3.length : Int) : Int) := of_decide_eq_true (by first | (with_reducible assumption) | assumption); first | exact h_ | (have e_ := (Kd.R_reads' HO_12.out).1; omega) | simpa using h_) (seg := [.int .i64 999]) (j := 0) hcl83 hcc83 (show 1 ≤ 2 from by decide) (x' := (⟨999, (rd_T52 x12_3 x16_3).f1⟩ : S52)) (k52_mkM _ _ _ (⟨999, (rd_T52 x12_3 x16_3).f1⟩ : S52) ) (fun _ hk => hk)
             have hx83_0 := hcc83 0 _ rfl
             (try simp only [show (k52).sz = 2 from rfl, Nat.mul_one, Nat.add_zero] at hx83_0)
             have hf83_0 := hfr83 0
             (try simp only [show (k52).sz = 2 from rfl, Nat.mul_one, Nat.add_zero] at hf83_0)
             clear hcl83 hcc83 hfr83 hM83
             go_wp2_with (first | ((with_reducible refine gate_store (t := 3) (p := 96) rfl ?_); refine store_event (t := 3) (p := 96) (v := ?vo_w84) (w1 := (wr.setCell ⟨go81, (x16_3 : Int).toNat * 2, none⟩ (.int .i64 999))) ?hg ?ho ?hn ?hr ?_; (case ho => rfl); (case hg => rfl); (case hn => rfl); (case hr => first | (go_simp; done) | (go_simp; rfl)); intro w84 hw; have hg : wr.grownBy w84 (some go81) := (by rw [hw]; exact HP83.2); have hp_ : Kd.R k52 52 w84 w.heap.size (fun k_ => some k_ ≠ (.slice Ao19 t604.length co19 : Value).ownBlock ∧ some k_ ≠ (.slice Ao23 t607.length co23 : Value).ownBlock ∧ some k_ ≠ (v614 : Value).ownBlock ∧ some k_ ≠ (v620 : Value).ownBlock ∧ some k_ ≠ (v629 : Value).ownBlock ∧ some k_ ≠ (v632 : Value).ownBlock) (.slice (some ⟨go81, 0, none⟩) x12_3.length co82) y651 := (by rw [hw, Ny651.out]; exact HP83.1); clear HP83; have n0_ := Aside0.mk (Kd.R_after (v := (.slice (some ⟨go81, 0, none⟩) x12_3.length co82)) (v1 := (.slice (some ⟨go81, 0, none⟩) x12_3.length co82)) (ok := (fun k_ => some k_ ≠ (.slice Ao23 t607.length co23 : Value).ownBlock ∧ some k_ ≠ (v614 : Value).ownBlock ∧ some k_ ≠ (v620 : Value).ownBlock ∧ some k_ ≠ (v629 : Value).ownBlock ∧ some k_ ≠ (v632 : Value).ownBlock)) (by (with_reducible repeat (first | apply Kd.R_alloc | apply Kd.R_drewN | apply Kd.R_drew)); exact Kd.R_mono HO_7.out (fun _ hk => ⟨⟨hk.1, ⟨hk.2.1, ⟨hk.2.2.1, ⟨hk.2.2.2.2.1, hk.2.2.2.2.2⟩⟩⟩⟩, hk.2.2.2.1⟩)) hg (.inl rfl)); have n1_ := Aside0.mk (Kd.R_after (v := (.slice (some ⟨go81, 0, none⟩) x12_3.length co82)) (v1 := (.slice (some ⟨go81, 0, none⟩) x12_3.length co82)) (ok := (fun k_ => some k_ ≠ (.slice Ao19 t604.length co19 : Value).ownBlock ∧ some k_ ≠ (v614 : Value).ownBlock ∧ some k_ ≠ (v620 : Value).ownBlock ∧ some k_ ≠ (v629 : Value).ownBlock ∧ some k_ ≠ (v632 : Value).ownBlock)) (by (with_reducible repeat (first | apply Kd.R_alloc | apply Kd.R_drewN | apply Kd.R_drew)); exact Kd.R_mono HO_8.out (fun _ hk => ⟨⟨hk.1, ⟨hk.2.1, ⟨hk.2.2.1, ⟨hk.2.2.2.2.1, hk.2.2.2.2.2⟩⟩⟩⟩, hk.2.2.2.1⟩)) hg (.inl rfl)); have n2_ := Aside0.mk (Kd.R_after (v := (.slice (some ⟨go81, 0, none⟩) x12_3.length co82)) (v1 := (.slice (some ⟨go81, 0, none⟩) x12_3.length co82)) (ok := (fun k_ => some k_ ≠ (.slice Ao19 t604.length co19 : Value).ownBlock ∧ some k_ ≠ (.slice Ao23 t607.length co23 : Value).ownBlock ∧ some k_ ≠ (v620 : Value).ownBlock ∧ some k_ ≠ (v629 : Value).ownBlock ∧ some k_ ≠ (v632 : Value).ownBlock)) (by (with_reducible repeat (first | apply Kd.R_alloc | apply Kd.R_drewN | apply Kd.R_drew)); exact Kd.R_mono HO_9.out (fun _ hk => ⟨⟨hk.1, ⟨hk.2.1, ⟨hk.2.2.1, ⟨hk.2.2.2.2.1, hk.2.2.2.2.2⟩⟩⟩⟩, hk.2.2.2.1⟩)) hg (.inl rfl)); have n3_ := Aside0.mk (Kd.R_after (v := (.slice (some ⟨go81, 0, none⟩) x12_3.length co82)) (v1 := (.slice (some ⟨go81, 0, none⟩) x12_3.length co82)) (ok := (fun k_ => some k_ ≠ (.slice Ao19 t604.length co19 : Value).ownBlock ∧ some k_ ≠ (.slice Ao23 t607.length co23 : Value).ownBlock ∧ some k_ ≠ (v614 : Value).ownBlock ∧ some k_ ≠ (v629 : Value).ownBlock ∧ some k_ ≠ (v632 : Value).ownBlock)) (by (with_reducible repeat (first | apply Kd.R_alloc | apply Kd.R_drewN | apply Kd.R_drew)); exact Kd.R_mono HO_10.out (fun _ hk => ⟨⟨hk.1, ⟨hk.2.1, ⟨hk.2.2.1, ⟨hk.2.2.2.2.1, hk.2.2.2.2.2⟩⟩⟩⟩, hk.2.2.2.1⟩)) hg (.inl rfl)); have n4_ := Aside0.mk (hp_); have n5_ := Aside0.mk (Kd.R_after (v := (.slice (some ⟨go81, 0, none⟩) x12_3.length co82)) (v1 := (.slice (some ⟨go81, 0, none⟩) x12_3.length co82)) (ok := (fun k_ => some k_ ≠ (.slice Ao19 t604.length co19 : Value).ownBlock ∧ some k_ ≠ (.slice Ao23 t607.length co23 : Value).ownBlock ∧ some k_ ≠ (v614 : Value).ownBlock ∧ some k_ ≠ (v620 : Value).ownBlock ∧ some k_ ≠ (v632 : Value).ownBlock)) (by (with_reducible repeat (first | apply Kd.R_alloc | apply Kd.R_drewN | apply Kd.R_drew)); exact Kd.R_mono HO_13.out (fun _ hk => ⟨⟨hk.1, ⟨hk.2.1, ⟨hk.2.2.1, ⟨hk.2.2.2.1, hk.2.2.2.2.2⟩⟩⟩⟩, hk.2.2.2.2.1⟩)) hg (.inl rfl)); have n6_ := Aside0.mk (Kd.R_after (v := (.slice (some ⟨go81, 0, none⟩) x12_3.length co82)) (v1 := (.slice (some ⟨go81, 0, none⟩) x12_3.length co82)) (ok := (fun k_ => some k_ ≠ (.slice Ao19 t604.length co19 : Value).ownBlock ∧ some k_ ≠ (.slice Ao23 t607.length co23 : Value).ownBlock ∧ some k_ ≠ (v614 : Value).ownBlock ∧ some k_ ≠ (v620 : Value).ownBlock ∧ some k_ ≠ (v629 : Value).ownBlock)) (by (with_reducible repeat (first | apply Kd.R_alloc | apply Kd.R_drewN | apply Kd.R_drew)); exact Kd.R_mono HO_14.out (fun _ hk => ⟨⟨hk.1, ⟨hk.2.1, ⟨hk.2.2.1, ⟨hk.2.2.2.1, hk.2.2.2.2.2⟩⟩⟩⟩, hk.2.2.2.2.1⟩)) hg (.inl rfl)); have n7_ := Aside0.mk (blk_grown (g := gb603) (o := .cells #[.int .i64 a2_0, .int .i64 a2_1] 49 (0, 0)) (by (with_reducible repeat (first | refine blk_drewN ?_ _ | refine blk_drew ?_ | refine blk_alloc ?_ _)); exact BK603.out) hg (Kd.R_ne HO_12.out BK603.out (by decide))); have n8_ := Aside0.mk ((by rw [hw]; exact below_set (HB.out) GB81.out : Below w.heap.size w w84)); clear HO_7; clear HO_8; clear HO_9; clear HO_10; clear HO_12; clear HO_13; clear HO_14; clear BK603; clear HB; have HO_7 := n0_; have HO_8 := n1_; have HO_9 := n2_; have HO_10 := n3_; have HO_12 := n4_; have HO_13 := n5_; have HO_14 := n6_; have BK603 := n7_; have HB := n8_; clear n0_ n1_ n2_ n3_ n4_ n5_ n6_ n7_ n8_; clear hg hw hp_))
             go_roundg k3
             case measure => have := HJ11.out; have := HK2.out; have := HK3.out; omega
             case rel => exact ⟨(y651), (wrap64 (x16_3 + 1)), (by first | rfl | (simp; done) | (simp [*]; done)), H', ⟨by have := HJ11.out; have := HK2.out; have := HK3.out; omega⟩, ⟨by (with_reducible repeat (first | apply Kd.R_alloc | apply Kd.R_drewN | apply Kd.R_drew)); exact Kd.R_mono HO_7.out (fun _ hk => ⟨hk.1.1, ⟨hk.1.2.1, ⟨hk.1.2.2.1, ⟨hk.2, ⟨hk.1.2.2.2.1, hk.1.2.2.2.2⟩⟩⟩⟩⟩)⟩, ⟨by (with_reducible repeat (first | apply Kd.R_alloc | apply Kd.R_drewN | apply Kd.R_drew)); exact Kd.R_mono HO_8.out (fun _ hk => ⟨hk.1.1, ⟨hk.1.2.1, ⟨hk.1.2.2.1, ⟨hk.2, ⟨hk.1.2.2.2.1, hk.1.2.2.2.2⟩⟩⟩⟩⟩)⟩, ⟨by (with_reducible repeat (first | apply Kd.R_alloc | apply Kd.R_drewN | apply Kd.R_drew)); exact Kd.R_mono HO_9.out (fun _ hk => ⟨hk.1.1, ⟨hk.1.2.1, ⟨hk.1.2.2.1, ⟨hk.2, ⟨hk.1.2.2.2.1, hk.1.2.2.2.2⟩⟩⟩⟩⟩)⟩, ⟨by (with_reducible repeat (first | apply Kd.R_alloc | apply Kd.R_drewN | apply Kd.R_drew)); exact Kd.R_mono HO_10.out (fun _ hk => ⟨hk.1.1, ⟨hk.1.2.1, ⟨hk.1.2.2.1, ⟨hk.2, ⟨hk.1.2.2.2.1, hk.1.2.2.2.2⟩⟩⟩⟩⟩)⟩, ⟨by (with_reducible repeat (first | apply Kd.R_alloc | apply Kd.R_drewN | apply Kd.R_drew)); exact HO_12.out⟩, ⟨by (with_reducible repeat (first | apply Kd.R_alloc | apply Kd.R_drewN | apply Kd.R_drew)); exact Kd.R_mono HO_13.out (fun _ hk => ⟨hk.1.1, ⟨hk.1.2.1, ⟨hk.1.2.2.1, ⟨hk.1.2.2.2.1, ⟨hk.2, hk.1.2.2.2.2⟩⟩⟩⟩⟩)⟩, ⟨by (with_reducible repeat (first | apply Kd.R_alloc | apply Kd.R_drewN | apply Kd.R_drew)); exact Kd.R_mono HO_14.out (fun _ hk => ⟨hk.1.1, ⟨hk.1.2.1, ⟨hk.1.2.2.1, ⟨hk.1.2.2.2.1, ⟨hk.2, hk.1.2.2.2.2⟩⟩⟩⟩⟩)⟩, ⟨by (with_reducible repeat (first | refine blk_drewN ?_ _ | refine blk_drew ?_ | refine blk_alloc ?_ _)); exact BK603.out⟩, ⟨by repeat (first | (with_reducible first | exact HB.out | apply below_alloc | apply pw_below_drewN | apply below_drew1 | refine below_set ?_ GE603.out) | exact HB.out)⟩⟩
            ·rw [if_neg c80] at H
             exact absurd H (by simp)
           ·rw [if_neg c79] at H
            have c79b0 : decide (x16_3 < (x12_3.length : Int)) = false := decide_eq_false c79
            clear c79
            have H' := Aside0.mk H
            clear H
            obtain ⟨Ao85, co85, eo85⟩ := Kd.R_slice HO_12.out
            subst eo85
            go_wp2
            go_loopg [17] k3 (fun kq v17 w' => ∃ (x13_4 : List (S52)) (x17_4 : Int), v17 = .int .i64 x17_4 ∧ Aside0 (secateurlaw02_DomJoins.l2 kq t604 t607 y613 y619 x13_4 t631 x17_4 = some r) ∧ Aside0 (kq ≤ k3) ∧ Aside0 (Kd.R k52 52 w' w.heap.size (fun k_ => some k_ ≠ ((.slice Ao23 t607.length co23) : Value).ownBlock ∧ some k_ ≠ (v614 : Value).ownBlock ∧ some k_ ≠ (v620 : Value).ownBlock ∧ some k_ ≠ (v629 : Value).ownBlock ∧ some k_ ≠ (v632 : Value).ownBlock) (.slice Ao19 t604.length co19) t604) ∧ Aside0 (Kd.R k52 52 w' w.heap.size (fun k_ => some k_ ≠ ((.slice Ao19 t604.length co19) : Value).ownBlock ∧ some k_ ≠ (v614 : Value).ownBlock ∧ some k_ ≠ (v620 : Value).ownBlock ∧ some k_ ≠ (v629 : Value).ownBlock ∧ some k_ ≠ (v632 : Value).ownBlock) (.slice Ao23 t607.length co23) t607) ∧ Aside0 (Kd.R k52 52 w' w.heap.size (fun k_ => some k_ ≠ ((.slice Ao19 t604.length co19) : Value).ownBlock ∧ some k_ ≠ ((.slice Ao23 t607.length co23) : Value).ownBlock ∧ some k_ ≠ (v620 : Value).ownBlock ∧ some k_ ≠ (v629 : Value).ownBlock ∧ some k_ ≠ (v632 : Value).ownBlock) v614 y613) ∧ Aside0 (Kd.R k52 52 w' w.heap.size (fun k_ => some k_ ≠ ((.slice Ao19 t604.length co19) : Value).ownBlock ∧ some k_ ≠ ((.slice Ao23 t607.length co23) : Value).ownBlock ∧ some k_ ≠ (v614 : Value).ownBlock ∧ some k_ ≠ (v629 : Value).ownBlock ∧ some k_ ≠ (v632 : Value).ownBlock) v620 y619) ∧ Aside0 (Kd.R k52 52 w' w.heap.size (fun k_ => some k_ ≠ ((.slice Ao19 t604.length co19) : Value).ownBlock ∧ some k_ ≠ ((.slice Ao23 t607.length co23) : Value).ownBlock ∧ some k_ ≠ (v614 : Value).ownBlock ∧ some k_ ≠ (v620 : Value).ownBlock ∧ some k_ ≠ (v632 : Value).ownBlock) v629 x13_4) ∧ Aside0 (Kd.R k52 52 w' w.heap.size (fun k_ => some k_ ≠ ((.slice Ao19 t604.length co19) : Value).ownBlock ∧ some k_ ≠ ((.slice Ao23 t607.length co23) : Value).ownBlock ∧ some k_ ≠ (v614 : Value).ownBlock ∧ some k_ ≠ (v620 : Value).ownBlock ∧ some k_ ≠ (v629 : Value).ownBlock) v632 t631) ∧ Aside0 (w'.heap[gb603]? = some (.cells #[.int .i64 a2_0, .int .i64 a2_1] 49 (0, 0))) ∧ Aside0 (Below w.heap.size w w'))
            case atStart => exact ⟨(t628), (0), (by first | rfl | (simp; done) | (simp [*]; done)), H', ⟨Nat.le_refl _⟩, ⟨by (with_reducible repeat (first | apply Kd.R_alloc | apply Kd.R_drewN | apply Kd.R_drew)); exact Kd.R_mono HO_7.out (fun _ hk => ⟨hk.1, ⟨hk.2.1, ⟨hk.2.2.1, ⟨hk.2.2.2.2.1, hk.2.2.2.2.2⟩⟩⟩⟩)⟩, ⟨by (with_reducible repeat (first | apply Kd.R_alloc | apply Kd.R_drewN | apply Kd.R_drew)); exact Kd.R_mono HO_8.out (fun _ hk => ⟨hk.1, ⟨hk.2.1, ⟨hk.2.2.1, ⟨hk.2.2.2.2.1, hk.2.2.2.2.2⟩⟩⟩⟩)⟩, ⟨by (with_reducible repeat (first | apply Kd.R_alloc | apply Kd.R_drewN | apply Kd.R_drew)); exact Kd.R_mono HO_9.out (fun _ hk => ⟨hk.1, ⟨hk.2.1, ⟨hk.2.2.1, ⟨hk.2.2.2.2.1, hk.2.2.2.2.2⟩⟩⟩⟩)⟩, ⟨by (with_reducible repeat (first | apply Kd.R_alloc | apply Kd.R_drewN | apply Kd.R_drew)); exact Kd.R_mono HO_10.out (fun _ hk => ⟨hk.1, ⟨hk.2.1, ⟨hk.2.2.1, ⟨hk.2.2.2.2.1, hk.2.2.2.2.2⟩⟩⟩⟩)⟩, ⟨by (with_reducible repeat (first | apply Kd.R_alloc | apply Kd.R_drewN | apply Kd.R_drew)); exact Kd.R_mono HO_13.out (fun _ hk => ⟨hk.1, ⟨hk.2.1, ⟨hk.2.2.1, ⟨hk.2.2.2.1, hk.2.2.2.2.2⟩⟩⟩⟩)⟩, ⟨by (with_reducible repeat (first | apply Kd.R_alloc | apply Kd.R_drewN | apply Kd.R_drew)); exact Kd.R_mono HO_14.out (fun _ hk => ⟨hk.1, ⟨hk.2.1, ⟨hk.2.2.1, ⟨hk.2.2.2.1, hk.2.2.2.2.2⟩⟩⟩⟩)⟩, ⟨by (with_reducible repeat (first | refine blk_drewN ?_ _ | refine blk_drew ?_ | refine blk_alloc ?_ _)); exact BK603.out⟩, ⟨by repeat (first | (with_reducible first | exact HB.out | apply below_alloc | apply pw_below_drewN | apply below_drew1 | refine below_set ?_ GE603.out) | exact HB.out)⟩⟩
            case round =>
             clear H'
             try clear c1
             try clear c2
             try clear p2
             try clear c3
             try clear c4
             try clear c6
             try clear p6
             try clear c7
             try clear p7
             try clear q7
             try clear hx7
             try clear hf7
             try clear c8
             try clear p8
             try clear q8
             try clear hx8
             try clear hf8
             try clear c9
             try clear c17
             try clear c20
             try clear c31
             try clear c34
             try clear c37
             try clear c38
             try clear c39
             try clear c40
             try clear c41
             try clear p64
             try clear c71
             try clear c72
             try clear c72b0
             try clear c73
             try clear c73b0
             try clear c74
             try clear p74
             try clear q74
             try clear hx74
             try clear hf74
             try clear c76
             try clear hx76
             try clear hf76
             try clear c79
             try clear c79b0
             try clear c80
             try clear c80b0
             try clear c81
             try clear p81
             try clear q81
             try clear hx81
             try clear hf81
             try clear c83
             try clear hx83
             try clear hf83
             try clear hcz49_0
             try clear hcz49_1
             try clear hfz49_0
             try clear hfz49_1
             try clear hx74_0
             try clear hx74_1
             try clear hx76_0
             try clear hx81_0
             try clear hx81_1
             try clear hx83_0
             try clear p2
             try clear p6
             try clear p64
             try clear p7
             try clear p74
             try clear p81
             try clear q7
             try clear q74
             try clear q81
             obtain ⟨x13_4, x17_4, rfl, HA, HK4, HO_7, HO_8, HO_9, HO_10, HO_13, HO_14, BK603, HB⟩ := hrel
             cases gk with
             | zero => exact absurd HA.out (by simp [secateurlaw02_DomJoins.l2])
             | succ k4 =>
              have H := HA.out
              clear HA
              simp only [secateurlaw02_DomJoins.l2] at H
              by_cases c86 : x17_4 < (x13_4.length : Int)
              ·rw [if_pos c86] at H
               have c86b0 : decide (x17_4 < (x13_4.length : Int)) = true := decide_eq_true c86
               clear c86
               by_cases c87 : 0 ≤ x17_4
               ·rw [if_pos c87] at H
                have c87b0 : decide (0 ≤ x17_4) = true := decide_eq_true c87
                clear c87
                obtain ⟨y652, hy652⟩ : ∃ y_ : List (S52), y_ = (x13_4.set (x17_4 : Int).toNat (⟨999, (rd_T52 x13_4 x17_4).f1⟩ : S52)) := ⟨_, rfl⟩
                replace H : (secateurlaw02_DomJoins.l2 k4 t604 t607 y613 y619 y652 t631 (wrap64 (x17_4 + 1))) = some r := by first | (rw [hy652]; with_reducible exact H) | (have H2_ := (Option.bind_some _ _).symm.trans H; rw [hy652]; with_reducible exact H2_) | (have H2_ := (Option.bind_some _ _).symm.trans H; with_reducible exact H2_) | with_reducible exact H | (rw [hy652]; exact H) | exact H
                have Ny652 := Aside0.mk hy652
                clear hy652
                have H' := Aside0.mk H
                clear H
                obtain ⟨Ao89, co89, eo89⟩ := Kd.R_slice HO_13.out
                subst eo89
                have p88 : 0 ≤ (x17_4 : Int) := of_decide_eq_true (by first | (with_reducible assumption) | assumption)
                have q88 : (x17_4 : Int) < ((x13_4.length : Int) : Int) := of_decide_eq_true (by first | (with_reducible assumption) | assumption)
                obtain ⟨go88, co88, eo88, gb88, gl88, cl88, HG88⟩ := Kd.R_form HO_13.out (by omega)
                (first | cases eo88 | (injection eo88 with ea_ en_ ec_; (first | subst ea_ | (injection ea_ with ea_; subst ea_)); subst ec_; clear en_))
                have GB88 := Aside0.mk gb88
                have GG88 := Aside0.mk HG88
                clear gb88 gl88 HG88
                obtain ⟨ce88, hcl88, hM88, hcc88, hfr88⟩ := Kd.R_elem HO_13.out z52 (x17_4 : Int) p88 q88
                obtain rfl := k52_openM hM88
                have hx88_0 : wr.cell? ⟨go88, (x17_4 : Int).toNat * 2, none⟩ = some (.int .i64 ((rd_T52 x13_4 x17_4).f0)) := hcc88 0 _ rfl
                have hx88_1 : wr.cell? ⟨go88, (x17_4 : Int).toNat * 2 + 1, none⟩ = some (.int .i64 ((rd_T52 x13_4 x17_4).f1)) := hcc88 1 _ rfl
                have hf88_0 : wr.frozen? ⟨go88, (x17_4 : Int).toNat * 2, none⟩ = false := hfr88 0
                have hf88_1 : wr.frozen? ⟨go88, (x17_4 : Int).toNat * 2 + 1, none⟩ = false := hfr88 1
                clear hcl88 hcc88 hfr88 hM88
                replace p88 := eq_true p88
                replace q88 := eq_true q88
                have HX90 := Aside0.mk (show Kd.R k52 52 wr w.heap.size (fun k_ => some k_ ≠ (.slice Ao19 t604.length co19 : Value).ownBlock ∧ some k_ ≠ (.slice Ao23 t607.length co23 : Value).ownBlock ∧ some k_ ≠ (v614 : Value).ownBlock ∧ some k_ ≠ (v620 : Value).ownBlock ∧ some k_ ≠ (v632 : Value).ownBlock) (.slice (some ⟨go88, 0, none⟩) x13_4.length co89) x13_4 from (by (with_reducible repeat (first | apply Kd.R_alloc | apply Kd.R_drewN | apply Kd.R_drew)); exact HO_13.out))
                obtain ⟨ce90, hcl90, hM90, hcc90, hfr90⟩ := Kd.R_elem HX90.out z52 (x17_4 : Int) (of_decide_eq_true (by first | (with_reducible assumption) | assumption)) (by have h_ : (x17_4 : Int) < ((x13_4.length : Int) : Int) := of_decide_eq_true (by first | (with_reducible assumption) | assumption); first | exact h_ | (have e_ := (Kd.R_reads' HO_13.out).1; omega) | simpa using h_)
                obtain rfl := k52_openM hM90
                have HP90 := Kd.R_seg HX90.out (x17_4 : Int) (of_decide_eq_true (by first | (with_reducible assumption) | assumption)) (by have h_ : (x17_4 : Int) < ((x13_4.length : Int) : Int) := of_decide_eq_true (by first | (with_reducible assumption) | assumption); first | exact h_ | (have e_ := (Kd.R_reads' HO_13.out).1; omega) | simpa using h_) (seg := [.int .i64 999]) (j := 0) hcl90 hcc90 (show 1 ≤ 2 from by decide) (x' := (⟨999, (rd_T52 x13_4 x17_4).f1⟩ : S52)) (k52_mkM _ _ _ (⟨999, (rd_T52 x13_4 x17_4).f1⟩ : S52) ) (fun _ hk => hk)
                have hx90_0 := hcc90 0 _ rfl
                (try simp only [show (k52).sz = 2 from rfl, Nat.mul_one, Nat.add_zero] at hx90_0)
                have hf90_0 := hfr90 0
                (try simp only [show (k52).sz = 2 from rfl, Nat.mul_one, Nat.add_zero] at hf90_0)
                clear hcl90 hcc90 hfr90 hM90
                go_wp2_with (first | ((with_reducible refine gate_store (t := 3) (p := 106) rfl ?_); refine store_event (t := 3) (p := 106) (v := ?vo_w91) (w1 := (wr.setCell ⟨go88, (x17_4 : Int).toNat * 2, none⟩ (.int .i64 999))) ?hg ?ho ?hn ?hr ?_; (case ho => rfl); (case hg => rfl); (case hn => rfl); (case hr => first | (go_simp; done) | (go_simp; rfl)); intro w91 hw; have hg : wr.grownBy w91 (some go88) := (by rw [hw]; exact HP90.2); have hp_ : Kd.R k52 52 w91 w.heap.size (fun k_ => some k_ ≠ (.slice Ao19 t604.length co19 : Value).ownBlock ∧ some k_ ≠ (.slice Ao23 t607.length co23 : Value).ownBlock ∧ some k_ ≠ (v614 : Value).ownBlock ∧ some k_ ≠ (v620 : Value).ownBlock ∧ some k_ ≠ (v632 : Value).ownBlock) (.slice (some ⟨go88, 0, none⟩) x13_4.length co89) y652 := (by rw [hw, Ny652.out]; exact HP90.1); clear HP90; have n0_ := Aside0.mk (Kd.R_after (v := (.slice (some ⟨go88, 0, none⟩) x13_4.length co89)) (v1 := (.slice (some ⟨go88, 0, none⟩) x13_4.length co89)) (ok := (fun k_ => some k_ ≠ (.slice Ao23 t607.length co23 : Value).ownBlock ∧ some k_ ≠ (v614 : Value).ownBlock ∧ some k_ ≠ (v620 : Value).ownBlock ∧ some k_ ≠ (v632 : Value).ownBlock)) (by (with_reducible repeat (first | apply Kd.R_alloc | apply Kd.R_drewN | apply Kd.R_drew)); exact Kd.R_mono HO_7.out (fun _ hk => ⟨⟨hk.1, ⟨hk.2.1, ⟨hk.2.2.1, hk.2.2.2.2⟩⟩⟩, hk.2.2.2.1⟩)) hg (.inl rfl)); have n1_ := Aside0.mk (Kd.R_after (v := (.slice (some ⟨go88, 0, none⟩) x13_4.length co89)) (v1 := (.slice (some ⟨go88, 0, none⟩) x13_4.length co89)) (ok := (fun k_ => some k_ ≠ (.slice Ao19 t604.length co19 : Value).ownBlock ∧ some k_ ≠ (v614 : Value).ownBlock ∧ some k_ ≠ (v620 : Value).ownBlock ∧ some k_ ≠ (v632 : Value).ownBlock)) (by (with_reducible repeat (first | apply Kd.R_alloc | apply Kd.R_drewN | apply Kd.R_drew)); exact Kd.R_mono HO_8.out (fun _ hk => ⟨⟨hk.1, ⟨hk.2.1, ⟨hk.2.2.1, hk.2.2.2.2⟩⟩⟩, hk.2.2.2.1⟩)) hg (.inl rfl)); have n2_ := Aside0.mk (Kd.R_after (v := (.slice (some ⟨go88, 0, none⟩) x13_4.length co89)) (v1 := (.slice (some ⟨go88, 0, none⟩) x13_4.length co89)) (ok := (fun k_ => some k_ ≠ (.slice Ao19 t604.length co19 : Value).ownBlock ∧ some k_ ≠ (.slice Ao23 t607.length co23 : Value).ownBlock ∧ some k_ ≠ (v620 : Value).ownBlock ∧ some k_ ≠ (v632 : Value).ownBlock)) (by (with_reducible repeat (first | apply Kd.R_alloc | apply Kd.R_drewN | apply Kd.R_drew)); exact Kd.R_mono HO_9.out (fun _ hk => ⟨⟨hk.1, ⟨hk.2.1, ⟨hk.2.2.1, hk.2.2.2.2⟩⟩⟩, hk.2.2.2.1⟩)) hg (.inl rfl)); have n3_ := Aside0.mk (Kd.R_after (v := (.slice (some ⟨go88, 0, none⟩) x13_4.length co89)) (v1 := (.slice (some ⟨go88, 0, none⟩) x13_4.length co89)) (ok := (fun k_ => some k_ ≠ (.slice Ao19 t604.length co19 : Value).ownBlock ∧ some k_ ≠ (.slice Ao23 t607.length co23 : Value).ownBlock ∧ some k_ ≠ (v614 : Value).ownBlock ∧ some k_ ≠ (v632 : Value).ownBlock)) (by (with_reducible repeat (first | apply Kd.R_alloc | apply Kd.R_drewN | apply Kd.R_drew)); exact Kd.R_mono HO_10.out (fun _ hk => ⟨⟨hk.1, ⟨hk.2.1, ⟨hk.2.2.1, hk.2.2.2.2⟩⟩⟩, hk.2.2.2.1⟩)) hg (.inl rfl)); have n4_ := Aside0.mk (hp_); have n5_ := Aside0.mk (Kd.R_after (v := (.slice (some ⟨go88, 0, none⟩) x13_4.length co89)) (v1 := (.slice (some ⟨go88, 0, none⟩) x13_4.length co89)) (ok := (fun k_ => some k_ ≠ (.slice Ao19 t604.length co19 : Value).ownBlock ∧ some k_ ≠ (.slice Ao23 t607.length co23 : Value).ownBlock ∧ some k_ ≠ (v614 : Value).ownBlock ∧ some k_ ≠ (v620 : Value).ownBlock)) (by (with_reducible repeat (first | apply Kd.R_alloc | apply Kd.R_drewN | apply Kd.R_drew)); exact Kd.R_mono HO_14.out (fun _ hk => ⟨⟨hk.1, ⟨hk.2.1, ⟨hk.2.2.1, hk.2.2.2.1⟩⟩⟩, hk.2.2.2.2⟩)) hg (.inl rfl)); have n6_ := Aside0.mk (blk_grown (g := gb603) (o := .cells #[.int .i64 a2_0, .int .i64 a2_1] 49 (0, 0)) (by (with_reducible repeat (first | refine blk_drewN ?_ _ | refine blk_drew ?_ | refine blk_alloc ?_ _)); exact BK603.out) hg (Kd.R_ne HO_13.out BK603.out (by decide))); have n7_ := Aside0.mk ((by rw [hw]; exact below_set (HB.out) GB88.out : Below w.heap.size w w91)); clear HO_7; clear HO_8; clear HO_9; clear HO_10; clear HO_13; clear HO_14; clear BK603; clear HB; have HO_7 := n0_; have HO_8 := n1_; have HO_9 := n2_; have HO_10 := n3_; have HO_13 := n4_; have HO_14 := n5_; have BK603 := n6_; have HB := n7_; clear n0_ n1_ n2_ n3_ n4_ n5_ n6_ n7_; clear hg hw hp_))
                go_roundg k4
                case measure => have := HJ11.out; have := HK2.out; have := HK3.out; have := HK4.out; omega
                case rel => exact ⟨(y652), (wrap64 (x17_4 + 1)), (by first | rfl | (simp; done) | (simp [*]; done)), H', ⟨by have := HJ11.out; have := HK2.out; have := HK3.out; have := HK4.out; omega⟩, ⟨by (with_reducible repeat (first | apply Kd.R_alloc | apply Kd.R_drewN | apply Kd.R_drew)); exact Kd.R_mono HO_7.out (fun _ hk => ⟨hk.1.1, ⟨hk.1.2.1, ⟨hk.1.2.2.1, ⟨hk.2, hk.1.2.2.2⟩⟩⟩⟩)⟩, ⟨by (with_reducible repeat (first | apply Kd.R_alloc | apply Kd.R_drewN | apply Kd.R_drew)); exact Kd.R_mono HO_8.out (fun _ hk => ⟨hk.1.1, ⟨hk.1.2.1, ⟨hk.1.2.2.1, ⟨hk.2, hk.1.2.2.2⟩⟩⟩⟩)⟩, ⟨by (with_reducible repeat (first | apply Kd.R_alloc | apply Kd.R_drewN | apply Kd.R_drew)); exact Kd.R_mono HO_9.out (fun _ hk => ⟨hk.1.1, ⟨hk.1.2.1, ⟨hk.1.2.2.1, ⟨hk.2, hk.1.2.2.2⟩⟩⟩⟩)⟩, ⟨by (with_reducible repeat (first | apply Kd.R_alloc | apply Kd.R_drewN | apply Kd.R_drew)); exact Kd.R_mono HO_10.out (fun _ hk => ⟨hk.1.1, ⟨hk.1.2.1, ⟨hk.1.2.2.1, ⟨hk.2, hk.1.2.2.2⟩⟩⟩⟩)⟩, ⟨by (with_reducible repeat (first | apply Kd.R_alloc | apply Kd.R_drewN | apply Kd.R_drew)); exact HO_13.out⟩, ⟨by (with_reducible repeat (first | apply Kd.R_alloc | apply Kd.R_drewN | apply Kd.R_drew)); exact Kd.R_mono HO_14.out (fun _ hk => ⟨hk.1.1, ⟨hk.1.2.1, ⟨hk.1.2.2.1, ⟨hk.1.2.2.2, hk.2⟩⟩⟩⟩)⟩, ⟨by (with_reducible repeat (first | refine blk_drewN ?_ _ | refine blk_drew ?_ | refine blk_alloc ?_ _)); exact BK603.out⟩, ⟨by repeat (first | (with_reducible first | exact HB.out | apply below_alloc | apply pw_below_drewN | apply below_drew1 | refine below_set ?_ GE603.out) | exact HB.out)⟩⟩
               ·rw [if_neg c87] at H
                exact absurd H (by simp)
              ·rw [if_neg c86] at H
               have c86b0 : decide (x17_4 < (x13_4.length : Int)) = false := decide_eq_false c86
               clear c86
               have H' := Aside0.mk H
               clear H
               obtain ⟨Ao92, co92, eo92⟩ := Kd.R_slice HO_13.out
               subst eo92
               go_wp2
               go_loopg [18] k4 (fun kq v18 w' => ∃ (x14_5 : List (S52)) (x18_5 : Int), v18 = .int .i64 x18_5 ∧ Aside0 (secateurlaw02_DomJoins.l3 kq t604 t607 y613 y619 x14_5 x18_5 = some r) ∧ Aside0 (kq ≤ k4) ∧ Aside0 (Kd.R k52 52 w' w.heap.size (fun k_ => some k_ ≠ ((.slice Ao23 t607.length co23) : Value).ownBlock ∧ some k_ ≠ (v614 : Value).ownBlock ∧ some k_ ≠ (v620 : Value).ownBlock ∧ some k_ ≠ (v632 : Value).ownBlock) (.slice Ao19 t604.length co19) t604) ∧ Aside0 (Kd.R k52 52 w' w.heap.size (fun k_ => some k_ ≠ ((.slice Ao19 t604.length co19) : Value).ownBlock ∧ some k_ ≠ (v614 : Value).ownBlock ∧ some k_ ≠ (v620 : Value).ownBlock ∧ some k_ ≠ (v632 : Value).ownBlock) (.slice Ao23 t607.length co23) t607) ∧ Aside0 (Kd.R k52 52 w' w.heap.size (fun k_ => some k_ ≠ ((.slice Ao19 t604.length co19) : Value).ownBlock ∧ some k_ ≠ ((.slice Ao23 t607.length co23) : Value).ownBlock ∧ some k_ ≠ (v620 : Value).ownBlock ∧ some k_ ≠ (v632 : Value).ownBlock) v614 y613) ∧ Aside0 (Kd.R k52 52 w' w.heap.size (fun k_ => some k_ ≠ ((.slice Ao19 t604.length co19) : Value).ownBlock ∧ some k_ ≠ ((.slice Ao23 t607.length co23) : Value).ownBlock ∧ some k_ ≠ (v614 : Value).ownBlock ∧ some k_ ≠ (v632 : Value).ownBlock) v620 y619) ∧ Aside0 (Kd.R k52 52 w' w.heap.size (fun k_ => some k_ ≠ ((.slice Ao19 t604.length co19) : Value).ownBlock ∧ some k_ ≠ ((.slice Ao23 t607.length co23) : Value).ownBlock ∧ some k_ ≠ (v614 : Value).ownBlock ∧ some k_ ≠ (v620 : Value).ownBlock) v632 x14_5) ∧ Aside0 (w'.heap[gb603]? = some (.cells #[.int .i64 a2_0, .int .i64 a2_1] 49 (0, 0))) ∧ Aside0 (Below w.heap.size w w'))
               case atStart => exact ⟨(t631), (0), (by first | rfl | (simp; done) | (simp [*]; done)), H', ⟨Nat.le_refl _⟩, ⟨by (with_reducible repeat (first | apply Kd.R_alloc | apply Kd.R_drewN | apply Kd.R_drew)); exact Kd.R_mono HO_7.out (fun _ hk => ⟨hk.1, ⟨hk.2.1, ⟨hk.2.2.1, hk.2.2.2.2⟩⟩⟩)⟩, ⟨by (with_reducible repeat (first | apply Kd.R_alloc | apply Kd.R_drewN | apply Kd.R_drew)); exact Kd.R_mono HO_8.out (fun _ hk => ⟨hk.1, ⟨hk.2.1, ⟨hk.2.2.1, hk.2.2.2.2⟩⟩⟩)⟩, ⟨by (with_reducible repeat (first | apply Kd.R_alloc | apply Kd.R_drewN | apply Kd.R_drew)); exact Kd.R_mono HO_9.out (fun _ hk => ⟨hk.1, ⟨hk.2.1, ⟨hk.2.2.1, hk.2.2.2.2⟩⟩⟩)⟩, ⟨by (with_reducible repeat (first | apply Kd.R_alloc | apply Kd.R_drewN | apply Kd.R_drew)); exact Kd.R_mono HO_10.out (fun _ hk => ⟨hk.1, ⟨hk.2.1, ⟨hk.2.2.1, hk.2.2.2.2⟩⟩⟩)⟩, ⟨by (with_reducible repeat (first | apply Kd.R_alloc | apply Kd.R_drewN | apply Kd.R_drew)); exact Kd.R_mono HO_14.out (fun _ hk => ⟨hk.1, ⟨hk.2.1, ⟨hk.2.2.1, hk.2.2.2.1⟩⟩⟩)⟩, ⟨by (with_reducible repeat (first | refine blk_drewN ?_ _ | refine blk_drew ?_ | refine blk_alloc ?_ _)); exact BK603.out⟩, ⟨by repeat (first | (with_reducible first | exact HB.out | apply below_alloc | apply pw_below_drewN | apply below_drew1 | refine below_set ?_ GE603.out) | exact HB.out)⟩⟩
               case round =>
                clear H'
                try clear c1
                try clear c2
                try clear p2
                try clear c3
                try clear c4
                try clear c6
                try clear p6
                try clear c7
                try clear p7
                try clear q7
                try clear hx7
                try clear hf7
                try clear c8
                try clear p8
                try clear q8
                try clear hx8
                try clear hf8
                try clear c9
                try clear hx9
                try clear hf9
                try clear c17
                try clear c20
                try clear c31
                try clear c34
                try clear c37
                try clear c38
                try clear c39
                try clear c40
                try clear c41
                try clear p64
                try clear c71
                try clear c72
                try clear c72b0
                try clear c73
                try clear c73b0
                try clear c74
                try clear p74
                try clear q74
                try clear hx74
                try clear hf74
                try clear c76
                try clear hx76
                try clear hf76
                try clear c79
                try clear c79b0
                try clear c80
                try clear c80b0
                try clear c81
                try clear p81
                try clear q81
                try clear hx81
                try clear hf81
                try clear c83
                try clear hx83
                try clear hf83
                try clear c86
                try clear c86b0
                try clear c87
                try clear c87b0
                try clear c88
                try clear p88
                try clear q88
                try clear hx88
                try clear hf88
                try clear c90
                try clear hx90
                try clear hf90
                try clear hcz49_0
                try clear hcz49_1
                try clear hfz49_0
                try clear hfz49_1
                try clear hx74_0
                try clear hx74_1
                try clear hx76_0
                try clear hx81_0
                try clear hx81_1
                try clear hx83_0
                try clear hx88_0
                try clear hx88_1
                try clear hx90_0
                try clear p2
                try clear p6
                try clear p64
                try clear p7
                try clear p74
                try clear p8
                try clear p81
                try clear p88
                try clear q7
                try clear q74
                try clear q8
                try clear q81
                try clear q88
                obtain ⟨x14_5, x18_5, rfl, HA, HK5, HO_7, HO_8, HO_9, HO_10, HO_14, BK603, HB⟩ := hrel
                cases gk with
                | zero => exact absurd HA.out (by simp [secateurlaw02_DomJoins.l3])
                | succ k5 =>
                 have H := HA.out
                 clear HA
                 simp only [secateurlaw02_DomJoins.l3] at H
                 by_cases c93 : x18_5 < (x14_5.length : Int)
                 ·rw [if_pos c93] at H
                  have c93b0 : decide (x18_5 < (x14_5.length : Int)) = true := decide_eq_true c93
                  clear c93
                  by_cases c94 : 0 ≤ x18_5
                  ·rw [if_pos c94] at H
                   have c94b0 : decide (0 ≤ x18_5) = true := decide_eq_true c94
                   clear c94
                   obtain ⟨y653, hy653⟩ : ∃ y_ : List (S52), y_ = (x14_5.set (x18_5 : Int).toNat (⟨999, (rd_T52 x14_5 x18_5).f1⟩ : S52)) := ⟨_, rfl⟩
                   replace H : (secateurlaw02_DomJoins.l3 k5 t604 t607 y613 y619 y653 (wrap64 (x18_5 + 1))) = some r := by first | (rw [hy653]; with_reducible exact H) | (have H2_ := (Option.bind_some _ _).symm.trans H; rw [hy653]; with_reducible exact H2_) | (have H2_ := (Option.bind_some _ _).symm.trans H; with_reducible exact H2_) | with_reducible exact H | (rw [hy653]; exact H) | exact H
                   have Ny653 := Aside0.mk hy653
                   clear hy653
                   have H' := Aside0.mk H
                   clear H
                   obtain ⟨Ao96, co96, eo96⟩ := Kd.R_slice HO_14.out
                   subst eo96
                   have p95 : 0 ≤ (x18_5 : Int) := of_decide_eq_true (by first | (with_reducible assumption) | assumption)
                   have q95 : (x18_5 : Int) < ((x14_5.length : Int) : Int) := of_decide_eq_true (by first | (with_reducible assumption) | assumption)
                   obtain ⟨go95, co95, eo95, gb95, gl95, cl95, HG95⟩ := Kd.R_form HO_14.out (by omega)
                   (first | cases eo95 | (injection eo95 with ea_ en_ ec_; (first | subst ea_ | (injection ea_ with ea_; subst ea_)); subst ec_; clear en_))
                   have GB95 := Aside0.mk gb95
                   have GG95 := Aside0.mk HG95
                   clear gb95 gl95 HG95
                   obtain ⟨ce95, hcl95, hM95, hcc95, hfr95⟩ := Kd.R_elem HO_14.out z52 (x18_5 : Int) p95 q95
                   obtain rfl := k52_openM hM95
                   have hx95_0 : wr.cell? ⟨go95, (x18_5 : Int).toNat * 2, none⟩ = some (.int .i64 ((rd_T52 x14_5 x18_5).f0)) := hcc95 0 _ rfl
                   have hx95_1 : wr.cell? ⟨go95, (x18_5 : Int).toNat * 2 + 1, none⟩ = some (.int .i64 ((rd_T52 x14_5 x18_5).f1)) := hcc95 1 _ rfl
                   have hf95_0 : wr.frozen? ⟨go95, (x18_5 : Int).toNat * 2, none⟩ = false := hfr95 0
                   have hf95_1 : wr.frozen? ⟨go95, (x18_5 : Int).toNat * 2 + 1, none⟩ = false := hfr95 1
                   clear hcl95 hcc95 hfr95 hM95
                   replace p95 := eq_true p95
                   replace q95 := eq_true q95
                   have HX97 := Aside0.mk (show Kd.R k52 52 wr w.heap.size (fun k_ => some k_ ≠ (.slice Ao19 t604.length co19 : Value).ownBlock ∧ some k_ ≠ (.slice Ao23 t607.length co23 : Value).ownBlock ∧ some k_ ≠ (v614 : Value).ownBlock ∧ some k_ ≠ (v620 : Value).ownBlock) (.slice (some ⟨go95, 0, none⟩) x14_5.length co96) x14_5 from (by (with_reducible repeat (first | apply Kd.R_alloc | apply Kd.R_drewN | apply Kd.R_drew)); exact HO_14.out))
                   obtain ⟨ce97, hcl97, hM97, hcc97, hfr97⟩ := Kd.R_elem HX97.out z52 (x18_5 : Int) (of_decide_eq_true (by first | (with_reducible assumption) | assumption)) (by have h_ : (x18_5 : Int) < ((x14_5.length : Int) : Int) := of_decide_eq_true (by first | (with_reducible assumption) | assumption); first | exact h_ | (have e_ := (Kd.R_reads' HO_14.out).1; omega) | simpa using h_)
                   obtain rfl := k52_openM hM97
                   have HP97 := Kd.R_seg HX97.out (x18_5 : Int) (of_decide_eq_true (by first | (with_reducible assumption) | assumption)) (by have h_ : (x18_5 : Int) < ((x14_5.length : Int) : Int) := of_decide_eq_true (by first | (with_reducible assumption) | assumption); first | exact h_ | (have e_ := (Kd.R_reads' HO_14.out).1; omega) | simpa using h_) (seg := [.int .i64 999]) (j := 0) hcl97 hcc97 (show 1 ≤ 2 from by decide) (x' := (⟨999, (rd_T52 x14_5 x18_5).f1⟩ : S52)) (k52_mkM _ _ _ (⟨999, (rd_T52 x14_5 x18_5).f1⟩ : S52) ) (fun _ hk => hk)
                   have hx97_0 := hcc97 0 _ rfl
                   (try simp only [show (k52).sz = 2 from rfl, Nat.mul_one, Nat.add_zero] at hx97_0)
                   have hf97_0 := hfr97 0
                   (try simp only [show (k52).sz = 2 from rfl, Nat.mul_one, Nat.add_zero] at hf97_0)
                   clear hcl97 hcc97 hfr97 hM97
                   go_wp2_with (first | ((with_reducible refine gate_store (t := 3) (p := 116) rfl ?_); refine store_event (t := 3) (p := 116) (v := ?vo_w98) (w1 := (wr.setCell ⟨go95, (x18_5 : Int).toNat * 2, none⟩ (.int .i64 999))) ?hg ?ho ?hn ?hr ?_; (case ho => rfl); (case hg => rfl); (case hn => rfl); (case hr => first | (go_simp; done) | (go_simp; rfl)); intro w98 hw; have hg : wr.grownBy w98 (some go95) := (by rw [hw]; exact HP97.2); have hp_ : Kd.R k52 52 w98 w.heap.size (fun k_ => some k_ ≠ (.slice Ao19 t604.length co19 : Value).ownBlock ∧ some k_ ≠ (.slice Ao23 t607.length co23 : Value).ownBlock ∧ some k_ ≠ (v614 : Value).ownBlock ∧ some k_ ≠ (v620 : Value).ownBlock) (.slice (some ⟨go95, 0, none⟩) x14_5.length co96) y653 := (by rw [hw, Ny653.out]; exact HP97.1); clear HP97; have n0_ := Aside0.mk (Kd.R_after (v := (.slice (some ⟨go95, 0, none⟩) x14_5.length co96)) (v1 := (.slice (some ⟨go95, 0, none⟩) x14_5.length co96)) (ok := (fun k_ => some k_ ≠ (.slice Ao23 t607.length co23 : Value).ownBlock ∧ some k_ ≠ (v614 : Value).ownBlock ∧ some k_ ≠ (v620 : Value).ownBlock)) (by (with_reducible repeat (first | apply Kd.R_alloc | apply Kd.R_drewN | apply Kd.R_drew)); exact Kd.R_mono HO_7.out (fun _ hk => ⟨⟨hk.1, ⟨hk.2.1, hk.2.2.1⟩⟩, hk.2.2.2⟩)) hg (.inl rfl)); have n1_ := Aside0.mk (Kd.R_after (v := (.slice (some ⟨go95, 0, none⟩) x14_5.length co96)) (v1 := (.slice (some ⟨go95, 0, none⟩) x14_5.length co96)) (ok := (fun k_ => some k_ ≠ (.slice Ao19 t604.length co19 : Value).ownBlock ∧ some k_ ≠ (v614 : Value).ownBlock ∧ some k_ ≠ (v620 : Value).ownBlock)) (by (with_reducible repeat (first | apply Kd.R_alloc | apply Kd.R_drewN | apply Kd.R_drew)); exact Kd.R_mono HO_8.out (fun _ hk => ⟨⟨hk.1, ⟨hk.2.1, hk.2.2.1⟩⟩, hk.2.2.2⟩)) hg (.inl rfl)); have n2_ := Aside0.mk (Kd.R_after (v := (.slice (some ⟨go95, 0, none⟩) x14_5.length co96)) (v1 := (.slice (some ⟨go95, 0, none⟩) x14_5.length co96)) (ok := (fun k_ => some k_ ≠ (.slice Ao19 t604.length co19 : Value).ownBlock ∧ some k_ ≠ (.slice Ao23 t607.length co23 : Value).ownBlock ∧ some k_ ≠ (v620 : Value).ownBlock)) (by (with_reducible repeat (first | apply Kd.R_alloc | apply Kd.R_drewN | apply Kd.R_drew)); exact Kd.R_mono HO_9.out (fun _ hk => ⟨⟨hk.1, ⟨hk.2.1, hk.2.2.1⟩⟩, hk.2.2.2⟩)) hg (.inl rfl)); have n3_ := Aside0.mk (Kd.R_after (v := (.slice (some ⟨go95, 0, none⟩) x14_5.length co96)) (v1 := (.slice (some ⟨go95, 0, none⟩) x14_5.length co96)) (ok := (fun k_ => some k_ ≠ (.slice Ao19 t604.length co19 : Value).ownBlock ∧ some k_ ≠ (.slice Ao23 t607.length co23 : Value).ownBlock ∧ some k_ ≠ (v614 : Value).ownBlock)) (by (with_reducible repeat (first | apply Kd.R_alloc | apply Kd.R_drewN | apply Kd.R_drew)); exact Kd.R_mono HO_10.out (fun _ hk => ⟨⟨hk.1, ⟨hk.2.1, hk.2.2.1⟩⟩, hk.2.2.2⟩)) hg (.inl rfl)); have n4_ := Aside0.mk (hp_); have n5_ := Aside0.mk (blk_grown (g := gb603) (o := .cells #[.int .i64 a2_0, .int .i64 a2_1] 49 (0, 0)) (by (with_reducible repeat (first | refine blk_drewN ?_ _ | refine blk_drew ?_ | refine blk_alloc ?_ _)); exact BK603.out) hg (Kd.R_ne HO_14.out BK603.out (by decide))); have n6_ := Aside0.mk ((by rw [hw]; exact below_set (HB.out) GB95.out : Below w.heap.size w w98)); clear HO_7; clear HO_8; clear HO_9; clear HO_10; clear HO_14; clear BK603; clear HB; have HO_7 := n0_; have HO_8 := n1_; have HO_9 := n2_; have HO_10 := n3_; have HO_14 := n4_; have BK603 := n5_; have HB := n6_; clear n0_ n1_ n2_ n3_ n4_ n5_ n6_; clear hg hw hp_))
                   go_roundg k5
                   case measure => have := HJ11.out; have := HK2.out; have := HK3.out; have := HK4.out; have := HK5.out; omega
                   case rel => exact ⟨(y653), (wrap64 (x18_5 + 1)), (by first | rfl | (simp; done) | (simp [*]; done)), H', ⟨by have := HJ11.out; have := HK2.out; have := HK3.out; have := HK4.out; have := HK5.out; omega⟩, ⟨by (with_reducible repeat (first | apply Kd.R_alloc | apply Kd.R_drewN | apply Kd.R_drew)); exact Kd.R_mono HO_7.out (fun _ hk => ⟨hk.1.1, ⟨hk.1.2.1, ⟨hk.1.2.2, hk.2⟩⟩⟩)⟩, ⟨by (with_reducible repeat (first | apply Kd.R_alloc | apply Kd.R_drewN | apply Kd.R_drew)); exact Kd.R_mono HO_8.out (fun _ hk => ⟨hk.1.1, ⟨hk.1.2.1, ⟨hk.1.2.2, hk.2⟩⟩⟩)⟩, ⟨by (with_reducible repeat (first | apply Kd.R_alloc | apply Kd.R_drewN | apply Kd.R_drew)); exact Kd.R_mono HO_9.out (fun _ hk => ⟨hk.1.1, ⟨hk.1.2.1, ⟨hk.1.2.2, hk.2⟩⟩⟩)⟩, ⟨by (with_reducible repeat (first | apply Kd.R_alloc | apply Kd.R_drewN | apply Kd.R_drew)); exact Kd.R_mono HO_10.out (fun _ hk => ⟨hk.1.1, ⟨hk.1.2.1, ⟨hk.1.2.2, hk.2⟩⟩⟩)⟩, ⟨by (with_reducible repeat (first | apply Kd.R_alloc | apply Kd.R_drewN | apply Kd.R_drew)); exact HO_14.out⟩, ⟨by (with_reducible repeat (first | refine blk_drewN ?_ _ | refine blk_drew ?_ | refine blk_alloc ?_ _)); exact BK603.out⟩, ⟨by repeat (first | (with_reducible first | exact HB.out | apply below_alloc | apply pw_below_drewN | apply below_drew1 | refine below_set ?_ GE603.out) | exact HB.out)⟩⟩
                  ·rw [if_neg c94] at H
                   exact absurd H (by simp)
                 ·rw [if_neg c93] at H
                  have c93b0 : decide (x18_5 < (x14_5.length : Int)) = false := decide_eq_false c93
                  clear c93
                  replace H := Option.bind_eq_some_iff.mp H
                  obtain ⟨t654, A990, H⟩ := H
                  replace H : (if t654 = true then ((secateurref02_Same.f k5 t607 y619).bind fun t655 => (if t655 = true then ((dom_Same.f k5 t604 t607).bind fun t656 => ((secateurref02_Same.f k5 t604 t607).bind fun t657 => (if (t656 == t657) = true then ((secateurlaw02_fixed.f k5).bind fun t658 => (some t658)) else (none)))) else (none))) else (none)) = some r := H
                  have A99 := Aside0.mk A990
                  clear A990
                  by_cases c100 : t654 = true
                  ·subst c100
                   have H1 : ((secateurref02_Same.f k5 t607 y619).bind fun t655 => (if t655 = true then ((dom_Same.f k5 t604 t607).bind fun t656 => ((secateurref02_Same.f k5 t604 t607).bind fun t657 => (if (t656 == t657) = true then ((secateurlaw02_fixed.f k5).bind fun t658 => (some t658)) else (none)))) else (none))) = some r := by rw [if_pos rfl] at H; exact H
                   clear H
                   have H := H1
                   clear H1
                   replace H := Option.bind_eq_some_iff.mp H
                   obtain ⟨t655, A1010, H⟩ := H
                   replace H : (if t655 = true then ((dom_Same.f k5 t604 t607).bind fun t656 => ((secateurref02_Same.f k5 t604 t607).bind fun t657 => (if (t656 == t657) = true then ((secateurlaw02_fixed.f k5).bind fun t658 => (some t658)) else (none)))) else (none)) = some r := H
                   have A101 := Aside0.mk A1010
                   clear A1010
                   by_cases c102 : t655 = true
                   ·subst c102
                    have H1 : ((dom_Same.f k5 t604 t607).bind fun t656 => ((secateurref02_Same.f k5 t604 t607).bind fun t657 => (if (t656 == t657) = true then ((secateurlaw02_fixed.f k5).bind fun t658 => (some t658)) else (none)))) = some r := by rw [if_pos rfl] at H; exact H
                    clear H
                    have H := H1
                    clear H1
                    replace H := Option.bind_eq_some_iff.mp H
                    obtain ⟨t656, A1030, H⟩ := H
                    replace H : ((secateurref02_Same.f k5 t604 t607).bind fun t657 => (if (t656 == t657) = true then ((secateurlaw02_fixed.f k5).bind fun t658 => (some t658)) else (none))) = some r := H
                    have A103 := Aside0.mk A1030
                    clear A1030
                    replace H := Option.bind_eq_some_iff.mp H
                    obtain ⟨t657, A1040, H⟩ := H
                    replace H : (if (t656 == t657) = true then ((secateurlaw02_fixed.f k5).bind fun t658 => (some t658)) else (none)) = some r := H
                    have A104 := Aside0.mk A1040
                    clear A1040
                    by_cases c105 : (t656 == t657) = true
                    ·rw [if_pos c105] at H
                     have c105b0 : (t656 == t657) = true := c105
                     (try (have c105b1 : decide (t656 = t657) = true := by simpa using c105))
                     (try (have c105b2 : (t656 == t657) = true := by simpa using c105))
                     clear c105
                     replace H := Option.bind_eq_some_iff.mp H
                     obtain ⟨t658, A1060, H⟩ := H
                     replace H : (some t658) = some r := H
                     have A106 := Aside0.mk A1060
                     clear A1060
                     obtain rfl := Option.some.inj H
                     obtain ⟨Ao107, co107, eo107⟩ := Kd.R_slice HO_14.out
                     subst eo107
                     obtain ⟨Ao108, co108, eo108⟩ := Kd.R_slice HO_9.out
                     subst eo108
                     go_wp2_with (first | ((with_reducible refine gate_callee (f := 17) rfl ?_); refine goesL_ (some 119) rfl rfl Try.func17 (by kernel_rfl) rfl #[.slice Ao19 t604.length co19, .slice Ao108 y613.length co108] rfl (by (try simp only [List.map_toArray, List.map_cons, List.map_nil]); first | done | rfl | (simp only [List.length_drop, List.length_take]; rfl)) ?_; (with_reducible refine (secateurref02_Same.calls k5 _ _ t604 _ _ y613 true _ ?side1 ?side2 ?side3 ?side4 A99.out).mono ?_); (case side1 => repeat (first | exact (Kd.R_reads' HO_7.out).2.2 | (with_reducible refine Kd.C_alloc ?_ _) | (with_reducible refine Kd.C_drewN ?_ _) | (with_reducible refine Kd.C_drew ?_))); (case side2 => exact (Kd.R_reads' HO_7.out).2.1); (case side3 => repeat (first | exact (Kd.R_reads' HO_9.out).2.2 | (with_reducible refine Kd.C_alloc ?_ _) | (with_reducible refine Kd.C_drewN ?_ _) | (with_reducible refine Kd.C_drew ?_))); (case side4 => exact (Kd.R_reads' HO_9.out).2.1); rintro e w' ⟨rfl, ⟨nd, rfl⟩⟩; refine ⟨_, rfl, ?_⟩; obtain ⟨Ao109, co109, eo109⟩ := Kd.R_slice HO_10.out; subst eo109) | (go_at_call 17; (with_reducible refine (secateurref02_Same.calls k5 _ _ t607 _ _ y619 true _ ?side1 ?side2 ?side3 ?side4 A101.out).mono ?_); (case side1 => repeat (first | exact (Kd.R_reads' HO_8.out).2.2 | (with_reducible refine Kd.C_alloc ?_ _) | (with_reducible refine Kd.C_drewN ?_ _) | (with_reducible refine Kd.C_drew ?_))); (case side2 => exact (Kd.R_reads' HO_8.out).2.1); (case side3 => repeat (first | exact (Kd.R_reads' HO_10.out).2.2 | (with_reducible refine Kd.C_alloc ?_ _) | (with_reducible refine Kd.C_drewN ?_ _) | (with_reducible refine Kd.C_drew ?_))); (case side4 => exact (Kd.R_reads' HO_10.out).2.1); rintro e w' ⟨rfl, ⟨nd, rfl⟩⟩) | (go_at_call 35; (with_reducible refine (dom_Same.calls k5 _ _ t604 _ _ t607 t656 _ ?side1 ?side2 ?side3 ?side4 A103.out).mono ?_); (case side1 => repeat (first | exact (Kd.R_reads' HO_7.out).2.2 | (with_reducible refine Kd.C_alloc ?_ _) | (with_reducible refine Kd.C_drewN ?_ _) | (with_reducible refine Kd.C_drew ?_))); (case side2 => exact (Kd.R_reads' HO_7.out).2.1); (case side3 => repeat (first | exact (Kd.R_reads' HO_8.out).2.2 | (with_reducible refine Kd.C_alloc ?_ _) | (with_reducible refine Kd.C_drewN ?_ _) | (with_reducible refine Kd.C_drew ?_))); (case side4 => exact (Kd.R_reads' HO_8.out).2.1); rintro e w' ⟨rfl, ⟨nd, rfl⟩⟩) | (go_at_call 17; (with_reducible refine (secateurref02_Same.calls k5 _ _ t604 _ _ t607 t657 _ ?side1 ?side2 ?side3 ?side4 A104.out).mono ?_); (case side1 => repeat (first | exact (Kd.R_reads' HO_7.out).2.2 | (with_reducible refine Kd.C_alloc ?_ _) | (with_reducible refine Kd.C_drewN ?_ _) | (with_reducible refine Kd.C_drew ?_))); (case side2 => exact (Kd.R_reads' HO_7.out).2.1); (case side3 => repeat (first | exact (Kd.R_reads' HO_8.out).2.2 | (with_reducible refine Kd.C_alloc ?_ _) | (with_reducible refine Kd.C_drewN ?_ _) | (with_reducible refine Kd.C_drew ?_))); (case side4 => exact (Kd.R_reads' HO_8.out).2.1); rintro e w' ⟨rfl, ⟨nd, rfl⟩⟩) | (go_at_call 19; (with_reducible refine (secateurlaw02_fixed.calls k5  t658 _ A106.out).mono ?_); rintro e w110 ⟨rfl, hb⟩; have n0_ := Aside0.mk (Kd.R_below (by (with_reducible repeat (first | apply Kd.R_alloc | apply Kd.R_drewN | apply Kd.R_drew)); exact HO_7.out) hb); have n1_ := Aside0.mk (Kd.R_below (by (with_reducible repeat (first | apply Kd.R_alloc | apply Kd.R_drewN | apply Kd.R_drew)); exact HO_8.out) hb); have n2_ := Aside0.mk (Kd.R_below (by (with_reducible repeat (first | apply Kd.R_alloc | apply Kd.R_drewN | apply Kd.R_drew)); exact HO_9.out) hb); have n3_ := Aside0.mk (Kd.R_below (by (with_reducible repeat (first | apply Kd.R_alloc | apply Kd.R_drewN | apply Kd.R_drew)); exact HO_10.out) hb); have n4_ := Aside0.mk (Kd.R_below (by (with_reducible repeat (first | apply Kd.R_alloc | apply Kd.R_drewN | apply Kd.R_drew)); exact HO_14.out) hb); have n5_ := Aside0.mk (blk_below (g := gb603) (o := .cells #[.int .i64 a2_0, .int .i64 a2_1] 49 (0, 0)) (by (with_reducible repeat (first | refine blk_drewN ?_ _ | refine blk_drew ?_ | refine blk_alloc ?_ _)); exact BK603.out) hb); have n6_ := Aside0.mk (below_step (by repeat (first | (with_reducible first | exact HB.out | apply below_alloc | apply pw_below_drewN | apply below_drew1 | refine below_set ?_ GE603.out) | exact HB.out)) hb); clear HO_7; clear HO_8; clear HO_9; clear HO_10; clear HO_14; clear BK603; clear HB; have HO_7 := n0_; have HO_8 := n1_; have HO_9 := n2_; have HO_10 := n3_; have HO_14 := n4_; have BK603 := n5_; have HB := n6_; clear n0_ n1_ n2_ n3_ n4_ n5_ n6_; (try clear hb); (try clear hb2); (try clear hk); (try clear hi)))
                     go_ret
                     exact ⟨by first | rfl | (simp [errW_none, errW_some] <;> rfl) | (simp [*, errW_none, errW_some] <;> rfl), by repeat (first | (with_reducible first | exact HB.out | apply below_alloc | apply pw_below_drewN | apply below_drew1 | refine below_set ?_ GE603.out) | exact HB.out)⟩
                    ·rw [if_neg c105] at H
                     exact absurd H (by simp)
                   ·replace c102 := Bool.eq_false_iff.mpr c102
                    subst c102
                    have H1 : (none) = some r := by rw [if_neg (show ¬ (false = true) by decide)] at H; exact H
                    clear H
                    have H := H1
                    clear H1
                    exact absurd H (by simp)
                  ·replace c100 := Bool.eq_false_iff.mpr c100
                   subst c100
                   have H1 : (none) = some r := by rw [if_neg (show ¬ (false = true) by decide)] at H; exact H
                   clear H
                   have H := H1
                   clear H1
                   exact absurd H (by simp)
  ·rw [if_neg c7] at H
   exact absurd H (by simp)
 ·rw [if_neg c6] at H
  exact absurd H (by simp)

end Go.Proofs.Ytklanjkndoikeaa.P

/- Plain: what is in both, in one, in the first one alone, from one value to another one. -/
namespace Go.Proofs.Ytklanjkndoikeaa.P
open Go.RowKit Go.Proofs.YtklanjkndoikeaaW.PrintWords Go.Proofs.YtklanjkndoikeaaW.PrintLast Go.Proofs.YtklanjkndoikeaaW.PrintMore
set_option linter.unusedVariables false
set_option linter.unusedSimpArgs false

/-- r is a domain, and its values are just those of which q is true. -/
def DomOf (r : List Rg) (q : Int → Prop) : Prop := Gd 1048576 (-1048576) r ∧ ∀ v, Va r v ↔ q v
theorem DomOf.eq {r s : List Rg} {q q' : Int → Prop} (h : DomOf r q) (k : DomOf s q') (e : ∀ v, q v ↔ q' v) : r = s := Gd.ext h.1 k.1 (fun v => (h.2 v).trans ((e v).trans (k.2 v).symm))
theorem DomOf.len {r : List Rg} {q : Int → Prop} (h : DomOf r q) : r.length ≤ 2097153 := by
  have h1 := length_le_vals h.1
  have h2 := vals_length h.1
  omega
theorem Gd.at {V b : Int} {d : List Rg} (h : Gd V b d) {n : Nat} (hn : n < d.length) : b ≤ d[n].f0 ∧ d[n].f0 ≤ d[n].f1 ∧ d[n].f1 ≤ V ∧ Gd V (d[n].f1 + 2) (d.drop (n + 1)) := by
  have hg := h.drop n
  rw [List.drop_eq_getElem_cons hn] at hg
  exact hg
theorem Va_drop {d : List Rg} {n : Nat} (hn : n < d.length) (v : Int) : Va (d.drop n) v ↔ (d[n].f0 ≤ v ∧ v ≤ d[n].f1) ∨ Va (d.drop (n + 1)) v := by rw [List.drop_eq_getElem_cons hn, Va_cons]

/-! ### Meet, Cut -/
theorem Meet_l0 (a b : List Rg) {Vb ba bb : Int} (ha : Gd 1048576 ba a) (hba : -1048576 ≤ ba) (hb : Gd Vb bb b) (hla : a.length ≤ 3000000) (hlb : b.length ≤ 3000000) : ∀ (m i j : Nat) (out : List Rg), (a.length - i) + (b.length - j) ≤ m → i ≤ a.length → j ≤ b.length →
    out.length ≤ i + j → Gd 1048576 (-1048576) out → (∀ v, Va (a.drop i) v → Va (b.drop j) v → endB (-1048576) out ≤ v) →
    ∃ r, Ev (fun k => dom_Meet.l0 k a b out (i : Int) (j : Int)) r ∧ DomOf r (fun v => Va out v ∨ (Va (a.drop i) v ∧ Va (b.drop j) v)) := by
  intro m
  induction m with
  | zero =>
    intro i j out hm hi hj ho hg _
    have e1 : a.drop i = [] := List.drop_eq_nil_iff.2 (by omega)
    refine ⟨out, ?_, hg, fun v => by rw [e1]; simp⟩
    refine Ev.step (fun k => by rw [dom_Meet.l0, if_neg (by omega)]) ?_
    exact Ev.step (G := fun _ => some out) (fun k => by rw [dom_Meet.j1, if_neg (by simp)]) (Ev.pure _)
  | succ m ih =>
    intro i j out hm hi hj ho hg hend
    by_cases hil : i < a.length
    · by_cases hjl : j < b.length
      · obtain ⟨x1, x2, x3, x4⟩ := ha.at hil
        obtain ⟨y1, y2, y3, y4⟩ := hb.at hjl
        have hxa := show rd_T52 a (i : Int) = a[i] from rg_nat a i hil
        have hyb := show rd_T52 b (j : Int) = b[j] from rg_nat b j hjl
        have hva := Va_drop hil
        have hvb := Va_drop hjl
        have enter : ∀ {r}, Ev (fun k => dom_Meet.j1 k a b out (i : Int) (j : Int) true) r → Ev (fun k => dom_Meet.l0 k a b out (i : Int) (j : Int)) r := fun h =>
          Ev.step (fun k => by rw [dom_Meet.l0, if_pos (by omega), decide_eq_true (show (j : Int) < (b.length : Int) by omega)]) h
        by_cases hlt : a[i].f1 < b[j].f1
        · have next : ∀ out', out'.length ≤ i + 1 + j → Gd 1048576 (-1048576) out' → (∀ v, Va (a.drop (i + 1)) v → Va (b.drop j) v → endB (-1048576) out' ≤ v) → _ := fun out' h1 h2 h3 => ih (i + 1) j out' (by omega) (by omega) hj h1 h2 h3
          by_cases hin : mx a[i].f0 b[j].f0 ≤ mn a[i].f1 b[j].f1
          · have hlo : a[i].f0 ≤ mx a[i].f0 b[j].f0 ∧ b[j].f0 ≤ mx a[i].f0 b[j].f0 ∧ (mx a[i].f0 b[j].f0 = a[i].f0 ∨ mx a[i].f0 b[j].f0 = b[j].f0) := by unfold mx; split <;> omega
            have hhi : mn a[i].f1 b[j].f1 = a[i].f1 := by unfold mn; split <;> omega
            rw [hhi] at hin
            obtain ⟨r, hr, hD⟩ := next (out ++ [⟨mx a[i].f0 b[j].f0, a[i].f1⟩]) (by simp; omega) (Gd_snoc.2 ⟨hg, hend (mx a[i].f0 b[j].f0) ((hva _).2 (.inl ⟨hlo.1, hin⟩)) ((hvb _).2 (.inl ⟨hlo.2.1, by omega⟩)), hin, x3⟩) (fun v h1 h2 => by
              rw [endB_snoc]
              exact x4.ge h1)
            refine ⟨r, enter (Ev.step (fun k => by rw [dom_Meet.j1, if_pos rfl, if_pos (by omega), if_pos (by omega), if_pos (by omega), if_pos (by omega), hxa, hyb, hhi, if_pos hin, if_pos (by omega), Option.bind_some, if_pos hlt, w1 (by omega)]) hr), hD.1, fun v => ?_⟩
            have hv := hD.2 v
            dsimp only at hv ⊢
            rw [hv, Va_append, Va_cons, hva v, hvb v]
            simp only [Va_nil, or_false]
            constructor
            · rintro ((h | h) | ⟨h1, h2⟩)
              · exact .inl h
              · exact .inr ⟨.inl ⟨by omega, h.2⟩, .inl ⟨by omega, by omega⟩⟩
              · exact .inr ⟨.inr h1, h2⟩
            · rintro (h | ⟨h1 | h1, h2⟩)
              · exact .inl (.inl h)
              · rcases h2 with h2 | h2
                · exact .inl (.inr ⟨by omega, h1.2⟩)
                · have := y4.ge h2; omega
              · exact .inr ⟨h1, h2⟩
          · have hno : ¬ (∃ v, (a[i].f0 ≤ v ∧ v ≤ a[i].f1) ∧ (b[j].f0 ≤ v ∧ v ≤ b[j].f1)) := by
              rintro ⟨v, h1, h2⟩
              apply hin
              unfold mx mn
              split <;> split <;> omega
            obtain ⟨r, hr, hD⟩ := next out (by omega) hg (fun v h1 h2 => hend v ((hva v).2 (.inr h1)) h2)
            refine ⟨r, enter (Ev.step (fun k => by rw [dom_Meet.j1, if_pos rfl, if_pos (by omega), if_pos (by omega), if_pos (by omega), if_pos (by omega), hxa, hyb, if_neg hin, if_pos hlt, w1 (by omega)]) hr), hD.1, fun v => ?_⟩
            have hv := hD.2 v
            dsimp only at hv ⊢
            rw [hv, hva v, hvb v]
            constructor
            · rintro (h | ⟨h1, h2⟩)
              · exact .inl h
              · exact .inr ⟨.inr h1, h2⟩
            · rintro (h | ⟨h1 | h1, h2⟩)
              · exact .inl h
              · rcases h2 with h2 | h2
                · exact absurd ⟨v, h1, h2⟩ hno
                · have := y4.ge h2; omega
              · exact .inr ⟨h1, h2⟩
        · have next : ∀ out', out'.length ≤ i + (j + 1) → Gd 1048576 (-1048576) out' → (∀ v, Va (a.drop i) v → Va (b.drop (j + 1)) v → endB (-1048576) out' ≤ v) → _ := fun out' h1 h2 h3 => ih i (j + 1) out' (by omega) hi (by omega) h1 h2 h3
          by_cases hin : mx a[i].f0 b[j].f0 ≤ mn a[i].f1 b[j].f1
          · have hlo : a[i].f0 ≤ mx a[i].f0 b[j].f0 ∧ b[j].f0 ≤ mx a[i].f0 b[j].f0 ∧ (mx a[i].f0 b[j].f0 = a[i].f0 ∨ mx a[i].f0 b[j].f0 = b[j].f0) := by unfold mx; split <;> omega
            have hhi : mn a[i].f1 b[j].f1 = b[j].f1 := by unfold mn; split <;> omega
            rw [hhi] at hin
            obtain ⟨r, hr, hD⟩ := next (out ++ [⟨mx a[i].f0 b[j].f0, b[j].f1⟩]) (by simp; omega) (Gd_snoc.2 ⟨hg, hend (mx a[i].f0 b[j].f0) ((hva _).2 (.inl ⟨hlo.1, by omega⟩)) ((hvb _).2 (.inl ⟨hlo.2.1, hin⟩)), hin, by show b[j].f1 ≤ 1048576; omega⟩) (fun v h1 h2 => by
              rw [endB_snoc]
              exact y4.ge h2)
            refine ⟨r, enter (Ev.step (fun k => by rw [dom_Meet.j1, if_pos rfl, if_pos (by omega), if_pos (by omega), if_pos (by omega), if_pos (by omega), hxa, hyb, hhi, if_pos hin, if_pos (by omega), Option.bind_some, if_neg hlt, w1 (by omega)]) hr), hD.1, fun v => ?_⟩
            have hv := hD.2 v
            dsimp only at hv ⊢
            rw [hv, Va_append, Va_cons, hva v, hvb v]
            simp only [Va_nil, or_false]
            constructor
            · rintro ((h | h) | ⟨h1, h2⟩)
              · exact .inl h
              · exact .inr ⟨.inl ⟨by omega, by omega⟩, .inl ⟨by omega, h.2⟩⟩
              · exact .inr ⟨h1, .inr h2⟩
            · rintro (h | ⟨h1, h2 | h2⟩)
              · exact .inl (.inl h)
              · rcases h1 with h1 | h1
                · exact .inl (.inr ⟨by omega, h2.2⟩)
                · have := x4.ge h1; omega
              · exact .inr ⟨h1, h2⟩
          · have hno : ¬ (∃ v, (a[i].f0 ≤ v ∧ v ≤ a[i].f1) ∧ (b[j].f0 ≤ v ∧ v ≤ b[j].f1)) := by
              rintro ⟨v, h1, h2⟩
              apply hin
              unfold mx mn
              split <;> split <;> omega
            obtain ⟨r, hr, hD⟩ := next out (by omega) hg (fun v h1 h2 => hend v h1 ((hvb v).2 (.inr h2)))
            refine ⟨r, enter (Ev.step (fun k => by rw [dom_Meet.j1, if_pos rfl, if_pos (by omega), if_pos (by omega), if_pos (by omega), if_pos (by omega), hxa, hyb, if_neg hin, if_neg hlt, w1 (by omega)]) hr), hD.1, fun v => ?_⟩
            have hv := hD.2 v
            dsimp only at hv ⊢
            rw [hv, hva v, hvb v]
            constructor
            · rintro (h | ⟨h1, h2⟩)
              · exact .inl h
              · exact .inr ⟨h1, .inr h2⟩
            · rintro (h | ⟨h1, h2 | h2⟩)
              · exact .inl h
              · rcases h1 with h1 | h1
                · exact absurd ⟨v, h1, h2⟩ hno
                · have := x4.ge h1; omega
              · exact .inr ⟨h1, h2⟩
      · have e1 : b.drop j = [] := List.drop_eq_nil_iff.2 (by omega)
        refine ⟨out, ?_, hg, fun v => by rw [e1]; simp⟩
        refine Ev.step (fun k => by rw [dom_Meet.l0, if_pos (by omega), decide_eq_false (show ¬ (j : Int) < (b.length : Int) by omega)]) ?_
        exact Ev.step (G := fun _ => some out) (fun k => by rw [dom_Meet.j1, if_neg (by simp)]) (Ev.pure _)
    · have e1 : a.drop i = [] := List.drop_eq_nil_iff.2 (by omega)
      refine ⟨out, ?_, hg, fun v => by rw [e1]; simp⟩
      refine Ev.step (fun k => by rw [dom_Meet.l0, if_neg (by omega)]) ?_
      exact Ev.step (G := fun _ => some out) (fun k => by rw [dom_Meet.j1, if_neg (by simp)]) (Ev.pure _)
theorem Meet_ev (a b : List Rg) {Vb bb : Int} (ha : Gd 1048576 (-1048576) a) (hb : Gd Vb bb b) (hlb : b.length ≤ 3000000) : ∃ r, Ev (fun k => dom_Meet.f k a b) r ∧ DomOf r (fun v => Va a v ∧ Va b v) := by
  have h1 := length_le_vals ha
  have h2 := vals_length ha
  obtain ⟨r, hr, hD⟩ := Meet_l0 a b ha (Int.le_refl _) hb (by omega) hlb (a.length + b.length) 0 0 [] (by omega) (by omega) (by omega) (by simp) trivial (fun v hv _ => by simp [endB]; exact ha.ge hv)
  exact ⟨r, hr, hD.1, fun v => by rw [hD.2 v]; simp⟩
theorem Cut_ev (a : List Rg) (lo hi : Int) (ha : Gd 1048576 (-1048576) a) : ∃ r, Ev (fun k => dom_Cut.f k a lo hi) r ∧ DomOf r (fun v => Va a v ∧ lo ≤ v ∧ v ≤ hi) := by
  by_cases h : lo > hi
  · exact ⟨[], Ev.eq (fun k => by rw [dom_Cut.f, if_pos h]) (Ev.pure _), trivial, fun v => by simp; omega⟩
  · obtain ⟨r, hr, hD⟩ := Meet_ev a [⟨lo, hi⟩] (Vb := hi) (bb := lo) ha ⟨Int.le_refl _, by show lo ≤ hi; omega, Int.le_refl _, trivial⟩ (by simp)
    exact ⟨r, Ev.eq (fun k => by rw [dom_Cut.f, if_neg h]) (Ev.bind hr (Ev.pure _)), hD.1, fun v => by rw [hD.2 v]; simp⟩

/-! ### Minus -/
/-- The rest of a range, from lo on, against the rest of b; then the rest of a. -/
theorem Minus_l1 (a b : List Rg) (ha : Gd 1048576 (-1048576) a) (hb : Gd 1048576 (-1048576) b) (hla : a.length ≤ 2097153) (hlb : b.length ≤ 2097153) (i : Nat) (hi : i < a.length)
    (next : ∀ out : List Rg, out.length ≤ (i + 1) * (b.length + 1) → Gd 1048576 (-1048576) out → endB (-1048576) out ≤ a[i].f1 + 2 →
      ∃ r, Ev (fun k => dom_Minus.l0 k b out a (a.length : Int) ((i + 1 : Nat) : Int)) r ∧ DomOf r (fun v => Va out v ∨ (Va (a.drop (i + 1)) v ∧ ¬ Va b v))) : ∀ (m j : Nat) (lo : Int) (out : List Rg), j + m = b.length → out.length ≤ i * (b.length + 1) + j →
    Gd 1048576 (-1048576) out → endB (-1048576) out ≤ lo → a[i].f0 ≤ lo → lo ≤ 1048577 → endB (-1048576) out ≤ a[i].f1 + 2 → (lo ≤ a[i].f1 ∨ ∀ v, Va (b.drop j) v → a[i].f1 < v) →
    ∃ r, Ev (fun k => dom_Minus.l1 k b out a (a.length : Int) (i : Int) b (b.length : Int) (j : Int) lo a[i].f1) r ∧ DomOf r (fun v => Va out v ∨ ((lo ≤ v ∧ v ≤ a[i].f1) ∧ ¬ Va (b.drop j) v) ∨ (Va (a.drop (i + 1)) v ∧ ¬ Va b v)) := by
  obtain ⟨x1, x2, x3, x4⟩ := ha.at hi
  have hmul : (i + 1) * (b.length + 1) = i * (b.length + 1) + (b.length + 1) := by rw [Nat.add_mul, Nat.one_mul]
  have hbig : i * (b.length + 1) ≤ 2097153 * 2097154 := Nat.mul_le_mul (by omega) (by omega)
  intro m
  induction m with
  | zero =>
    intro j lo out h ho hg he hlo hlo2 he2 hor
    have e1 : b.drop j = [] := drop_nil' h
    by_cases hle : lo ≤ a[i].f1
    · obtain ⟨r, hr, hD⟩ := next (out ++ [⟨lo, a[i].f1⟩]) (by simp; omega) (Gd_snoc.2 ⟨hg, he, hle, x3⟩) (by rw [endB_snoc]; exact Int.le_refl _)
      refine ⟨r, Ev.step (fun k => by rw [dom_Minus.l1, if_neg (by omega), if_pos hle, if_pos (by omega), w1 (by omega)]) hr, hD.1, fun v => ?_⟩
      have hv := hD.2 v
      dsimp only at hv ⊢
      rw [hv, Va_append, Va_cons, e1]
      simp [or_assoc]
    · obtain ⟨r, hr, hD⟩ := next out (by omega) hg he2
      refine ⟨r, Ev.step (fun k => by rw [dom_Minus.l1, if_neg (by omega), if_neg hle, w1 (by omega)]) hr, hD.1, fun v => ?_⟩
      have hv := hD.2 v
      dsimp only at hv ⊢
      rw [hv]
      constructor
      · rintro (h | h)
        · exact .inl h
        · exact .inr (.inr h)
      · rintro (h | ⟨h, _⟩ | h)
        · exact .inl h
        · omega
        · exact .inr h
  | succ m ih =>
    intro j lo out h ho hg he hlo hlo2 he2 hor
    have hj : j < b.length := by omega
    obtain ⟨y1, y2, y3, y4⟩ := hb.at hj
    have hyb := show rd_T52 b (j : Int) = b[j] from rg_nat b j hj
    have hvb := Va_drop hj
    -- nothing in common: go on
    have skip : (b[j].f1 < lo ∨ b[j].f0 > a[i].f1) → (∃ r, Ev (fun k => dom_Minus.l1 k b out a (a.length : Int) (i : Int) b (b.length : Int) ((j + 1 : Nat) : Int) lo a[i].f1) r ∧ DomOf r (fun v => Va out v ∨ ((lo ≤ v ∧ v ≤ a[i].f1) ∧ ¬ Va (b.drop j) v) ∨ (Va (a.drop (i + 1)) v ∧ ¬ Va b v))) := fun hs => by
      obtain ⟨r, hr, hD⟩ := ih (j + 1) lo out (by omega) (by omega) hg he hlo hlo2 he2 (hor.imp_right (fun hh v hv => hh v ((hvb v).2 (.inr hv))))
      refine ⟨r, hr, hD.1, fun v => ?_⟩
      have hv := hD.2 v
      dsimp only at hv ⊢
      rw [hv, hvb v]
      constructor
      · rintro (h | ⟨h1, h2⟩ | h)
        · exact .inl h
        · exact .inr (.inl ⟨h1, fun h3 => h3.elim (fun h3 => by omega) h2⟩)
        · exact .inr (.inr h)
      · rintro (h | ⟨h1, h2⟩ | h)
        · exact .inl h
        · exact .inr (.inl ⟨h1, fun h3 => h2 (.inr h3)⟩)
        · exact .inr (.inr h)
    by_cases c1 : b[j].f1 < lo
    · obtain ⟨r, hr, hD⟩ := skip (.inl c1)
      refine ⟨r, ?_, hD⟩
      refine Ev.step (fun k => by rw [dom_Minus.l1, if_pos (by omega), if_pos (by omega), if_pos (by omega), hyb, if_pos c1]) ?_
      exact Ev.step (fun k => by rw [dom_Minus.j2, if_pos rfl, w1 (by omega)]) hr
    · by_cases c2 : b[j].f0 > a[i].f1
      · obtain ⟨r, hr, hD⟩ := skip (.inr c2)
        refine ⟨r, ?_, hD⟩
        refine Ev.step (fun k => by rw [dom_Minus.l1, if_pos (by omega), if_pos (by omega), if_pos (by omega), hyb, if_neg c1]) ?_
        exact Ev.step (fun k => by rw [dom_Minus.j2, if_pos (decide_eq_true c2), w1 (by omega)]) hr
      · have hle : lo ≤ a[i].f1 := by
          rcases hor with h | h
          · exact h
          · have := h b[j].f0 ((hvb _).2 (.inl ⟨Int.le_refl _, y2⟩)); omega
        have hlater : b[j].f1 + 1 ≤ a[i].f1 ∨ ∀ v, Va (b.drop (j + 1)) v → a[i].f1 < v := by
          by_cases hh : b[j].f1 + 1 ≤ a[i].f1
          · exact .inl hh
          · exact .inr (fun v hv => by have := y4.ge hv; omega)
        have common : ∀ v, lo ≤ v → v ≤ a[i].f1 → (¬ ((b[j].f0 ≤ v ∧ v ≤ b[j].f1) ∨ Va (b.drop (j + 1)) v) ↔ (v < b[j].f0 ∨ (b[j].f1 + 1 ≤ v ∧ ¬ Va (b.drop (j + 1)) v))) := fun v h1 h2 => by
          constructor
          · intro hh
            by_cases h3 : v < b[j].f0
            · exact .inl h3
            · refine .inr ⟨?_, fun h4 => hh (.inr h4)⟩
              by_cases h5 : v ≤ b[j].f1
              · exact absurd (Or.inl ⟨by omega, h5⟩) hh
              · omega
          · rintro (h3 | ⟨h3, h4⟩) (h5 | h5)
            · omega
            · have := y4.ge h5; omega
            · omega
            · exact h4 h5
        have start : ∀ {r}, Ev (fun k => dom_Minus.j2 k b out a (a.length : Int) (i : Int) b (b.length : Int) (j : Int) false lo a[i].f1 b[j].f0 b[j].f1) r → Ev (fun k => dom_Minus.l1 k b out a (a.length : Int) (i : Int) b (b.length : Int) (j : Int) lo a[i].f1) r := fun hE =>
          Ev.step (fun k => by rw [dom_Minus.l1, if_pos (by omega), if_pos (by omega), if_pos (by omega), hyb, if_neg c1, decide_eq_false c2]) hE
        by_cases c3 : b[j].f0 > lo
        · obtain ⟨r, hr, hD⟩ := ih (j + 1) (b[j].f1 + 1) (out ++ [⟨lo, b[j].f0 - 1⟩]) (by omega) (by simp; omega) (Gd_snoc.2 ⟨hg, he, by show lo ≤ b[j].f0 - 1; omega, by show b[j].f0 - 1 ≤ 1048576; omega⟩) (by rw [endB_snoc]; show b[j].f0 - 1 + 2 ≤ _; omega) (by omega) (by omega) (by rw [endB_snoc]; show b[j].f0 - 1 + 2 ≤ _; omega) hlater
          refine ⟨r, start (Ev.step (fun k => by rw [dom_Minus.j2, if_neg (by simp), if_pos c3, if_pos (by omega), w64 (n := b[j].f0 - 1) (by omega) (by omega), w64 (n := b[j].f1 + 1) (by omega) (by omega), w1 (by omega)]) hr), hD.1, fun v => ?_⟩
          have hv := hD.2 v
          dsimp only at hv ⊢
          rw [hv, hvb v, Va_append, Va_cons]
          simp only [Va_nil, or_false]
          constructor
          · rintro ((h | h) | ⟨h1, h2⟩ | h)
            · exact .inl h
            · exact .inr (.inl ⟨⟨h.1, by omega⟩, (common v h.1 (by omega)).2 (.inl (by omega))⟩)
            · exact .inr (.inl ⟨⟨by omega, h1.2⟩, (common v (by omega) h1.2).2 (.inr ⟨h1.1, h2⟩)⟩)
            · exact .inr (.inr h)
          · rintro (h | ⟨h1, h2⟩ | h)
            · exact .inl (.inl h)
            · rcases (common v h1.1 h1.2).1 h2 with h3 | ⟨h3, h4⟩
              · exact .inl (.inr ⟨h1.1, by omega⟩)
              · exact .inr (.inl ⟨⟨h3, h1.2⟩, h4⟩)
            · exact .inr (.inr h)
        · obtain ⟨r, hr, hD⟩ := ih (j + 1) (b[j].f1 + 1) out (by omega) (by omega) hg (by omega) (by omega) (by omega) he2 hlater
          refine ⟨r, start (Ev.step (fun k => by rw [dom_Minus.j2, if_neg (by simp), if_neg c3, w64 (n := b[j].f1 + 1) (by omega) (by omega), w1 (by omega)]) hr), hD.1, fun v => ?_⟩
          have hv := hD.2 v
          dsimp only at hv ⊢
          rw [hv, hvb v]
          constructor
          · rintro (h | ⟨h1, h2⟩ | h)
            · exact .inl h
            · exact .inr (.inl ⟨⟨by omega, h1.2⟩, (common v (by omega) h1.2).2 (.inr ⟨h1.1, h2⟩)⟩)
            · exact .inr (.inr h)
          · rintro (h | ⟨h1, h2⟩ | h)
            · exact .inl h
            · rcases (common v h1.1 h1.2).1 h2 with h3 | ⟨h3, h4⟩
              · omega
              · exact .inr (.inl ⟨⟨h3, h1.2⟩, h4⟩)
            · exact .inr (.inr h)
theorem Minus_l0 (a b : List Rg) (ha : Gd 1048576 (-1048576) a) (hb : Gd 1048576 (-1048576) b) (hla : a.length ≤ 2097153) (hlb : b.length ≤ 2097153) : ∀ (m i : Nat) (out : List Rg), i + m = a.length → out.length ≤ i * (b.length + 1) → Gd 1048576 (-1048576) out → (∀ hi : i < a.length, endB (-1048576) out ≤ a[i].f0) →
    ∃ r, Ev (fun k => dom_Minus.l0 k b out a (a.length : Int) (i : Int)) r ∧ DomOf r (fun v => Va out v ∨ (Va (a.drop i) v ∧ ¬ Va b v)) := by
  intro m
  induction m with
  | zero =>
    intro i out h ho hg _
    refine ⟨out, Ev.step (G := fun _ => some out) (fun k => by rw [dom_Minus.l0, if_neg (by omega)]) (Ev.pure _), hg, fun v => by rw [drop_nil' h]; simp⟩
  | succ m ih =>
    intro i out h ho hg he
    have hi : i < a.length := by omega
    obtain ⟨x1, x2, x3, x4⟩ := ha.at hi
    have hxa := show rd_T52 a (i : Int) = a[i] from rg_nat a i hi
    have hva := Va_drop hi
    obtain ⟨r, hr, hD⟩ := Minus_l1 a b ha hb hla hlb i hi (fun out' h1 h2 h3 => ih (i + 1) out' (by omega) h1 h2 (fun hi1 => by
      have := (ha.at hi).2.2.2
      rw [List.drop_eq_getElem_cons hi1] at this
      have := this.1
      omega)) b.length 0 a[i].f0 out (by omega) (by omega) hg (he hi) (Int.le_refl _) (by omega) (by have := he hi; omega) (.inl x2)
    refine ⟨r, Ev.step (fun k => by rw [dom_Minus.l0, if_pos (by omega), if_pos (by omega), if_pos (by omega), hxa]; rfl) hr, hD.1, fun v => ?_⟩
    have hv := hD.2 v
    dsimp only at hv ⊢
    rw [hv, hva v, List.drop_zero]
    constructor
    · rintro (h | ⟨h1, h2⟩ | ⟨h1, h2⟩)
      · exact .inl h
      · exact .inr ⟨.inl h1, h2⟩
      · exact .inr ⟨.inr h1, h2⟩
    · rintro (h | ⟨h1 | h1, h2⟩)
      · exact .inl h
      · exact .inr (.inl ⟨h1, h2⟩)
      · exact .inr (.inr ⟨h1, h2⟩)
theorem Minus_ev (a b : List Rg) (ha : Gd 1048576 (-1048576) a) (hb : Gd 1048576 (-1048576) b) : ∃ r, Ev (fun k => dom_Minus.f k a b) r ∧ DomOf r (fun v => Va a v ∧ ¬ Va b v) := by
  have h1 := length_le_vals ha
  have h2 := vals_length ha
  have h3 := length_le_vals hb
  have h4 := vals_length hb
  obtain ⟨r, hr, hD⟩ := Minus_l0 a b ha hb (by omega) (by omega) a.length 0 [] (by omega) (by simp) trivial (fun hi => by simp [endB]; exact (ha.at hi).1)
  exact ⟨r, hr, hD.1, fun v => by have hv := hD.2 v; dsimp only at hv ⊢; rw [hv]; simp⟩

/-! ### Join -/
set_option maxHeartbeats 2000000 in
theorem Join_l0 (l : List Rg) (hl : l.length ≤ 6000000) (hok : ∀ x ∈ l, -1048576 ≤ x.f0 ∧ x.f0 ≤ x.f1 ∧ x.f1 ≤ 1048576) (hs : ∀ i j (hi : i < l.length) (hj : j < l.length), i < j → l[i].f0 ≤ l[j].f0) : ∀ (m n : Nat) (out : List Rg), n + m = l.length → out.length ≤ n → Gd 1048576 (-1048576) out →
    (∀ o y, out = o ++ [y] → ∀ x ∈ l.drop n, y.f0 ≤ x.f0) →
    ∃ r, Ev (fun k => dom_Join.l0 k out l (l.length : Int) (n : Int)) r ∧ DomOf r (fun v => Va out v ∨ Va (l.drop n) v) := by
  intro m
  induction m with
  | zero =>
    intro n out h ho hg _
    exact ⟨out, Ev.step (G := fun _ => some out) (fun k => by rw [dom_Join.l0, if_neg (by omega)]) (Ev.pure _), hg, fun v => by rw [drop_nil' h]; simp⟩
  | succ m ih =>
    intro n out h ho hg hle
    have hn : n < l.length := by omega
    have hx := show rd_T52 l (n : Int) = l[n] from rg_nat l n hn
    have hva := Va_drop hn
    obtain ⟨b1, b2, b3⟩ := hok _ (List.getElem_mem hn)
    have hlater : ∀ x ∈ l.drop (n + 1), l[n].f0 ≤ x.f0 := fun x hx => by
      obtain ⟨j, hj, rfl⟩ := List.mem_drop_iff_getElem.1 hx
      exact hs n (n + 1 + j) hn (by omega) (by omega)
    have app : endB (-1048576) out ≤ l[n].f0 → ∃ r, Ev (fun k => dom_Join.l0 k (out ++ [⟨l[n].f0, l[n].f1⟩]) l (l.length : Int) ((n + 1 : Nat) : Int)) r ∧ DomOf r (fun v => Va out v ∨ Va (l.drop n) v) := fun he => by
      obtain ⟨r, hr, hD⟩ := ih (n + 1) (out ++ [⟨l[n].f0, l[n].f1⟩]) (by omega) (by simp; omega) (Gd_snoc.2 ⟨hg, he, b2, b3⟩) (fun o y e x hx => by
        have e2 := List.append_inj_right' e rfl
        simp only [List.cons.injEq, and_true] at e2
        rw [← e2]
        exact hlater x hx)
      refine ⟨r, hr, hD.1, fun v => ?_⟩
      have hv := hD.2 v
      dsimp only at hv ⊢
      rw [hv, Va_append, Va_cons, hva v]
      simp [or_assoc]
    rcases List.eq_nil_or_concat out with rfl | ⟨o, y, rfl⟩
    · obtain ⟨r, hr, hD⟩ := app (by simp [endB]; omega)
      refine ⟨r, Ev.step (fun k => by rw [dom_Join.l0, if_pos (by omega), if_pos (by omega), if_pos (by omega), if_neg (by simp), if_pos (by simp), hx, w1 (by omega)]) hr, hD⟩
    · rw [List.concat_eq_append] at *
      have hy := (Gd_snoc.1 hg).2
      have hlen : (o ++ [y]).length = o.length + 1 := by simp
      have hlast : wrap64 (((o ++ [y]).length : Int) - 1) = ((o ++ [y]).length : Int) - 1 := w64 (by omega) (by omega)
      have hlt := show rd_T52 (o ++ [y]) (((o ++ [y]).length : Int) - 1) = y from rg_last o y
      have hyx : y.f0 ≤ l[n].f0 := hle o y rfl l[n] (by rw [List.drop_eq_getElem_cons hn]; exact List.mem_cons_self)
      have hge := (Gd_snoc.1 hg).1.end_ge
      have hw : wrap64 (y.f1 + 1) = y.f1 + 1 := w64 (by omega) (by omega)
      by_cases c : l[n].f0 ≤ y.f1 + 1
      · have hmx : y.f1 ≤ mx y.f1 l[n].f1 ∧ l[n].f1 ≤ mx y.f1 l[n].f1 ∧ (mx y.f1 l[n].f1 = y.f1 ∨ mx y.f1 l[n].f1 = l[n].f1) := by unfold mx; split <;> omega
        have hset : (o ++ [y]).set ((((o ++ [y]).length : Int) - 1)).toNat (⟨y.f0, mx y.f1 l[n].f1⟩ : Rg) = o ++ [⟨y.f0, mx y.f1 l[n].f1⟩] := by
          have : ((((o ++ [y]).length : Int) - 1)).toNat = o.length := by rw [hlen]; omega
          rw [this]
          simp
        have h9 : (o ++ [(⟨y.f0, mx y.f1 l[n].f1⟩ : Rg)]).length = o.length + 1 := by simp
        obtain ⟨r, hr, hD⟩ := ih (n + 1) (o ++ [⟨y.f0, mx y.f1 l[n].f1⟩]) (by omega) (by omega) (Gd_snoc.2 ⟨(Gd_snoc.1 hg).1, hy.1, by show y.f0 ≤ mx y.f1 l[n].f1; omega, by show mx y.f1 l[n].f1 ≤ 1048576; omega⟩) (fun o' y' e x hx => by
          have e2 := List.append_inj_right' e rfl
          simp only [List.cons.injEq, and_true] at e2
          rw [← e2]
          have := hlater x hx
          show y.f0 ≤ x.f0
          omega)
        refine ⟨r, Ev.step (fun k => by rw [dom_Join.l0, if_pos (by omega), if_pos (by omega), if_pos (by omega), if_pos (by omega), hlast, if_pos (by omega), if_pos (by omega), hx, hlt, hw, if_pos c, hset, w1 (by omega)]) hr, hD.1, fun v => ?_⟩
        have hv := hD.2 v
        dsimp only at hv ⊢
        rw [hv, Va_append, Va_append, Va_cons, Va_cons, hva v]
        simp only [Va_nil, or_false]
        constructor
        · rintro ((h | h) | h)
          · exact .inl (.inl h)
          · by_cases h2 : v ≤ y.f1
            · exact .inl (.inr ⟨h.1, h2⟩)
            · exact .inr (.inl ⟨by omega, by omega⟩)
          · exact .inr (.inr h)
        · rintro ((h | h) | h | h)
          · exact .inl (.inl h)
          · exact .inl (.inr ⟨h.1, by omega⟩)
          · exact .inl (.inr ⟨by omega, by omega⟩)
          · exact .inr h
      · obtain ⟨r, hr, hD⟩ := app (by rw [endB_snoc]; omega)
        refine ⟨r, Ev.step (fun k => by rw [dom_Join.l0, if_pos (by omega), if_pos (by omega), if_pos (by omega), if_pos (by omega), hlast, if_pos (by omega), if_pos (by omega), hx, hlt, hw, if_neg c, if_pos (by omega), w1 (by omega)]) hr, hD⟩
theorem sortedLo_perm (l : List Rg) (hok : ∀ x ∈ l, okLo x) : List.Perm ((sortedLo l).toList.map (·.r)) l := by
  have h := Go.Sort.pdq_sorts (ltOf cfLo) swoLo (l.map toLo).toArray 0 (l.map toLo).toArray.size (Go.Lib.bitLen (l.map toLo).toArray.size) true true (Nat.zero_le _) (Nat.le_refl _) (Or.inl rfl)
  have hp := h.1.2.2
  have hsz := h.1.1
  have e1 : (sortedLo l).extract 0 (l.map toLo).toArray.size = sortedLo l := by
    have : (l.map toLo).toArray.size = (sortedLo l).size := hsz.symm
    rw [this]
    simp
  have e2 : (l.map toLo).toArray.extract 0 (l.map toLo).toArray.size = (l.map toLo).toArray := by simp [List.take_of_length_le]
  rw [e2] at hp
  have hp2 : List.Perm (sortedLo l).toList (l.map toLo) := by
    have : (Go.Sort.pdq (ltOf cfLo) (l.map toLo).toArray 0 (l.map toLo).toArray.size (Go.Lib.bitLen (l.map toLo).toArray.size) true true).extract 0 (l.map toLo).toArray.size = sortedLo l := e1
    rw [this] at hp
    exact hp
  have e3 : (l.map toLo).map (·.r) = l := by
    rw [List.map_map]
    exact (List.map_congr_left (fun x hx => toLo_val (hok x hx))).trans (List.map_id' l)
  have := hp2.map (·.r)
  rwa [e3] at this
theorem sortedLo_le (l : List Rg) (i j : Nat) (hi : i < ((sortedLo l).toList.map SubLo.r).length) (hj : j < ((sortedLo l).toList.map SubLo.r).length) (hij : i < j) : (((sortedLo l).toList.map SubLo.r)[i]).f0 ≤ (((sortedLo l).toList.map SubLo.r)[j]).f0 := by
  have h := Go.Sort.pdq_sorts (ltOf cfLo) swoLo (l.map toLo).toArray 0 (l.map toLo).toArray.size (Go.Lib.bitLen (l.map toLo).toArray.size) true true (Nat.zero_le _) (Nat.le_refl _) (Or.inl rfl)
  have hsz := sortedLo_size l
  simp at hi hj
  have hs := h.2 i j (Nat.zero_le _) hij (by simp; omega)
  have hs' : ltOf cfLo (sortedLo l)[j]! (sortedLo l)[i]! = false := hs
  rw [ltLo, decide_eq_false_iff_not, getElem!_pos _ i (by omega), getElem!_pos _ j (by omega)] at hs'
  simp only [List.getElem_map, Array.getElem_toList]
  omega
theorem Join_ev (a b : List Rg) (ha : Gd 1048576 (-1048576) a) (hb : Gd 1048576 (-1048576) b) : ∃ r, Ev (fun k => dom_Join.f k a b) r ∧ DomOf r (fun v => Va a v ∨ Va b v) := by
  have h1 := length_le_vals ha
  have h2 := vals_length ha
  have h3 := length_le_vals hb
  have h4 := vals_length hb
  have hin : ∀ {d : List Rg}, Gd 1048576 (-1048576) d → ∀ x ∈ d, -1048576 ≤ x.f0 ∧ x.f0 ≤ x.f1 ∧ x.f1 ≤ 1048576 := fun hd x hx => by
    obtain ⟨n, hn, rfl⟩ := List.mem_iff_getElem.1 hx
    obtain ⟨q1, q2, q3, _⟩ := hd.at hn
    exact ⟨q1, q2, q3⟩
  have hab : ∀ x ∈ a ++ b, -1048576 ≤ x.f0 ∧ x.f0 ≤ x.f1 ∧ x.f1 ≤ 1048576 := fun x hx => (List.mem_append.1 hx).elim (hin ha x) (hin hb x)
  have hok : ∀ x ∈ a ++ b, okLo x := fun x hx => by have := hab x hx; exact ⟨by omega, by omega⟩
  have hsl : ((sortedLo (a ++ b)).toList.map (·.r)).length = (a ++ b).length := by simp [sortedLo_size]
  have hp := sortedLo_perm (a ++ b) hok
  have hsort : sortLo.f (a ++ b) = some ((sortedLo (a ++ b)).toList.map (·.r)) := by
    rw [sortLo.f, if_pos (List.all_eq_true.2 (fun x hx => decide_eq_true (hok x hx))), if_pos (by simp; omega)]
  obtain ⟨r, hr, hD⟩ := Join_l0 ((sortedLo (a ++ b)).toList.map (·.r)) (by rw [hsl]; simp; omega) (fun x hx => hab x (hp.mem_iff.1 hx)) (sortedLo_le (a ++ b)) _ 0 [] (Nat.zero_add _) (by simp) trivial (fun o y e => by simp at e)
  rw [hsl] at hr
  refine ⟨r, ?_, hD.1, fun v => ?_⟩
  · refine Ev.bind (Ev.const (show cloneR.f a = some a by rw [cloneR.f, if_pos (by omega)])) ?_
    refine Ev.ite_pos (by omega) (Ev.bind (Ev.pure _) (Ev.bind (Ev.const hsort) hr))
  · have hv := hD.2 v
    dsimp only at hv ⊢
    rw [hv, List.drop_zero]
    simp only [Va_nil, false_or]
    rw [← Va_append]
    unfold Va
    exact ⟨fun ⟨x, h1, h2⟩ => ⟨x, hp.mem_iff.1 h1, h2⟩, fun ⟨x, h1, h2⟩ => ⟨x, hp.mem_iff.2 h1, h2⟩⟩
end Go.Proofs.Ytklanjkndoikeaa.P

/- Plain: sizes of parts. -/
namespace Go.Proofs.Ytklanjkndoikeaa.P
open Go.RowKit Go.Proofs.YtklanjkndoikeaaW.PrintWords Go.Proofs.YtklanjkndoikeaaW.PrintLast Go.Proofs.YtklanjkndoikeaaW.PrintMore
set_option linter.unusedVariables false
set_option linter.unusedSimpArgs false

theorem ss_nodup {l : List Int} (h : SS l) : l.Nodup := h.imp (fun h => by omega)
/-- The size of a whole is that of its two parts. -/
theorem size_add {d r s : List Rg} {p q q' : Int → Prop} (hd : DomOf d p) (hr : DomOf r q) (hs : DomOf s q') (e : ∀ v, p v ↔ q v ∨ q' v) (no : ∀ v, q v → q' v → False) : (vals d).length = (vals r).length + (vals s).length := by
  have hn : (vals r ++ vals s).Nodup := List.nodup_append.2 ⟨ss_nodup (vals_ss hr.1), ss_nodup (vals_ss hs.1), fun x hx y hy hxy => by
    subst hxy
    exact no x ((hr.2 x).1 ((mem_vals x r).1 hx)) ((hs.2 x).1 ((mem_vals x s).1 hy))⟩
  have hp : List.Perm (vals d) (vals r ++ vals s) := (List.perm_ext_iff_of_nodup (ss_nodup (vals_ss hd.1)) hn).2 (fun x => by
    rw [List.mem_append, mem_vals, mem_vals, mem_vals, hd.2, hr.2, hs.2]
    exact e x)
  rw [hp.length_eq, List.length_append]
theorem dsm_dom (l : List Int) : DomOf (dsm l) (fun v => Va (dsm l) v) := ⟨dsm_gd l, fun _ => Iff.rfl⟩
theorem one_dom (k : Int) (h : -1048576 ≤ k ∧ k ≤ 1048576) : DomOf [⟨k, k⟩] (fun v => v = k) :=
  ⟨⟨h.1, Int.le_refl _, h.2, trivial⟩, fun v => by simp; omega⟩
theorem none_dom : DomOf [] (fun _ => False) := ⟨trivial, fun v => by simp⟩
theorem same_ev {a b : List Rg} {q q' : Int → Prop} (ha : DomOf a q) (hb : DomOf b q') (e : ∀ v, q v ↔ q' v) : Ev (fun k => dom_Same.f k a b) true := by
  obtain rfl := ha.eq hb e
  exact dom_Same_self a (by have := ha.len; omega)
end Go.Proofs.Ytklanjkndoikeaa.P

/- Plain: the document's Pick, Join, Cut; whether two lists of ranges are the same. -/
namespace Go.Proofs.Ytklanjkndoikeaa.P
open Go.RowKit Go.Proofs.YtklanjkndoikeaaW.PrintWords Go.Proofs.YtklanjkndoikeaaW.PrintLast Go.Proofs.YtklanjkndoikeaaW.PrintMore
set_option linter.unusedVariables false
set_option linter.unusedSimpArgs false

theorem pack_dom {l : List Int} (hs : SS l) (hb : ∀ x ∈ l, -1048576 ≤ x ∧ x ≤ 1048576) : DomOf (pack l) (fun v => v ∈ l) := pack_good hs hb
theorem vals_bd {d : List Rg} (hd : Gd 1048576 (-1048576) d) : ∀ x ∈ vals d, -1048576 ≤ x ∧ x ≤ 1048576 := fun x hx => ⟨hd.ge ((mem_vals x d).1 hx), hd.le ((mem_vals x d).1 hx)⟩
def pickL (q : Bool) (x y : List Int) : List Int := x.filter fun v => decide (v ∈ y) == q
theorem ref_Pick_l0 (q : Bool) (x y : List Int) (hx : x.length ≤ 3000000) (hy : y.length ≤ 3000000) (hs : SS x) (hb : ∀ v ∈ x, -1048576 ≤ v ∧ v ≤ 1048576) : ∀ (m n : Nat), n + m = x.length → Ev (fun k => secateurref02_Pick.l0 k q x y (pickL q (x.take n) y) (n : Int)) (pack (pickL q x y)) := by
  intro m
  induction m with
  | zero =>
    intro n h
    rw [List.take_of_length_le (by omega)]
    have hl : (pickL q x y).length ≤ x.length := List.length_filter_le _ _
    refine Ev.step (fun k => by rw [secateurref02_Pick.l0, if_neg (by omega)]) (Ev.bind (ref_Pack (pickL q x y) (by omega) (List.Pairwise.filter _ hs) (fun v hv => ?_)) (Ev.pure _))
    have := hb v (List.mem_filter.1 hv).1
    omega
  | succ m ih =>
    intro n h
    have hn : n < x.length := by omega
    have hl : (pickL q (x.take n) y).length ≤ (x.take n).length := List.length_filter_le _ _
    rw [List.length_take] at hl
    have next := ih (n + 1) (by omega)
    rw [List.take_succ_eq_append_getElem hn, pickL, List.filter_append] at next
    refine Ev.step (fun k => by rw [secateurref02_Pick.l0, if_pos (by omega), if_pos (by omega), rd_nat x n hn]) (Ev.bind (ref_Has y x[n] (by omega)) ?_)
    by_cases c : (decide (x[n] ∈ y) == q) = true
    · simp only [List.filter_cons, c, if_true, List.filter_nil] at next
      refine Ev.ite_pos c (Ev.ite_pos (by omega) ?_)
      rw [w1 (by omega)]
      exact next
    · simp only [List.filter_cons, Bool.eq_false_iff.mpr c, Bool.false_eq_true, if_false, List.filter_nil, List.append_nil] at next
      refine Ev.ite_neg c ?_
      rw [w1 (by omega)]
      exact next
theorem ref_Pick_ev (q : Bool) (a b : List Rg) (ha : Gd 1048576 (-1048576) a) (hb : Gd 1048576 (-1048576) b) : ∃ r, Ev (fun k => secateurref02_Pick.f k a b q) r ∧ DomOf r (fun v => Va a v ∧ (decide (Va b v) = q)) := by
  have h1 := vals_length ha
  have h2 := vals_length hb
  have hs := vals_ss ha
  refine ⟨pack (pickL q (vals a) (vals b)), Ev.bind (ref_Values a ha (Int.le_refl _)) (Ev.bind (ref_Values b hb (Int.le_refl _)) (ref_Pick_l0 q (vals a) (vals b) (by omega) (by omega) hs (vals_bd ha) (vals a).length 0 (by omega))), ?_⟩
  have hd := pack_dom (l := pickL q (vals a) (vals b)) (List.Pairwise.filter _ hs) (fun v hv => vals_bd ha v (List.mem_filter.1 hv).1)
  refine ⟨hd.1, fun v => (hd.2 v).trans ?_⟩
  show v ∈ pickL q (vals a) (vals b) ↔ Va a v ∧ decide (Va b v) = q
  unfold pickL
  rw [List.mem_filter, mem_vals, show decide (v ∈ vals b) = decide (Va b v) from decide_eq_decide.2 (mem_vals v b)]
  simp
theorem ref_Join_ev (a b : List Rg) (ha : Gd 1048576 (-1048576) a) (hb : Gd 1048576 (-1048576) b) : ∃ r, Ev (fun k => secateurref02_Join.f k a b) r ∧ DomOf r (fun v => Va a v ∨ Va b v) := by
  have h1 := vals_length ha
  have h2 := vals_length hb
  have hbd : ∀ x ∈ sd (vals a ++ vals b), -1048576 ≤ x ∧ x ≤ 1048576 := fun x hx => (List.mem_append.1 ((mem_sd x _).1 hx)).elim (vals_bd ha x) (vals_bd hb x)
  have hsl := sd_length (vals a ++ vals b)
  rw [List.length_append] at hsl
  refine ⟨pack (sd (vals a ++ vals b)), Ev.bind (ref_Values a ha (Int.le_refl _)) (Ev.bind (ref_Values b hb (Int.le_refl _)) (Ev.ite_pos (by omega) (Ev.bind (ref_Sorted _ (by rw [List.length_append]; omega)) (Ev.bind (ref_Pack _ (by omega) (sd_ss _) (fun x hx => by have := hbd x hx; omega)) (Ev.pure _))))), ?_⟩
  have hd := pack_dom (sd_ss (vals a ++ vals b)) hbd
  refine ⟨hd.1, fun v => (hd.2 v).trans ?_⟩
  show v ∈ sd (vals a ++ vals b) ↔ Va a v ∨ Va b v
  rw [mem_sd, List.mem_append, mem_vals, mem_vals]
def cutL (lo hi : Int) (x : List Int) : List Int := x.filter fun v => decide (lo ≤ v) && decide (v ≤ hi)
theorem ref_Cut_l0 (lo hi : Int) (x : List Int) (hx : x.length ≤ 3000000) (hs : SS x) (hb : ∀ v ∈ x, -1048576 ≤ v ∧ v ≤ 1048576) : ∀ (m n : Nat), n + m = x.length → Ev (fun k => secateurref02_Cut.l0 k lo hi x (cutL lo hi (x.take n)) (n : Int)) (pack (cutL lo hi x)) := by
  intro m
  induction m with
  | zero =>
    intro n h
    rw [List.take_of_length_le (by omega)]
    have hl : (cutL lo hi x).length ≤ x.length := List.length_filter_le _ _
    refine Ev.step (fun k => by rw [secateurref02_Cut.l0, if_neg (by omega)]) (Ev.bind (ref_Pack (cutL lo hi x) (by omega) (List.Pairwise.filter _ hs) (fun v hv => ?_)) (Ev.pure _))
    have := hb v (List.mem_filter.1 hv).1
    omega
  | succ m ih =>
    intro n h
    have hn : n < x.length := by omega
    have hl : (cutL lo hi (x.take n)).length ≤ (x.take n).length := List.length_filter_le _ _
    rw [List.length_take] at hl
    have next := ih (n + 1) (by omega)
    rw [List.take_succ_eq_append_getElem hn, cutL, List.filter_append] at next
    by_cases c1 : x[n] ≥ lo
    · by_cases c2 : x[n] ≤ hi
      · have c : (decide (lo ≤ x[n]) && decide (x[n] ≤ hi)) = true := by simp; omega
        simp only [List.filter_cons, c, if_true, List.filter_nil] at next
        exact Ev.step (fun k => by rw [secateurref02_Cut.l0, if_pos (by omega), if_pos (by omega), rd_nat x n hn, if_pos c1, if_pos c2, if_pos (by omega), w1 (by omega)]; try rfl) next
      · have c : (decide (lo ≤ x[n]) && decide (x[n] ≤ hi)) = false := by simp; omega
        simp only [List.filter_cons, c, List.filter_nil, List.append_nil, Bool.false_eq_true, if_false] at next
        exact Ev.step (fun k => by rw [secateurref02_Cut.l0, if_pos (by omega), if_pos (by omega), rd_nat x n hn, if_pos c1, if_neg c2, w1 (by omega)]; try rfl) next
    · have c : (decide (lo ≤ x[n]) && decide (x[n] ≤ hi)) = false := by simp; omega
      simp only [List.filter_cons, c, List.filter_nil, List.append_nil, Bool.false_eq_true, if_false] at next
      exact Ev.step (fun k => by rw [secateurref02_Cut.l0, if_pos (by omega), if_pos (by omega), rd_nat x n hn, if_neg c1, w1 (by omega)]; try rfl) next
theorem ref_Cut_ev (a : List Rg) (lo hi : Int) (ha : Gd 1048576 (-1048576) a) : ∃ r, Ev (fun k => secateurref02_Cut.f k a lo hi) r ∧ DomOf r (fun v => Va a v ∧ lo ≤ v ∧ v ≤ hi) := by
  have h1 := vals_length ha
  have hs := vals_ss ha
  refine ⟨pack (cutL lo hi (vals a)), Ev.bind (ref_Values a ha (Int.le_refl _)) (ref_Cut_l0 lo hi (vals a) (by omega) hs (vals_bd ha) (vals a).length 0 (by omega)), ?_⟩
  have hd := pack_dom (l := cutL lo hi (vals a)) (List.Pairwise.filter _ hs) (fun v hv => vals_bd ha v (List.mem_filter.1 hv).1)
  refine ⟨hd.1, fun v => (hd.2 v).trans ?_⟩
  show v ∈ cutL lo hi (vals a) ↔ Va a v ∧ lo ≤ v ∧ v ≤ hi
  unfold cutL
  rw [List.mem_filter, mem_vals]
  simp

/-! ### The same ranges? -/
def sameB : List Rg → List Rg → Bool
  | [], [] => true
  | x :: a, y :: b => !(!(x.f0 == y.f0) || !(x.f1 == y.f1)) && sameB a b
  | _, _ => false
theorem sameB_len : ∀ {a b : List Rg}, sameB a b = true → a.length = b.length
  | [], [], _ => rfl
  | x :: a, y :: b, h => by
    simp only [sameB, Bool.and_eq_true] at h
    simp [sameB_len h.2]
  | [], y :: b, h => by simp [sameB] at h
  | x :: a, [], h => by simp [sameB] at h
theorem sameB_self : ∀ a : List Rg, sameB a a = true
  | [] => rfl
  | x :: a => by simp [sameB, sameB_self a]
theorem ref_Same_l0 (a b : List Rg) (hl : a.length < 4611686018427387904) (e : a.length = b.length) : ∀ (r n : Nat), n + r = a.length → Ev (fun k => secateurref02_Same.l0 k a b (n : Int)) (sameB (a.drop n) (b.drop n)) := by
  intro r
  induction r with
  | zero =>
    intro n h
    rw [drop_nil' h, drop_nil' (l := b) (by omega)]
    exact Ev.step (G := fun _ => some true) (fun k => by rw [secateurref02_Same.l0, if_neg (by omega)]) (Ev.const rfl)
  | succ r ih =>
    intro n h
    have hn : n < a.length := by omega
    have hn2 : n < b.length := by omega
    have hxa := show rd_T52 a (n : Int) = a[n] from rg_nat a n hn
    have hxb := show rd_T52 b (n : Int) = b[n] from rg_nat b n hn2
    rw [List.drop_eq_getElem_cons hn, List.drop_eq_getElem_cons hn2, sameB]
    by_cases c : (!(a[n].f0 == b[n].f0) || !(a[n].f1 == b[n].f1)) = true
    · rw [c, Bool.not_true, Bool.false_and]
      exact Ev.step (G := fun _ => some false) (fun k => by rw [secateurref02_Same.l0, if_pos (by omega), if_pos (by omega), if_pos (by omega), hxa, hxb, if_pos c]) (Ev.pure _)
    · rw [Bool.eq_false_iff.mpr c, Bool.not_false, Bool.true_and]
      exact Ev.step (fun k => by rw [secateurref02_Same.l0, if_pos (by omega), if_pos (by omega), if_pos (by omega), hxa, hxb, if_neg c, w1 (by omega)]) (ih (n + 1) (by omega))
theorem ref_Same_ev (a b : List Rg) (hl : a.length < 4611686018427387904) : Ev (fun k => secateurref02_Same.f k a b) (sameB a b) := by
  by_cases e : a.length = b.length
  · exact Ev.eq (fun k => by rw [secateurref02_Same.f, if_pos (by omega)]; rfl) (ref_Same_l0 a b hl e a.length 0 (by omega))
  · have : sameB a b = false := Bool.eq_false_iff.mpr (fun h => e (sameB_len h))
    rw [this]
    exact Ev.eq (G := fun _ => some false) (fun k => by rw [secateurref02_Same.f, if_neg (by omega)]) (Ev.pure _)
theorem Equal_l0 (a b : List Rg) (hl : a.length < 4611686018427387904) (e : a.length = b.length) : ∀ (r n : Nat), n + r = a.length → Ev (fun k => slices_Equal_Range.l0 k a b (a.length : Int) (n : Int)) (sameB (a.drop n) (b.drop n)) := by
  intro r
  induction r with
  | zero =>
    intro n h
    rw [drop_nil' h, drop_nil' (l := b) (by omega)]
    exact Ev.step (G := fun _ => some true) (fun k => by rw [slices_Equal_Range.l0, if_neg (by omega)]) (Ev.const rfl)
  | succ r ih =>
    intro n h
    have hn : n < a.length := by omega
    have hn2 : n < b.length := by omega
    have hxa := show rd_T52 a (n : Int) = a[n] from rg_nat a n hn
    have hxb := show rd_T52 b (n : Int) = b[n] from rg_nat b n hn2
    rw [List.drop_eq_getElem_cons hn, List.drop_eq_getElem_cons hn2, sameB]
    by_cases c : (!(a[n].f0 == b[n].f0) || !(a[n].f1 == b[n].f1)) = true
    · rw [c, Bool.not_true, Bool.false_and]
      exact Ev.step (G := fun _ => some false) (fun k => by rw [slices_Equal_Range.l0, if_pos (by omega), if_pos (by omega), if_pos (by omega), if_pos (by omega), hxa, hxb, if_pos c]) (Ev.pure _)
    · rw [Bool.eq_false_iff.mpr c, Bool.not_false, Bool.true_and]
      exact Ev.step (fun k => by rw [slices_Equal_Range.l0, if_pos (by omega), if_pos (by omega), if_pos (by omega), if_pos (by omega), hxa, hxb, if_neg c, w1 (by omega)]) (ih (n + 1) (by omega))
theorem dom_Same_ev (a b : List Rg) (hl : a.length < 4611686018427387904) : Ev (fun k => dom_Same.f k a b) (sameB a b) := by
  refine Ev.bind (a := sameB a b) ?_ (Ev.pure _)
  by_cases e : a.length = b.length
  · exact Ev.eq (fun k => by rw [slices_Equal_Range.f, if_pos (by omega)]; rfl) (Equal_l0 a b hl e a.length 0 (by omega))
  · have : sameB a b = false := Bool.eq_false_iff.mpr (fun h => e (sameB_len h))
    rw [this]
    exact Ev.eq (G := fun _ => some false) (fun k => by rw [slices_Equal_Range.f, if_neg (by omega)]) (Ev.pure _)
theorem rsame_ev {a b : List Rg} {q q' : Int → Prop} (ha : DomOf a q) (hb : DomOf b q') (e : ∀ v, q v ↔ q' v) : Ev (fun k => secateurref02_Same.f k a b) true := by
  obtain rfl := ha.eq hb e
  exact ref_Same_self a (by have := ha.len; omega)
end Go.Proofs.Ytklanjkndoikeaa.P

namespace Go.Proofs.Ytklanjkndoikeaa.Pure
open Go.RowKit Go.Proofs.Ytklanjkndoikeaa.P
set_option linter.unusedVariables false

section
variable {a b wa wb : List Rg}
theorem joins_l3 (h : Ev (fun k => (secateurref02_Same.f k a wa).bind fun t654 => (if t654 = true then ((secateurref02_Same.f k b wb).bind fun t655 => (if t655 = true then ((dom_Same.f k a b).bind fun t656 => ((secateurref02_Same.f k a b).bind fun t657 => (if (t656 == t657) = true then ((secateurlaw02_fixed.f k).bind fun t658 => (some t658)) else (none)))) else (none))) else (none))) true) : ∀ (m n : Nat) (u : List Rg), n + m = u.length → u.length ≤ 3000000 → Ev (fun k => secateurlaw02_DomJoins.l3 k a b wa wb u (n : Int)) true := by
  intro m
  induction m with
  | zero => intro n u hn _; exact Ev.step (fun k => by rw [secateurlaw02_DomJoins.l3, if_neg (by omega)]) h
  | succ m ih => intro n u hn hl; exact Ev.step (fun k => by rw [secateurlaw02_DomJoins.l3, if_pos (by omega), if_pos (by omega), w1 (by omega)]) (ih (n + 1) _ (by simp; omega) (by simpa using hl))
theorem joins_l2 {u : List Rg} (h : Ev (fun k => secateurlaw02_DomJoins.l3 k a b wa wb u 0) true) : ∀ (m n : Nat) (z : List Rg), n + m = z.length → z.length ≤ 3000000 → Ev (fun k => secateurlaw02_DomJoins.l2 k a b wa wb z u (n : Int)) true := by
  intro m
  induction m with
  | zero => intro n z hn _; exact Ev.step (fun k => by rw [secateurlaw02_DomJoins.l2, if_neg (by omega)]) h
  | succ m ih => intro n z hn hl; exact Ev.step (fun k => by rw [secateurlaw02_DomJoins.l2, if_pos (by omega), if_pos (by omega), w1 (by omega)]) (ih (n + 1) _ (by simp; omega) (by simpa using hl))
theorem joins_l1 {z u : List Rg} (h : Ev (fun k => secateurlaw02_DomJoins.l2 k a b wa wb z u 0) true) : ∀ (m n : Nat) (y : List Rg), n + m = y.length → y.length ≤ 3000000 → Ev (fun k => secateurlaw02_DomJoins.l1 k a b wa wb y z u (n : Int)) true := by
  intro m
  induction m with
  | zero => intro n y hn _; exact Ev.step (fun k => by rw [secateurlaw02_DomJoins.l1, if_neg (by omega)]) h
  | succ m ih => intro n y hn hl; exact Ev.step (fun k => by rw [secateurlaw02_DomJoins.l1, if_pos (by omega), if_pos (by omega), w1 (by omega)]) (ih (n + 1) _ (by simp; omega) (by simpa using hl))
theorem joins_l0 {y z u : List Rg} (h : Ev (fun k => secateurlaw02_DomJoins.l1 k a b wa wb y z u 0) true) : ∀ (m n : Nat) (x : List Rg), n + m = x.length → x.length ≤ 3000000 → Ev (fun k => secateurlaw02_DomJoins.l0 k a b wa wb x y z u (n : Int)) true := by
  intro m
  induction m with
  | zero => intro n x hn _; exact Ev.step (fun k => by rw [secateurlaw02_DomJoins.l0, if_neg (by omega)]) h
  | succ m ih => intro n x hn hl; exact Ev.step (fun k => by rw [secateurlaw02_DomJoins.l0, if_pos (by omega), if_pos (by omega), w1 (by omega)]) (ih (n + 1) _ (by simp; omega) (by simpa using hl))
end
theorem DomJoins (l0 l1 : List Int) (lo hi : Int) (h0 : l0.length * 8 ≤ 140737488351232) (h1 : l1.length * 8 ≤ 140737488351232) : ∃ k, secateurlaw02_DomJoins.f k l0 l1 lo hi = some true := by
  have ga := dsm_gd l0
  have gb := dsm_gd l1
  have len : ∀ {d : List Rg} {q : Int → Prop}, DomOf d q → d.length ≤ 3000000 := fun h => by have := h.len; omega
  have na : (dsm l0).length ≤ 3000000 := len (dsm_dom l0)
  have nb : (dsm l1).length ≤ 3000000 := len (dsm_dom l1)
  obtain ⟨x, e1, d1⟩ := Meet_ev (dsm l0) (dsm l1) ga gb nb
  obtain ⟨y, e2, d2⟩ := Join_ev (dsm l0) (dsm l1) ga gb
  obtain ⟨z, e3, d3⟩ := Minus_ev (dsm l0) (dsm l1) ga gb
  obtain ⟨u, e4, d4⟩ := Cut_ev (dsm l0) lo hi ga
  obtain ⟨rx, f1, g1⟩ := ref_Pick_ev true (dsm l0) (dsm l1) ga gb
  obtain ⟨ry, f2, g2⟩ := ref_Join_ev (dsm l0) (dsm l1) ga gb
  obtain ⟨rz, f3, g3⟩ := ref_Pick_ev false (dsm l0) (dsm l1) ga gb
  obtain ⟨ru, f4, g4⟩ := ref_Cut_ev (dsm l0) lo hi ga
  refine Ev.out (F := fun k => secateurlaw02_DomJoins.f k l0 l1 lo hi) ?_
  unfold secateurlaw02_DomJoins.f
  refine Ev.bind (Small_ev l0 h0) (Ev.bind (Small_ev l1 h1) (Ev.bind (Ev.pure _) (Ev.ite_pos (by simp; omega) (Ev.bind (Ev.pure _) (Ev.bind (Ev.pure _) (Ev.ite_pos (by simp; omega) (Ev.bind (Ev.pure _) ?_)))))))
  refine Ev.bind e1 (Ev.bind e2 (Ev.bind e3 (Ev.bind e4 ?_)))
  refine Ev.bind f1 (Ev.bind (rsame_ev d1 g1 (fun v => by simp)) (Ev.ite_pos rfl ?_))
  refine Ev.bind f2 (Ev.bind (rsame_ev d2 g2 (fun v => Iff.rfl)) (Ev.ite_pos rfl ?_))
  refine Ev.bind f3 (Ev.bind (rsame_ev d3 g3 (fun v => by simp)) (Ev.ite_pos rfl ?_))
  refine Ev.bind f4 (Ev.bind (rsame_ev d4 g4 (fun v => Iff.rfl)) ?_)
  refine Ev.step (fun k => by rw [secateurlaw02_DomJoins.j0, if_neg (by simp)]) ?_
  rw [List.nil_append, List.nil_append]
  refine joins_l0 (joins_l1 (joins_l2 (joins_l3 ?_ u.length 0 u (by omega) (len d4)) z.length 0 z (by omega) (len d3)) y.length 0 y (by omega) (len d2)) x.length 0 x (by omega) (len d1)
  refine Ev.bind (ref_Same_self _ (by omega)) (Ev.ite_pos rfl (Ev.bind (ref_Same_self _ (by omega)) (Ev.ite_pos rfl (Ev.bind (dom_Same_ev _ _ (by omega)) (Ev.bind (ref_Same_ev _ _ (by omega)) (Ev.ite_pos (by simp) (Ev.bind fixed_ev (Ev.pure _))))))))
end Go.Proofs.Ytklanjkndoikeaa.Pure
