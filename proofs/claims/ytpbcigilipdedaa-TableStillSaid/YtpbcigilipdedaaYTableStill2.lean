/- Proved: the statement TableStill. Conditions: none but those of the statement. -/
import Derived.Test.YtpbcigilipdedaaZ1
import Derived.Test.YtpbcigilipdedaaZ2
import Derived.Test.YtpbcigilipdedaaYTableStill1
import Derived.Test.YtpbcigilipdedaaV1
import Derived.Deep.Slices
import Derived.ChangeArms
import Derived.DataReads
import Derived.Test.YtpbcigilipdedaaRows
import Derived.WalkKit
import Derived.ProofKit
import Derived.OpenShut
import Derived.ShutString
import Derived.ChangeOld
import Derived.Below
import Derived.SizedLaws

-- Written by wip/tools/px.py out of the translation. Lean checks it.
namespace Go.Proofs.Ytpbcigilipdedaa.P
open Go.RowKit Go.Proofs.YtpbcigilipdedaaW.PrintWords Go.Proofs.YtpbcigilipdedaaW.PrintLast Go.Proofs.YtpbcigilipdedaaW.PrintMore
attribute [local go_sem] max2_int min2_int max_two min_two max_three min_three max_four min_four   -- for this text's walks alone
set_option linter.unusedVariables false
set_option linter.unusedSimpArgs false

/-! ### secateurlaw09_TableStill: function 8 -/
mutual
def secateurlaw09_TableStill.j1 : Nat → List (List Int) → List (List Int) → List (List Int) → Option (Bool)
 | 0, _, _, _ => none
 | k + 1, x1, x5, x6 => secateurlaw09_TableStill.l1 k x1 x5 x6 0
def secateurlaw09_TableStill.j3 : Nat → List (List Int) → List (List Int) → Option (Bool)
 | 0, _, _ => none
 | k + 1, x5, x6 => (table_Sorted.f x5).bind fun t817 => ((table_Sorted.f x6).bind fun t820 => ((some (([] : List (List Int)) : List (List Int))).bind fun y823 => (if y823.length + x5.length < 5864062014805 then ((some (y823 ++ x5 : List (List Int))).bind fun y826 => (if y826.length + x6.length < 5864062014805 then ((some (([] : List (List Int)) : List (List Int))).bind fun y832 => (if y832.length + t820.length < 5864062014805 then ((some (y832 ++ t820 : List (List Int))).bind fun y835 => (if y835.length + t817.length < 5864062014805 then (secateurlaw09_TableStill.l2 k x5 t817 (y826 ++ x6) (y835 ++ t817) 1) else (none))) else (none))) else (none))) else (none))))
def secateurlaw09_TableStill.l2 : Nat → List (List Int) → List (List Int) → List (List Int) → List (List Int) → Int → Option (Bool)
 | 0, _, _, _, _, _ => none
 | k + 1, x5, x9, x11, x12, x13 => if x13 < (x9.length : Int) then (if 0 ≤ (wrap64 (x13 - 1)) then (if (wrap64 (x13 - 1)) < (x9.length : Int) then (if 0 ≤ x13 then ((secateurref06_Order.f k (rd_L1 x9 (wrap64 (x13 - 1))) (rd_L1 x9 x13)).bind fun t843 => (if t843 ≥ 0 then (none) else (secateurlaw09_TableStill.l2 k x5 x9 x11 x12 (wrap64 (x13 + 1))))) else (none)) else (none)) else (none)) else ((table_Sorted.f x9).bind fun t844 => ((secateurref04_Lists.f k t844 x9).bind fun t847 => (if t847 = true then ((table_Sorted.f x11).bind fun t848 => ((table_Sorted.f x12).bind fun t851 => ((secateurref04_Lists.f k t848 t851).bind fun t854 => (if t854 = true then (if (x9.length : Int) ≤ (x5.length : Int) then ((secateurlaw09_fixed.f k).bind fun t855 => (some t855)) else (none)) else (none))))) else (none))))
def secateurlaw09_TableStill.l1 : Nat → List (List Int) → List (List Int) → List (List Int) → Int → Option (Bool)
 | 0, _, _, _, _ => none
 | k + 1, x1, x5, x6, x8 => if x8 < (x1.length : Int) then (if x8 < 20 then ((some (([] : List Int) : List Int)).bind fun y805 => (if 0 ≤ x8 then (if 0 ≤ (mn ((rd_L1 x1 x8).length : Int) 8) then (if (mn ((rd_L1 x1 x8).length : Int) 8) ≤ ((rd_L1 x1 x8).length : Int) then (if y805.length + ((rd_L1 x1 x8).take ((mn ((rd_L1 x1 x8).length : Int) 8) : Int).toNat).length < 17592186044416 then (if x6.length < 5864062014805 then (secateurlaw09_TableStill.l1 k x1 x5 (x6 ++ [(y805 ++ ((rd_L1 x1 x8).take ((mn ((rd_L1 x1 x8).length : Int) 8) : Int).toNat))]) (wrap64 (x8 + 1))) else (none)) else (none)) else (none)) else (none)) else (none))) else (secateurlaw09_TableStill.j3 k x5 x6)) else (secateurlaw09_TableStill.j3 k x5 x6)
def secateurlaw09_TableStill.l0 : Nat → List (List Int) → List (List Int) → List (List Int) → List (List Int) → Int → Option (Bool)
 | 0, _, _, _, _, _ => none
 | k + 1, x0, x1, x5, x6, x7 => if x7 < (x0.length : Int) then (if x7 < 20 then ((some (([] : List Int) : List Int)).bind fun y793 => (if 0 ≤ x7 then (if 0 ≤ (mn ((rd_L1 x0 x7).length : Int) 8) then (if (mn ((rd_L1 x0 x7).length : Int) 8) ≤ ((rd_L1 x0 x7).length : Int) then (if y793.length + ((rd_L1 x0 x7).take ((mn ((rd_L1 x0 x7).length : Int) 8) : Int).toNat).length < 17592186044416 then (if x5.length < 5864062014805 then (secateurlaw09_TableStill.l0 k x0 x1 (x5 ++ [(y793 ++ ((rd_L1 x0 x7).take ((mn ((rd_L1 x0 x7).length : Int) 8) : Int).toNat))]) x6 (wrap64 (x7 + 1))) else (none)) else (none)) else (none)) else (none)) else (none))) else (secateurlaw09_TableStill.j1 k x1 x5 x6)) else (secateurlaw09_TableStill.j1 k x1 x5 x6)
end
def secateurlaw09_TableStill.f (k : Nat) (l0 : List (List Int)) (l1 : List (List Int)) : Option (Bool) := secateurlaw09_TableStill.l0 k l0 l1 (([] : List (List Int))) (([] : List (List Int))) 0
theorem secateurlaw09_TableStill.mono_l : ∀ k, (∀ y0 y1 y2, LeO (secateurlaw09_TableStill.j1 k y0 y1 y2) (secateurlaw09_TableStill.j1 (k + 1) y0 y1 y2)) ∧ (∀ y0 y1, LeO (secateurlaw09_TableStill.j3 k y0 y1) (secateurlaw09_TableStill.j3 (k + 1) y0 y1)) ∧ (∀ y0 y1 y2 y3 y4, LeO (secateurlaw09_TableStill.l2 k y0 y1 y2 y3 y4) (secateurlaw09_TableStill.l2 (k + 1) y0 y1 y2 y3 y4)) ∧ (∀ y0 y1 y2 y3, LeO (secateurlaw09_TableStill.l1 k y0 y1 y2 y3) (secateurlaw09_TableStill.l1 (k + 1) y0 y1 y2 y3)) ∧ (∀ y0 y1 y2 y3 y4, LeO (secateurlaw09_TableStill.l0 k y0 y1 y2 y3 y4) (secateurlaw09_TableStill.l0 (k + 1) y0 y1 y2 y3 y4))
 | 0 => ⟨fun _ _ _ r h => by simp [secateurlaw09_TableStill.j1] at h, fun _ _ r h => by simp [secateurlaw09_TableStill.j3] at h, fun _ _ _ _ _ r h => by simp [secateurlaw09_TableStill.l2] at h, fun _ _ _ _ r h => by simp [secateurlaw09_TableStill.l1] at h, fun _ _ _ _ _ r h => by simp [secateurlaw09_TableStill.l0] at h⟩
 | k + 1 => by
  obtain ⟨ih0, ih1, ih2, ih3, ih4⟩ := secateurlaw09_TableStill.mono_l k
  refine ⟨?_, ?_, ?_, ?_, ?_⟩
  ·intro y0 y1 y2
   unfold secateurlaw09_TableStill.j1
   repeat' first
   | (with_reducible exact ih0 _ _ _)
   | (with_reducible exact ih1 _ _)
   | (with_reducible exact ih2 _ _ _ _ _)
   | (with_reducible exact ih3 _ _ _ _)
   | (with_reducible exact ih4 _ _ _ _ _)
   | (with_reducible exact secateurlaw09_fixed.mono _)
   | (with_reducible exact secateurref04_Lists.mono _ _ _)
   | (with_reducible exact secateurref06_Order.mono _ _ _)
   | (with_reducible exact LeO.refl _)
   | (with_reducible exact LeO.none _)
   | (with_reducible refine LeO.ite ?_ ?_)
   | (with_reducible refine LeO.bind ?_ (fun _ => ?_))
   | exact ih0 _ _ _
   | exact ih1 _ _
   | exact ih2 _ _ _ _ _
   | exact ih3 _ _ _ _
   | exact ih4 _ _ _ _ _
   | exact secateurlaw09_fixed.mono _
   | exact secateurref04_Lists.mono _ _ _
   | exact secateurref06_Order.mono _ _ _
   | exact LeO.none _
   | refine LeO.ite ?_ ?_
   | refine LeO.bind ?_ (fun _ => ?_)
  ·intro y0 y1
   unfold secateurlaw09_TableStill.j3
   repeat' first
   | (with_reducible exact ih0 _ _ _)
   | (with_reducible exact ih1 _ _)
   | (with_reducible exact ih2 _ _ _ _ _)
   | (with_reducible exact ih3 _ _ _ _)
   | (with_reducible exact ih4 _ _ _ _ _)
   | (with_reducible exact secateurlaw09_fixed.mono _)
   | (with_reducible exact secateurref04_Lists.mono _ _ _)
   | (with_reducible exact secateurref06_Order.mono _ _ _)
   | (with_reducible exact LeO.refl _)
   | (with_reducible exact LeO.none _)
   | (with_reducible refine LeO.ite ?_ ?_)
   | (with_reducible refine LeO.bind ?_ (fun _ => ?_))
   | exact ih0 _ _ _
   | exact ih1 _ _
   | exact ih2 _ _ _ _ _
   | exact ih3 _ _ _ _
   | exact ih4 _ _ _ _ _
   | exact secateurlaw09_fixed.mono _
   | exact secateurref04_Lists.mono _ _ _
   | exact secateurref06_Order.mono _ _ _
   | exact LeO.none _
   | refine LeO.ite ?_ ?_
   | refine LeO.bind ?_ (fun _ => ?_)
  ·intro y0 y1 y2 y3 y4
   unfold secateurlaw09_TableStill.l2
   repeat' first
   | (with_reducible exact ih0 _ _ _)
   | (with_reducible exact ih1 _ _)
   | (with_reducible exact ih2 _ _ _ _ _)
   | (with_reducible exact ih3 _ _ _ _)
   | (with_reducible exact ih4 _ _ _ _ _)
   | (with_reducible exact secateurlaw09_fixed.mono _)
   | (with_reducible exact secateurref04_Lists.mono _ _ _)
   | (with_reducible exact secateurref06_Order.mono _ _ _)
   | (with_reducible exact LeO.refl _)
   | (with_reducible exact LeO.none _)
   | (with_reducible refine LeO.ite ?_ ?_)
   | (with_reducible refine LeO.bind ?_ (fun _ => ?_))
   | exact ih0 _ _ _
   | exact ih1 _ _
   | exact ih2 _ _ _ _ _
   | exact ih3 _ _ _ _
   | exact ih4 _ _ _ _ _
   | exact secateurlaw09_fixed.mono _
   | exact secateurref04_Lists.mono _ _ _
   | exact secateurref06_Order.mono _ _ _
   | exact LeO.none _
   | refine LeO.ite ?_ ?_
   | refine LeO.bind ?_ (fun _ => ?_)
  ·intro y0 y1 y2 y3
   unfold secateurlaw09_TableStill.l1
   repeat' first
   | (with_reducible exact ih0 _ _ _)
   | (with_reducible exact ih1 _ _)
   | (with_reducible exact ih2 _ _ _ _ _)
   | (with_reducible exact ih3 _ _ _ _)
   | (with_reducible exact ih4 _ _ _ _ _)
   | (with_reducible exact secateurlaw09_fixed.mono _)
   | (with_reducible exact secateurref04_Lists.mono _ _ _)
   | (with_reducible exact secateurref06_Order.mono _ _ _)
   | (with_reducible exact LeO.refl _)
   | (with_reducible exact LeO.none _)
   | (with_reducible refine LeO.ite ?_ ?_)
   | (with_reducible refine LeO.bind ?_ (fun _ => ?_))
   | exact ih0 _ _ _
   | exact ih1 _ _
   | exact ih2 _ _ _ _ _
   | exact ih3 _ _ _ _
   | exact ih4 _ _ _ _ _
   | exact secateurlaw09_fixed.mono _
   | exact secateurref04_Lists.mono _ _ _
   | exact secateurref06_Order.mono _ _ _
   | exact LeO.none _
   | refine LeO.ite ?_ ?_
   | refine LeO.bind ?_ (fun _ => ?_)
  ·intro y0 y1 y2 y3 y4
   unfold secateurlaw09_TableStill.l0
   repeat' first
   | (with_reducible exact ih0 _ _ _)
   | (with_reducible exact ih1 _ _)
   | (with_reducible exact ih2 _ _ _ _ _)
   | (with_reducible exact ih3 _ _ _ _)
   | (with_reducible exact ih4 _ _ _ _ _)
   | (with_reducible exact secateurlaw09_fixed.mono _)
   | (with_reducible exact secateurref04_Lists.mono _ _ _)
   | (with_reducible exact secateurref06_Order.mono _ _ _)
   | (with_reducible exact LeO.refl _)
   | (with_reducible exact LeO.none _)
   | (with_reducible refine LeO.ite ?_ ?_)
   | (with_reducible refine LeO.bind ?_ (fun _ => ?_))
   | exact ih0 _ _ _
   | exact ih1 _ _
   | exact ih2 _ _ _ _ _
   | exact ih3 _ _ _ _
   | exact ih4 _ _ _ _ _
   | exact secateurlaw09_fixed.mono _
   | exact secateurref04_Lists.mono _ _ _
   | exact secateurref06_Order.mono _ _ _
   | exact LeO.none _
   | refine LeO.ite ?_ ?_
   | refine LeO.bind ?_ (fun _ => ?_)
theorem secateurlaw09_TableStill.mono : ∀ a0 a1 k, LeO (secateurlaw09_TableStill.f k a0 a1) (secateurlaw09_TableStill.f (k + 1) a0 a1) := by
 intro a0 a1 k
 obtain ⟨ih0, ih1, ih2, ih3, ih4⟩ := secateurlaw09_TableStill.mono_l k
 unfold secateurlaw09_TableStill.f
 repeat' first
   | (with_reducible exact ih0 _ _ _)
   | (with_reducible exact ih1 _ _)
   | (with_reducible exact ih2 _ _ _ _ _)
   | (with_reducible exact ih3 _ _ _ _)
   | (with_reducible exact ih4 _ _ _ _ _)
   | (with_reducible exact secateurlaw09_fixed.mono _)
   | (with_reducible exact secateurref04_Lists.mono _ _ _)
   | (with_reducible exact secateurref06_Order.mono _ _ _)
   | (with_reducible exact LeO.refl _)
   | (with_reducible exact LeO.none _)
   | (with_reducible refine LeO.ite ?_ ?_)
   | (with_reducible refine LeO.bind ?_ (fun _ => ?_))
   | exact ih0 _ _ _
   | exact ih1 _ _
   | exact ih2 _ _ _ _ _
   | exact ih3 _ _ _ _
   | exact ih4 _ _ _ _ _
   | exact secateurlaw09_fixed.mono _
   | exact secateurref04_Lists.mono _ _ _
   | exact secateurref06_Order.mono _ _ _
   | exact LeO.none _
   | refine LeO.ite ?_ ?_
   | refine LeO.bind ?_ (fun _ => ?_)
def secateurlaw09_TableStill.T5 : Bool × List (List Nat × List Nat) := (true, [([], []), ([], []), ([], []), ([], []), ([2, 3], [2, 3]), ([4], [4]), ([], []), ([], []), ([6, 7], [6, 7]), ([8], [8]), ([9], [9]), ([10], [10]), ([5, 11], [5, 11]), ([1, 12], [1, 12]), ([13], [13]), ([0, 14, 13], [0, 14]), ([15, 15, 0, 1, 2, 3, 4, 5, 6, 7, 8, 9, 10, 11, 12, 13, 14, 15], [0, 15])])
def secateurlaw09_TableStill.B5 : List Nat := [0, 0, 0, 0, 12, 28, 0, 0, 192, 448, 960, 1984, 4092, 8190, 16382, 32767, 65535]
theorem secateurlaw09_TableStill.tab5 : rtab .any (opsOf Try.f8 5) = secateurlaw09_TableStill.T5 := by kernel_rfl
theorem secateurlaw09_TableStill.bits5 : waitsOk secateurlaw09_TableStill.T5.2 secateurlaw09_TableStill.B5 = true := by kernel_rfl
def secateurlaw09_TableStill.T9 : Bool × List (List Nat × List Nat) := (true, [([], []), ([], []), ([], []), ([], []), ([2, 3], [2, 3]), ([4], [4]), ([], []), ([], []), ([6, 7], [6, 7]), ([8], [8]), ([9], [9]), ([10], [10]), ([5, 11], [5, 11]), ([1, 12], [1, 12]), ([13], [13]), ([0, 14, 13], [0, 14]), ([15, 15, 0, 1, 2, 3, 4, 5, 6, 7, 8, 9, 10, 11, 12, 13, 14, 15], [0, 15])])
def secateurlaw09_TableStill.B9 : List Nat := [0, 0, 0, 0, 12, 28, 0, 0, 192, 448, 960, 1984, 4092, 8190, 16382, 32767, 65535]
theorem secateurlaw09_TableStill.tab9 : rtab .any (opsOf Try.f8 9) = secateurlaw09_TableStill.T9 := by kernel_rfl
theorem secateurlaw09_TableStill.bits9 : waitsOk secateurlaw09_TableStill.T9.2 secateurlaw09_TableStill.B9 = true := by kernel_rfl
def secateurlaw09_TableStill.T18 : Bool × List (List Nat × List Nat) := (true, [([], []), ([], []), ([1], [1]), ([0, 2], [0, 2]), ([3], [3]), ([], []), ([], []), ([5, 6], [5, 6]), ([7], [7]), ([4, 8], [4, 8]), ([9], [9])])
def secateurlaw09_TableStill.B18 : List Nat := [0, 0, 2, 7, 15, 0, 0, 96, 224, 511, 1023]
theorem secateurlaw09_TableStill.tab18 : rtab .any (opsOf Try.f8 18) = secateurlaw09_TableStill.T18 := by kernel_rfl
theorem secateurlaw09_TableStill.bits18 : waitsOk secateurlaw09_TableStill.T18.2 secateurlaw09_TableStill.B18 = true := by kernel_rfl
set_option maxHeartbeats 8000000 in
set_option maxRecDepth 100000 in
theorem secateurlaw09_TableStill.calls (k : Nat) (A0 : Option Addr) (c0 : Nat) (l0 : List (List Int)) (A1 : Option Addr) (c1 : Nat) (l1 : List (List Int)) (r : Bool) (w : World) (hr0 : Kd.C (Kd.slice 3 (Kd.int .i64)) w A0 l0.length l0) (hc0 : l0.length ≤ c0) (hr1 : Kd.C (Kd.slice 3 (Kd.int .i64)) w A1 l1.length l1) (hc1 : l1.length ≤ c1) (h : secateurlaw09_TableStill.f k l0 l1 = some r) :
  Calls Try.prog 8 #[.slice A0 l0.length c0, .slice A1 l1.length c1] w fun e w' => e = .returned (.bool r) ∧ Below w.heap.size w w' := by
 have HR0 := Aside0.mk hr0
 have HC0 := Aside0.mk hc0
 clear hr0 hc0
 have HR1 := Aside0.mk hr1
 have HC1 := Aside0.mk hc1
 clear hr1 hc1
 have HB := Aside0.mk (Below.refl w.heap.size w)
 have H : (secateurlaw09_TableStill.l0 k l0 l1 (([] : List (List Int))) (([] : List (List Int))) 0) = some r := h
 clear h
 obtain ⟨y787, hy787⟩ : ∃ y_ : List (List Int), y_ = (([] : List (List Int))) := ⟨_, rfl⟩
 replace H : (secateurlaw09_TableStill.l0 k l0 l1 y787 (([] : List (List Int))) 0) = some r := by first | (rw [hy787]; with_reducible exact H) | (have H2_ := (Option.bind_some _ _).symm.trans H; rw [hy787]; with_reducible exact H2_) | (have H2_ := (Option.bind_some _ _).symm.trans H; with_reducible exact H2_) | with_reducible exact H | (rw [hy787]; exact H) | exact H
 have Ny787 := Aside0.mk hy787
 clear hy787
 obtain ⟨y790, hy790⟩ : ∃ y_ : List (List Int), y_ = (([] : List (List Int))) := ⟨_, rfl⟩
 replace H : (secateurlaw09_TableStill.l0 k l0 l1 y787 y790 0) = some r := by first | (rw [hy790]; with_reducible exact H) | (have H2_ := (Option.bind_some _ _).symm.trans H; rw [hy790]; with_reducible exact H2_) | (have H2_ := (Option.bind_some _ _).symm.trans H; with_reducible exact H2_) | with_reducible exact H | (rw [hy790]; exact H) | exact H
 have Ny790 := Aside0.mk hy790
 clear hy790
 have HC3 := Aside0.mk H
 clear H
 go_enter Try.func8, Try.ntmps8
 go_upto_block 0 with (first | ((with_reducible refine gate_dst (N := 14) rfl ?_); (try (refine gate_guard (by rfl) ?_; dsimp only)); refine Kd.N_lit (Kd.slice 3 (Kd.int .i64)) _ 23 ?hg (N' := 14) ?hd (xs := ([] : List (List Int))) (inner := []) (ok := (fun _ => True)) (okp := (fun _ => True)) ?hr ?hp (fun _ hk => hk) ((show ∀ k_, w.heap.size ≤ k_ → (fun _ => True) k_ from fun k_ hk => trivial) _ (Nat.le_refl _)) (Below.refl _ _) (Nat.le_refl _) (by simp) ?_; (case hd => rfl); (case hg => rfl); (case hr => first | (go_simp; done) | (go_simp; rfl)); (case hp => exact (Reps.none _ _)); intro v788 w4 ho5 hb hg_ hnew_; clear hg_ hnew_; (first | rw [← Ny787.out] at ho5 | (simp only [Int.reduceToNat] at ho5; rw [← Ny787.out] at ho5)); have n0_ := Aside0.mk (Kd.N_lower ho5 (below_size (by repeat (first | (with_reducible first | exact HB.out | apply below_alloc | apply pw_below_drewN | apply below_drew1) | exact HB.out)))); have n1_ := Aside0.mk (below_step (by repeat (first | (with_reducible first | exact HB.out | apply below_alloc | apply pw_below_drewN | apply below_drew1) | exact HB.out)) hb); clear HB; have HO789 := n0_; have HB := n1_; clear n0_ n1_; clear hb ho5) | ((with_reducible refine gate_dst (N := 15) rfl ?_); (try (refine gate_guard (by rfl) ?_; dsimp only)); refine Kd.N_lit (Kd.slice 3 (Kd.int .i64)) _ 23 ?hg (N' := 15) ?hd (xs := ([] : List (List Int))) (inner := []) (ok := (fun k_ => some k_ ≠ (v788 : Value).ownBlock)) (okp := (fun k_ => some k_ ≠ (v788 : Value).ownBlock)) ?hr ?hp (fun _ hk => hk) ((show ∀ k_, w4.heap.size ≤ k_ → (fun k_ => some k_ ≠ (v788 : Value).ownBlock) k_ from fun k_ hk => Kd.fresh' (Kd.N_lt (by (with_reducible repeat (first | apply Kd.N_alloc | apply Kd.N_drewN | apply Kd.N_drew)); exact HO789.out)) k_ hk) _ (Nat.le_refl _)) (Below.refl _ _) (Nat.le_refl _) (by simp) ?_; (case hd => rfl); (case hg => rfl); (case hr => first | (go_simp; done) | (go_simp; rfl)); (case hp => exact (Reps.none _ _)); intro v791 w6 ho7 hb hg_ hnew_; clear hg_ hnew_; (first | rw [← Ny790.out] at ho7 | (simp only [Int.reduceToNat] at ho7; rw [← Ny790.out] at ho7)); have n0_ := Aside0.mk (Kd.N_elder' (by (with_reducible repeat (first | apply Kd.N_alloc | apply Kd.N_drewN | apply Kd.N_drew)); exact HO789.out) (Kd.N_base ho7) hb); have n1_ := Aside0.mk (Kd.N_lower ho7 (below_size (by repeat (first | (with_reducible first | exact HB.out | apply below_alloc | apply pw_below_drewN | apply below_drew1) | exact HB.out)))); have n2_ := Aside0.mk (below_step (by repeat (first | (with_reducible first | exact HB.out | apply below_alloc | apply pw_below_drewN | apply below_drew1) | exact HB.out)) hb); clear HO789; clear HB; have HO789 := n0_; have HO792 := n1_; have HB := n2_; clear n0_ n1_ n2_; clear hb ho7))
 (try simp only [Act.put, List.setIfInBounds_toArray, List.set_cons_zero, List.set_cons_succ])
 go_cut [5] (fun v5 wc => ∃ (kq : Nat) (x5_2 : List (List Int)), Aside0 (secateurlaw09_TableStill.j1 kq l1 x5_2 y790 = some r) ∧ Aside0 (kq ≤ k) ∧ Aside0 (Kd.N (Kd.slice 3 (Kd.int .i64)) 23 wc w.heap.size (fun k_ => some k_ ≠ (v791 : Value).ownBlock) v5 x5_2) ∧ Aside0 (Kd.N (Kd.slice 3 (Kd.int .i64)) 23 wc w.heap.size (fun k_ => some k_ ≠ (v5 : Value).ownBlock) v791 y790) ∧ Aside0 (Below w.heap.size w wc))
 case first =>
  have H := HC3.out
  clear HC3
  have H' := Aside0.mk H
  clear H
  go_wp2
  go_loopg [5, 7] k (fun kq v5 v7 w' => ∃ (x5_1 : List (List Int)) (x7_1 : Int), v7 = .int .i64 x7_1 ∧ Aside0 (secateurlaw09_TableStill.l0 kq l0 l1 x5_1 y790 x7_1 = some r) ∧ Aside0 (kq ≤ k) ∧ Aside0 (Kd.N (Kd.slice 3 (Kd.int .i64)) 23 w' w.heap.size (fun k_ => some k_ ≠ (v791 : Value).ownBlock) v5 x5_1) ∧ Aside0 (Kd.N (Kd.slice 3 (Kd.int .i64)) 23 w' w.heap.size (fun k_ => some k_ ≠ (v5 : Value).ownBlock) v791 y790) ∧ Aside0 (Below w.heap.size w w'))
  case atStart => exact ⟨(y787), (0), (by first | rfl | (simp; done) | (simp [*]; done)), H', ⟨Nat.le_refl _⟩, ⟨by (with_reducible repeat (first | apply Kd.N_alloc | apply Kd.N_drewN | apply Kd.N_drew)); exact Kd.N_mono HO789.out (fun _ hk => hk.2)⟩, ⟨by (with_reducible repeat (first | apply Kd.N_alloc | apply Kd.N_drewN | apply Kd.N_drew)); exact HO792.out⟩, ⟨by repeat (first | (with_reducible first | exact HB.out | apply below_alloc | apply pw_below_drewN | apply below_drew1) | exact HB.out)⟩⟩
  case round =>
   clear H'
   try clear c1
   try clear p2
   obtain ⟨x5_1, x7_1, rfl, HA, HK1, HO_5, HO_6, HB⟩ := hrel
   cases gk with
   | zero => exact absurd HA.out (by simp [secateurlaw09_TableStill.l0])
   | succ k1 =>
    have H := HA.out
    clear HA
    simp only [secateurlaw09_TableStill.l0] at H
    by_cases c8 : x7_1 < (l0.length : Int)
    ·rw [if_pos c8] at H
     have c8b0 : decide (x7_1 < (l0.length : Int)) = true := decide_eq_true c8
     clear c8
     (first | rw [c8b0] | (simp only [i64_w, i32_w]; rw [c8b0]) | skip)
     by_cases c9 : x7_1 < 20
     ·rw [if_pos c9] at H
      have c9b0 : decide (x7_1 < 20) = true := decide_eq_true c9
      clear c9
      obtain ⟨y793, hy793⟩ : ∃ y_ : List Int, y_ = (([] : List Int)) := ⟨_, rfl⟩
      replace H : (if 0 ≤ x7_1 then (if 0 ≤ (mn ((rd_L1 l0 x7_1).length : Int) 8) then (if (mn ((rd_L1 l0 x7_1).length : Int) 8) ≤ ((rd_L1 l0 x7_1).length : Int) then (if y793.length + ((rd_L1 l0 x7_1).take ((mn ((rd_L1 l0 x7_1).length : Int) 8) : Int).toNat).length < 17592186044416 then (if x5_1.length < 5864062014805 then (secateurlaw09_TableStill.l0 k1 l0 l1 (x5_1 ++ [(y793 ++ ((rd_L1 l0 x7_1).take ((mn ((rd_L1 l0 x7_1).length : Int) 8) : Int).toNat))]) y790 (wrap64 (x7_1 + 1))) else (none)) else (none)) else (none)) else (none)) else (none)) = some r := by first | (rw [hy793]; with_reducible exact H) | (have H2_ := (Option.bind_some _ _).symm.trans H; rw [hy793]; with_reducible exact H2_) | (have H2_ := (Option.bind_some _ _).symm.trans H; with_reducible exact H2_) | with_reducible exact H | (rw [hy793]; exact H) | exact H
      have Ny793 := Aside0.mk hy793
      clear hy793
      by_cases c10 : 0 ≤ x7_1
      ·rw [if_pos c10] at H
       have c10b0 : decide (0 ≤ x7_1) = true := decide_eq_true c10
       clear c10
       obtain ⟨ji11, hji11⟩ : ∃ j_ : Int, (mn ((rd_L1 l0 x7_1).length : Int) 8) = j_ := ⟨_, rfl⟩
       replace H : (if 0 ≤ (ji11) then (if (ji11) ≤ ((rd_L1 l0 x7_1).length : Int) then (if y793.length + ((rd_L1 l0 x7_1).take ((ji11) : Int).toNat).length < 17592186044416 then (if x5_1.length < 5864062014805 then (secateurlaw09_TableStill.l0 k1 l0 l1 (x5_1 ++ [(y793 ++ ((rd_L1 l0 x7_1).take ((ji11) : Int).toNat))]) y790 (wrap64 (x7_1 + 1))) else (none)) else (none)) else (none)) else (none)) = some r := by first | (rw [hji11] at H; exact H) | (simp only [hji11] at H ⊢; exact H)
       have hji11_ : (if 8 < ((rd_L1 l0 x7_1).length : Int) then 8 else ((rd_L1 l0 x7_1).length : Int)) = ji11 := hji11
       by_cases c12 : 0 ≤ (ji11)
       ·rw [if_pos c12] at H
        have c12b0 := eq_true c12
        have c12b1 : decide (0 ≤ (ji11)) = true := decide_eq_true c12
        clear c12
        by_cases c13 : (ji11) ≤ ((rd_L1 l0 x7_1).length : Int)
        ·rw [if_pos c13] at H
         have c13b0 := eq_true c13
         have c13b1 : decide ((ji11) ≤ ((rd_L1 l0 x7_1).length : Int)) = true := decide_eq_true c13
         clear c13
         by_cases c14 : y793.length + ((rd_L1 l0 x7_1).take ((ji11) : Int).toNat).length < 17592186044416
         ·rw [if_pos c14] at H
          have LMc14 := Aside0.mk c14
          clear c14
          obtain ⟨y799, hy799⟩ : ∃ y_ : List Int, y_ = (y793 ++ ((rd_L1 l0 x7_1).take ((ji11) : Int).toNat)) := ⟨_, rfl⟩
          replace H : (if x5_1.length < 5864062014805 then (secateurlaw09_TableStill.l0 k1 l0 l1 (x5_1 ++ [y799]) y790 (wrap64 (x7_1 + 1))) else (none)) = some r := by first | (rw [hy799]; with_reducible exact H) | (have H2_ := (Option.bind_some _ _).symm.trans H; rw [hy799]; with_reducible exact H2_) | (have H2_ := (Option.bind_some _ _).symm.trans H; with_reducible exact H2_) | with_reducible exact H | (rw [hy799]; exact H) | exact H
          have Ny799 := Aside0.mk hy799
          clear hy799
          by_cases c15 : x5_1.length < 5864062014805
          ·rw [if_pos c15] at H
           have LMc15 := Aside0.mk c15
           clear c15
           obtain ⟨y802, hy802⟩ : ∃ y_ : List (List Int), y_ = (x5_1 ++ [y799]) := ⟨_, rfl⟩
           replace H : (secateurlaw09_TableStill.l0 k1 l0 l1 y802 y790 (wrap64 (x7_1 + 1))) = some r := by first | (rw [hy802]; with_reducible exact H) | (have H2_ := (Option.bind_some _ _).symm.trans H; rw [hy802]; with_reducible exact H2_) | (have H2_ := (Option.bind_some _ _).symm.trans H; with_reducible exact H2_) | with_reducible exact H | (rw [hy802]; exact H) | exact H
           have Ny802 := Aside0.mk hy802
           clear hy802
           have H' := Aside0.mk H
           clear H
           try go_wp2
           have n0_ := Aside0.mk (Kd.N_drew HO_5.out)
           have n1_ := Aside0.mk (Kd.N_drew HO_6.out)
           have n2_ := Aside0.mk (below_drew1 HB.out)
           clear HO_5
           clear HO_6
           clear HB
           have HO_5 := n0_
           have HO_6 := n1_
           have HB := n2_
           clear n0_ n1_ n2_
           have p796 : 0 ≤ (x7_1 : Int) := of_decide_eq_true (by first | (with_reducible assumption) | assumption)
           have q796 : x7_1 < (l0.length : Int) := of_decide_eq_true (by first | (with_reducible assumption) | assumption)
           obtain ⟨ad796, A796_0, c796_0, e796, hx796_0, hl796_0, hi796_0⟩ := at_L1 HR0.out x7_1 p796 q796
           have hw796_0 := hx796_0
           cases e796
           replace hx796_0 := (HB.out.cell (World.block_lt_of_cell? w _ hx796_0)).trans hx796_0
           have HR796_0 := Aside0.mk hi796_0
           have HC796_0 := Aside0.mk hl796_0
           clear hi796_0 hl796_0
           replace p796 := eq_true p796
           replace q796 := eq_true q796
           have p797 : 0 ≤ (x7_1 : Int) := of_decide_eq_true (by first | (with_reducible assumption) | assumption)
           have q797 : x7_1 < (l0.length : Int) := of_decide_eq_true (by first | (with_reducible assumption) | assumption)
           obtain ⟨ad797, A797_0, c797_0, e797, hx797_0, hl797_0, hi797_0⟩ := at_L1 HR0.out x7_1 p797 q797
           have hw797_0 := hx797_0
           obtain rfl : ad796 = ad797 := (by injection e797)
           replace hx797_0 := (HB.out.cell (World.block_lt_of_cell? w _ hx797_0)).trans hx797_0
           have HR797_0 := Aside0.mk hi797_0
           have HC797_0 := Aside0.mk hl797_0
           clear hi797_0 hl797_0
           replace p797 := eq_true p797
           replace q797 := eq_true q797
           have ea_ := Option.some.inj (hx796_0.symm.trans hx797_0)
           injection ea_ with ea_ en_ ec_
           subst ea_
           subst ec_
           clear en_
           obtain ⟨i017, hi017, _, hsz17, _⟩ := info_parts info3
           obtain ⟨hcut17, hA17, hC17⟩ := print_take_of (P := Try.prog) (Value.int .i64) 0 23 3 .i64 Try.underlying23 hi017 hsz17 A796_0 c796_0 (rd_L1 l0 x7_1) (ji11) (of_decide_eq_true (by first | (with_reducible assumption) | assumption)) (of_decide_eq_true (by first | (with_reducible assumption) | assumption)) HC796_0.out
           have HR798 := Aside0.mk (Kd.C_of_reads (h1 := fun _ => rfl) (hA17 _ (Kd.reads_of_C HR796_0.out)))
           have HC798 := Aside0.mk hC17
           clear hA17 hC17 hi017 hsz17
           refine start_ (n := 17) (S := fun w' => w'.cell? (ad796.add (x7_1).toNat) = some (.slice A796_0 (rd_L1 l0 x7_1).length c796_0) ∧ w'.cell? (ad796.add (x7_1).toNat) = some (.slice A796_0 (rd_L1 l0 x7_1).length c796_0)) (ds := []) #[false, false, false, false, false, false, false, false, false, false, false, false, false, false, false, false, false] (by kernel_rfl) rfl rfl ⟨((HB.out.cell (World.block_lt_of_cell? w _ hw796_0)).trans hw796_0), ((HB.out.cell (World.block_lt_of_cell? w _ hw797_0)).trans hw797_0)⟩ (fun hHeld => ?_); refine with_tabW secateurlaw09_TableStill.tab5 secateurlaw09_TableStill.bits5 (fun HT_ HW_ => ?_)
           generalize wr.drew = w16 at HO_5 HO_6 HB HR796_0 HR797_0 HR798 hx796_0 hx797_0 hHeld ⊢
           refine pure_ (i := 0) (N := some 26) (v := ?_) (a' := ?_) #[true, false, false, false, false, false, false, false, false, false, false, false, false, false, false, false, false] rfl rfl (any_of HT_.out (by kernel_rfl)) (fun _ _ _ h => h) (Or.inl ⟨by rfl, ?_⟩) ?_ ?_
           rotate_left
           ·intro w'
            go_simp
            with_reducible rfl
           rotate_left
           ·simp only [Act.put, List.setIfInBounds_toArray, List.set_cons_zero, List.set_cons_succ, i64_w, i32_w]
            rfl
           refine pure_ (i := 2) (N := some 28) (v := ?_) (a' := ?_) #[true, false, true, false, false, false, false, false, false, false, false, false, false, false, false, false, false] rfl rfl (any_of HT_.out (by kernel_rfl)) (fun _ _ _ h => h) (Or.inl ⟨by rfl, ?_⟩) ?_ ?_
           rotate_left
           ·intro w'
            go_simp
            with_reducible rfl
           rotate_left
           ·simp only [Act.put, List.setIfInBounds_toArray, List.set_cons_zero, List.set_cons_succ, i64_w, i32_w]
            rfl
           refine pure_ (i := 3) (N := some 29) (v := ?_) (a' := ?_) #[true, false, true, true, false, false, false, false, false, false, false, false, false, false, false, false, false] rfl rfl (any_of HT_.out (by kernel_rfl)) (fun _ _ _ h => h) (Or.inl ⟨by rfl, ?_⟩) ?_ ?_
           rotate_left
           ·intro w'
            go_simp
            with_reducible rfl
           rotate_left
           ·simp only [Act.put, List.setIfInBounds_toArray, List.set_cons_zero, List.set_cons_succ, i64_w, i32_w]
            rfl
           refine pure_ (i := 4) (N := some 30) (v := ?_) (a' := ?_) #[true, false, true, true, true, false, false, false, false, false, false, false, false, false, false, false, false] rfl rfl (any_of HT_.out (by kernel_rfl)) (fun _ _ _ h => h) (Or.inl ⟨by rfl, ?_⟩) ?_ ?_
           rotate_left
           ·intro w'
            go_simp
            with_reducible rfl
           rotate_left
           ·simp only [Act.put, List.setIfInBounds_toArray, List.set_cons_zero, List.set_cons_succ, i64_w, i32_w]
            rfl
           refine pure_ (i := 6) (N := some 32) (v := ?_) (a' := ?_) #[true, false, true, true, true, false, true, false, false, false, false, false, false, false, false, false, false] rfl rfl (any_of HT_.out (by kernel_rfl)) (fun _ _ _ h => h) (Or.inl ⟨by rfl, ?_⟩) ?_ ?_
           rotate_left
           ·intro w'
            go_simp
            with_reducible rfl
           rotate_left
           ·simp only [Act.put, List.setIfInBounds_toArray, List.set_cons_zero, List.set_cons_succ, i64_w, i32_w]
            rfl
           refine pure_ (i := 7) (N := some 33) (v := ?_) (a' := ?_) #[true, false, true, true, true, false, true, true, false, false, false, false, false, false, false, false, false] rfl rfl (any_of HT_.out (by kernel_rfl)) (fun _ _ _ h => h) (Or.inl ⟨by rfl, ?_⟩) ?_ ?_
           rotate_left
           ·intro w'
            go_simp
            with_reducible rfl
           rotate_left
           ·simp only [Act.put, List.setIfInBounds_toArray, List.set_cons_zero, List.set_cons_succ, i64_w, i32_w]
            rfl
           refine pure_ (i := 8) (N := some 34) (v := ?_) (a' := ?_) #[true, false, true, true, true, false, true, true, true, false, false, false, false, false, false, false, false] rfl rfl (any_of HT_.out (by kernel_rfl)) (fun _ _ _ h => h) (Or.inl ⟨by rfl, ?_⟩) ?_ ?_
           rotate_left
           ·intro w'
            go_simp
            with_reducible rfl
           rotate_left
           ·simp only [Act.put, List.setIfInBounds_toArray, List.set_cons_zero, List.set_cons_succ, i64_w, i32_w]
            rfl
           refine take_ (i := 5) (N := some 31) (v := ?_) (a' := ?_) #[true, false, true, true, true, true, true, true, true, false, false, false, false, false, false, false, false] rfl rfl (take_ofW HT_.out HW_.out (by kernel_rfl)) (fun _ _ _ h => h) (Or.inl ⟨by rfl, ?_⟩) hHeld ?_ ?_
           rotate_left
           ·rintro w' ⟨s0, s1⟩
            go_simp
            with_reducible rfl
           rotate_left
           ·simp only [Act.put, List.setIfInBounds_toArray, List.set_cons_zero, List.set_cons_succ, i64_w, i32_w]
            rfl
           refine take_ (i := 9) (N := some 35) (v := ?_) (a' := ?_) #[true, false, true, true, true, true, true, true, true, true, false, false, false, false, false, false, false] rfl rfl (take_ofW HT_.out HW_.out (by kernel_rfl)) (fun _ _ _ h => h) (Or.inl ⟨by rfl, ?_⟩) hHeld ?_ ?_
           rotate_left
           ·rintro w' ⟨s0, s1⟩
            go_simp
            with_reducible rfl
           rotate_left
           ·simp only [Act.put, List.setIfInBounds_toArray, List.set_cons_zero, List.set_cons_succ, i64_w, i32_w]
            rfl
           refine pure_ (i := 10) (N := some 36) (v := ?_) (a' := ?_) #[true, false, true, true, true, true, true, true, true, true, true, false, false, false, false, false, false] rfl rfl (any_of HT_.out (by kernel_rfl)) (fun _ _ _ h => h) (Or.inl ⟨by rfl, ?_⟩) ?_ ?_
           rotate_left
           ·intro w'
            go_simp
            with_reducible rfl
           rotate_left
           ·simp only [Act.put, List.setIfInBounds_toArray, List.set_cons_zero, List.set_cons_succ, i64_w, i32_w]
            rfl
           refine pure_ (i := 11) (N := some 37) (v := ?_) (a' := ?_) #[true, false, true, true, true, true, true, true, true, true, true, true, false, false, false, false, false] rfl rfl (any_of HT_.out (by kernel_rfl)) (fun _ _ _ h => h) (Or.inl ⟨by rfl, ?_⟩) ?_ ?_
           rotate_left
           ·intro w'
            go_simp
            with_reducible rfl
           rotate_left
           ·simp only [Act.put, List.setIfInBounds_toArray, List.set_cons_zero, List.set_cons_succ, i64_w, i32_w]
            rfl
           refine pure_ (i := 12) (N := some 38) (v := ?_) (a' := ?_) #[true, false, true, true, true, true, true, true, true, true, true, true, true, false, false, false, false] rfl rfl (any_of HT_.out (by kernel_rfl)) (fun _ _ _ h => h) (Or.inl ⟨by rfl, ?_⟩) ?_ ?_
           rotate_left
           ·intro w'
            go_simp
            with_reducible rfl
           rotate_left
           ·simp only [Act.put, List.setIfInBounds_toArray, List.set_cons_zero, List.set_cons_succ, i64_w, i32_w]
            rfl
           refine one_ (i := 1) (N := some 27) #[true, true, true, true, true, true, true, true, true, true, true, true, true, false, false, false, false] rfl rfl (one_of HT_.out (by kernel_rfl)) (by decide) (fun K hK => ?_)
           refine Kd.R_lit_step (Kd.int .i64) _ 3 ?hg (N := 27) ?hd (xs := ([] : List Int)) (inner := []) (ok := fun _ => True) (okp := fun _ => True) ?hr ?hp (fun _ hk => hk) trivial (Below.refl _ _) (Nat.le_refl _) (by simp) ?_; (case hd => rfl); (case hg => rfl); (case hr => first | (go_simp; done) | (go_simp; rfl)); (case hp => exact (Reps.none _ _))
           intro v794 w18 ho19 hb hg_ hnew_
           clear hg_ hnew_
           (first | rw [← Ny793.out] at ho19 | (simp only [Int.reduceToNat] at ho19; rw [← Ny793.out] at ho19))
           have n0_ := Aside0.mk (Kd.N_elder' (by (with_reducible repeat (first | apply Kd.N_alloc | apply Kd.N_drewN | apply Kd.N_drew)); exact HO_5.out) (Kd.R_base ho19) hb)
           have n1_ := Aside0.mk (Kd.N_elder' (by (with_reducible repeat (first | apply Kd.N_alloc | apply Kd.N_drewN | apply Kd.N_drew)); exact HO_6.out) (Kd.R_base ho19) hb)
           have n2_ := Aside0.mk (Kd.R_lower ho19 (below_size (by repeat (first | (with_reducible first | exact HB.out | apply below_alloc | apply pw_below_drewN | apply below_drew1) | exact HB.out))))
           have n3_ := Aside0.mk (below_step (by repeat (first | (with_reducible first | exact HB.out | apply below_alloc | apply pw_below_drewN | apply below_drew1) | exact HB.out)) hb)
           clear HO_5
           clear HO_6
           clear HB
           have HO_5 := n0_
           have HO_6 := n1_
           have HO795 := n2_
           have HB := n3_
           clear n0_ n1_ n2_ n3_
           clear hb ho19
           refine hK.out _ _ ⟨((HB.out.cell (World.block_lt_of_cell? w _ hw796_0)).trans hw796_0), ((HB.out.cell (World.block_lt_of_cell? w _ hw797_0)).trans hw797_0)⟩ (fun hHeld => ?_)
           clear hK K
           refine norm_ (a' := ?_) ?_ ?_
           rotate_left
           ·show Act.put _ (some 27) _ = _
            simp only [Act.put, List.setIfInBounds_toArray, List.set_cons_zero, List.set_cons_succ, i64_w, i32_w]
            rfl
           refine one_ (i := 13) (N := some 39) #[true, true, true, true, true, true, true, true, true, true, true, true, true, true, false, false, false] rfl rfl (one_of HT_.out (by kernel_rfl)) (by decide) (fun K hK => ?_)
           refine Kd.R_append_rows_step (Kd.int .i64) (w0 := w) w.heap.size (by rfl) (.tmp 27) (.tmp 38) 23 3 (.int .i64 0) 8 rfl Try.underlying23 info3 rfl (by decide) (by omega) v794 y793 ((rd_L1 l0 x7_1).take ((ji11) : Int).toNat) _ _ _ (fun _ => True) (fun _ => False) rfl rfl ?aO ?aR (fun _ _ h => h) (fun _ h => h.elim) ?aF ?aB ?aS ?aL ?_
           (case aR => first | (have q_ := (Kd.C_below HR798.out HB.out); rw [show ((rd_L1 l0 x7_1).take ((ji11) : Int).toNat).length = (ji11).toNat from (by rw [List.length_take]; have h_ : ((ji11) : Int) ≤ ((rd_L1 l0 x7_1).length : Int) := of_decide_eq_true (by first | (with_reducible assumption) | assumption); omega)] at q_; exact q_) | (rw [← show ((rd_L1 l0 x7_1).take ((ji11) : Int).toNat).length = (ji11).toNat from (by rw [List.length_take]; have h_ : ((ji11) : Int) ≤ ((rd_L1 l0 x7_1).length : Int) := of_decide_eq_true (by first | (with_reducible assumption) | assumption); omega)]; repeat (first | exact (Kd.C_below HR798.out HB.out) | (with_reducible refine Kd.C_alloc ?_ _) | (with_reducible refine Kd.C_drewN ?_ _) | (with_reducible refine Kd.C_drew ?_))) | (repeat (first | exact (Kd.C_below HR798.out HB.out) | (with_reducible refine Kd.C_alloc ?_ _) | (with_reducible refine Kd.C_drewN ?_ _) | (with_reducible refine Kd.C_drew ?_))))
           (case aB => exact (by repeat (first | (with_reducible first | exact HB.out | apply below_alloc | apply pw_below_drewN | apply below_drew1) | exact HB.out)))
           (case aF => exact (fun _ _ => trivial))
           (case aO => exact (by (with_reducible repeat (first | apply Kd.R_alloc | apply Kd.R_drewN | apply Kd.R_drew)); exact HO795.out))
           (case aS => exact (below_size (by repeat (first | (with_reducible first | exact HB.out | apply below_alloc | apply pw_below_drewN | apply below_drew1) | exact HB.out))))
           (case aL => have := LMc14.out; have hlx_ := (show ((rd_L1 l0 x7_1).take ((ji11) : Int).toNat).length = (ji11).toNat from (by rw [List.length_take]; have h_ : ((ji11) : Int) ≤ ((rd_L1 l0 x7_1).length : Int) := of_decide_eq_true (by first | (with_reducible assumption) | assumption); omega)); omega)
           intro v800 w20 ho hb hg hat
           rw [← Ny799.out] at ho
           have n0_ := Aside0.mk (Kd.N_afterv (ok := (fun k_ => some k_ ≠ (v791 : Value).ownBlock)) (by (with_reducible repeat (first | apply Kd.N_alloc | apply Kd.N_drewN | apply Kd.N_drew)); exact HO_5.out) hg hat)
           have n1_ := Aside0.mk (Kd.N_afterv (ok := (fun k_ => some k_ ≠ (u5 : Value).ownBlock)) (by (with_reducible repeat (first | apply Kd.N_alloc | apply Kd.N_drewN | apply Kd.N_drew)); exact HO_6.out) hg hat)
           have n2_ := Aside0.mk (hb)
           have n3_ := Aside0.mk (ho)
           clear HO_5
           clear HO_6
           clear HB
           clear HO795
           have HO_5 := n0_
           have HO_6 := n1_
           have HB := n2_
           have HO801 := n3_
           clear n0_ n1_ n2_ n3_
           clear ho hb hg hat
           obtain ⟨Ao22, co22, eo22⟩ := Kd.R_slice HO801.out
           (first | subst eo22 | (injection eo22 with f1_ f2_ f3_; have f4_ := f1_.symm; have f5_ := f3_.symm; clear f1_ f2_ f3_; subst f4_; subst f5_))
           refine hK.out _ _ ⟨((HB.out.cell (World.block_lt_of_cell? w _ hw796_0)).trans hw796_0), ((HB.out.cell (World.block_lt_of_cell? w _ hw797_0)).trans hw797_0)⟩ (fun hHeld => ?_)
           clear hK K
           refine norm_ (a' := ?_) ?_ ?_
           rotate_left
           ·show Act.put _ (some 39) _ = _
            simp only [Act.put, List.setIfInBounds_toArray, List.set_cons_zero, List.set_cons_succ, i64_w, i32_w]
            rfl
           refine one_ (i := 14) (N := some 40) #[true, true, true, true, true, true, true, true, true, true, true, true, true, true, true, false, false] rfl rfl (one_of HT_.out (by kernel_rfl)) (by decide) (fun K hK => ?_)
           refine value_ (w1 := ?_) (v := ?_) (by rfl) rfl ?_ ?_
           rotate_left 2
           ·go_simp
            constructor
            ·rfl
            ·rfl
           refine hK.out _ _ ⟨(World.cell?_alloc_lt _ _ _ (World.block_lt_of_cell? _ _ (((HB.out.cell (World.block_lt_of_cell? w _ hw796_0)).trans hw796_0)))).trans (((HB.out.cell (World.block_lt_of_cell? w _ hw796_0)).trans hw796_0)), (World.cell?_alloc_lt _ _ _ (World.block_lt_of_cell? _ _ (((HB.out.cell (World.block_lt_of_cell? w _ hw797_0)).trans hw797_0)))).trans (((HB.out.cell (World.block_lt_of_cell? w _ hw797_0)).trans hw797_0))⟩ (fun hHeld => ?_)
           clear hK K
           refine norm_ (a' := ?_) ?_ ?_
           rotate_left
           ·show Act.put _ (some 40) _ = _
            simp only [Act.put, List.setIfInBounds_toArray, List.set_cons_zero, List.set_cons_succ, i64_w, i32_w]
            rfl
           refine one_ (i := 15) (N := some 41) #[true, true, true, true, true, true, true, true, true, true, true, true, true, true, true, true, false] rfl rfl (one_of HT_.out (by kernel_rfl)) (by decide) (fun K hK => ?_)
           refine Kd.N_append_step (Kd.slice 3 (Kd.int .i64)) (w0 := w) w.heap.size (by rfl) (.tmp 26) (.tmp 40) 22 23 (.slice none 0 0) 24 rfl Try.underlying22 info23 rfl (by decide) (by omega) u5 x5_1 y799 [.slice Ao22 y799.length co22] (fun k_ => some k_ ≠ (v791 : Value).ownBlock) (fun k_ => ((fun k_ => some k_ ≠ (v791 : Value).ownBlock)) k_ ∧ some k_ ≠ (u5 : Value).ownBlock) rfl rfl ?aP (fun _ hk => hk) ?aF ?aO ?aB ?aS ?aL ?_
           (case aP => exact (Kd.FK_slice_mk (Kd.R_reads' (Kd.R_mono (ok' := (fun k_ => ((fun k_ => some k_ ≠ (v791 : Value).ownBlock)) k_ ∧ some k_ ≠ (u5 : Value).ownBlock)) (Kd.R_apart' (Kd.R_apart' (HO801.out) (Kd.N_typed HO_6.out) (by decide)) (Kd.N_typed HO_5.out) (by decide)) (fun k_ hk => ⟨hk.1.2, hk.2⟩))).2.1 (Kd.R_F (Kd.R_mono (ok' := (fun k_ => ((fun k_ => some k_ ≠ (v791 : Value).ownBlock)) k_ ∧ some k_ ≠ (u5 : Value).ownBlock)) (Kd.R_apart' (Kd.R_apart' (HO801.out) (Kd.N_typed HO_6.out) (by decide)) (Kd.N_typed HO_5.out) (by decide)) (fun k_ hk => ⟨hk.1.2, hk.2⟩)))))
           (case aB => exact (by repeat (first | (with_reducible first | exact HB.out | apply below_alloc | apply pw_below_drewN | apply below_drew1) | exact HB.out)))
           (case aF => exact (fun k_ hk => Kd.fresh' (Kd.N_lt (by (with_reducible repeat (first | apply Kd.N_alloc | apply Kd.N_drewN | apply Kd.N_drew)); exact HO_6.out)) k_ hk))
           (case aO => exact (by (with_reducible repeat (first | apply Kd.N_alloc | apply Kd.N_drewN | apply Kd.N_drew)); exact Kd.N_mono HO_5.out (fun _ hk => hk.1)))
           (case aS => exact (below_size (by repeat (first | (with_reducible first | exact HB.out | apply below_alloc | apply pw_below_drewN | apply below_drew1) | exact HB.out))))
           (case aL => have := LMc15.out; omega)
           intro v803 w21 ho hb hg hat
           rw [← Ny802.out] at ho
           have n0_ := Aside0.mk (Kd.N_afterv (ok := (fun k_ => some k_ ≠ (.slice Ao22 y799.length co22 : Value).ownBlock)) (by (with_reducible repeat (first | apply Kd.N_alloc | apply Kd.N_drewN | apply Kd.N_drew)); exact Kd.N_mono HO_6.out (fun _ hk => ⟨hk.2, hk.1⟩)) hg hat)
           have n1_ := Aside0.mk (hb)
           have n2_ := Aside0.mk (ho)
           clear HO_6
           clear HB
           clear HO_5
           clear HO801
           have HO_6 := n0_
           have HB := n1_
           have HO804 := n2_
           clear n0_ n1_ n2_
           clear ho hb hg hat
           refine hK.out _ _ ⟨((HB.out.cell (World.block_lt_of_cell? w _ hw796_0)).trans hw796_0), ((HB.out.cell (World.block_lt_of_cell? w _ hw797_0)).trans hw797_0)⟩ (fun hHeld => ?_)
           clear hK K
           refine norm_ (a' := ?_) ?_ ?_
           rotate_left
           ·show Act.put _ (some 41) _ = _
            simp only [Act.put, List.setIfInBounds_toArray, List.set_cons_zero, List.set_cons_succ, i64_w, i32_w]
            rfl
           refine pure_ (i := 16) (N := some 5) (v := ?_) (a' := ?_) #[true, true, true, true, true, true, true, true, true, true, true, true, true, true, true, true, true] rfl rfl (any_of HT_.out (by kernel_rfl)) (fun _ _ _ h => h) (Or.inl ⟨by rfl, ?_⟩) ?_ ?_
           rotate_left
           ·intro w'
            go_simp
            with_reducible rfl
           rotate_left
           ·simp only [Act.put, List.setIfInBounds_toArray, List.set_cons_zero, List.set_cons_succ, i64_w, i32_w]
            rfl
           refine done_ (done_of HT_.out (by kernel_rfl)) ?_
           try go_wp2
           go_roundg k1
           case measure => have := HK1.out; omega
           case rel => exact ⟨(y802), (wrap64 (x7_1 + 1)), (by first | rfl | (simp; done) | (simp [*]; done)), H', ⟨by have := HK1.out; omega⟩, ⟨by (with_reducible repeat (first | apply Kd.N_alloc | apply Kd.N_drewN | apply Kd.N_drew)); exact HO804.out⟩, ⟨by (with_reducible repeat (first | apply Kd.N_alloc | apply Kd.N_drewN | apply Kd.N_drew)); exact Kd.N_mono HO_6.out (fun _ hk => hk.2)⟩, ⟨by repeat (first | (with_reducible first | exact HB.out | apply below_alloc | apply pw_below_drewN | apply below_drew1) | exact HB.out)⟩⟩
          ·rw [if_neg c15] at H
           exact absurd H (by simp)
         ·rw [if_neg c14] at H
          exact absurd H (by simp)
        ·rw [if_neg c13] at H
         exact absurd H (by simp)
       ·rw [if_neg c12] at H
        exact absurd H (by simp)
      ·rw [if_neg c10] at H
       exact absurd H (by simp)
     ·rw [if_neg c9] at H
      have c9b0 : decide (x7_1 < 20) = false := decide_eq_false c9
      clear c9
      have H' := Aside0.mk H
      clear H
      go_wp2
      go_meet
      case rel => exact ⟨_, (x5_1), H', ⟨by have := HK1.out; first | omega | exact Nat.le_refl _⟩, ⟨by (with_reducible repeat (first | apply Kd.N_alloc | apply Kd.N_drewN | apply Kd.N_drew)); exact HO_5.out⟩, ⟨by (with_reducible repeat (first | apply Kd.N_alloc | apply Kd.N_drewN | apply Kd.N_drew)); exact HO_6.out⟩, ⟨by repeat (first | (with_reducible first | exact HB.out | apply below_alloc | apply pw_below_drewN | apply below_drew1) | exact HB.out)⟩⟩
    ·rw [if_neg c8] at H
     have c8b0 : decide (x7_1 < (l0.length : Int)) = false := decide_eq_false c8
     clear c8
     (first | rw [c8b0] | (simp only [i64_w, i32_w]; rw [c8b0]) | skip)
     have H' := Aside0.mk H
     clear H
     go_wp2
     go_meet
     case rel => exact ⟨_, (x5_1), H', ⟨by have := HK1.out; first | omega | exact Nat.le_refl _⟩, ⟨by (with_reducible repeat (first | apply Kd.N_alloc | apply Kd.N_drewN | apply Kd.N_drew)); exact HO_5.out⟩, ⟨by (with_reducible repeat (first | apply Kd.N_alloc | apply Kd.N_drewN | apply Kd.N_drew)); exact HO_6.out⟩, ⟨by repeat (first | (with_reducible first | exact HB.out | apply below_alloc | apply pw_below_drewN | apply below_drew1) | exact HB.out)⟩⟩
 case rest =>
  clear HC3
  try clear c1
  try clear p2
  try clear p6
  try clear c7
  try clear p7
  try clear q7
  try clear hx7
  try clear c8
  try clear c8b0
  try clear c9
  try clear c9b0
  try clear c10
  try clear c10b0
  try clear c12
  try clear c12b0
  try clear c12b1
  try clear c13
  try clear c13b0
  try clear c13b1
  try clear c14
  try clear c15
  try clear hx796_0
  try clear hx797_0
  try clear p2
  try clear p796
  try clear p797
  try clear q796
  try clear q797
  obtain ⟨kq, x5_2, HA, HJ2, HO_5, HO_6, HB⟩ := hcut
  cases kq with
  | zero => exact absurd HA.out (by simp [secateurlaw09_TableStill.j1])
  | succ kj2 =>
   have H := HA.out
   clear HA
   simp only [secateurlaw09_TableStill.j1] at H
   have HC23 := Aside0.mk H
   clear H
   go_upto_block 2 with (fail)
   go_cut [6] (fun v6 wc => ∃ (kq : Nat) (x6_22 : List (List Int)), Aside0 (secateurlaw09_TableStill.j3 kq x5_2 x6_22 = some r) ∧ Aside0 (kq ≤ kj2) ∧ Aside0 (Kd.N (Kd.slice 3 (Kd.int .i64)) 23 wc w.heap.size (fun k_ => some k_ ≠ (v6 : Value).ownBlock) u5 x5_2) ∧ Aside0 (Kd.N (Kd.slice 3 (Kd.int .i64)) 23 wc w.heap.size (fun k_ => some k_ ≠ (u5 : Value).ownBlock) v6 x6_22) ∧ Aside0 (Below w.heap.size w wc))
   case first =>
    have H := HC23.out
    clear HC23
    have H' := Aside0.mk H
    clear H
    go_wp2
    go_loopg [6, 8] kj2 (fun kq v6 v8 w' => ∃ (x6_2 : List (List Int)) (x8_2 : Int), v8 = .int .i64 x8_2 ∧ Aside0 (secateurlaw09_TableStill.l1 kq l1 x5_2 x6_2 x8_2 = some r) ∧ Aside0 (kq ≤ kj2) ∧ Aside0 (Kd.N (Kd.slice 3 (Kd.int .i64)) 23 w' w.heap.size (fun k_ => some k_ ≠ (v6 : Value).ownBlock) u5 x5_2) ∧ Aside0 (Kd.N (Kd.slice 3 (Kd.int .i64)) 23 w' w.heap.size (fun k_ => some k_ ≠ (u5 : Value).ownBlock) v6 x6_2) ∧ Aside0 (Below w.heap.size w w'))
    case atStart => exact ⟨(y790), (0), (by first | rfl | (simp; done) | (simp [*]; done)), H', ⟨Nat.le_refl _⟩, ⟨by (with_reducible repeat (first | apply Kd.N_alloc | apply Kd.N_drewN | apply Kd.N_drew)); exact HO_5.out⟩, ⟨by (with_reducible repeat (first | apply Kd.N_alloc | apply Kd.N_drewN | apply Kd.N_drew)); exact HO_6.out⟩, ⟨by repeat (first | (with_reducible first | exact HB.out | apply below_alloc | apply pw_below_drewN | apply below_drew1) | exact HB.out)⟩⟩
    case round =>
     clear H'
     try clear c1
     try clear p2
     try clear p6
     try clear c7
     try clear p7
     try clear q7
     try clear hx7
     try clear c8
     try clear c8b0
     try clear c9
     try clear c9b0
     try clear c10
     try clear c10b0
     try clear c12
     try clear c12b0
     try clear c12b1
     try clear c13
     try clear c13b0
     try clear c13b1
     try clear c14
     try clear c15
     try clear hx796_0
     try clear hx797_0
     try clear p2
     try clear p6
     try clear p7
     try clear p796
     try clear p797
     try clear q7
     try clear q796
     try clear q797
     obtain ⟨x6_2, x8_2, rfl, HA, HK2, HO_5, HO_6, HB⟩ := hrel
     cases gk with
     | zero => exact absurd HA.out (by simp [secateurlaw09_TableStill.l1])
     | succ k2 =>
      have H := HA.out
      clear HA
      simp only [secateurlaw09_TableStill.l1] at H
      by_cases c24 : x8_2 < (l1.length : Int)
      ·rw [if_pos c24] at H
       have c24b0 : decide (x8_2 < (l1.length : Int)) = true := decide_eq_true c24
       clear c24
       (first | rw [c24b0] | (simp only [i64_w, i32_w]; rw [c24b0]) | skip)
       by_cases c25 : x8_2 < 20
       ·rw [if_pos c25] at H
        have c25b0 : decide (x8_2 < 20) = true := decide_eq_true c25
        clear c25
        obtain ⟨y805, hy805⟩ : ∃ y_ : List Int, y_ = (([] : List Int)) := ⟨_, rfl⟩
        replace H : (if 0 ≤ x8_2 then (if 0 ≤ (mn ((rd_L1 l1 x8_2).length : Int) 8) then (if (mn ((rd_L1 l1 x8_2).length : Int) 8) ≤ ((rd_L1 l1 x8_2).length : Int) then (if y805.length + ((rd_L1 l1 x8_2).take ((mn ((rd_L1 l1 x8_2).length : Int) 8) : Int).toNat).length < 17592186044416 then (if x6_2.length < 5864062014805 then (secateurlaw09_TableStill.l1 k2 l1 x5_2 (x6_2 ++ [(y805 ++ ((rd_L1 l1 x8_2).take ((mn ((rd_L1 l1 x8_2).length : Int) 8) : Int).toNat))]) (wrap64 (x8_2 + 1))) else (none)) else (none)) else (none)) else (none)) else (none)) = some r := by first | (rw [hy805]; with_reducible exact H) | (have H2_ := (Option.bind_some _ _).symm.trans H; rw [hy805]; with_reducible exact H2_) | (have H2_ := (Option.bind_some _ _).symm.trans H; with_reducible exact H2_) | with_reducible exact H | (rw [hy805]; exact H) | exact H
        have Ny805 := Aside0.mk hy805
        clear hy805
        by_cases c26 : 0 ≤ x8_2
        ·rw [if_pos c26] at H
         have c26b0 : decide (0 ≤ x8_2) = true := decide_eq_true c26
         clear c26
         obtain ⟨ji27, hji27⟩ : ∃ j_ : Int, (mn ((rd_L1 l1 x8_2).length : Int) 8) = j_ := ⟨_, rfl⟩
         replace H : (if 0 ≤ (ji27) then (if (ji27) ≤ ((rd_L1 l1 x8_2).length : Int) then (if y805.length + ((rd_L1 l1 x8_2).take ((ji27) : Int).toNat).length < 17592186044416 then (if x6_2.length < 5864062014805 then (secateurlaw09_TableStill.l1 k2 l1 x5_2 (x6_2 ++ [(y805 ++ ((rd_L1 l1 x8_2).take ((ji27) : Int).toNat))]) (wrap64 (x8_2 + 1))) else (none)) else (none)) else (none)) else (none)) = some r := by first | (rw [hji27] at H; exact H) | (simp only [hji27] at H ⊢; exact H)
         have hji27_ : (if 8 < ((rd_L1 l1 x8_2).length : Int) then 8 else ((rd_L1 l1 x8_2).length : Int)) = ji27 := hji27
         by_cases c28 : 0 ≤ (ji27)
         ·rw [if_pos c28] at H
          have c28b0 := eq_true c28
          have c28b1 : decide (0 ≤ (ji27)) = true := decide_eq_true c28
          clear c28
          by_cases c29 : (ji27) ≤ ((rd_L1 l1 x8_2).length : Int)
          ·rw [if_pos c29] at H
           have c29b0 := eq_true c29
           have c29b1 : decide ((ji27) ≤ ((rd_L1 l1 x8_2).length : Int)) = true := decide_eq_true c29
           clear c29
           by_cases c30 : y805.length + ((rd_L1 l1 x8_2).take ((ji27) : Int).toNat).length < 17592186044416
           ·rw [if_pos c30] at H
            have LMc30 := Aside0.mk c30
            clear c30
            obtain ⟨y811, hy811⟩ : ∃ y_ : List Int, y_ = (y805 ++ ((rd_L1 l1 x8_2).take ((ji27) : Int).toNat)) := ⟨_, rfl⟩
            replace H : (if x6_2.length < 5864062014805 then (secateurlaw09_TableStill.l1 k2 l1 x5_2 (x6_2 ++ [y811]) (wrap64 (x8_2 + 1))) else (none)) = some r := by first | (rw [hy811]; with_reducible exact H) | (have H2_ := (Option.bind_some _ _).symm.trans H; rw [hy811]; with_reducible exact H2_) | (have H2_ := (Option.bind_some _ _).symm.trans H; with_reducible exact H2_) | with_reducible exact H | (rw [hy811]; exact H) | exact H
            have Ny811 := Aside0.mk hy811
            clear hy811
            by_cases c31 : x6_2.length < 5864062014805
            ·rw [if_pos c31] at H
             have LMc31 := Aside0.mk c31
             clear c31
             obtain ⟨y814, hy814⟩ : ∃ y_ : List (List Int), y_ = (x6_2 ++ [y811]) := ⟨_, rfl⟩
             replace H : (secateurlaw09_TableStill.l1 k2 l1 x5_2 y814 (wrap64 (x8_2 + 1))) = some r := by first | (rw [hy814]; with_reducible exact H) | (have H2_ := (Option.bind_some _ _).symm.trans H; rw [hy814]; with_reducible exact H2_) | (have H2_ := (Option.bind_some _ _).symm.trans H; with_reducible exact H2_) | with_reducible exact H | (rw [hy814]; exact H) | exact H
             have Ny814 := Aside0.mk hy814
             clear hy814
             have H' := Aside0.mk H
             clear H
             try go_wp2
             have n0_ := Aside0.mk (Kd.N_drew HO_5.out)
             have n1_ := Aside0.mk (Kd.N_drew HO_6.out)
             have n2_ := Aside0.mk (below_drew1 HB.out)
             clear HO_5
             clear HO_6
             clear HB
             have HO_5 := n0_
             have HO_6 := n1_
             have HB := n2_
             clear n0_ n1_ n2_
             have p808 : 0 ≤ (x8_2 : Int) := of_decide_eq_true (by first | (with_reducible assumption) | assumption)
             have q808 : x8_2 < (l1.length : Int) := of_decide_eq_true (by first | (with_reducible assumption) | assumption)
             obtain ⟨ad808, A808_0, c808_0, e808, hx808_0, hl808_0, hi808_0⟩ := at_L1 HR1.out x8_2 p808 q808
             have hw808_0 := hx808_0
             cases e808
             replace hx808_0 := (HB.out.cell (World.block_lt_of_cell? w _ hx808_0)).trans hx808_0
             have HR808_0 := Aside0.mk hi808_0
             have HC808_0 := Aside0.mk hl808_0
             clear hi808_0 hl808_0
             replace p808 := eq_true p808
             replace q808 := eq_true q808
             have p809 : 0 ≤ (x8_2 : Int) := of_decide_eq_true (by first | (with_reducible assumption) | assumption)
             have q809 : x8_2 < (l1.length : Int) := of_decide_eq_true (by first | (with_reducible assumption) | assumption)
             obtain ⟨ad809, A809_0, c809_0, e809, hx809_0, hl809_0, hi809_0⟩ := at_L1 HR1.out x8_2 p809 q809
             have hw809_0 := hx809_0
             obtain rfl : ad808 = ad809 := (by injection e809)
             replace hx809_0 := (HB.out.cell (World.block_lt_of_cell? w _ hx809_0)).trans hx809_0
             have HR809_0 := Aside0.mk hi809_0
             have HC809_0 := Aside0.mk hl809_0
             clear hi809_0 hl809_0
             replace p809 := eq_true p809
             replace q809 := eq_true q809
             have ea_ := Option.some.inj (hx808_0.symm.trans hx809_0)
             injection ea_ with ea_ en_ ec_
             subst ea_
             subst ec_
             clear en_
             obtain ⟨i033, hi033, _, hsz33, _⟩ := info_parts info3
             obtain ⟨hcut33, hA33, hC33⟩ := print_take_of (P := Try.prog) (Value.int .i64) 0 23 3 .i64 Try.underlying23 hi033 hsz33 A808_0 c808_0 (rd_L1 l1 x8_2) (ji27) (of_decide_eq_true (by first | (with_reducible assumption) | assumption)) (of_decide_eq_true (by first | (with_reducible assumption) | assumption)) HC808_0.out
             have HR810 := Aside0.mk (Kd.C_of_reads (h1 := fun _ => rfl) (hA33 _ (Kd.reads_of_C HR808_0.out)))
             have HC810 := Aside0.mk hC33
             clear hA33 hC33 hi033 hsz33
             refine start_ (n := 17) (S := fun w' => w'.cell? (ad808.add (x8_2).toNat) = some (.slice A808_0 (rd_L1 l1 x8_2).length c808_0) ∧ w'.cell? (ad808.add (x8_2).toNat) = some (.slice A808_0 (rd_L1 l1 x8_2).length c808_0)) (ds := []) #[false, false, false, false, false, false, false, false, false, false, false, false, false, false, false, false, false] (by kernel_rfl) rfl rfl ⟨((HB.out.cell (World.block_lt_of_cell? w _ hw808_0)).trans hw808_0), ((HB.out.cell (World.block_lt_of_cell? w _ hw809_0)).trans hw809_0)⟩ (fun hHeld => ?_); refine with_tabW secateurlaw09_TableStill.tab9 secateurlaw09_TableStill.bits9 (fun HT_ HW_ => ?_)
             generalize wr.drew = w32 at HO_5 HO_6 HB HR808_0 HR809_0 HR810 hx808_0 hx809_0 hHeld ⊢
             refine pure_ (i := 0) (N := some 52) (v := ?_) (a' := ?_) #[true, false, false, false, false, false, false, false, false, false, false, false, false, false, false, false, false] rfl rfl (any_of HT_.out (by kernel_rfl)) (fun _ _ _ h => h) (Or.inl ⟨by rfl, ?_⟩) ?_ ?_
             rotate_left
             ·intro w'
              go_simp
              with_reducible rfl
             rotate_left
             ·simp only [Act.put, List.setIfInBounds_toArray, List.set_cons_zero, List.set_cons_succ, i64_w, i32_w]
              rfl
             refine pure_ (i := 2) (N := some 54) (v := ?_) (a' := ?_) #[true, false, true, false, false, false, false, false, false, false, false, false, false, false, false, false, false] rfl rfl (any_of HT_.out (by kernel_rfl)) (fun _ _ _ h => h) (Or.inl ⟨by rfl, ?_⟩) ?_ ?_
             rotate_left
             ·intro w'
              go_simp
              with_reducible rfl
             rotate_left
             ·simp only [Act.put, List.setIfInBounds_toArray, List.set_cons_zero, List.set_cons_succ, i64_w, i32_w]
              rfl
             refine pure_ (i := 3) (N := some 55) (v := ?_) (a' := ?_) #[true, false, true, true, false, false, false, false, false, false, false, false, false, false, false, false, false] rfl rfl (any_of HT_.out (by kernel_rfl)) (fun _ _ _ h => h) (Or.inl ⟨by rfl, ?_⟩) ?_ ?_
             rotate_left
             ·intro w'
              go_simp
              with_reducible rfl
             rotate_left
             ·simp only [Act.put, List.setIfInBounds_toArray, List.set_cons_zero, List.set_cons_succ, i64_w, i32_w]
              rfl
             refine pure_ (i := 4) (N := some 56) (v := ?_) (a' := ?_) #[true, false, true, true, true, false, false, false, false, false, false, false, false, false, false, false, false] rfl rfl (any_of HT_.out (by kernel_rfl)) (fun _ _ _ h => h) (Or.inl ⟨by rfl, ?_⟩) ?_ ?_
             rotate_left
             ·intro w'
              go_simp
              with_reducible rfl
             rotate_left
             ·simp only [Act.put, List.setIfInBounds_toArray, List.set_cons_zero, List.set_cons_succ, i64_w, i32_w]
              rfl
             refine pure_ (i := 6) (N := some 58) (v := ?_) (a' := ?_) #[true, false, true, true, true, false, true, false, false, false, false, false, false, false, false, false, false] rfl rfl (any_of HT_.out (by kernel_rfl)) (fun _ _ _ h => h) (Or.inl ⟨by rfl, ?_⟩) ?_ ?_
             rotate_left
             ·intro w'
              go_simp
              with_reducible rfl
             rotate_left
             ·simp only [Act.put, List.setIfInBounds_toArray, List.set_cons_zero, List.set_cons_succ, i64_w, i32_w]
              rfl
             refine pure_ (i := 7) (N := some 59) (v := ?_) (a' := ?_) #[true, false, true, true, true, false, true, true, false, false, false, false, false, false, false, false, false] rfl rfl (any_of HT_.out (by kernel_rfl)) (fun _ _ _ h => h) (Or.inl ⟨by rfl, ?_⟩) ?_ ?_
             rotate_left
             ·intro w'
              go_simp
              with_reducible rfl
             rotate_left
             ·simp only [Act.put, List.setIfInBounds_toArray, List.set_cons_zero, List.set_cons_succ, i64_w, i32_w]
              rfl
             refine pure_ (i := 8) (N := some 60) (v := ?_) (a' := ?_) #[true, false, true, true, true, false, true, true, true, false, false, false, false, false, false, false, false] rfl rfl (any_of HT_.out (by kernel_rfl)) (fun _ _ _ h => h) (Or.inl ⟨by rfl, ?_⟩) ?_ ?_
             rotate_left
             ·intro w'
              go_simp
              with_reducible rfl
             rotate_left
             ·simp only [Act.put, List.setIfInBounds_toArray, List.set_cons_zero, List.set_cons_succ, i64_w, i32_w]
              rfl
             refine take_ (i := 5) (N := some 57) (v := ?_) (a' := ?_) #[true, false, true, true, true, true, true, true, true, false, false, false, false, false, false, false, false] rfl rfl (take_ofW HT_.out HW_.out (by kernel_rfl)) (fun _ _ _ h => h) (Or.inl ⟨by rfl, ?_⟩) hHeld ?_ ?_
             rotate_left
             ·rintro w' ⟨s0, s1⟩
              go_simp
              with_reducible rfl
             rotate_left
             ·simp only [Act.put, List.setIfInBounds_toArray, List.set_cons_zero, List.set_cons_succ, i64_w, i32_w]
              rfl
             refine take_ (i := 9) (N := some 61) (v := ?_) (a' := ?_) #[true, false, true, true, true, true, true, true, true, true, false, false, false, false, false, false, false] rfl rfl (take_ofW HT_.out HW_.out (by kernel_rfl)) (fun _ _ _ h => h) (Or.inl ⟨by rfl, ?_⟩) hHeld ?_ ?_
             rotate_left
             ·rintro w' ⟨s0, s1⟩
              go_simp
              with_reducible rfl
             rotate_left
             ·simp only [Act.put, List.setIfInBounds_toArray, List.set_cons_zero, List.set_cons_succ, i64_w, i32_w]
              rfl
             refine pure_ (i := 10) (N := some 62) (v := ?_) (a' := ?_) #[true, false, true, true, true, true, true, true, true, true, true, false, false, false, false, false, false] rfl rfl (any_of HT_.out (by kernel_rfl)) (fun _ _ _ h => h) (Or.inl ⟨by rfl, ?_⟩) ?_ ?_
             rotate_left
             ·intro w'
              go_simp
              with_reducible rfl
             rotate_left
             ·simp only [Act.put, List.setIfInBounds_toArray, List.set_cons_zero, List.set_cons_succ, i64_w, i32_w]
              rfl
             refine pure_ (i := 11) (N := some 63) (v := ?_) (a' := ?_) #[true, false, true, true, true, true, true, true, true, true, true, true, false, false, false, false, false] rfl rfl (any_of HT_.out (by kernel_rfl)) (fun _ _ _ h => h) (Or.inl ⟨by rfl, ?_⟩) ?_ ?_
             rotate_left
             ·intro w'
              go_simp
              with_reducible rfl
             rotate_left
             ·simp only [Act.put, List.setIfInBounds_toArray, List.set_cons_zero, List.set_cons_succ, i64_w, i32_w]
              rfl
             refine pure_ (i := 12) (N := some 64) (v := ?_) (a' := ?_) #[true, false, true, true, true, true, true, true, true, true, true, true, true, false, false, false, false] rfl rfl (any_of HT_.out (by kernel_rfl)) (fun _ _ _ h => h) (Or.inl ⟨by rfl, ?_⟩) ?_ ?_
             rotate_left
             ·intro w'
              go_simp
              with_reducible rfl
             rotate_left
             ·simp only [Act.put, List.setIfInBounds_toArray, List.set_cons_zero, List.set_cons_succ, i64_w, i32_w]
              rfl
             refine one_ (i := 1) (N := some 53) #[true, true, true, true, true, true, true, true, true, true, true, true, true, false, false, false, false] rfl rfl (one_of HT_.out (by kernel_rfl)) (by decide) (fun K hK => ?_)
             refine Kd.R_lit_step (Kd.int .i64) _ 3 ?hg (N := 53) ?hd (xs := ([] : List Int)) (inner := []) (ok := fun _ => True) (okp := fun _ => True) ?hr ?hp (fun _ hk => hk) trivial (Below.refl _ _) (Nat.le_refl _) (by simp) ?_; (case hd => rfl); (case hg => rfl); (case hr => first | (go_simp; done) | (go_simp; rfl)); (case hp => exact (Reps.none _ _))
             intro v806 w34 ho35 hb hg_ hnew_
             clear hg_ hnew_
             (first | rw [← Ny805.out] at ho35 | (simp only [Int.reduceToNat] at ho35; rw [← Ny805.out] at ho35))
             have n0_ := Aside0.mk (Kd.N_elder' (by (with_reducible repeat (first | apply Kd.N_alloc | apply Kd.N_drewN | apply Kd.N_drew)); exact HO_5.out) (Kd.R_base ho35) hb)
             have n1_ := Aside0.mk (Kd.N_elder' (by (with_reducible repeat (first | apply Kd.N_alloc | apply Kd.N_drewN | apply Kd.N_drew)); exact HO_6.out) (Kd.R_base ho35) hb)
             have n2_ := Aside0.mk (Kd.R_lower ho35 (below_size (by repeat (first | (with_reducible first | exact HB.out | apply below_alloc | apply pw_below_drewN | apply below_drew1) | exact HB.out))))
             have n3_ := Aside0.mk (below_step (by repeat (first | (with_reducible first | exact HB.out | apply below_alloc | apply pw_below_drewN | apply below_drew1) | exact HB.out)) hb)
             clear HO_5
             clear HO_6
             clear HB
             have HO_5 := n0_
             have HO_6 := n1_
             have HO807 := n2_
             have HB := n3_
             clear n0_ n1_ n2_ n3_
             clear hb ho35
             refine hK.out _ _ ⟨((HB.out.cell (World.block_lt_of_cell? w _ hw808_0)).trans hw808_0), ((HB.out.cell (World.block_lt_of_cell? w _ hw809_0)).trans hw809_0)⟩ (fun hHeld => ?_)
             clear hK K
             refine norm_ (a' := ?_) ?_ ?_
             rotate_left
             ·show Act.put _ (some 53) _ = _
              simp only [Act.put, List.setIfInBounds_toArray, List.set_cons_zero, List.set_cons_succ, i64_w, i32_w]
              rfl
             refine one_ (i := 13) (N := some 65) #[true, true, true, true, true, true, true, true, true, true, true, true, true, true, false, false, false] rfl rfl (one_of HT_.out (by kernel_rfl)) (by decide) (fun K hK => ?_)
             refine Kd.R_append_rows_step (Kd.int .i64) (w0 := w) w.heap.size (by rfl) (.tmp 53) (.tmp 64) 23 3 (.int .i64 0) 8 rfl Try.underlying23 info3 rfl (by decide) (by omega) v806 y805 ((rd_L1 l1 x8_2).take ((ji27) : Int).toNat) _ _ _ (fun _ => True) (fun _ => False) rfl rfl ?aO ?aR (fun _ _ h => h) (fun _ h => h.elim) ?aF ?aB ?aS ?aL ?_
             (case aR => first | (have q_ := (Kd.C_below HR810.out HB.out); rw [show ((rd_L1 l1 x8_2).take ((ji27) : Int).toNat).length = (ji27).toNat from (by rw [List.length_take]; have h_ : ((ji27) : Int) ≤ ((rd_L1 l1 x8_2).length : Int) := of_decide_eq_true (by first | (with_reducible assumption) | assumption); omega)] at q_; exact q_) | (rw [← show ((rd_L1 l1 x8_2).take ((ji27) : Int).toNat).length = (ji27).toNat from (by rw [List.length_take]; have h_ : ((ji27) : Int) ≤ ((rd_L1 l1 x8_2).length : Int) := of_decide_eq_true (by first | (with_reducible assumption) | assumption); omega)]; repeat (first | exact (Kd.C_below HR810.out HB.out) | (with_reducible refine Kd.C_alloc ?_ _) | (with_reducible refine Kd.C_drewN ?_ _) | (with_reducible refine Kd.C_drew ?_))) | (repeat (first | exact (Kd.C_below HR810.out HB.out) | (with_reducible refine Kd.C_alloc ?_ _) | (with_reducible refine Kd.C_drewN ?_ _) | (with_reducible refine Kd.C_drew ?_))))
             (case aB => exact (by repeat (first | (with_reducible first | exact HB.out | apply below_alloc | apply pw_below_drewN | apply below_drew1) | exact HB.out)))
             (case aF => exact (fun _ _ => trivial))
             (case aO => exact (by (with_reducible repeat (first | apply Kd.R_alloc | apply Kd.R_drewN | apply Kd.R_drew)); exact HO807.out))
             (case aS => exact (below_size (by repeat (first | (with_reducible first | exact HB.out | apply below_alloc | apply pw_below_drewN | apply below_drew1) | exact HB.out))))
             (case aL => have := LMc30.out; have hlx_ := (show ((rd_L1 l1 x8_2).take ((ji27) : Int).toNat).length = (ji27).toNat from (by rw [List.length_take]; have h_ : ((ji27) : Int) ≤ ((rd_L1 l1 x8_2).length : Int) := of_decide_eq_true (by first | (with_reducible assumption) | assumption); omega)); omega)
             intro v812 w36 ho hb hg hat
             rw [← Ny811.out] at ho
             have n0_ := Aside0.mk (Kd.N_afterv (ok := (fun k_ => some k_ ≠ (u6 : Value).ownBlock)) (by (with_reducible repeat (first | apply Kd.N_alloc | apply Kd.N_drewN | apply Kd.N_drew)); exact HO_5.out) hg hat)
             have n1_ := Aside0.mk (Kd.N_afterv (ok := (fun k_ => some k_ ≠ (u5 : Value).ownBlock)) (by (with_reducible repeat (first | apply Kd.N_alloc | apply Kd.N_drewN | apply Kd.N_drew)); exact HO_6.out) hg hat)
             have n2_ := Aside0.mk (hb)
             have n3_ := Aside0.mk (ho)
             clear HO_5
             clear HO_6
             clear HB
             clear HO807
             have HO_5 := n0_
             have HO_6 := n1_
             have HB := n2_
             have HO813 := n3_
             clear n0_ n1_ n2_ n3_
             clear ho hb hg hat
             obtain ⟨Ao38, co38, eo38⟩ := Kd.R_slice HO813.out
             (first | subst eo38 | (injection eo38 with f1_ f2_ f3_; have f4_ := f1_.symm; have f5_ := f3_.symm; clear f1_ f2_ f3_; subst f4_; subst f5_))
             refine hK.out _ _ ⟨((HB.out.cell (World.block_lt_of_cell? w _ hw808_0)).trans hw808_0), ((HB.out.cell (World.block_lt_of_cell? w _ hw809_0)).trans hw809_0)⟩ (fun hHeld => ?_)
             clear hK K
             refine norm_ (a' := ?_) ?_ ?_
             rotate_left
             ·show Act.put _ (some 65) _ = _
              simp only [Act.put, List.setIfInBounds_toArray, List.set_cons_zero, List.set_cons_succ, i64_w, i32_w]
              rfl
             refine one_ (i := 14) (N := some 66) #[true, true, true, true, true, true, true, true, true, true, true, true, true, true, true, false, false] rfl rfl (one_of HT_.out (by kernel_rfl)) (by decide) (fun K hK => ?_)
             refine value_ (w1 := ?_) (v := ?_) (by rfl) rfl ?_ ?_
             rotate_left 2
             ·go_simp
              constructor
              ·rfl
              ·rfl
             refine hK.out _ _ ⟨(World.cell?_alloc_lt _ _ _ (World.block_lt_of_cell? _ _ (((HB.out.cell (World.block_lt_of_cell? w _ hw808_0)).trans hw808_0)))).trans (((HB.out.cell (World.block_lt_of_cell? w _ hw808_0)).trans hw808_0)), (World.cell?_alloc_lt _ _ _ (World.block_lt_of_cell? _ _ (((HB.out.cell (World.block_lt_of_cell? w _ hw809_0)).trans hw809_0)))).trans (((HB.out.cell (World.block_lt_of_cell? w _ hw809_0)).trans hw809_0))⟩ (fun hHeld => ?_)
             clear hK K
             refine norm_ (a' := ?_) ?_ ?_
             rotate_left
             ·show Act.put _ (some 66) _ = _
              simp only [Act.put, List.setIfInBounds_toArray, List.set_cons_zero, List.set_cons_succ, i64_w, i32_w]
              rfl
             refine one_ (i := 15) (N := some 67) #[true, true, true, true, true, true, true, true, true, true, true, true, true, true, true, true, false] rfl rfl (one_of HT_.out (by kernel_rfl)) (by decide) (fun K hK => ?_)
             refine Kd.N_append_step (Kd.slice 3 (Kd.int .i64)) (w0 := w) w.heap.size (by rfl) (.tmp 52) (.tmp 66) 22 23 (.slice none 0 0) 24 rfl Try.underlying22 info23 rfl (by decide) (by omega) u6 x6_2 y811 [.slice Ao38 y811.length co38] (fun k_ => some k_ ≠ (u5 : Value).ownBlock) (fun k_ => ((fun k_ => some k_ ≠ (u5 : Value).ownBlock)) k_ ∧ some k_ ≠ (u6 : Value).ownBlock) rfl rfl ?aP (fun _ hk => hk) ?aF ?aO ?aB ?aS ?aL ?_
             (case aP => exact (Kd.FK_slice_mk (Kd.R_reads' (Kd.R_mono (ok' := (fun k_ => ((fun k_ => some k_ ≠ (u5 : Value).ownBlock)) k_ ∧ some k_ ≠ (u6 : Value).ownBlock)) (Kd.R_apart' (Kd.R_apart' (HO813.out) (Kd.N_typed HO_5.out) (by decide)) (Kd.N_typed HO_6.out) (by decide)) (fun k_ hk => ⟨hk.1.2, hk.2⟩))).2.1 (Kd.R_F (Kd.R_mono (ok' := (fun k_ => ((fun k_ => some k_ ≠ (u5 : Value).ownBlock)) k_ ∧ some k_ ≠ (u6 : Value).ownBlock)) (Kd.R_apart' (Kd.R_apart' (HO813.out) (Kd.N_typed HO_5.out) (by decide)) (Kd.N_typed HO_6.out) (by decide)) (fun k_ hk => ⟨hk.1.2, hk.2⟩)))))
             (case aB => exact (by repeat (first | (with_reducible first | exact HB.out | apply below_alloc | apply pw_below_drewN | apply below_drew1) | exact HB.out)))
             (case aF => exact (fun k_ hk => Kd.fresh' (Kd.N_lt (by (with_reducible repeat (first | apply Kd.N_alloc | apply Kd.N_drewN | apply Kd.N_drew)); exact HO_5.out)) k_ hk))
             (case aO => exact (by (with_reducible repeat (first | apply Kd.N_alloc | apply Kd.N_drewN | apply Kd.N_drew)); exact Kd.N_mono HO_6.out (fun _ hk => hk.1)))
             (case aS => exact (below_size (by repeat (first | (with_reducible first | exact HB.out | apply below_alloc | apply pw_below_drewN | apply below_drew1) | exact HB.out))))
             (case aL => have := LMc31.out; omega)
             intro v815 w37 ho hb hg hat
             rw [← Ny814.out] at ho
             have n0_ := Aside0.mk (Kd.N_afterv (ok := (fun k_ => some k_ ≠ (.slice Ao38 y811.length co38 : Value).ownBlock)) (by (with_reducible repeat (first | apply Kd.N_alloc | apply Kd.N_drewN | apply Kd.N_drew)); exact Kd.N_mono HO_5.out (fun _ hk => ⟨hk.2, hk.1⟩)) hg hat)
             have n1_ := Aside0.mk (hb)
             have n2_ := Aside0.mk (ho)
             clear HO_5
             clear HB
             clear HO_6
             clear HO813
             have HO_5 := n0_
             have HB := n1_
             have HO816 := n2_
             clear n0_ n1_ n2_
             clear ho hb hg hat
             refine hK.out _ _ ⟨((HB.out.cell (World.block_lt_of_cell? w _ hw808_0)).trans hw808_0), ((HB.out.cell (World.block_lt_of_cell? w _ hw809_0)).trans hw809_0)⟩ (fun hHeld => ?_)
             clear hK K
             refine norm_ (a' := ?_) ?_ ?_
             rotate_left
             ·show Act.put _ (some 67) _ = _
              simp only [Act.put, List.setIfInBounds_toArray, List.set_cons_zero, List.set_cons_succ, i64_w, i32_w]
              rfl
             refine pure_ (i := 16) (N := some 6) (v := ?_) (a' := ?_) #[true, true, true, true, true, true, true, true, true, true, true, true, true, true, true, true, true] rfl rfl (any_of HT_.out (by kernel_rfl)) (fun _ _ _ h => h) (Or.inl ⟨by rfl, ?_⟩) ?_ ?_
             rotate_left
             ·intro w'
              go_simp
              with_reducible rfl
             rotate_left
             ·simp only [Act.put, List.setIfInBounds_toArray, List.set_cons_zero, List.set_cons_succ, i64_w, i32_w]
              rfl
             refine done_ (done_of HT_.out (by kernel_rfl)) ?_
             try go_wp2
             go_roundg k2
             case measure => have := HJ2.out; have := HK2.out; omega
             case rel => exact ⟨(y814), (wrap64 (x8_2 + 1)), (by first | rfl | (simp; done) | (simp [*]; done)), H', ⟨by have := HJ2.out; have := HK2.out; omega⟩, ⟨by (with_reducible repeat (first | apply Kd.N_alloc | apply Kd.N_drewN | apply Kd.N_drew)); exact Kd.N_mono HO_5.out (fun _ hk => hk.2)⟩, ⟨by (with_reducible repeat (first | apply Kd.N_alloc | apply Kd.N_drewN | apply Kd.N_drew)); exact HO816.out⟩, ⟨by repeat (first | (with_reducible first | exact HB.out | apply below_alloc | apply pw_below_drewN | apply below_drew1) | exact HB.out)⟩⟩
            ·rw [if_neg c31] at H
             exact absurd H (by simp)
           ·rw [if_neg c30] at H
            exact absurd H (by simp)
          ·rw [if_neg c29] at H
           exact absurd H (by simp)
         ·rw [if_neg c28] at H
          exact absurd H (by simp)
        ·rw [if_neg c26] at H
         exact absurd H (by simp)
       ·rw [if_neg c25] at H
        have c25b0 : decide (x8_2 < 20) = false := decide_eq_false c25
        clear c25
        have H' := Aside0.mk H
        clear H
        go_wp2
        go_meet
        case rel => exact ⟨_, (x6_2), H', ⟨by have := HJ2.out; have := HK2.out; first | omega | exact Nat.le_refl _⟩, ⟨by (with_reducible repeat (first | apply Kd.N_alloc | apply Kd.N_drewN | apply Kd.N_drew)); exact HO_5.out⟩, ⟨by (with_reducible repeat (first | apply Kd.N_alloc | apply Kd.N_drewN | apply Kd.N_drew)); exact HO_6.out⟩, ⟨by repeat (first | (with_reducible first | exact HB.out | apply below_alloc | apply pw_below_drewN | apply below_drew1) | exact HB.out)⟩⟩
      ·rw [if_neg c24] at H
       have c24b0 : decide (x8_2 < (l1.length : Int)) = false := decide_eq_false c24
       clear c24
       (first | rw [c24b0] | (simp only [i64_w, i32_w]; rw [c24b0]) | skip)
       have H' := Aside0.mk H
       clear H
       go_wp2
       go_meet
       case rel => exact ⟨_, (x6_2), H', ⟨by have := HJ2.out; have := HK2.out; first | omega | exact Nat.le_refl _⟩, ⟨by (with_reducible repeat (first | apply Kd.N_alloc | apply Kd.N_drewN | apply Kd.N_drew)); exact HO_5.out⟩, ⟨by (with_reducible repeat (first | apply Kd.N_alloc | apply Kd.N_drewN | apply Kd.N_drew)); exact HO_6.out⟩, ⟨by repeat (first | (with_reducible first | exact HB.out | apply below_alloc | apply pw_below_drewN | apply below_drew1) | exact HB.out)⟩⟩
   case rest =>
    clear HC23
    try clear c1
    try clear c2
    try clear p2
    try clear c3
    try clear p6
    try clear c7
    try clear p7
    try clear q7
    try clear hx7
    try clear c8
    try clear c8b0
    try clear p8
    try clear q8
    try clear hx8
    try clear c9
    try clear c9b0
    try clear c10
    try clear c10b0
    try clear c12
    try clear c12b0
    try clear c12b1
    try clear c13
    try clear c13b0
    try clear c13b1
    try clear c14
    try clear c15
    try clear c24
    try clear c24b0
    try clear c25
    try clear c25b0
    try clear c26
    try clear c26b0
    try clear c28
    try clear c28b0
    try clear c28b1
    try clear c29
    try clear c29b0
    try clear c29b1
    try clear c30
    try clear c31
    try clear hx796_0
    try clear hx797_0
    try clear hx808_0
    try clear hx809_0
    try clear p2
    try clear p6
    try clear p7
    try clear p796
    try clear p797
    try clear p808
    try clear p809
    try clear q7
    try clear q796
    try clear q797
    try clear q808
    try clear q809
    obtain ⟨kq, x6_22, HA, HJ22, HO_5, HO_6, HB⟩ := hcut
    cases kq with
    | zero => exact absurd HA.out (by simp [secateurlaw09_TableStill.j3])
    | succ kj22 =>
     have H := HA.out
     clear HA
     simp only [secateurlaw09_TableStill.j3] at H
     replace H := Option.bind_eq_some_iff.mp H
     obtain ⟨t817, A390, H⟩ := H
     replace H : ((table_Sorted.f x6_22).bind fun t820 => ((some (([] : List (List Int)) : List (List Int))).bind fun y823 => (if y823.length + x5_2.length < 5864062014805 then ((some (y823 ++ x5_2 : List (List Int))).bind fun y826 => (if y826.length + x6_22.length < 5864062014805 then ((some (([] : List (List Int)) : List (List Int))).bind fun y832 => (if y832.length + t820.length < 5864062014805 then ((some (y832 ++ t820 : List (List Int))).bind fun y835 => (if y835.length + t817.length < 5864062014805 then (secateurlaw09_TableStill.l2 kj22 x5_2 t817 (y826 ++ x6_22) (y835 ++ t817) 1) else (none))) else (none))) else (none))) else (none)))) = some r := H
     have A39 := Aside0.mk A390
     clear A390
     replace H := Option.bind_eq_some_iff.mp H
     obtain ⟨t820, A400, H⟩ := H
     replace H : ((some (([] : List (List Int)) : List (List Int))).bind fun y823 => (if y823.length + x5_2.length < 5864062014805 then ((some (y823 ++ x5_2 : List (List Int))).bind fun y826 => (if y826.length + x6_22.length < 5864062014805 then ((some (([] : List (List Int)) : List (List Int))).bind fun y832 => (if y832.length + t820.length < 5864062014805 then ((some (y832 ++ t820 : List (List Int))).bind fun y835 => (if y835.length + t817.length < 5864062014805 then (secateurlaw09_TableStill.l2 kj22 x5_2 t817 (y826 ++ x6_22) (y835 ++ t817) 1) else (none))) else (none))) else (none))) else (none))) = some r := H
     have A40 := Aside0.mk A400
     clear A400
     obtain ⟨y823, hy823⟩ : ∃ y_ : List (List Int), y_ = (([] : List (List Int))) := ⟨_, rfl⟩
     replace H : (if y823.length + x5_2.length < 5864062014805 then ((some (y823 ++ x5_2 : List (List Int))).bind fun y826 => (if y826.length + x6_22.length < 5864062014805 then ((some (([] : List (List Int)) : List (List Int))).bind fun y832 => (if y832.length + t820.length < 5864062014805 then ((some (y832 ++ t820 : List (List Int))).bind fun y835 => (if y835.length + t817.length < 5864062014805 then (secateurlaw09_TableStill.l2 kj22 x5_2 t817 (y826 ++ x6_22) (y835 ++ t817) 1) else (none))) else (none))) else (none))) else (none)) = some r := by first | (rw [hy823]; with_reducible exact H) | (have H2_ := (Option.bind_some _ _).symm.trans H; rw [hy823]; with_reducible exact H2_) | (have H2_ := (Option.bind_some _ _).symm.trans H; with_reducible exact H2_) | with_reducible exact H | (rw [hy823]; exact H) | exact H
     have Ny823 := Aside0.mk hy823
     clear hy823
     by_cases c41 : y823.length + x5_2.length < 5864062014805
     ·rw [if_pos c41] at H
      have LMc41 := Aside0.mk c41
      clear c41
      obtain ⟨y826, hy826⟩ : ∃ y_ : List (List Int), y_ = (y823 ++ x5_2) := ⟨_, rfl⟩
      replace H : (if y826.length + x6_22.length < 5864062014805 then ((some (([] : List (List Int)) : List (List Int))).bind fun y832 => (if y832.length + t820.length < 5864062014805 then ((some (y832 ++ t820 : List (List Int))).bind fun y835 => (if y835.length + t817.length < 5864062014805 then (secateurlaw09_TableStill.l2 kj22 x5_2 t817 (y826 ++ x6_22) (y835 ++ t817) 1) else (none))) else (none))) else (none)) = some r := by first | (rw [hy826]; with_reducible exact H) | (have H2_ := (Option.bind_some _ _).symm.trans H; rw [hy826]; with_reducible exact H2_) | (have H2_ := (Option.bind_some _ _).symm.trans H; with_reducible exact H2_) | with_reducible exact H | (rw [hy826]; exact H) | exact H
      have Ny826 := Aside0.mk hy826
      clear hy826
      by_cases c42 : y826.length + x6_22.length < 5864062014805
      ·rw [if_pos c42] at H
       have LMc42 := Aside0.mk c42
       clear c42
       obtain ⟨y829, hy829⟩ : ∃ y_ : List (List Int), y_ = (y826 ++ x6_22) := ⟨_, rfl⟩
       replace H : ((some (([] : List (List Int)) : List (List Int))).bind fun y832 => (if y832.length + t820.length < 5864062014805 then ((some (y832 ++ t820 : List (List Int))).bind fun y835 => (if y835.length + t817.length < 5864062014805 then (secateurlaw09_TableStill.l2 kj22 x5_2 t817 y829 (y835 ++ t817) 1) else (none))) else (none))) = some r := by first | (rw [hy829]; with_reducible exact H) | (have H2_ := (Option.bind_some _ _).symm.trans H; rw [hy829]; with_reducible exact H2_) | (have H2_ := (Option.bind_some _ _).symm.trans H; with_reducible exact H2_) | with_reducible exact H | (rw [hy829]; exact H) | exact H
       have Ny829 := Aside0.mk hy829
       clear hy829
       obtain ⟨y832, hy832⟩ : ∃ y_ : List (List Int), y_ = (([] : List (List Int))) := ⟨_, rfl⟩
       replace H : (if y832.length + t820.length < 5864062014805 then ((some (y832 ++ t820 : List (List Int))).bind fun y835 => (if y835.length + t817.length < 5864062014805 then (secateurlaw09_TableStill.l2 kj22 x5_2 t817 y829 (y835 ++ t817) 1) else (none))) else (none)) = some r := by first | (rw [hy832]; with_reducible exact H) | (have H2_ := (Option.bind_some _ _).symm.trans H; rw [hy832]; with_reducible exact H2_) | (have H2_ := (Option.bind_some _ _).symm.trans H; with_reducible exact H2_) | with_reducible exact H | (rw [hy832]; exact H) | exact H
       have Ny832 := Aside0.mk hy832
       clear hy832
       by_cases c43 : y832.length + t820.length < 5864062014805
       ·rw [if_pos c43] at H
        have LMc43 := Aside0.mk c43
        clear c43
        obtain ⟨y835, hy835⟩ : ∃ y_ : List (List Int), y_ = (y832 ++ t820) := ⟨_, rfl⟩
        replace H : (if y835.length + t817.length < 5864062014805 then (secateurlaw09_TableStill.l2 kj22 x5_2 t817 y829 (y835 ++ t817) 1) else (none)) = some r := by first | (rw [hy835]; with_reducible exact H) | (have H2_ := (Option.bind_some _ _).symm.trans H; rw [hy835]; with_reducible exact H2_) | (have H2_ := (Option.bind_some _ _).symm.trans H; with_reducible exact H2_) | with_reducible exact H | (rw [hy835]; exact H) | exact H
        have Ny835 := Aside0.mk hy835
        clear hy835
        by_cases c44 : y835.length + t817.length < 5864062014805
        ·rw [if_pos c44] at H
         have LMc44 := Aside0.mk c44
         clear c44
         obtain ⟨y838, hy838⟩ : ∃ y_ : List (List Int), y_ = (y835 ++ t817) := ⟨_, rfl⟩
         replace H : (secateurlaw09_TableStill.l2 kj22 x5_2 t817 y829 y838 1) = some r := by first | (rw [hy838]; with_reducible exact H) | (have H2_ := (Option.bind_some _ _).symm.trans H; rw [hy838]; with_reducible exact H2_) | (have H2_ := (Option.bind_some _ _).symm.trans H; with_reducible exact H2_) | with_reducible exact H | (rw [hy838]; exact H) | exact H
         have Ny838 := Aside0.mk hy838
         clear hy838
         have H' := Aside0.mk H
         clear H
         obtain ⟨Ao45, co45, eo45⟩ := Kd.N_slice HO_5.out
         subst eo45
         go_wp2_with (first | ((with_reducible refine gate_callee (f := 24) rfl ?_); refine goesL_ (some 69) rfl rfl Try.func24 (by kernel_rfl) rfl #[.slice Ao45 x5_2.length co45] rfl (by (try simp only [List.map_toArray, List.map_cons, List.map_nil]); first | done | rfl | (simp only [List.length_drop, List.length_take]; rfl)) ?_; (with_reducible refine (table_Sorted.calls _ _ x5_2 t817 _ ?side1 ?side2 A39.out).mono ?_); (case side1 => repeat (first | exact (Kd.N_reads' HO_5.out).2.2 | (with_reducible refine Kd.C_alloc ?_ _) | (with_reducible refine Kd.C_drewN ?_ _) | (with_reducible refine Kd.C_drew ?_))); (case side2 => exact (Kd.N_reads' HO_5.out).2.1); rintro e w46 ⟨v818, rfl, ho0, hb⟩; refine ⟨_, rfl, ?_⟩; have n0_ := Aside0.mk (Kd.N_elder' (by (with_reducible repeat (first | apply Kd.N_alloc | apply Kd.N_drewN | apply Kd.N_drew)); exact HO_5.out) (by first | exact Kd.N_base ho0 | exact Kd.S_base ho0 | exact Kd.R_base ho0) hb); have n1_ := Aside0.mk (Kd.N_elder' (by (with_reducible repeat (first | apply Kd.N_alloc | apply Kd.N_drewN | apply Kd.N_drew)); exact HO_6.out) (by first | exact Kd.N_base ho0 | exact Kd.S_base ho0 | exact Kd.R_base ho0) hb); have n2_ := Aside0.mk (Kd.N_lower (Kd.N_mono (ok' := fun k_ => some k_ ≠ (.slice Ao45 x5_2.length co45 : Value).ownBlock ∧ some k_ ≠ (u6 : Value).ownBlock) (Kd.S_N (Kd.S_bound ho0)) (fun k_ hk_ => ⟨(Kd.fresh' (Kd.N_lt (by (with_reducible repeat (first | apply Kd.N_alloc | apply Kd.N_drewN | apply Kd.N_drew)); exact HO_5.out)) k_ hk_.2.1), (Kd.fresh' (Kd.N_lt (by (with_reducible repeat (first | apply Kd.N_alloc | apply Kd.N_drewN | apply Kd.N_drew)); exact HO_6.out)) k_ hk_.2.1)⟩)) (below_size (by repeat (first | (with_reducible first | exact HB.out | apply below_alloc | apply pw_below_drewN | apply below_drew1) | exact HB.out)))); have n3_ := Aside0.mk (below_step (by repeat (first | (with_reducible first | exact HB.out | apply below_alloc | apply pw_below_drewN | apply below_drew1) | exact HB.out)) hb); clear HO_5; clear HO_6; clear HB; have HO_5 := n0_; have HO_6 := n1_; have HO819 := n2_; have HB := n3_; clear n0_ n1_ n2_ n3_; (try clear hb); (try clear hb2); (try clear hk); (try clear hi); (try clear ho0); obtain ⟨Ao47, co47, eo47⟩ := Kd.N_slice HO_6.out; subst eo47) | ((with_reducible refine gate_callee (f := 24) rfl ?_); refine goesL_ (some 71) rfl rfl Try.func24 (by kernel_rfl) rfl #[.slice Ao47 x6_22.length co47] rfl (by (try simp only [List.map_toArray, List.map_cons, List.map_nil]); first | done | rfl | (simp only [List.length_drop, List.length_take]; rfl)) ?_; (with_reducible refine (table_Sorted.calls _ _ x6_22 t820 _ ?side1 ?side2 A40.out).mono ?_); (case side1 => repeat (first | exact (Kd.N_reads' HO_6.out).2.2 | (with_reducible refine Kd.C_alloc ?_ _) | (with_reducible refine Kd.C_drewN ?_ _) | (with_reducible refine Kd.C_drew ?_))); (case side2 => exact (Kd.N_reads' HO_6.out).2.1); rintro e w48 ⟨v821, rfl, ho0, hb⟩; refine ⟨_, rfl, ?_⟩; have n0_ := Aside0.mk (Kd.N_elder' (by (with_reducible repeat (first | apply Kd.N_alloc | apply Kd.N_drewN | apply Kd.N_drew)); exact HO_5.out) (by first | exact Kd.N_base ho0 | exact Kd.S_base ho0 | exact Kd.R_base ho0) hb); have n1_ := Aside0.mk (Kd.N_elder' (by (with_reducible repeat (first | apply Kd.N_alloc | apply Kd.N_drewN | apply Kd.N_drew)); exact HO_6.out) (by first | exact Kd.N_base ho0 | exact Kd.S_base ho0 | exact Kd.R_base ho0) hb); have n2_ := Aside0.mk (Kd.N_elder' (by (with_reducible repeat (first | apply Kd.N_alloc | apply Kd.N_drewN | apply Kd.N_drew)); exact HO819.out) (by first | exact Kd.N_base ho0 | exact Kd.S_base ho0 | exact Kd.R_base ho0) hb); have n3_ := Aside0.mk (Kd.N_lower (Kd.N_mono (ok' := fun k_ => some k_ ≠ (.slice Ao45 x5_2.length co45 : Value).ownBlock ∧ some k_ ≠ (.slice Ao47 x6_22.length co47 : Value).ownBlock ∧ some k_ ≠ (v818 : Value).ownBlock) (Kd.S_N (Kd.S_bound ho0)) (fun k_ hk_ => ⟨(Kd.fresh' (Kd.N_lt (by (with_reducible repeat (first | apply Kd.N_alloc | apply Kd.N_drewN | apply Kd.N_drew)); exact HO_5.out)) k_ hk_.2.1), (Kd.fresh' (Kd.N_lt (by (with_reducible repeat (first | apply Kd.N_alloc | apply Kd.N_drewN | apply Kd.N_drew)); exact HO_6.out)) k_ hk_.2.1), (Kd.fresh' (Kd.N_lt (by (with_reducible repeat (first | apply Kd.N_alloc | apply Kd.N_drewN | apply Kd.N_drew)); exact HO819.out)) k_ hk_.2.1)⟩)) (below_size (by repeat (first | (with_reducible first | exact HB.out | apply below_alloc | apply pw_below_drewN | apply below_drew1) | exact HB.out)))); have n4_ := Aside0.mk (below_step (by repeat (first | (with_reducible first | exact HB.out | apply below_alloc | apply pw_below_drewN | apply below_drew1) | exact HB.out)) hb); clear HO_5; clear HO_6; clear HO819; clear HB; have HO_5 := n0_; have HO_6 := n1_; have HO819 := n2_; have HO822 := n3_; have HB := n4_; clear n0_ n1_ n2_ n3_ n4_; (try clear hb); (try clear hb2); (try clear hk); (try clear hi); (try clear ho0)) | ((with_reducible refine gate_dst (N := 72) rfl ?_); (try (refine gate_guard (by rfl) ?_; dsimp only)); refine Kd.N_lit (Kd.slice 3 (Kd.int .i64)) _ 23 ?hg (N' := 72) ?hd (xs := ([] : List (List Int))) (inner := []) (ok := (fun k_ => some k_ ≠ (.slice Ao45 x5_2.length co45 : Value).ownBlock ∧ some k_ ≠ (.slice Ao47 x6_22.length co47 : Value).ownBlock ∧ some k_ ≠ (v818 : Value).ownBlock ∧ some k_ ≠ (v821 : Value).ownBlock)) (okp := (fun k_ => some k_ ≠ (.slice Ao45 x5_2.length co45 : Value).ownBlock ∧ some k_ ≠ (.slice Ao47 x6_22.length co47 : Value).ownBlock ∧ some k_ ≠ (v818 : Value).ownBlock ∧ some k_ ≠ (v821 : Value).ownBlock)) ?hr ?hp (fun _ hk => hk) ((show ∀ k_, w48.heap.size ≤ k_ → (fun k_ => some k_ ≠ (.slice Ao45 x5_2.length co45 : Value).ownBlock ∧ some k_ ≠ (.slice Ao47 x6_22.length co47 : Value).ownBlock ∧ some k_ ≠ (v818 : Value).ownBlock ∧ some k_ ≠ (v821 : Value).ownBlock) k_ from fun k_ hk => ⟨Kd.fresh' (Kd.N_lt (by (with_reducible repeat (first | apply Kd.N_alloc | apply Kd.N_drewN | apply Kd.N_drew)); exact HO_5.out)) k_ hk, Kd.fresh' (Kd.N_lt (by (with_reducible repeat (first | apply Kd.N_alloc | apply Kd.N_drewN | apply Kd.N_drew)); exact HO_6.out)) k_ hk, Kd.fresh' (Kd.N_lt (by (with_reducible repeat (first | apply Kd.N_alloc | apply Kd.N_drewN | apply Kd.N_drew)); exact HO819.out)) k_ hk, Kd.fresh' (Kd.N_lt (by (with_reducible repeat (first | apply Kd.N_alloc | apply Kd.N_drewN | apply Kd.N_drew)); exact HO822.out)) k_ hk⟩) _ (Nat.le_refl _)) (Below.refl _ _) (Nat.le_refl _) (by simp) ?_; (case hd => rfl); (case hg => rfl); (case hr => first | (go_simp; done) | (go_simp; rfl)); (case hp => exact (Reps.none _ _)); intro v824 w49 ho50 hb hg_ hnew_; clear hg_ hnew_; (first | rw [← Ny823.out] at ho50 | (simp only [Int.reduceToNat] at ho50; rw [← Ny823.out] at ho50)); have n0_ := Aside0.mk (Kd.N_elder' (by (with_reducible repeat (first | apply Kd.N_alloc | apply Kd.N_drewN | apply Kd.N_drew)); exact HO_5.out) (Kd.N_base ho50) hb); have n1_ := Aside0.mk (Kd.N_elder' (by (with_reducible repeat (first | apply Kd.N_alloc | apply Kd.N_drewN | apply Kd.N_drew)); exact HO_6.out) (Kd.N_base ho50) hb); have n2_ := Aside0.mk (Kd.N_elder' (by (with_reducible repeat (first | apply Kd.N_alloc | apply Kd.N_drewN | apply Kd.N_drew)); exact HO819.out) (Kd.N_base ho50) hb); have n3_ := Aside0.mk (Kd.N_elder' (by (with_reducible repeat (first | apply Kd.N_alloc | apply Kd.N_drewN | apply Kd.N_drew)); exact HO822.out) (Kd.N_base ho50) hb); have n4_ := Aside0.mk (Kd.N_lower ho50 (below_size (by repeat (first | (with_reducible first | exact HB.out | apply below_alloc | apply pw_below_drewN | apply below_drew1) | exact HB.out)))); have n5_ := Aside0.mk (below_step (by repeat (first | (with_reducible first | exact HB.out | apply below_alloc | apply pw_below_drewN | apply below_drew1) | exact HB.out)) hb); clear HO_5; clear HO_6; clear HO819; clear HO822; clear HB; have HO_5 := n0_; have HO_6 := n1_; have HO819 := n2_; have HO822 := n3_; have HO825 := n4_; have HB := n5_; clear n0_ n1_ n2_ n3_ n4_ n5_; clear hb ho50) | ((with_reducible refine gate_builtin (b := .append) (xs := #[.tmp 72, .tmp 73]) rfl ?_); (try (refine gate_guard (by rfl) ?_; dsimp only)); at_builtin; refine Kd.N_append_rows (Kd.slice 3 (Kd.int .i64)) (w0 := w) w.heap.size rfl (.tmp 72) (.tmp 73) 22 23 (.slice none 0 0) 24 rfl Try.underlying22 info23 rfl (by decide) (by omega) v824 y823 x5_2 _ _ _ (fun k_ => some k_ ≠ (.slice Ao47 x6_22.length co47 : Value).ownBlock ∧ some k_ ≠ (v818 : Value).ownBlock ∧ some k_ ≠ (v821 : Value).ownBlock) (fun k_ => ((fun k_ => some k_ ≠ (.slice Ao47 x6_22.length co47 : Value).ownBlock ∧ some k_ ≠ (v818 : Value).ownBlock ∧ some k_ ≠ (v821 : Value).ownBlock)) k_ ∧ some k_ ≠ (v824 : Value).ownBlock) rfl rfl ?aO ?aR (fun _ hk => hk) ?aF ?aB ?aS ?aL ?_; (case aR => exact (by skip; exact Kd.N_F (Kd.N_mono (ok' := (fun k_ => ((fun k_ => some k_ ≠ (.slice Ao47 x6_22.length co47 : Value).ownBlock ∧ some k_ ≠ (v818 : Value).ownBlock ∧ some k_ ≠ (v821 : Value).ownBlock)) k_ ∧ some k_ ≠ (v824 : Value).ownBlock)) (HO_5.out) (fun k_ hk => ⟨⟨hk.1.1.1, ⟨hk.1.1.2, hk.1.2⟩⟩, hk.2⟩)))); (case aB => exact (by repeat (first | (with_reducible first | exact HB.out | apply below_alloc | apply pw_below_drewN | apply below_drew1) | exact HB.out))); (case aF => exact (fun k_ hk => ⟨Kd.fresh' (Kd.N_lt (by (with_reducible repeat (first | apply Kd.N_alloc | apply Kd.N_drewN | apply Kd.N_drew)); exact HO_6.out)) k_ hk, Kd.fresh' (Kd.N_lt (by (with_reducible repeat (first | apply Kd.N_alloc | apply Kd.N_drewN | apply Kd.N_drew)); exact HO819.out)) k_ hk, Kd.fresh' (Kd.N_lt (by (with_reducible repeat (first | apply Kd.N_alloc | apply Kd.N_drewN | apply Kd.N_drew)); exact HO822.out)) k_ hk⟩)); (case aO => exact (by (with_reducible repeat (first | apply Kd.N_alloc | apply Kd.N_drewN | apply Kd.N_drew)); exact Kd.N_mono HO825.out (fun _ hk => ⟨hk.2.1, ⟨hk.2.2.1, hk.2.2.2⟩⟩))); (case aS => exact (below_size (by repeat (first | (with_reducible first | exact HB.out | apply below_alloc | apply pw_below_drewN | apply below_drew1) | exact HB.out)))); (case aL => have := LMc41.out; omega); intro v827 w51 ho hb hg hat; rw [← Ny826.out] at ho; have n0_ := Aside0.mk (Kd.N_afterv (ok := (fun k_ => some k_ ≠ (.slice Ao47 x6_22.length co47 : Value).ownBlock ∧ some k_ ≠ (v818 : Value).ownBlock ∧ some k_ ≠ (v821 : Value).ownBlock)) (by (with_reducible repeat (first | apply Kd.N_alloc | apply Kd.N_drewN | apply Kd.N_drew)); exact Kd.N_mono HO_5.out (fun _ hk => ⟨⟨hk.1.1.1, ⟨hk.1.1.2, hk.1.2⟩⟩, hk.2⟩)) hg hat); have n1_ := Aside0.mk (Kd.N_afterv (ok := (fun k_ => some k_ ≠ (.slice Ao45 x5_2.length co45 : Value).ownBlock ∧ some k_ ≠ (v818 : Value).ownBlock ∧ some k_ ≠ (v821 : Value).ownBlock)) (by (with_reducible repeat (first | apply Kd.N_alloc | apply Kd.N_drewN | apply Kd.N_drew)); exact Kd.N_mono HO_6.out (fun _ hk => ⟨⟨hk.1.1.1, ⟨hk.1.1.2, hk.1.2⟩⟩, hk.2⟩)) hg hat); have n2_ := Aside0.mk (Kd.N_afterv (ok := (fun k_ => some k_ ≠ (.slice Ao45 x5_2.length co45 : Value).ownBlock ∧ some k_ ≠ (.slice Ao47 x6_22.length co47 : Value).ownBlock ∧ some k_ ≠ (v821 : Value).ownBlock)) (by (with_reducible repeat (first | apply Kd.N_alloc | apply Kd.N_drewN | apply Kd.N_drew)); exact Kd.N_mono HO819.out (fun _ hk => ⟨⟨hk.1.1.1, ⟨hk.1.1.2, hk.1.2⟩⟩, hk.2⟩)) hg hat); have n3_ := Aside0.mk (Kd.N_afterv (ok := (fun k_ => some k_ ≠ (.slice Ao45 x5_2.length co45 : Value).ownBlock ∧ some k_ ≠ (.slice Ao47 x6_22.length co47 : Value).ownBlock ∧ some k_ ≠ (v818 : Value).ownBlock)) (by (with_reducible repeat (first | apply Kd.N_alloc | apply Kd.N_drewN | apply Kd.N_drew)); exact HO822.out) hg hat); have n4_ := Aside0.mk (hb); have n5_ := Aside0.mk (ho); clear HO_5; clear HO_6; clear HO819; clear HO822; clear HB; clear HO825; have HO_5 := n0_; have HO_6 := n1_; have HO819 := n2_; have HO822 := n3_; have HB := n4_; have HO828 := n5_; clear n0_ n1_ n2_ n3_ n4_ n5_; clear ho hb hg hat) | ((with_reducible refine gate_builtin (b := .append) (xs := #[.tmp 75, .tmp 76]) rfl ?_); (try (refine gate_guard (by rfl) ?_; dsimp only)); at_builtin; refine Kd.N_append_rows (Kd.slice 3 (Kd.int .i64)) (w0 := w) w.heap.size rfl (.tmp 75) (.tmp 76) 22 23 (.slice none 0 0) 24 rfl Try.underlying22 info23 rfl (by decide) (by omega) v827 y826 x6_22 _ _ _ (fun k_ => some k_ ≠ (v818 : Value).ownBlock ∧ some k_ ≠ (v821 : Value).ownBlock) (fun k_ => ((fun k_ => some k_ ≠ (v818 : Value).ownBlock ∧ some k_ ≠ (v821 : Value).ownBlock)) k_ ∧ some k_ ≠ (v827 : Value).ownBlock) rfl rfl ?aO ?aR (fun _ hk => hk) ?aF ?aB ?aS ?aL ?_; (case aR => exact (by skip; exact Kd.N_F (Kd.N_mono (ok' := (fun k_ => ((fun k_ => some k_ ≠ (v818 : Value).ownBlock ∧ some k_ ≠ (v821 : Value).ownBlock)) k_ ∧ some k_ ≠ (v827 : Value).ownBlock)) (HO_6.out) (fun k_ hk => ⟨⟨hk.1.2.1, hk.1.2.2⟩, hk.2⟩)))); (case aB => exact (by repeat (first | (with_reducible first | exact HB.out | apply below_alloc | apply pw_below_drewN | apply below_drew1) | exact HB.out))); (case aF => exact (fun k_ hk => ⟨Kd.fresh' (Kd.N_lt (by (with_reducible repeat (first | apply Kd.N_alloc | apply Kd.N_drewN | apply Kd.N_drew)); exact HO819.out)) k_ hk, Kd.fresh' (Kd.N_lt (by (with_reducible repeat (first | apply Kd.N_alloc | apply Kd.N_drewN | apply Kd.N_drew)); exact HO822.out)) k_ hk⟩)); (case aO => exact (by (with_reducible repeat (first | apply Kd.N_alloc | apply Kd.N_drewN | apply Kd.N_drew)); exact Kd.N_mono HO828.out (fun _ hk => ⟨hk.2.1, hk.2.2⟩))); (case aS => exact (below_size (by repeat (first | (with_reducible first | exact HB.out | apply below_alloc | apply pw_below_drewN | apply below_drew1) | exact HB.out)))); (case aL => have := LMc42.out; omega); intro v830 w52 ho hb hg hat; rw [← Ny829.out] at ho; have n0_ := Aside0.mk (Kd.N_afterv (ok := (fun k_ => some k_ ≠ (.slice Ao47 x6_22.length co47 : Value).ownBlock ∧ some k_ ≠ (v818 : Value).ownBlock ∧ some k_ ≠ (v821 : Value).ownBlock)) (by (with_reducible repeat (first | apply Kd.N_alloc | apply Kd.N_drewN | apply Kd.N_drew)); exact HO_5.out) hg hat); have n1_ := Aside0.mk (Kd.N_afterv (ok := (fun k_ => some k_ ≠ (.slice Ao45 x5_2.length co45 : Value).ownBlock ∧ some k_ ≠ (v818 : Value).ownBlock ∧ some k_ ≠ (v821 : Value).ownBlock)) (by (with_reducible repeat (first | apply Kd.N_alloc | apply Kd.N_drewN | apply Kd.N_drew)); exact HO_6.out) hg hat); have n2_ := Aside0.mk (Kd.N_afterv (ok := (fun k_ => some k_ ≠ (.slice Ao45 x5_2.length co45 : Value).ownBlock ∧ some k_ ≠ (.slice Ao47 x6_22.length co47 : Value).ownBlock ∧ some k_ ≠ (v821 : Value).ownBlock)) (by (with_reducible repeat (first | apply Kd.N_alloc | apply Kd.N_drewN | apply Kd.N_drew)); exact HO819.out) hg hat); have n3_ := Aside0.mk (Kd.N_afterv (ok := (fun k_ => some k_ ≠ (.slice Ao45 x5_2.length co45 : Value).ownBlock ∧ some k_ ≠ (.slice Ao47 x6_22.length co47 : Value).ownBlock ∧ some k_ ≠ (v818 : Value).ownBlock)) (by (with_reducible repeat (first | apply Kd.N_alloc | apply Kd.N_drewN | apply Kd.N_drew)); exact HO822.out) hg hat); have n4_ := Aside0.mk (hb); have n5_ := Aside0.mk (ho); clear HO_5; clear HO_6; clear HO819; clear HO822; clear HB; clear HO828; have HO_5 := n0_; have HO_6 := n1_; have HO819 := n2_; have HO822 := n3_; have HB := n4_; have HO831 := n5_; clear n0_ n1_ n2_ n3_ n4_ n5_; clear ho hb hg hat) | ((with_reducible refine gate_dst (N := 78) rfl ?_); (try (refine gate_guard (by rfl) ?_; dsimp only)); refine Kd.N_lit (Kd.slice 3 (Kd.int .i64)) _ 23 ?hg (N' := 78) ?hd (xs := ([] : List (List Int))) (inner := []) (ok := (fun k_ => some k_ ≠ (.slice Ao45 x5_2.length co45 : Value).ownBlock ∧ some k_ ≠ (.slice Ao47 x6_22.length co47 : Value).ownBlock ∧ some k_ ≠ (v818 : Value).ownBlock ∧ some k_ ≠ (v821 : Value).ownBlock ∧ some k_ ≠ (v830 : Value).ownBlock)) (okp := (fun k_ => some k_ ≠ (.slice Ao45 x5_2.length co45 : Value).ownBlock ∧ some k_ ≠ (.slice Ao47 x6_22.length co47 : Value).ownBlock ∧ some k_ ≠ (v818 : Value).ownBlock ∧ some k_ ≠ (v821 : Value).ownBlock ∧ some k_ ≠ (v830 : Value).ownBlock)) ?hr ?hp (fun _ hk => hk) ((show ∀ k_, w52.heap.size ≤ k_ → (fun k_ => some k_ ≠ (.slice Ao45 x5_2.length co45 : Value).ownBlock ∧ some k_ ≠ (.slice Ao47 x6_22.length co47 : Value).ownBlock ∧ some k_ ≠ (v818 : Value).ownBlock ∧ some k_ ≠ (v821 : Value).ownBlock ∧ some k_ ≠ (v830 : Value).ownBlock) k_ from fun k_ hk => ⟨Kd.fresh' (Kd.N_lt (by (with_reducible repeat (first | apply Kd.N_alloc | apply Kd.N_drewN | apply Kd.N_drew)); exact HO_5.out)) k_ hk, Kd.fresh' (Kd.N_lt (by (with_reducible repeat (first | apply Kd.N_alloc | apply Kd.N_drewN | apply Kd.N_drew)); exact HO_6.out)) k_ hk, Kd.fresh' (Kd.N_lt (by (with_reducible repeat (first | apply Kd.N_alloc | apply Kd.N_drewN | apply Kd.N_drew)); exact HO819.out)) k_ hk, Kd.fresh' (Kd.N_lt (by (with_reducible repeat (first | apply Kd.N_alloc | apply Kd.N_drewN | apply Kd.N_drew)); exact HO822.out)) k_ hk, Kd.fresh' (Kd.N_lt (by (with_reducible repeat (first | apply Kd.N_alloc | apply Kd.N_drewN | apply Kd.N_drew)); exact HO831.out)) k_ hk⟩) _ (Nat.le_refl _)) (Below.refl _ _) (Nat.le_refl _) (by simp) ?_; (case hd => rfl); (case hg => rfl); (case hr => first | (go_simp; done) | (go_simp; rfl)); (case hp => exact (Reps.none _ _)); intro v833 w53 ho54 hb hg_ hnew_; clear hg_ hnew_; (first | rw [← Ny832.out] at ho54 | (simp only [Int.reduceToNat] at ho54; rw [← Ny832.out] at ho54)); have n0_ := Aside0.mk (Kd.N_elder' (by (with_reducible repeat (first | apply Kd.N_alloc | apply Kd.N_drewN | apply Kd.N_drew)); exact HO_5.out) (Kd.N_base ho54) hb); have n1_ := Aside0.mk (Kd.N_elder' (by (with_reducible repeat (first | apply Kd.N_alloc | apply Kd.N_drewN | apply Kd.N_drew)); exact HO_6.out) (Kd.N_base ho54) hb); have n2_ := Aside0.mk (Kd.N_elder' (by (with_reducible repeat (first | apply Kd.N_alloc | apply Kd.N_drewN | apply Kd.N_drew)); exact HO819.out) (Kd.N_base ho54) hb); have n3_ := Aside0.mk (Kd.N_elder' (by (with_reducible repeat (first | apply Kd.N_alloc | apply Kd.N_drewN | apply Kd.N_drew)); exact HO822.out) (Kd.N_base ho54) hb); have n4_ := Aside0.mk (Kd.N_elder' (by (with_reducible repeat (first | apply Kd.N_alloc | apply Kd.N_drewN | apply Kd.N_drew)); exact HO831.out) (Kd.N_base ho54) hb); have n5_ := Aside0.mk (Kd.N_lower ho54 (below_size (by repeat (first | (with_reducible first | exact HB.out | apply below_alloc | apply pw_below_drewN | apply below_drew1) | exact HB.out)))); have n6_ := Aside0.mk (below_step (by repeat (first | (with_reducible first | exact HB.out | apply below_alloc | apply pw_below_drewN | apply below_drew1) | exact HB.out)) hb); clear HO_5; clear HO_6; clear HO819; clear HO822; clear HO831; clear HB; have HO_5 := n0_; have HO_6 := n1_; have HO819 := n2_; have HO822 := n3_; have HO831 := n4_; have HO834 := n5_; have HB := n6_; clear n0_ n1_ n2_ n3_ n4_ n5_ n6_; clear hb ho54; obtain ⟨Ao56, co56, eo56⟩ := Kd.N_slice HO822.out; subst eo56) | ((with_reducible refine gate_builtin (b := .append) (xs := #[.tmp 78, .tmp 79]) rfl ?_); (try (refine gate_guard (by rfl) ?_; dsimp only)); at_builtin; refine Kd.N_append_rows (Kd.slice 3 (Kd.int .i64)) (w0 := w) w.heap.size rfl (.tmp 78) (.tmp 79) 22 23 (.slice none 0 0) 24 rfl Try.underlying22 info23 rfl (by decide) (by omega) v833 y832 t820 _ _ _ (fun k_ => some k_ ≠ (.slice Ao45 x5_2.length co45 : Value).ownBlock ∧ some k_ ≠ (.slice Ao47 x6_22.length co47 : Value).ownBlock ∧ some k_ ≠ (v818 : Value).ownBlock ∧ some k_ ≠ (v830 : Value).ownBlock) (fun k_ => ((fun k_ => some k_ ≠ (.slice Ao45 x5_2.length co45 : Value).ownBlock ∧ some k_ ≠ (.slice Ao47 x6_22.length co47 : Value).ownBlock ∧ some k_ ≠ (v818 : Value).ownBlock ∧ some k_ ≠ (v830 : Value).ownBlock)) k_ ∧ some k_ ≠ (v833 : Value).ownBlock) rfl rfl ?aO ?aR (fun _ hk => hk) ?aF ?aB ?aS ?aL ?_; (case aR => exact (by skip; exact Kd.N_F (Kd.N_mono (ok' := (fun k_ => ((fun k_ => some k_ ≠ (.slice Ao45 x5_2.length co45 : Value).ownBlock ∧ some k_ ≠ (.slice Ao47 x6_22.length co47 : Value).ownBlock ∧ some k_ ≠ (v818 : Value).ownBlock ∧ some k_ ≠ (v830 : Value).ownBlock)) k_ ∧ some k_ ≠ (v833 : Value).ownBlock)) (HO822.out) (fun k_ hk => ⟨⟨hk.1.1.1, ⟨hk.1.1.2.1, ⟨hk.1.1.2.2, hk.1.2⟩⟩⟩, hk.2⟩)))); (case aB => exact (by repeat (first | (with_reducible first | exact HB.out | apply below_alloc | apply pw_below_drewN | apply below_drew1) | exact HB.out))); (case aF => exact (fun k_ hk => ⟨Kd.fresh' (Kd.N_lt (by (with_reducible repeat (first | apply Kd.N_alloc | apply Kd.N_drewN | apply Kd.N_drew)); exact HO_5.out)) k_ hk, Kd.fresh' (Kd.N_lt (by (with_reducible repeat (first | apply Kd.N_alloc | apply Kd.N_drewN | apply Kd.N_drew)); exact HO_6.out)) k_ hk, Kd.fresh' (Kd.N_lt (by (with_reducible repeat (first | apply Kd.N_alloc | apply Kd.N_drewN | apply Kd.N_drew)); exact HO819.out)) k_ hk, Kd.fresh' (Kd.N_lt (by (with_reducible repeat (first | apply Kd.N_alloc | apply Kd.N_drewN | apply Kd.N_drew)); exact HO831.out)) k_ hk⟩)); (case aO => exact (by (with_reducible repeat (first | apply Kd.N_alloc | apply Kd.N_drewN | apply Kd.N_drew)); exact Kd.N_mono HO834.out (fun _ hk => ⟨hk.1, ⟨hk.2.1, ⟨hk.2.2.1, hk.2.2.2.2⟩⟩⟩))); (case aS => exact (below_size (by repeat (first | (with_reducible first | exact HB.out | apply below_alloc | apply pw_below_drewN | apply below_drew1) | exact HB.out)))); (case aL => have := LMc43.out; omega); intro v836 w55 ho hb hg hat; rw [← Ny835.out] at ho; have n0_ := Aside0.mk (Kd.N_afterv (ok := (fun k_ => some k_ ≠ (.slice Ao47 x6_22.length co47 : Value).ownBlock ∧ some k_ ≠ (v818 : Value).ownBlock ∧ some k_ ≠ (.slice Ao56 t820.length co56 : Value).ownBlock ∧ some k_ ≠ (v830 : Value).ownBlock)) (by (with_reducible repeat (first | apply Kd.N_alloc | apply Kd.N_drewN | apply Kd.N_drew)); exact Kd.N_mono HO_5.out (fun _ hk => ⟨⟨hk.1.1.1, ⟨hk.1.1.2.1, ⟨hk.1.1.2.2, hk.1.2⟩⟩⟩, hk.2⟩)) hg hat); have n1_ := Aside0.mk (Kd.N_afterv (ok := (fun k_ => some k_ ≠ (.slice Ao45 x5_2.length co45 : Value).ownBlock ∧ some k_ ≠ (v818 : Value).ownBlock ∧ some k_ ≠ (.slice Ao56 t820.length co56 : Value).ownBlock ∧ some k_ ≠ (v830 : Value).ownBlock)) (by (with_reducible repeat (first | apply Kd.N_alloc | apply Kd.N_drewN | apply Kd.N_drew)); exact Kd.N_mono HO_6.out (fun _ hk => ⟨⟨hk.1.1.1, ⟨hk.1.1.2.1, ⟨hk.1.1.2.2, hk.1.2⟩⟩⟩, hk.2⟩)) hg hat); have n2_ := Aside0.mk (Kd.N_afterv (ok := (fun k_ => some k_ ≠ (.slice Ao45 x5_2.length co45 : Value).ownBlock ∧ some k_ ≠ (.slice Ao47 x6_22.length co47 : Value).ownBlock ∧ some k_ ≠ (.slice Ao56 t820.length co56 : Value).ownBlock ∧ some k_ ≠ (v830 : Value).ownBlock)) (by (with_reducible repeat (first | apply Kd.N_alloc | apply Kd.N_drewN | apply Kd.N_drew)); exact Kd.N_mono HO819.out (fun _ hk => ⟨⟨hk.1.1.1, ⟨hk.1.1.2.1, ⟨hk.1.1.2.2, hk.1.2⟩⟩⟩, hk.2⟩)) hg hat); have n3_ := Aside0.mk (Kd.N_afterv (ok := (fun k_ => some k_ ≠ (.slice Ao45 x5_2.length co45 : Value).ownBlock ∧ some k_ ≠ (.slice Ao47 x6_22.length co47 : Value).ownBlock ∧ some k_ ≠ (v818 : Value).ownBlock ∧ some k_ ≠ (v830 : Value).ownBlock)) (by (with_reducible repeat (first | apply Kd.N_alloc | apply Kd.N_drewN | apply Kd.N_drew)); exact Kd.N_mono HO822.out (fun _ hk => ⟨⟨hk.1.1.1, ⟨hk.1.1.2.1, ⟨hk.1.1.2.2, hk.1.2⟩⟩⟩, hk.2⟩)) hg hat); have n4_ := Aside0.mk (Kd.N_afterv (ok := (fun k_ => some k_ ≠ (v818 : Value).ownBlock ∧ some k_ ≠ (.slice Ao56 t820.length co56 : Value).ownBlock)) (by (with_reducible repeat (first | apply Kd.N_alloc | apply Kd.N_drewN | apply Kd.N_drew)); exact HO831.out) hg hat); have n5_ := Aside0.mk (hb); have n6_ := Aside0.mk (ho); clear HO_5; clear HO_6; clear HO819; clear HO822; clear HO831; clear HB; clear HO834; have HO_5 := n0_; have HO_6 := n1_; have HO819 := n2_; have HO822 := n3_; have HO831 := n4_; have HB := n5_; have HO837 := n6_; clear n0_ n1_ n2_ n3_ n4_ n5_ n6_; clear ho hb hg hat; obtain ⟨Ao58, co58, eo58⟩ := Kd.N_slice HO819.out; subst eo58) | ((with_reducible refine gate_builtin (b := .append) (xs := #[.tmp 81, .tmp 82]) rfl ?_); (try (refine gate_guard (by rfl) ?_; dsimp only)); at_builtin; refine Kd.N_append_rows (Kd.slice 3 (Kd.int .i64)) (w0 := w) w.heap.size rfl (.tmp 81) (.tmp 82) 22 23 (.slice none 0 0) 24 rfl Try.underlying22 info23 rfl (by decide) (by omega) v836 y835 t817 _ _ _ (fun k_ => some k_ ≠ (.slice Ao45 x5_2.length co45 : Value).ownBlock ∧ some k_ ≠ (.slice Ao47 x6_22.length co47 : Value).ownBlock ∧ some k_ ≠ (v830 : Value).ownBlock) (fun k_ => ((fun k_ => some k_ ≠ (.slice Ao45 x5_2.length co45 : Value).ownBlock ∧ some k_ ≠ (.slice Ao47 x6_22.length co47 : Value).ownBlock ∧ some k_ ≠ (v830 : Value).ownBlock)) k_ ∧ some k_ ≠ (v836 : Value).ownBlock) rfl rfl ?aO ?aR (fun _ hk => hk) ?aF ?aB ?aS ?aL ?_; (case aR => exact (by skip; exact Kd.N_F (Kd.N_mono (ok' := (fun k_ => ((fun k_ => some k_ ≠ (.slice Ao45 x5_2.length co45 : Value).ownBlock ∧ some k_ ≠ (.slice Ao47 x6_22.length co47 : Value).ownBlock ∧ some k_ ≠ (v830 : Value).ownBlock)) k_ ∧ some k_ ≠ (v836 : Value).ownBlock)) (HO819.out) (fun k_ hk => ⟨⟨hk.1.1, ⟨hk.1.2.1, hk.1.2.2.2⟩⟩, hk.2⟩)))); (case aB => exact (by repeat (first | (with_reducible first | exact HB.out | apply below_alloc | apply pw_below_drewN | apply below_drew1) | exact HB.out))); (case aF => exact (fun k_ hk => ⟨Kd.fresh' (Kd.N_lt (by (with_reducible repeat (first | apply Kd.N_alloc | apply Kd.N_drewN | apply Kd.N_drew)); exact HO_5.out)) k_ hk, Kd.fresh' (Kd.N_lt (by (with_reducible repeat (first | apply Kd.N_alloc | apply Kd.N_drewN | apply Kd.N_drew)); exact HO_6.out)) k_ hk, Kd.fresh' (Kd.N_lt (by (with_reducible repeat (first | apply Kd.N_alloc | apply Kd.N_drewN | apply Kd.N_drew)); exact HO831.out)) k_ hk⟩)); (case aO => exact (by (with_reducible repeat (first | apply Kd.N_alloc | apply Kd.N_drewN | apply Kd.N_drew)); exact Kd.N_mono HO837.out (fun _ hk => ⟨hk.1, ⟨hk.2.1, hk.2.2.2⟩⟩))); (case aS => exact (below_size (by repeat (first | (with_reducible first | exact HB.out | apply below_alloc | apply pw_below_drewN | apply below_drew1) | exact HB.out)))); (case aL => have := LMc44.out; omega); intro v839 w57 ho hb hg hat; rw [← Ny838.out] at ho; have n0_ := Aside0.mk (Kd.N_afterv (ok := (fun k_ => some k_ ≠ (.slice Ao47 x6_22.length co47 : Value).ownBlock ∧ some k_ ≠ (.slice Ao58 t817.length co58 : Value).ownBlock ∧ some k_ ≠ (.slice Ao56 t820.length co56 : Value).ownBlock ∧ some k_ ≠ (v830 : Value).ownBlock)) (by (with_reducible repeat (first | apply Kd.N_alloc | apply Kd.N_drewN | apply Kd.N_drew)); exact HO_5.out) hg hat); have n1_ := Aside0.mk (Kd.N_afterv (ok := (fun k_ => some k_ ≠ (.slice Ao45 x5_2.length co45 : Value).ownBlock ∧ some k_ ≠ (.slice Ao58 t817.length co58 : Value).ownBlock ∧ some k_ ≠ (.slice Ao56 t820.length co56 : Value).ownBlock ∧ some k_ ≠ (v830 : Value).ownBlock)) (by (with_reducible repeat (first | apply Kd.N_alloc | apply Kd.N_drewN | apply Kd.N_drew)); exact HO_6.out) hg hat); have n2_ := Aside0.mk (Kd.N_afterv (ok := (fun k_ => some k_ ≠ (.slice Ao45 x5_2.length co45 : Value).ownBlock ∧ some k_ ≠ (.slice Ao47 x6_22.length co47 : Value).ownBlock ∧ some k_ ≠ (.slice Ao56 t820.length co56 : Value).ownBlock ∧ some k_ ≠ (v830 : Value).ownBlock)) (by (with_reducible repeat (first | apply Kd.N_alloc | apply Kd.N_drewN | apply Kd.N_drew)); exact HO819.out) hg hat); have n3_ := Aside0.mk (Kd.N_afterv (ok := (fun k_ => some k_ ≠ (.slice Ao45 x5_2.length co45 : Value).ownBlock ∧ some k_ ≠ (.slice Ao47 x6_22.length co47 : Value).ownBlock ∧ some k_ ≠ (.slice Ao58 t817.length co58 : Value).ownBlock ∧ some k_ ≠ (v830 : Value).ownBlock)) (by (with_reducible repeat (first | apply Kd.N_alloc | apply Kd.N_drewN | apply Kd.N_drew)); exact HO822.out) hg hat); have n4_ := Aside0.mk (Kd.N_afterv (ok := (fun k_ => some k_ ≠ (.slice Ao58 t817.length co58 : Value).ownBlock ∧ some k_ ≠ (.slice Ao56 t820.length co56 : Value).ownBlock)) (by (with_reducible repeat (first | apply Kd.N_alloc | apply Kd.N_drewN | apply Kd.N_drew)); exact HO831.out) hg hat); have n5_ := Aside0.mk (hb); have n6_ := Aside0.mk (ho); clear HO_5; clear HO_6; clear HO819; clear HO822; clear HO831; clear HB; clear HO837; have HO_5 := n0_; have HO_6 := n1_; have HO819 := n2_; have HO822 := n3_; have HO831 := n4_; have HB := n5_; have HO840 := n6_; clear n0_ n1_ n2_ n3_ n4_ n5_ n6_; clear ho hb hg hat))
         go_loopg [13] kj22 (fun kq v13 w' => ∃ (x13_3 : Int), v13 = .int .i64 x13_3 ∧ Aside0 (secateurlaw09_TableStill.l2 kq x5_2 t817 y829 y838 x13_3 = some r) ∧ Aside0 (kq ≤ kj22) ∧ Aside0 (Kd.N (Kd.slice 3 (Kd.int .i64)) 23 w' w.heap.size (fun k_ => some k_ ≠ ((.slice Ao58 t817.length co58) : Value).ownBlock ∧ some k_ ≠ (v830 : Value).ownBlock ∧ some k_ ≠ (v839 : Value).ownBlock) (.slice Ao45 x5_2.length co45) x5_2) ∧ Aside0 (Kd.N (Kd.slice 3 (Kd.int .i64)) 23 w' w.heap.size (fun k_ => some k_ ≠ ((.slice Ao45 x5_2.length co45) : Value).ownBlock ∧ some k_ ≠ (v830 : Value).ownBlock ∧ some k_ ≠ (v839 : Value).ownBlock) (.slice Ao58 t817.length co58) t817) ∧ Aside0 (Kd.N (Kd.slice 3 (Kd.int .i64)) 23 w' w.heap.size (fun k_ => some k_ ≠ ((.slice Ao58 t817.length co58) : Value).ownBlock ∧ some k_ ≠ (v839 : Value).ownBlock) v830 y829) ∧ Aside0 (Kd.N (Kd.slice 3 (Kd.int .i64)) 23 w' w.heap.size (fun k_ => some k_ ≠ ((.slice Ao45 x5_2.length co45) : Value).ownBlock ∧ some k_ ≠ (v830 : Value).ownBlock) v839 y838) ∧ Aside0 (Below w.heap.size w w'))
         case atStart => exact ⟨(1), (by first | rfl | (simp; done) | (simp [*]; done)), H', ⟨Nat.le_refl _⟩, ⟨by (with_reducible repeat (first | apply Kd.N_alloc | apply Kd.N_drewN | apply Kd.N_drew)); exact Kd.N_mono HO_5.out (fun _ hk => ⟨hk.1.2.1, ⟨hk.1.2.2.2, hk.2⟩⟩)⟩, ⟨by (with_reducible repeat (first | apply Kd.N_alloc | apply Kd.N_drewN | apply Kd.N_drew)); exact Kd.N_mono HO819.out (fun _ hk => ⟨hk.1.1, ⟨hk.1.2.2.2, hk.2⟩⟩)⟩, ⟨by (with_reducible repeat (first | apply Kd.N_alloc | apply Kd.N_drewN | apply Kd.N_drew)); exact Kd.N_mono HO831.out (fun _ hk => ⟨hk.1.1, hk.2⟩)⟩, ⟨by (with_reducible repeat (first | apply Kd.N_alloc | apply Kd.N_drewN | apply Kd.N_drew)); exact Kd.N_mono HO840.out (fun _ hk => ⟨hk.1, hk.2.2⟩)⟩, ⟨by repeat (first | (with_reducible first | exact HB.out | apply below_alloc | apply pw_below_drewN | apply below_drew1) | exact HB.out)⟩⟩
         case round =>
          clear H'
          try clear c1
          try clear c2
          try clear p2
          try clear c3
          try clear c4
          try clear p6
          try clear c7
          try clear p7
          try clear q7
          try clear hx7
          try clear c8
          try clear c8b0
          try clear p8
          try clear q8
          try clear hx8
          try clear c9
          try clear c9b0
          try clear c10
          try clear c10b0
          try clear c12
          try clear c12b0
          try clear c12b1
          try clear c13
          try clear c13b0
          try clear c13b1
          try clear c14
          try clear c15
          try clear c24
          try clear c24b0
          try clear c25
          try clear c25b0
          try clear c26
          try clear c26b0
          try clear c28
          try clear c28b0
          try clear c28b1
          try clear c29
          try clear c29b0
          try clear c29b1
          try clear c30
          try clear c31
          try clear c41
          try clear c42
          try clear c43
          try clear c44
          try clear hx796_0
          try clear hx797_0
          try clear hx808_0
          try clear hx809_0
          try clear p2
          try clear p6
          try clear p7
          try clear p796
          try clear p797
          try clear p8
          try clear p808
          try clear p809
          try clear q7
          try clear q796
          try clear q797
          try clear q8
          try clear q808
          try clear q809
          obtain ⟨x13_3, rfl, HA, HK3, HO_5, HO_9, HO_11, HO_12, HB⟩ := hrel
          cases gk with
          | zero => exact absurd HA.out (by simp [secateurlaw09_TableStill.l2])
          | succ k3 =>
           have H := HA.out
           clear HA
           simp only [secateurlaw09_TableStill.l2] at H
           by_cases c59 : x13_3 < (t817.length : Int)
           ·rw [if_pos c59] at H
            have c59b0 : decide (x13_3 < (t817.length : Int)) = true := decide_eq_true c59
            clear c59
            obtain ⟨ji60, hji60⟩ : ∃ j_ : Int, (wrap64 (x13_3 - 1)) = j_ := ⟨_, rfl⟩
            replace H : (if 0 ≤ (ji60) then (if (ji60) < (t817.length : Int) then (if 0 ≤ x13_3 then ((secateurref06_Order.f k3 (rd_L1 t817 (ji60)) (rd_L1 t817 x13_3)).bind fun t843 => (if t843 ≥ 0 then (none) else (secateurlaw09_TableStill.l2 k3 x5_2 t817 y829 y838 (wrap64 (x13_3 + 1))))) else (none)) else (none)) else (none)) = some r := by first | (rw [hji60] at H; exact H) | (simp only [hji60] at H ⊢; exact H)
            have hji60w : (IntKind.i64.wrap (x13_3 - 1)) = ji60 := (i64_w _).trans hji60
            by_cases c61 : 0 ≤ (ji60)
            ·rw [if_pos c61] at H
             have c61b0 : decide (0 ≤ (ji60)) = true := decide_eq_true c61
             clear c61
             by_cases c62 : (ji60) < (t817.length : Int)
             ·rw [if_pos c62] at H
              have c62b0 : decide ((ji60) < (t817.length : Int)) = true := decide_eq_true c62
              clear c62
              by_cases c63 : 0 ≤ x13_3
              ·rw [if_pos c63] at H
               have c63b0 : decide (0 ≤ x13_3) = true := decide_eq_true c63
               clear c63
               replace H := Option.bind_eq_some_iff.mp H
               obtain ⟨t843, A640, H⟩ := H
               replace H : (if t843 ≥ 0 then (none) else (secateurlaw09_TableStill.l2 k3 x5_2 t817 y829 y838 (wrap64 (x13_3 + 1)))) = some r := H
               have A64 := Aside0.mk A640
               clear A640
               by_cases c65 : t843 ≥ 0
               ·rw [if_pos c65] at H
                exact absurd H (by simp)
               ·rw [if_neg c65] at H
                have c65b0 : decide (0 ≤ t843) = false := decide_eq_false c65
                clear c65
                have H' := Aside0.mk H
                clear H
                try go_wp2
                have n0_ := Aside0.mk (Kd.N_drew HO_5.out)
                have n1_ := Aside0.mk (Kd.N_drew HO_9.out)
                have n2_ := Aside0.mk (Kd.N_drew HO_11.out)
                have n3_ := Aside0.mk (Kd.N_drew HO_12.out)
                have n4_ := Aside0.mk (below_drew1 HB.out)
                clear HO_5
                clear HO_9
                clear HO_11
                clear HO_12
                clear HB
                have HO_5 := n0_
                have HO_9 := n1_
                have HO_11 := n2_
                have HO_12 := n3_
                have HB := n4_
                clear n0_ n1_ n2_ n3_ n4_
                have p841 : 0 ≤ ((ji60) : Int) := of_decide_eq_true (by first | (with_reducible assumption) | assumption)
                have q841 : (ji60) < (t817.length : Int) := of_decide_eq_true (by first | (with_reducible assumption) | assumption)
                obtain ⟨ad841, A841_0, c841_0, e841, hx841_0, hl841_0, hi841_0⟩ := at_L1 (Kd.N_reads' HO_9.out).2.2 (ji60) p841 q841
                cases e841
                obtain ⟨ce841, hce841, hMe841, hcc841⟩ := Kd.N_get HO_9.out [] (ji60) p841 (by first | exact q841 | exact of_decide_eq_true (by first | (with_reducible assumption) | assumption) | (have e_ := (Kd.N_reads' HO_9.out).1; omega))
                obtain ⟨ua841_0, uc841_0, rfl, ul841_0, ge841_0⟩ := Kd.FK_slice_open hMe841
                have hv841_0 := hcc841 0 _ rfl
                rw [Nat.add_zero, show ((Kd.slice 3 (Kd.int .i64))).sz = 1 from rfl, Nat.mul_one] at hv841_0
                replace hv841_0 := Option.some.inj (hv841_0.symm.trans hx841_0)
                injection hv841_0 with hva_ hvn_ hvc_
                rw [hva_] at ge841_0
                rw [hvc_] at ul841_0
                have HL841_0 := Aside0.mk (show Kd.V (Kd.int .i64) 3 _ w.heap.size _ _ (rd_L1 t817 (ji60)) from Kd.V_mk ul841_0 ge841_0)
                clear hva_ hvn_ hvc_ ge841_0 ul841_0
                clear hcc841 hce841
                have HR841_0 := Aside0.mk hi841_0
                have HC841_0 := Aside0.mk hl841_0
                clear hi841_0 hl841_0
                replace p841 := eq_true p841
                replace q841 := eq_true q841
                have p842 : 0 ≤ (x13_3 : Int) := of_decide_eq_true (by first | (with_reducible assumption) | assumption)
                have q842 : x13_3 < (t817.length : Int) := of_decide_eq_true (by first | (with_reducible assumption) | assumption)
                obtain ⟨ad842, A842_0, c842_0, e842, hx842_0, hl842_0, hi842_0⟩ := at_L1 (Kd.N_reads' HO_9.out).2.2 x13_3 p842 q842
                obtain rfl : ad841 = ad842 := (by injection e842)
                obtain ⟨ce842, hce842, hMe842, hcc842⟩ := Kd.N_get HO_9.out [] x13_3 p842 (by first | exact q842 | exact of_decide_eq_true (by first | (with_reducible assumption) | assumption) | (have e_ := (Kd.N_reads' HO_9.out).1; omega))
                obtain ⟨ua842_0, uc842_0, rfl, ul842_0, ge842_0⟩ := Kd.FK_slice_open hMe842
                have hv842_0 := hcc842 0 _ rfl
                rw [Nat.add_zero, show ((Kd.slice 3 (Kd.int .i64))).sz = 1 from rfl, Nat.mul_one] at hv842_0
                replace hv842_0 := Option.some.inj (hv842_0.symm.trans hx842_0)
                injection hv842_0 with hva_ hvn_ hvc_
                rw [hva_] at ge842_0
                rw [hvc_] at ul842_0
                have HL842_0 := Aside0.mk (show Kd.V (Kd.int .i64) 3 _ w.heap.size _ _ (rd_L1 t817 x13_3) from Kd.V_mk ul842_0 ge842_0)
                clear hva_ hvn_ hvc_ ge842_0 ul842_0
                clear hcc842 hce842
                have HR842_0 := Aside0.mk hi842_0
                have HC842_0 := Aside0.mk hl842_0
                clear hi842_0 hl842_0
                replace p842 := eq_true p842
                replace q842 := eq_true q842
                refine start_ (n := 11) (S := fun w' => w'.cell? (ad841.add ((ji60)).toNat) = some (.slice A841_0 (rd_L1 t817 (ji60)).length c841_0) ∧ w'.cell? (ad841.add (x13_3).toNat) = some (.slice A842_0 (rd_L1 t817 x13_3).length c842_0)) (ds := []) #[false, false, false, false, false, false, false, false, false, false, false] (by kernel_rfl) rfl rfl ⟨hx841_0, hx842_0⟩ (fun hHeld => ?_); refine with_tabW secateurlaw09_TableStill.tab18 secateurlaw09_TableStill.bits18 (fun HT_ HW_ => ?_)
                generalize wr.drew = w66 at HO_5 HO_9 HO_11 HO_12 HB HL841_0 HL842_0 HR841_0 HR842_0 hx841_0 hx842_0 hHeld ⊢
                refine pure_ (i := 0) (N := some 90) (v := ?_) (a' := ?_) #[true, false, false, false, false, false, false, false, false, false, false] rfl rfl (any_of HT_.out (by kernel_rfl)) (fun _ _ _ h => h) (Or.inl ⟨by rfl, ?_⟩) ?_ ?_
                rotate_left
                ·intro w'
                 go_simp
                 with_reducible rfl
                rotate_left
                ·simp only [Act.put, List.setIfInBounds_toArray, List.set_cons_zero, List.set_cons_succ, i64_w, i32_w]
                 rfl
                refine pure_ (i := 1) (N := some 91) (v := ?_) (a' := ?_) #[true, true, false, false, false, false, false, false, false, false, false] rfl rfl (any_of HT_.out (by kernel_rfl)) (fun _ _ _ h => h) (Or.inl ⟨by rfl, ?_⟩) ?_ ?_
                rotate_left
                ·intro w'
                 go_simp
                 with_reducible rfl
                rotate_left
                ·simp only [Act.put, List.setIfInBounds_toArray, List.set_cons_zero, List.set_cons_succ, i64_w, i32_w]
                 rfl
                refine pure_ (i := 2) (N := some 92) (v := ?_) (a' := ?_) #[true, true, true, false, false, false, false, false, false, false, false] rfl rfl (any_of HT_.out (by kernel_rfl)) (fun _ _ _ h => h) (Or.inl ⟨by rfl, ?_⟩) ?_ ?_
                rotate_left
                ·intro w'
                 go_simp
                 with_reducible rfl
                rotate_left
                ·simp only [Act.put, List.setIfInBounds_toArray, List.set_cons_zero, List.set_cons_succ, i64_w, i32_w]
                 rfl
                refine pure_ (i := 3) (N := some 93) (v := ?_) (a' := ?_) #[true, true, true, true, false, false, false, false, false, false, false] rfl rfl (any_of HT_.out (by kernel_rfl)) (fun _ _ _ h => h) (Or.inl ⟨by rfl, ?_⟩) ?_ ?_
                rotate_left
                ·intro w'
                 go_simp
                 with_reducible rfl
                rotate_left
                ·simp only [Act.put, List.setIfInBounds_toArray, List.set_cons_zero, List.set_cons_succ, i64_w, i32_w]
                 rfl
                refine pure_ (i := 5) (N := some 95) (v := ?_) (a' := ?_) #[true, true, true, true, false, true, false, false, false, false, false] rfl rfl (any_of HT_.out (by kernel_rfl)) (fun _ _ _ h => h) (Or.inl ⟨by rfl, ?_⟩) ?_ ?_
                rotate_left
                ·intro w'
                 go_simp
                 with_reducible rfl
                rotate_left
                ·simp only [Act.put, List.setIfInBounds_toArray, List.set_cons_zero, List.set_cons_succ, i64_w, i32_w]
                 rfl
                refine pure_ (i := 6) (N := some 96) (v := ?_) (a' := ?_) #[true, true, true, true, false, true, true, false, false, false, false] rfl rfl (any_of HT_.out (by kernel_rfl)) (fun _ _ _ h => h) (Or.inl ⟨by rfl, ?_⟩) ?_ ?_
                rotate_left
                ·intro w'
                 go_simp
                 with_reducible rfl
                rotate_left
                ·simp only [Act.put, List.setIfInBounds_toArray, List.set_cons_zero, List.set_cons_succ, i64_w, i32_w]
                 rfl
                refine pure_ (i := 7) (N := some 97) (v := ?_) (a' := ?_) #[true, true, true, true, false, true, true, true, false, false, false] rfl rfl (any_of HT_.out (by kernel_rfl)) (fun _ _ _ h => h) (Or.inl ⟨by rfl, ?_⟩) ?_ ?_
                rotate_left
                ·intro w'
                 go_simp
                 with_reducible rfl
                rotate_left
                ·simp only [Act.put, List.setIfInBounds_toArray, List.set_cons_zero, List.set_cons_succ, i64_w, i32_w]
                 rfl
                refine take_ (i := 4) (N := some 94) (v := ?_) (a' := ?_) #[true, true, true, true, true, true, true, true, false, false, false] rfl rfl (take_ofW HT_.out HW_.out (by kernel_rfl)) (fun _ _ _ h => h) (Or.inl ⟨by rfl, ?_⟩) hHeld ?_ ?_
                rotate_left
                ·rintro w' ⟨s0, s1⟩
                 go_simp
                 with_reducible rfl
                rotate_left
                ·simp only [Act.put, List.setIfInBounds_toArray, List.set_cons_zero, List.set_cons_succ, i64_w, i32_w]
                 rfl
                refine take_ (i := 8) (N := some 98) (v := ?_) (a' := ?_) #[true, true, true, true, true, true, true, true, true, false, false] rfl rfl (take_ofW HT_.out HW_.out (by kernel_rfl)) (fun _ _ _ h => h) (Or.inl ⟨by rfl, ?_⟩) hHeld ?_ ?_
                rotate_left
                ·rintro w' ⟨s0, s1⟩
                 go_simp
                 with_reducible rfl
                rotate_left
                ·simp only [Act.put, List.setIfInBounds_toArray, List.set_cons_zero, List.set_cons_succ, i64_w, i32_w]
                 rfl
                refine one_ (i := 9) (N := some 99) #[true, true, true, true, true, true, true, true, true, true, false] rfl rfl (one_of HT_.out (by kernel_rfl)) (by decide) (fun K hK => ?_)
                refine goes_ Try.func33 (by kernel_rfl) rfl #[.slice A841_0 (rd_L1 t817 (ji60)).length c841_0, .slice A842_0 (rd_L1 t817 x13_3).length c842_0] (by rfl) rfl rfl (by (try simp only [List.map_toArray, List.map_cons, List.map_nil]); first | done | (simp only [hji60]; rfl) | rfl | (simp only [List.length_drop, List.length_take]; rfl)) ?_
                with_reducible refine (secateurref06_Order.calls k3 _ _ (rd_L1 t817 (ji60)) _ _ (rd_L1 t817 x13_3) t843 _ ?side1 ?side2 ?side3 ?side4 A64.out).mono ?_
                (case side1 => repeat (first | exact (by repeat (first | (with_reducible exact HR841_0.out) | (with_reducible refine Kd.C_alloc ?_ _) | (with_reducible refine Kd.C_drewN ?_ _) | (with_reducible refine Kd.C_drew ?_) | exact HR841_0.out)) | (with_reducible refine Kd.C_alloc ?_ _) | (with_reducible refine Kd.C_drewN ?_ _) | (with_reducible refine Kd.C_drew ?_)))
                (case side2 => exact HC841_0.out)
                (case side3 => repeat (first | exact (by repeat (first | (with_reducible exact HR842_0.out) | (with_reducible refine Kd.C_alloc ?_ _) | (with_reducible refine Kd.C_drewN ?_ _) | (with_reducible refine Kd.C_drew ?_) | exact HR842_0.out)) | (with_reducible refine Kd.C_alloc ?_ _) | (with_reducible refine Kd.C_drewN ?_ _) | (with_reducible refine Kd.C_drew ?_)))
                (case side4 => exact HC842_0.out)
                rintro e w' ⟨rfl, ⟨nd, rfl⟩⟩
                refine ⟨_, rfl, ?_⟩
                refine hK.out _ _ ⟨hHeld.1, hHeld.2⟩ (fun hHeld => ?_)
                clear hK K
                refine norm_ (a' := ?_) ?_ ?_
                rotate_left
                ·show Act.put _ (some 99) _ = _
                 simp only [Act.put, List.setIfInBounds_toArray, List.set_cons_zero, List.set_cons_succ, i64_w, i32_w]
                 rfl
                refine pure_ (i := 10) (N := some 100) (v := ?_) (a' := ?_) #[true, true, true, true, true, true, true, true, true, true, true] rfl rfl (any_of HT_.out (by kernel_rfl)) (fun _ _ _ h => h) (Or.inl ⟨by rfl, ?_⟩) ?_ ?_
                rotate_left
                ·intro w'
                 go_simp
                 with_reducible rfl
                rotate_left
                ·simp only [Act.put, List.setIfInBounds_toArray, List.set_cons_zero, List.set_cons_succ, i64_w, i32_w]
                 rfl
                refine done_ (done_of HT_.out (by kernel_rfl)) ?_
                try go_wp2
                go_roundg k3
                case measure => have := HJ2.out; have := HJ22.out; have := HK3.out; omega
                case rel => exact ⟨(wrap64 (x13_3 + 1)), (by first | rfl | (simp; done) | (simp [*]; done)), H', ⟨by have := HJ2.out; have := HJ22.out; have := HK3.out; omega⟩, ⟨by (with_reducible repeat (first | apply Kd.N_alloc | apply Kd.N_drewN | apply Kd.N_drew)); exact HO_5.out⟩, ⟨by (with_reducible repeat (first | apply Kd.N_alloc | apply Kd.N_drewN | apply Kd.N_drew)); exact HO_9.out⟩, ⟨by (with_reducible repeat (first | apply Kd.N_alloc | apply Kd.N_drewN | apply Kd.N_drew)); exact HO_11.out⟩, ⟨by (with_reducible repeat (first | apply Kd.N_alloc | apply Kd.N_drewN | apply Kd.N_drew)); exact HO_12.out⟩, ⟨by repeat (first | (with_reducible first | exact HB.out | apply below_alloc | apply pw_below_drewN | apply below_drew1) | exact HB.out)⟩⟩
              ·rw [if_neg c63] at H
               exact absurd H (by simp)
             ·rw [if_neg c62] at H
              exact absurd H (by simp)
            ·rw [if_neg c61] at H
             exact absurd H (by simp)
           ·rw [if_neg c59] at H
            have c59b0 : decide (x13_3 < (t817.length : Int)) = false := decide_eq_false c59
            clear c59
            replace H := Option.bind_eq_some_iff.mp H
            obtain ⟨t844, A670, H⟩ := H
            replace H : ((secateurref04_Lists.f k3 t844 t817).bind fun t847 => (if t847 = true then ((table_Sorted.f y829).bind fun t848 => ((table_Sorted.f y838).bind fun t851 => ((secateurref04_Lists.f k3 t848 t851).bind fun t854 => (if t854 = true then (if (t817.length : Int) ≤ (x5_2.length : Int) then ((secateurlaw09_fixed.f k3).bind fun t855 => (some t855)) else (none)) else (none))))) else (none))) = some r := H
            have A67 := Aside0.mk A670
            clear A670
            replace H := Option.bind_eq_some_iff.mp H
            obtain ⟨t847, A680, H⟩ := H
            replace H : (if t847 = true then ((table_Sorted.f y829).bind fun t848 => ((table_Sorted.f y838).bind fun t851 => ((secateurref04_Lists.f k3 t848 t851).bind fun t854 => (if t854 = true then (if (t817.length : Int) ≤ (x5_2.length : Int) then ((secateurlaw09_fixed.f k3).bind fun t855 => (some t855)) else (none)) else (none))))) else (none)) = some r := H
            have A68 := Aside0.mk A680
            clear A680
            by_cases c69 : t847 = true
            ·subst c69
             have H1 : ((table_Sorted.f y829).bind fun t848 => ((table_Sorted.f y838).bind fun t851 => ((secateurref04_Lists.f k3 t848 t851).bind fun t854 => (if t854 = true then (if (t817.length : Int) ≤ (x5_2.length : Int) then ((secateurlaw09_fixed.f k3).bind fun t855 => (some t855)) else (none)) else (none))))) = some r := by rw [if_pos rfl] at H; exact H
             clear H
             have H := H1
             clear H1
             replace H := Option.bind_eq_some_iff.mp H
             obtain ⟨t848, A700, H⟩ := H
             replace H : ((table_Sorted.f y838).bind fun t851 => ((secateurref04_Lists.f k3 t848 t851).bind fun t854 => (if t854 = true then (if (t817.length : Int) ≤ (x5_2.length : Int) then ((secateurlaw09_fixed.f k3).bind fun t855 => (some t855)) else (none)) else (none)))) = some r := H
             have A70 := Aside0.mk A700
             clear A700
             replace H := Option.bind_eq_some_iff.mp H
             obtain ⟨t851, A710, H⟩ := H
             replace H : ((secateurref04_Lists.f k3 t848 t851).bind fun t854 => (if t854 = true then (if (t817.length : Int) ≤ (x5_2.length : Int) then ((secateurlaw09_fixed.f k3).bind fun t855 => (some t855)) else (none)) else (none))) = some r := H
             have A71 := Aside0.mk A710
             clear A710
             replace H := Option.bind_eq_some_iff.mp H
             obtain ⟨t854, A720, H⟩ := H
             replace H : (if t854 = true then (if (t817.length : Int) ≤ (x5_2.length : Int) then ((secateurlaw09_fixed.f k3).bind fun t855 => (some t855)) else (none)) else (none)) = some r := H
             have A72 := Aside0.mk A720
             clear A720
             by_cases c73 : t854 = true
             ·subst c73
              have H1 : (if (t817.length : Int) ≤ (x5_2.length : Int) then ((secateurlaw09_fixed.f k3).bind fun t855 => (some t855)) else (none)) = some r := by rw [if_pos rfl] at H; exact H
              clear H
              have H := H1
              clear H1
              by_cases c74 : (t817.length : Int) ≤ (x5_2.length : Int)
              ·rw [if_pos c74] at H
               have c74b0 : decide ((t817.length : Int) ≤ (x5_2.length : Int)) = true := decide_eq_true c74
               have c74b1 : decide (t817.length ≤ x5_2.length) = true := decide_eq_true (Int.ofNat_le.mp c74)
               clear c74
               replace H := Option.bind_eq_some_iff.mp H
               obtain ⟨t855, A750, H⟩ := H
               replace H : (some t855) = some r := H
               have A75 := Aside0.mk A750
               clear A750
               obtain rfl := Option.some.inj H
               go_wp2_with (first | ((with_reducible refine gate_callee (f := 24) rfl ?_); refine goesL_ (some 102) rfl rfl Try.func24 (by kernel_rfl) rfl #[.slice Ao58 t817.length co58] rfl (by (try simp only [List.map_toArray, List.map_cons, List.map_nil]); first | done | rfl | (simp only [List.length_drop, List.length_take]; rfl)) ?_; (with_reducible refine (table_Sorted.calls _ _ t817 t844 _ ?side1 ?side2 A67.out).mono ?_); (case side1 => repeat (first | exact (Kd.N_reads' HO_9.out).2.2 | (with_reducible refine Kd.C_alloc ?_ _) | (with_reducible refine Kd.C_drewN ?_ _) | (with_reducible refine Kd.C_drew ?_))); (case side2 => exact (Kd.N_reads' HO_9.out).2.1); rintro e w76 ⟨v845, rfl, ho0, hb⟩; refine ⟨_, rfl, ?_⟩; have n0_ := Aside0.mk (Kd.N_elder' (by (with_reducible repeat (first | apply Kd.N_alloc | apply Kd.N_drewN | apply Kd.N_drew)); exact HO_5.out) (by first | exact Kd.N_base ho0 | exact Kd.S_base ho0 | exact Kd.R_base ho0) hb); have n1_ := Aside0.mk (Kd.N_elder' (by (with_reducible repeat (first | apply Kd.N_alloc | apply Kd.N_drewN | apply Kd.N_drew)); exact HO_9.out) (by first | exact Kd.N_base ho0 | exact Kd.S_base ho0 | exact Kd.R_base ho0) hb); have n2_ := Aside0.mk (Kd.N_elder' (by (with_reducible repeat (first | apply Kd.N_alloc | apply Kd.N_drewN | apply Kd.N_drew)); exact HO_11.out) (by first | exact Kd.N_base ho0 | exact Kd.S_base ho0 | exact Kd.R_base ho0) hb); have n3_ := Aside0.mk (Kd.N_elder' (by (with_reducible repeat (first | apply Kd.N_alloc | apply Kd.N_drewN | apply Kd.N_drew)); exact HO_12.out) (by first | exact Kd.N_base ho0 | exact Kd.S_base ho0 | exact Kd.R_base ho0) hb); have n4_ := Aside0.mk (Kd.N_lower (Kd.N_mono (ok' := fun k_ => some k_ ≠ (.slice Ao45 x5_2.length co45 : Value).ownBlock ∧ some k_ ≠ (.slice Ao58 t817.length co58 : Value).ownBlock ∧ some k_ ≠ (v830 : Value).ownBlock ∧ some k_ ≠ (v839 : Value).ownBlock) (Kd.S_N (Kd.S_bound ho0)) (fun k_ hk_ => ⟨(Kd.fresh' (Kd.N_lt (by (with_reducible repeat (first | apply Kd.N_alloc | apply Kd.N_drewN | apply Kd.N_drew)); exact HO_5.out)) k_ hk_.2.1), (Kd.fresh' (Kd.N_lt (by (with_reducible repeat (first | apply Kd.N_alloc | apply Kd.N_drewN | apply Kd.N_drew)); exact HO_9.out)) k_ hk_.2.1), (Kd.fresh' (Kd.N_lt (by (with_reducible repeat (first | apply Kd.N_alloc | apply Kd.N_drewN | apply Kd.N_drew)); exact HO_11.out)) k_ hk_.2.1), (Kd.fresh' (Kd.N_lt (by (with_reducible repeat (first | apply Kd.N_alloc | apply Kd.N_drewN | apply Kd.N_drew)); exact HO_12.out)) k_ hk_.2.1)⟩)) (below_size (by repeat (first | (with_reducible first | exact HB.out | apply below_alloc | apply pw_below_drewN | apply below_drew1) | exact HB.out)))); have n5_ := Aside0.mk (below_step (by repeat (first | (with_reducible first | exact HB.out | apply below_alloc | apply pw_below_drewN | apply below_drew1) | exact HB.out)) hb); clear HO_5; clear HO_9; clear HO_11; clear HO_12; clear HB; have HO_5 := n0_; have HO_9 := n1_; have HO_11 := n2_; have HO_12 := n3_; have HO846 := n4_; have HB := n5_; clear n0_ n1_ n2_ n3_ n4_ n5_; (try clear hb); (try clear hb2); (try clear hk); (try clear hi); (try clear ho0); obtain ⟨Ao77, co77, eo77⟩ := Kd.N_slice HO846.out; subst eo77) | ((with_reducible refine gate_callee (f := 22) rfl ?_); refine goesL_ (some 104) rfl rfl Try.func22 (by kernel_rfl) rfl #[.slice Ao77 t844.length co77, .slice Ao58 t817.length co58] rfl (by (try simp only [List.map_toArray, List.map_cons, List.map_nil]); first | done | rfl | (simp only [List.length_drop, List.length_take]; rfl)) ?_; (with_reducible refine (secateurref04_Lists.calls k3 _ _ t844 _ _ t817 true _ ?side1 ?side2 ?side3 ?side4 A68.out).mono ?_); (case side1 => repeat (first | exact (Kd.N_reads' HO846.out).2.2 | (with_reducible refine Kd.C_alloc ?_ _) | (with_reducible refine Kd.C_drewN ?_ _) | (with_reducible refine Kd.C_drew ?_))); (case side2 => exact (Kd.N_reads' HO846.out).2.1); (case side3 => repeat (first | exact (Kd.N_reads' HO_9.out).2.2 | (with_reducible refine Kd.C_alloc ?_ _) | (with_reducible refine Kd.C_drewN ?_ _) | (with_reducible refine Kd.C_drew ?_))); (case side4 => exact (Kd.N_reads' HO_9.out).2.1); rintro e w' ⟨rfl, ⟨nd, rfl⟩⟩; refine ⟨_, rfl, ?_⟩; obtain ⟨Ao78, co78, eo78⟩ := Kd.N_slice HO_11.out; subst eo78) | (go_at_call 24; (with_reducible refine (table_Sorted.calls _ _ y829 t848 _ ?side1 ?side2 A70.out).mono ?_); (case side1 => repeat (first | exact (Kd.N_reads' HO_11.out).2.2 | (with_reducible refine Kd.C_alloc ?_ _) | (with_reducible refine Kd.C_drewN ?_ _) | (with_reducible refine Kd.C_drew ?_))); (case side2 => exact (Kd.N_reads' HO_11.out).2.1); rintro e w79 ⟨v849, rfl, ho0, hb⟩; have n0_ := Aside0.mk (Kd.N_elder' (by (with_reducible repeat (first | apply Kd.N_alloc | apply Kd.N_drewN | apply Kd.N_drew)); exact HO_5.out) (by first | exact Kd.N_base ho0 | exact Kd.S_base ho0 | exact Kd.R_base ho0) hb); have n1_ := Aside0.mk (Kd.N_elder' (by (with_reducible repeat (first | apply Kd.N_alloc | apply Kd.N_drewN | apply Kd.N_drew)); exact HO_9.out) (by first | exact Kd.N_base ho0 | exact Kd.S_base ho0 | exact Kd.R_base ho0) hb); have n2_ := Aside0.mk (Kd.N_elder' (by (with_reducible repeat (first | apply Kd.N_alloc | apply Kd.N_drewN | apply Kd.N_drew)); exact HO_11.out) (by first | exact Kd.N_base ho0 | exact Kd.S_base ho0 | exact Kd.R_base ho0) hb); have n3_ := Aside0.mk (Kd.N_elder' (by (with_reducible repeat (first | apply Kd.N_alloc | apply Kd.N_drewN | apply Kd.N_drew)); exact HO_12.out) (by first | exact Kd.N_base ho0 | exact Kd.S_base ho0 | exact Kd.R_base ho0) hb); have n4_ := Aside0.mk (Kd.N_elder' (by (with_reducible repeat (first | apply Kd.N_alloc | apply Kd.N_drewN | apply Kd.N_drew)); exact HO846.out) (by first | exact Kd.N_base ho0 | exact Kd.S_base ho0 | exact Kd.R_base ho0) hb); have n5_ := Aside0.mk (Kd.N_lower (Kd.N_mono (ok' := fun k_ => some k_ ≠ (.slice Ao45 x5_2.length co45 : Value).ownBlock ∧ some k_ ≠ (.slice Ao58 t817.length co58 : Value).ownBlock ∧ some k_ ≠ (.slice Ao78 y829.length co78 : Value).ownBlock ∧ some k_ ≠ (v839 : Value).ownBlock ∧ some k_ ≠ (.slice Ao77 t844.length co77 : Value).ownBlock) (Kd.S_N (Kd.S_bound ho0)) (fun k_ hk_ => ⟨(Kd.fresh' (Kd.N_lt (by (with_reducible repeat (first | apply Kd.N_alloc | apply Kd.N_drewN | apply Kd.N_drew)); exact HO_5.out)) k_ hk_.2.1), (Kd.fresh' (Kd.N_lt (by (with_reducible repeat (first | apply Kd.N_alloc | apply Kd.N_drewN | apply Kd.N_drew)); exact HO_9.out)) k_ hk_.2.1), (Kd.fresh' (Kd.N_lt (by (with_reducible repeat (first | apply Kd.N_alloc | apply Kd.N_drewN | apply Kd.N_drew)); exact HO_11.out)) k_ hk_.2.1), (Kd.fresh' (Kd.N_lt (by (with_reducible repeat (first | apply Kd.N_alloc | apply Kd.N_drewN | apply Kd.N_drew)); exact HO_12.out)) k_ hk_.2.1), (Kd.fresh' (Kd.N_lt (by (with_reducible repeat (first | apply Kd.N_alloc | apply Kd.N_drewN | apply Kd.N_drew)); exact HO846.out)) k_ hk_.2.1)⟩)) (below_size (by repeat (first | (with_reducible first | exact HB.out | apply below_alloc | apply pw_below_drewN | apply below_drew1) | exact HB.out)))); have n6_ := Aside0.mk (below_step (by repeat (first | (with_reducible first | exact HB.out | apply below_alloc | apply pw_below_drewN | apply below_drew1) | exact HB.out)) hb); clear HO_5; clear HO_9; clear HO_11; clear HO_12; clear HO846; clear HB; have HO_5 := n0_; have HO_9 := n1_; have HO_11 := n2_; have HO_12 := n3_; have HO846 := n4_; have HO850 := n5_; have HB := n6_; clear n0_ n1_ n2_ n3_ n4_ n5_ n6_; (try clear hb); (try clear hb2); (try clear hk); (try clear hi); (try clear ho0); obtain ⟨Ao80, co80, eo80⟩ := Kd.N_slice HO_12.out; subst eo80) | (go_at_call 24; (with_reducible refine (table_Sorted.calls _ _ y838 t851 _ ?side1 ?side2 A71.out).mono ?_); (case side1 => repeat (first | exact (Kd.N_reads' HO_12.out).2.2 | (with_reducible refine Kd.C_alloc ?_ _) | (with_reducible refine Kd.C_drewN ?_ _) | (with_reducible refine Kd.C_drew ?_))); (case side2 => exact (Kd.N_reads' HO_12.out).2.1); rintro e w81 ⟨v852, rfl, ho0, hb⟩; have n0_ := Aside0.mk (Kd.N_elder' (by (with_reducible repeat (first | apply Kd.N_alloc | apply Kd.N_drewN | apply Kd.N_drew)); exact HO_5.out) (by first | exact Kd.N_base ho0 | exact Kd.S_base ho0 | exact Kd.R_base ho0) hb); have n1_ := Aside0.mk (Kd.N_elder' (by (with_reducible repeat (first | apply Kd.N_alloc | apply Kd.N_drewN | apply Kd.N_drew)); exact HO_9.out) (by first | exact Kd.N_base ho0 | exact Kd.S_base ho0 | exact Kd.R_base ho0) hb); have n2_ := Aside0.mk (Kd.N_elder' (by (with_reducible repeat (first | apply Kd.N_alloc | apply Kd.N_drewN | apply Kd.N_drew)); exact HO_11.out) (by first | exact Kd.N_base ho0 | exact Kd.S_base ho0 | exact Kd.R_base ho0) hb); have n3_ := Aside0.mk (Kd.N_elder' (by (with_reducible repeat (first | apply Kd.N_alloc | apply Kd.N_drewN | apply Kd.N_drew)); exact HO_12.out) (by first | exact Kd.N_base ho0 | exact Kd.S_base ho0 | exact Kd.R_base ho0) hb); have n4_ := Aside0.mk (Kd.N_elder' (by (with_reducible repeat (first | apply Kd.N_alloc | apply Kd.N_drewN | apply Kd.N_drew)); exact HO846.out) (by first | exact Kd.N_base ho0 | exact Kd.S_base ho0 | exact Kd.R_base ho0) hb); have n5_ := Aside0.mk (Kd.N_elder' (by (with_reducible repeat (first | apply Kd.N_alloc | apply Kd.N_drewN | apply Kd.N_drew)); exact HO850.out) (by first | exact Kd.N_base ho0 | exact Kd.S_base ho0 | exact Kd.R_base ho0) hb); have n6_ := Aside0.mk (Kd.N_lower (Kd.N_mono (ok' := fun k_ => some k_ ≠ (.slice Ao45 x5_2.length co45 : Value).ownBlock ∧ some k_ ≠ (.slice Ao58 t817.length co58 : Value).ownBlock ∧ some k_ ≠ (.slice Ao78 y829.length co78 : Value).ownBlock ∧ some k_ ≠ (.slice Ao80 y838.length co80 : Value).ownBlock ∧ some k_ ≠ (.slice Ao77 t844.length co77 : Value).ownBlock ∧ some k_ ≠ (v849 : Value).ownBlock) (Kd.S_N (Kd.S_bound ho0)) (fun k_ hk_ => ⟨(Kd.fresh' (Kd.N_lt (by (with_reducible repeat (first | apply Kd.N_alloc | apply Kd.N_drewN | apply Kd.N_drew)); exact HO_5.out)) k_ hk_.2.1), (Kd.fresh' (Kd.N_lt (by (with_reducible repeat (first | apply Kd.N_alloc | apply Kd.N_drewN | apply Kd.N_drew)); exact HO_9.out)) k_ hk_.2.1), (Kd.fresh' (Kd.N_lt (by (with_reducible repeat (first | apply Kd.N_alloc | apply Kd.N_drewN | apply Kd.N_drew)); exact HO_11.out)) k_ hk_.2.1), (Kd.fresh' (Kd.N_lt (by (with_reducible repeat (first | apply Kd.N_alloc | apply Kd.N_drewN | apply Kd.N_drew)); exact HO_12.out)) k_ hk_.2.1), (Kd.fresh' (Kd.N_lt (by (with_reducible repeat (first | apply Kd.N_alloc | apply Kd.N_drewN | apply Kd.N_drew)); exact HO846.out)) k_ hk_.2.1), (Kd.fresh' (Kd.N_lt (by (with_reducible repeat (first | apply Kd.N_alloc | apply Kd.N_drewN | apply Kd.N_drew)); exact HO850.out)) k_ hk_.2.1)⟩)) (below_size (by repeat (first | (with_reducible first | exact HB.out | apply below_alloc | apply pw_below_drewN | apply below_drew1) | exact HB.out)))); have n7_ := Aside0.mk (below_step (by repeat (first | (with_reducible first | exact HB.out | apply below_alloc | apply pw_below_drewN | apply below_drew1) | exact HB.out)) hb); clear HO_5; clear HO_9; clear HO_11; clear HO_12; clear HO846; clear HO850; clear HB; have HO_5 := n0_; have HO_9 := n1_; have HO_11 := n2_; have HO_12 := n3_; have HO846 := n4_; have HO850 := n5_; have HO853 := n6_; have HB := n7_; clear n0_ n1_ n2_ n3_ n4_ n5_ n6_ n7_; (try clear hb); (try clear hb2); (try clear hk); (try clear hi); (try clear ho0); obtain ⟨Ao82, co82, eo82⟩ := Kd.N_slice HO850.out; subst eo82; obtain ⟨Ao83, co83, eo83⟩ := Kd.N_slice HO853.out; subst eo83) | (go_at_call 22; (with_reducible refine (secateurref04_Lists.calls k3 _ _ t848 _ _ t851 true _ ?side1 ?side2 ?side3 ?side4 A72.out).mono ?_); (case side1 => repeat (first | exact (Kd.N_reads' HO850.out).2.2 | (with_reducible refine Kd.C_alloc ?_ _) | (with_reducible refine Kd.C_drewN ?_ _) | (with_reducible refine Kd.C_drew ?_))); (case side2 => exact (Kd.N_reads' HO850.out).2.1); (case side3 => repeat (first | exact (Kd.N_reads' HO853.out).2.2 | (with_reducible refine Kd.C_alloc ?_ _) | (with_reducible refine Kd.C_drewN ?_ _) | (with_reducible refine Kd.C_drew ?_))); (case side4 => exact (Kd.N_reads' HO853.out).2.1); rintro e w' ⟨rfl, ⟨nd, rfl⟩⟩) | (go_at_call 15; (with_reducible refine (secateurlaw09_fixed.calls k3  t855 _ A75.out).mono ?_); rintro e w84 ⟨rfl, hb⟩; have n0_ := Aside0.mk (Kd.N_below (by (with_reducible repeat (first | apply Kd.N_alloc | apply Kd.N_drewN | apply Kd.N_drew)); exact HO_5.out) hb); have n1_ := Aside0.mk (Kd.N_below (by (with_reducible repeat (first | apply Kd.N_alloc | apply Kd.N_drewN | apply Kd.N_drew)); exact HO_9.out) hb); have n2_ := Aside0.mk (Kd.N_below (by (with_reducible repeat (first | apply Kd.N_alloc | apply Kd.N_drewN | apply Kd.N_drew)); exact HO_11.out) hb); have n3_ := Aside0.mk (Kd.N_below (by (with_reducible repeat (first | apply Kd.N_alloc | apply Kd.N_drewN | apply Kd.N_drew)); exact HO_12.out) hb); have n4_ := Aside0.mk (Kd.N_below (by (with_reducible repeat (first | apply Kd.N_alloc | apply Kd.N_drewN | apply Kd.N_drew)); exact HO846.out) hb); have n5_ := Aside0.mk (Kd.N_below (by (with_reducible repeat (first | apply Kd.N_alloc | apply Kd.N_drewN | apply Kd.N_drew)); exact HO850.out) hb); have n6_ := Aside0.mk (Kd.N_below (by (with_reducible repeat (first | apply Kd.N_alloc | apply Kd.N_drewN | apply Kd.N_drew)); exact HO853.out) hb); have n7_ := Aside0.mk (below_step (by repeat (first | (with_reducible first | exact HB.out | apply below_alloc | apply pw_below_drewN | apply below_drew1) | exact HB.out)) hb); clear HO_5; clear HO_9; clear HO_11; clear HO_12; clear HO846; clear HO850; clear HO853; clear HB; have HO_5 := n0_; have HO_9 := n1_; have HO_11 := n2_; have HO_12 := n3_; have HO846 := n4_; have HO850 := n5_; have HO853 := n6_; have HB := n7_; clear n0_ n1_ n2_ n3_ n4_ n5_ n6_ n7_; (try clear hb); (try clear hb2); (try clear hk); (try clear hi)))
               go_ret
               exact ⟨by first | rfl | (simp [errW_none, errW_some] <;> rfl) | (simp [*, errW_none, errW_some] <;> rfl), by repeat (first | (with_reducible first | exact HB.out | apply below_alloc | apply pw_below_drewN | apply below_drew1) | exact HB.out)⟩
              ·rw [if_neg c74] at H
               exact absurd H (by simp)
             ·replace c73 := Bool.eq_false_iff.mpr c73
              subst c73
              have H1 : (none) = some r := by rw [if_neg (show ¬ (false = true) by decide)] at H; exact H
              clear H
              have H := H1
              clear H1
              exact absurd H (by simp)
            ·replace c69 := Bool.eq_false_iff.mpr c69
             subst c69
             have H1 : (none) = some r := by rw [if_neg (show ¬ (false = true) by decide)] at H; exact H
             clear H
             have H := H1
             clear H1
             exact absurd H (by simp)
        ·rw [if_neg c44] at H
         exact absurd H (by simp)
       ·rw [if_neg c43] at H
        exact absurd H (by simp)
      ·rw [if_neg c42] at H
       exact absurd H (by simp)
     ·rw [if_neg c41] at H
      exact absurd H (by simp)

end Go.Proofs.Ytpbcigilipdedaa.P

/- TableStill: the plain law, and what the function comes to. -/
namespace Go.Proofs.Ytpbcigilipdedaa.P
open Go.RowKit Go.Proofs.YtpbcigilipdedaaW.PrintWords Go.Proofs.YtpbcigilipdedaaW.PrintLast Go.Proofs.YtpbcigilipdedaaW.PrintMore
set_option linter.unusedVariables false
set_option linter.unusedSimpArgs false

/-- At most n lists of at most m numbers. -/
def cutL (n m : Nat) (l : List (List Int)) : List (List Int) := (l.take n).map (·.take m)
theorem cutL_length (n m : Nat) (l : List (List Int)) : (cutL n m l).length ≤ n := by simp [cutL]; omega
theorem cutL_in {n m : Nat} {l : List (List Int)} {x : List Int} (h : x ∈ cutL n m l) : x.length ≤ m := by
  obtain ⟨y, _, rfl⟩ := List.mem_map.1 h
  simp; omega
theorem mn_len {x : List Int} {m : Nat} : mn (x.length : Int) (m : Int) = ((min x.length m : Nat) : Int) := by unfold mn; omega
theorem sorted_some {l : List (List Int)} (hl : l.length < 1000000000) (hin : ∀ x ∈ l, x.length < 17592186044416) : table_Sorted.f l = some (sdL l) := by
  unfold table_Sorted.f
  rw [if_pos hl, if_pos (List.all_eq_true.2 (fun x hx => decide_eq_true (hin x hx)))]
theorem sd_in {l : List (List Int)} {n : Nat} (hin : ∀ x ∈ l, x.length ≤ n) : ∀ x ∈ sdL l, x.length ≤ n := fun x hx => hin x ((mem_sdL x l).1 hx)
section
variable {a b : List (List Int)} (ha : a.length ≤ 20) (hb : b.length ≤ 20) (ia : ∀ x ∈ a, x.length ≤ 8) (ib : ∀ x ∈ b, x.length ≤ 8)
include ha hb ia ib
theorem still_l2 : ∀ (m n : Nat), (sdL a).length ≤ n + m → 1 ≤ n → Ev (fun k => secateurlaw09_TableStill.l2 k a (sdL a) (a ++ b) (sdL b ++ sdL a) (n : Int)) true := by
  have la := sdL_length a
  have lb := sdL_length b
  have h1 := sorted_some (l := sdL a) (by omega) (fun x hx => by have := sd_in ia x hx; omega)
  rw [sdL_self (sdL_ss a)] at h1
  have iab : ∀ x ∈ a ++ b, x.length ≤ 8 := fun x hx => (List.mem_append.1 hx).elim (ia x) (ib x)
  have h2 := sorted_some (l := a ++ b) (by simp; omega) (fun x hx => by have := iab x hx; omega)
  have h3 := sorted_some (l := sdL b ++ sdL a) (by simp; omega) (fun x hx => by
    rcases List.mem_append.1 hx with h | h
    · have := sd_in ib x h; omega
    · have := sd_in ia x h; omega)
  have e : sdL (a ++ b) = sdL (sdL b ++ sdL a) := sdL_congr (fun x => by
    rw [List.mem_append, List.mem_append, mem_sdL, mem_sdL]
    exact Or.comm)
  have lab := sdL_length (a ++ b)
  rw [List.length_append] at lab
  have last : ∀ n : Nat, (sdL a).length ≤ n → Ev (fun k => secateurlaw09_TableStill.l2 k a (sdL a) (a ++ b) (sdL b ++ sdL a) (n : Int)) true := fun n hn => by
    refine Ev.step (fun k => by rw [secateurlaw09_TableStill.l2, if_neg (by omega), h1, Option.bind_some]) ?_
    refine Ev.bind (ref_Lists_eq rfl (by omega) (fun x hx => by have := sd_in ia x hx; omega)) (Ev.ite_pos rfl ?_)
    refine Ev.eq (fun k => by rw [h2, Option.bind_some, h3, Option.bind_some]) ?_
    refine Ev.bind (ref_Lists_eq e (by omega) (fun x hx => by have := sd_in iab x hx; omega)) (Ev.ite_pos rfl (Ev.ite_pos (by omega) (Ev.bind (Ev.pure true) (Ev.pure true))))
  intro m
  induction m with
  | zero => intro n h _; exact last n (by omega)
  | succ m ih =>
    intro n h hn1
    by_cases hlt : n < (sdL a).length
    rotate_left
    · exact last n (by omega)
    have hp : n - 1 < (sdL a).length := by omega
    have e1 : wrap64 ((n : Int) - 1) = ((n - 1 : Nat) : Int) := by rw [w64 (by omega) (by omega)]; omega
    have hO := order_ev (sdL a)[n - 1] (sdL a)[n] (by have := sd_in ia _ (List.getElem_mem hp); omega) (by have := sd_in ia _ (List.getElem_mem hlt); omega)
    have hneg : lexCmp (sdL a)[n - 1] (sdL a)[n] < 0 := lexCmp_neg.2 (List.pairwise_iff_getElem.1 (sdL_ss a) (n - 1) n hp hlt (by omega))
    refine Ev.step (fun k => by rw [secateurlaw09_TableStill.l2, if_pos (by omega), e1, if_pos (by omega), if_pos (by omega), if_pos (by omega), rdL_nat _ _ hp, rdL_nat _ _ hlt, w1 (by omega)]) (Ev.bind hO (Ev.ite_neg (show ¬ (lexCmp (sdL a)[n - 1] (sdL a)[n] ≥ 0) by omega) (ih (n + 1) (by omega) (by omega))))
theorem still_j3 : Ev (fun k => secateurlaw09_TableStill.j3 k a b) true := by
  have la := sdL_length a
  have lb := sdL_length b
  refine Ev.step (fun k => by rw [secateurlaw09_TableStill.j3, sorted_some (l := a) (by omega) (fun x hx => by have := ia x hx; omega), Option.bind_some, sorted_some (l := b) (by omega) (fun x hx => by have := ib x hx; omega), Option.bind_some]) ?_
  refine Ev.bind (Ev.pure _) (Ev.ite_pos (by simp; omega) (Ev.bind (Ev.pure _) (Ev.ite_pos (by simp; omega) (Ev.bind (Ev.pure _) (Ev.ite_pos (by simp; omega) (Ev.bind (Ev.pure _) (Ev.ite_pos (by simp; omega) ?_)))))))
  simp only [List.nil_append]
  exact still_l2 ha hb ia ib (sdL a).length 1 (by omega) (Nat.le_refl _)
end
theorem still_l1 (a l1 : List (List Int)) (ha : a.length ≤ 20) (ia : ∀ x ∈ a, x.length ≤ 8) : ∀ (m n : Nat), n + m = min l1.length 20 → Ev (fun k => secateurlaw09_TableStill.l1 k l1 a (cutL n 8 l1) (n : Int)) true := by
  have last : ∀ n, n = min l1.length 20 → Ev (fun k => secateurlaw09_TableStill.j3 k a (cutL n 8 l1)) true := fun n hn => still_j3 ha (Nat.le_trans (cutL_length n 8 l1) (by omega)) ia (fun x hx => cutL_in hx)
  intro m
  induction m with
  | zero =>
    intro n h
    by_cases hlt : n < l1.length
    · exact Ev.step (fun k => by rw [secateurlaw09_TableStill.l1, if_pos (by omega), if_neg (by omega)]) (last n (by omega))
    · exact Ev.step (fun k => by rw [secateurlaw09_TableStill.l1, if_neg (by omega)]) (last n (by omega))
  | succ m ih =>
    intro n h
    have hn : n < l1.length := by omega
    have hstep := ih (n + 1) (by omega)
    have e : cutL (n + 1) 8 l1 = cutL n 8 l1 ++ [[] ++ l1[n].take ((mn (l1[n].length : Int) 8).toNat)] := by
      unfold cutL
      rw [List.take_succ_eq_append_getElem hn, List.map_append]
      have e2 : mn (l1[n].length : Int) 8 = ((min l1[n].length 8 : Nat) : Int) := mn_len (m := 8)
      rw [e2, Int.toNat_natCast]
      simp [List.take_eq_take_iff]
      omega
    have hlen := cutL_length n 8 l1
    have e2 : mn (l1[n].length : Int) 8 = ((min l1[n].length 8 : Nat) : Int) := mn_len (m := 8)
    rw [e] at hstep
    refine Ev.step (fun k => by rw [secateurlaw09_TableStill.l1, if_pos (by omega), if_pos (by omega), Option.bind_some, if_pos (by omega), rdL_nat l1 n hn, if_pos (by rw [e2]; omega), if_pos (by rw [e2]; omega), if_pos (by simp; omega), if_pos (by omega), w1 (by omega)]) hstep
theorem still_l0 (l0 l1 : List (List Int)) : ∀ (m n : Nat), n + m = min l0.length 20 → Ev (fun k => secateurlaw09_TableStill.l0 k l0 l1 (cutL n 8 l0) [] (n : Int)) true := by
  have last : ∀ n, n = min l0.length 20 → Ev (fun k => secateurlaw09_TableStill.j1 k l1 (cutL n 8 l0) []) true := fun n hn =>
    Ev.step (fun k => by rw [secateurlaw09_TableStill.j1]; rfl) (still_l1 (cutL n 8 l0) l1 (Nat.le_trans (cutL_length n 8 l0) (by omega)) (fun x hx => cutL_in hx) (min l1.length 20) 0 (by omega))
  intro m
  induction m with
  | zero =>
    intro n h
    by_cases hlt : n < l0.length
    · exact Ev.step (fun k => by rw [secateurlaw09_TableStill.l0, if_pos (by omega), if_neg (by omega)]) (last n (by omega))
    · exact Ev.step (fun k => by rw [secateurlaw09_TableStill.l0, if_neg (by omega)]) (last n (by omega))
  | succ m ih =>
    intro n h
    have hn : n < l0.length := by omega
    have hstep := ih (n + 1) (by omega)
    have e : cutL (n + 1) 8 l0 = cutL n 8 l0 ++ [[] ++ l0[n].take ((mn (l0[n].length : Int) 8).toNat)] := by
      unfold cutL
      rw [List.take_succ_eq_append_getElem hn, List.map_append]
      have e2 : mn (l0[n].length : Int) 8 = ((min l0[n].length 8 : Nat) : Int) := mn_len (m := 8)
      rw [e2, Int.toNat_natCast]
      simp [List.take_eq_take_iff]
      omega
    have hlen := cutL_length n 8 l0
    have e2 : mn (l0[n].length : Int) 8 = ((min l0[n].length 8 : Nat) : Int) := mn_len (m := 8)
    rw [e] at hstep
    refine Ev.step (fun k => by rw [secateurlaw09_TableStill.l0, if_pos (by omega), if_pos (by omega), Option.bind_some, if_pos (by omega), rdL_nat l0 n hn, if_pos (by rw [e2]; omega), if_pos (by rw [e2]; omega), if_pos (by simp; omega), if_pos (by omega), w1 (by omega)]) hstep
theorem law_TableStill (A0 : Option Addr) (c0 : Nat) (l0 : List (List Int)) (A1 : Option Addr) (c1 : Nat) (l1 : List (List Int)) (W : World) (hC0 : kInts.C W A0 l0.length l0) (hc0 : l0.length ≤ c0) (ok0 : l0.length ≤ maxLen ∧ ∀ x ∈ l0, x.length ≤ maxLen ∧ ∀ y ∈ x, (Lit.int .i64 y).wf = true) (hC1 : kInts.C W A1 l1.length l1) (hc1 : l1.length ≤ c1) (ok1 : l1.length ≤ maxLen ∧ ∀ x ∈ l1, x.length ≤ maxLen ∧ ∀ y ∈ x, (Lit.int .i64 y).wf = true) :
    Calls Try.prog 8 #[.slice A0 l0.length c0, .slice A1 l1.length c1] W fun e W' => e = .returned (.bool true) ∧ Below W.heap.size W W' := by
  obtain ⟨k, hk⟩ := (still_l0 l0 l1 (min l0.length 20) 0 (by omega)).out
  exact secateurlaw09_TableStill.calls k A0 c0 l0 A1 c1 l1 true W hC0 hc0 hC1 hc1 hk
end Go.Proofs.Ytpbcigilipdedaa.P

/- What a datum of a statement's arguments holds: a number, a text, a row, a struct, whatever is nested: its cells read as a value of the kind. -/
namespace Go.Proofs.Ytpbcigilipdedaa.P
open Go.RowKit Go.ChangeShapes Go.WideShapes Go.Proofs.YtpbcigilipdedaaW.PrintWords
set_option linter.unusedVariables false

/-- Whatever reads as a datum of type t is a value of kind d, of which ok is true. -/
structure Opens {α : Type} (P : Program) (d : Kd α) (ok : α → Prop) (t : TypeId) : Prop where
  out : ∀ {H : Type} (enc : TypeId × Value → H) (w : World) (base : Nat) (sp : Nat → Bool) (held : Bool) (fuel : Nat) (cs : List Value) (x : DataW H × List MemPlace),
    DataW.trod enc P w base sp held fuel t cs = some x → ∃ v : α, d.K w v cs ∧ ok v
theorem Opens.int {P : Program} {t : TypeId} {k : IntKind} (ht : P.underlying t = some (.int k)) : Opens P (Kd.int k) (fun n => (Lit.int k n).wf = true) t := by
  refine ⟨?_⟩
  intro H enc w base sp held fuel cs x h
  obtain ⟨n, rfl, rfl, hw⟩ := DataW.trod_int ht h
  exact ⟨n, rfl, hw⟩
theorem Opens.bool {P : Program} {t : TypeId} (ht : P.underlying t = some .bool) : Opens P Kd.bool (fun _ => True) t := by
  refine ⟨?_⟩
  intro H enc w base sp held fuel cs x h
  obtain ⟨b, rfl, rfl⟩ := DataW.trod_bool ht h
  exact ⟨b, rfl, trivial⟩
theorem Opens.string {P : Program} {t : TypeId} (ht : P.underlying t = some .string) : Opens P Kd.string (fun s => s.size ≤ maxLen) t := by
  refine ⟨?_⟩
  intro H enc w base sp held fuel cs x h
  obtain ⟨s, rfl, rfl, hs⟩ := DataW.trod_string ht h
  exact ⟨s, rfl, hs⟩
theorem Opens.iso {α β : Type} {P : Program} {d : Kd α} {ok : α → Prop} {t : TypeId} (h : Opens P d ok t) (f : β → α) (g : α → β) (hfg : ∀ a, f (g a) = a) : Opens P (Kd.iso d f) (fun b => ok (f b)) t := by
  refine ⟨?_⟩
  intro H enc w base sp held fuel cs x hx
  obtain ⟨v, hK, hok⟩ := h.out enc w base sp held fuel cs x hx
  exact ⟨g v, by show d.K w (f (g v)) cs; rw [hfg]; exact hK, by show ok (f (g v)); rw [hfg]; exact hok⟩
theorem choose_list {α : Type} {n : Nat} {R : Nat → α → Prop} (h : ∀ i, i < n → ∃ a, R i a) : ∃ l : List α, l.length = n ∧ ∀ i (hi : i < l.length), R i l[i] := by
  induction n with
  | zero => exact ⟨[], rfl, fun i hi => absurd hi (by simp)⟩
  | succ n ih =>
    obtain ⟨l, hl, hR⟩ := ih (fun i hi => h i (by omega))
    obtain ⟨a, ha⟩ := h n (by omega)
    refine ⟨l ++ [a], by simp [hl], fun i hi => ?_⟩
    rcases Nat.lt_or_ge i l.length with hlt | hge
    · rw [List.getElem_append_left hlt]
      exact hR i hlt
    · have : i = l.length := by simp at hi; omega
      subst this
      rw [List.getElem_append_right (by omega)]
      simpa [hl] using ha
theorem addr_add (a : Addr) (i j : Nat) : (a.add i).add j = a.add (i + j) := by
  by_cases h : i = 0
  · subst h; simp [Addr.add]
  · by_cases h2 : j = 0
    · subst h2; simp [Addr.add]
    · simp [Addr.add, h, h2, Nat.add_assoc]
theorem Opens.row {α : Type} {P : Program} {d : Kd α} {ok : α → Prop} {t e : TypeId} (ht : P.underlying t = some (.slice e)) (hc : P.cellsOf e = d.sz) (h : Opens P d ok e) :
    Opens P (Kd.slice e d) (fun l => l.length ≤ maxLen ∧ ∀ x ∈ l, ok x) t := by
  refine ⟨?_⟩
  intro H enc w base sp held fuel cs x hx
  rcases Go.Deep.open_slice ht hx with ⟨rfl, rfl⟩ | ⟨a, len, cap, m, n, D, Pl, rfl, hb, hl, hm, hmm, rfl, he⟩
  · exact ⟨[], ⟨none, 0, rfl, Nat.le_refl _, rfl, by simp, fun h => absurd h (by simp)⟩, by simp, fun x hx => by simp at hx⟩
  · have hlm : len ≤ m := by rw [hmm]; split <;> omega
    have each : ∀ i, i < len → ∃ v : α, ok v ∧ ∃ c, c.length = d.sz ∧ d.K w v c ∧ ∀ j u, c[j]? = some u → w.cell? (a.add (i * d.sz + j)) = some u := fun i hi => by
      obtain ⟨cs', h1, h2⟩ := he i (by omega)
      obtain ⟨v, hK, hok⟩ := h.out enc w base sp held n cs' _ h2
      obtain ⟨_, hlen, hcell⟩ := World.cells?_some h1
      rw [hc] at hlen hcell
      refine ⟨v, hok, cs', hlen, hK, fun j u hu => ?_⟩
      have hj : j < d.sz := by rw [← hlen]; exact (List.getElem?_eq_some_iff.1 hu).1
      have := hcell j hj
      rw [hu] at this
      rw [← this, addr_add]
    obtain ⟨l, hll, hR⟩ := choose_list each
    have hmax : cap ≤ 9223372036854775807 := by unfold maxLen at hm; exact hm
    refine ⟨l, ⟨some a, cap, by rw [hll], by omega, rfl, by omega, fun _ => ⟨a, rfl, fun j p hp => ?_⟩⟩, by omega, fun x hx => ?_⟩
    · obtain ⟨hj, rfl⟩ := List.getElem?_eq_some_iff.1 hp
      obtain ⟨_, c, h1, h2, h3⟩ := hR j hj
      exact ⟨c, h1, h2, h3⟩
    · obtain ⟨i, hi, rfl⟩ := List.mem_iff_getElem.1 hx
      exact (hR i hi).1
/-- The fields from an offset on. -/
structure OpensF {α : Type} (P : Program) (d : Kd α) (ok : α → Prop) (fs : List Field) (off : Nat) : Prop where
  out : ∀ {H : Type} (enc : TypeId × Value → H) (w : World) (base : Nat) (sp : Nat → Bool) (held : Bool) (fuel : Nat) (cs : List Value), cs.length = off + d.sz →
    (∀ f ∈ fs, ∃ x, DataW.trod enc P w base sp held fuel f.type ((cs.drop f.offset).take (P.cellsOf f.type)) = some x) → ∃ v : α, d.K w v (cs.drop off) ∧ ok v
theorem OpensF.last {α : Type} {P : Program} {d : Kd α} {ok : α → Prop} {f : Field} {off : Nat} (ho : f.offset = off) (hc : P.cellsOf f.type = d.sz) (h : Opens P d ok f.type) : OpensF P d ok [f] off := by
  refine ⟨?_⟩
  intro H enc w base sp held fuel cs hl hf
  obtain ⟨x, hx⟩ := hf f (by simp)
  rw [ho, hc, List.take_of_length_le (by simp; omega)] at hx
  exact h.out enc w base sp held fuel _ x hx
theorem OpensF.cons {α β : Type} {P : Program} {d : Kd α} {ok : α → Prop} {d' : Kd β} {ok' : β → Prop} {f : Field} {fs : List Field} {off : Nat} (ho : f.offset = off) (hc : P.cellsOf f.type = d.sz) (h : Opens P d ok f.type) (h' : OpensF P d' ok' fs (off + d.sz)) :
    OpensF P (Kd.pair d d') (fun z => ok z.1 ∧ ok' z.2) (f :: fs) off := by
  refine ⟨?_⟩
  intro H enc w base sp held fuel cs hl hf
  have hl' : cs.length = off + (d.sz + d'.sz) := hl
  obtain ⟨x, hx⟩ := hf f (by simp)
  obtain ⟨v, hK, hok⟩ := h.out enc w base sp held fuel _ x hx
  obtain ⟨v', hK', hok'⟩ := h'.out enc w base sp held fuel cs (by omega) (fun g hg => hf g (List.mem_cons_of_mem _ hg))
  rw [ho, hc] at hK
  refine ⟨(v, v'), ⟨(cs.drop off).take d.sz, cs.drop (off + d.sz), ?_, hK, hK'⟩, hok, hok'⟩
  rw [← List.drop_drop, List.take_append_drop]
theorem Opens.struct {α : Type} {P : Program} {d : Kd α} {ok : α → Prop} {t : TypeId} {fs : List Field} (ht : P.underlying t = some (.struct fs.toArray)) (hc : P.cellsOf t = d.sz) (h : OpensF P d ok fs 0) : Opens P d ok t := by
  refine ⟨?_⟩
  intro H enc w base sp held fuel cs x hx
  obtain ⟨xs, n, rfl, rfl, hl, hxl, hf⟩ := DataW.trod_struct ht hx
  have := h.out enc w base sp held n cs (by omega) (fun f hf' => by
    obtain ⟨i, hi, rfl⟩ := List.mem_iff_getElem.1 hf'
    have := hf i fs[i] (by simp [hi])
    rw [List.getElem?_eq_getElem (by simp at hxl; omega)] at this
    exact ⟨_, by simpa using this⟩)
  simpa using this
/-- A slice that is an argument. -/
theorem Opens.arg {α H : Type} {P : Program} {d : Kd α} {ok : List α → Prop} {e t : TypeId} (h : Opens P (Kd.slice e d) ok t) {enc : TypeId × Value → H} {w : World} {base : Nat} {sp : Nat → Bool} {held : Bool} {A : Option Addr} {len cap : Nat} {dt : DataW H} {ps : List MemPlace}
    (hT : DataW.Trod enc P w base sp held t (.slice A len cap) dt ps) : ∃ l : List α, l.length = len ∧ l.length ≤ cap ∧ d.C w A l.length l ∧ ok l := by
  obtain ⟨fuel, hf⟩ := hT
  obtain ⟨l, ⟨A', c, hcs, hl, hC⟩, hok⟩ := h.out enc w base sp held fuel _ _ hf
  simp [Value.cells] at hcs
  obtain ⟨rfl, rfl, rfl⟩ := hcs
  exact ⟨l, rfl, hl, hC, hok⟩
end Go.Proofs.Ytpbcigilipdedaa.P

namespace Go.Proofs.Ytpbcigilipdedaa.tableStill
open Go.ChangeShapes Go.WideShapes Go.ChangeAt Go.RowKit
open Go.ChangeMaps (open_string shut_string)
open Go.Proofs.Ytpbcigilipdedaa.P
open Go.Proofs.YtpbcigilipdedaaW.PrintWords
set_option linter.unusedVariables false
theorem own : ownKnob Try.prog.godebug = none := by kernel_rfl
theorem laidOut : laidOutB Try.prog = true := by kernel_rfl
theorem o_int : Opens Try.prog (Kd.int .i64) (fun n => (Lit.int .i64 n).wf = true) 3 := Opens.int Try.underlying3
theorem o_Lint : Opens Try.prog (Kd.slice 3 (Kd.int .i64)) (fun l => (List.length l ≤ maxLen ∧ ∀ y1_ ∈ l, (Lit.int .i64 y1_).wf = true)) 23 := Opens.row Try.underlying23 (by kernel_rfl) o_int
theorem o_LLint : Opens Try.prog (Kd.slice 23 (Kd.slice 3 (Kd.int .i64))) (fun l => (List.length l ≤ maxLen ∧ ∀ y1_ ∈ l, (List.length y1_ ≤ maxLen ∧ ∀ y2_ ∈ y1_, (Lit.int .i64 y2_).wf = true))) 22 := Opens.row Try.underlying22 (by kernel_rfl) o_Lint
set_option maxRecDepth 100000 in
theorem lifted (os : Os) (started : os.Started) (H : Type) (enc : TypeId × Value → H) :
  ReturnsInHanded {} Try.checked os 8 .any (Rows.tableStillSpec.pre6 enc Try.prog Try.f8 Rows.tableStillRow.domain false) (Rows.tableStillSpec.post enc Try.prog Try.f8 false true false false) := by
 refine returnsInHanded_of_change_sized (C := Try.checked) own started (by kernel_rfl) Try.func8
  (ChangeSpec.witness6 (enc := enc) (C := Try.checked) false ⟨#[], #[.slice none 0 0, .slice none 0 0], []⟩ 8 (by kernel_rfl) (by kernel_rfl) (by kernel_rfl) (by kernel_rfl)) ?_
 intro W base args ds gs before hval0 hW hcnd hsz0 _
 have hval : ∀ (j : Nat) t v, Try.f8.params[j]? = some t → args[j]? = some v → Value.okWide Try.prog W .any base t v := hval0
 have hW' := hW
 obtain ⟨p, q, hA0, hV, rfl, hfz, hnd⟩ := hW
 have hA : DataW.TrodAll enc Try.prog W 0 (fun _ => true) true Try.f8.params.toList args.toList ds p := hA0
 rw [Try.params8] at hA hval
 obtain ⟨v0, vs0, d0, ds0, p0, q0, hargs, rfl, rfl, h0, r0⟩ := trodAll_cons hA
 obtain ⟨v1, vs1, d1, ds1, p1, q1, rfl, rfl, rfl, h1, r1⟩ := trodAll_cons r0
 obtain ⟨rfl, rfl, rfl⟩ := trodAll_nil r1
 obtain rfl : args = #[v0, v1] := by cases args; simp_all
 obtain ⟨rfl, rfl⟩ := trodVars_none hV
 have k0 := h0
 have lt0 : ∀ x ∈ p0, x.block < W.heap.size := by obtain ⟨m, hm⟩ := k0; exact DataW.trod_lt m _ _ _ hm
 obtain ⟨A0, len0, c0, rfl⟩ := okWide_slice Try.underlying22 (hval 0 22 v0 rfl rfl)
 obtain ⟨x0, rfl, hc0, hC0, ok0⟩ := Opens.arg o_LLint h0
 have k1 := h1
 have lt1 : ∀ x ∈ p1, x.block < W.heap.size := by obtain ⟨m, hm⟩ := k1; exact DataW.trod_lt m _ _ _ hm
 obtain ⟨A1, len1, c1, rfl⟩ := okWide_slice Try.underlying22 (hval 1 22 v1 rfl rfl)
 obtain ⟨x1, rfl, hc1, hC1, ok1⟩ := Opens.arg o_LLint h1
 clear hA0 hval0 hsz0
 refine (P.law_TableStill A0 c0 x0 A1 c1 x1 W hC0 hc0 ok0 hC1 hc1 ok1).mono fun e W' ⟨he, bel⟩ => ?_
 subst he
 exact ⟨_, rfl, _, _, _, [], _, [], hW', trodAll_mk1 (shut_bool Try.underlying4 _), (trodAll_cons_mk (Below.trod laidOut (by kernel_rfl) (of_decide_eq_true (by kernel_rfl)) k0 bel lt0) (trodAll_cons_mk (Below.trod laidOut (by kernel_rfl) (of_decide_eq_true (by kernel_rfl)) k1 bel lt1) trodAll_mk0)), rfl, bel.frame _, fun h => by cases h⟩
theorem over : Rows.tableStillRow.holds Try.pinned (OpenSpec.ofChange Rows.tableStillSpec) :=
 OpenClaim.holds_of_wide 8 Try.f8 rfl rfl rfl rfl rfl rfl rfl ⟨rfl, rfl, rfl, rfl, rfl⟩ rfl rfl rfl rfl rfl (by kernel_rfl) Try.func8 (by kernel_rfl)
  (of_decide_eq_true (by kernel_rfl)) (by unfold Func.isWrapper; first | (rw [if_pos (by decide +kernel)]; kernel_rfl) | (rw [if_neg (by decide +kernel)]; exact ⟨rfl, rfl⟩))
  (fun os started H enc _ => lifted os started H enc)
theorem proved : Rows.TableStillSaid := over
end Go.Proofs.Ytpbcigilipdedaa.tableStill
namespace Go.Proofs.Ytpbcigilipdedaa
/-- The row, under a short name, for the claim. -/
theorem tableStill_holds : Rows.TableStillSaid := tableStill.proved
end Go.Proofs.Ytpbcigilipdedaa
