/- Proved: the statement DomOrder. Conditions: none but those of the statement. -/
import Derived.Test.YtklanjkndoikeaaZ1
import Derived.Test.YtklanjkndoikeaaZ3
import Derived.Test.YtklanjkndoikeaaZ2
import Derived.Test.YtklanjkndoikeaaZ4
import Derived.Test.YtklanjkndoikeaaRows
import Derived.WalkKit
import Derived.ProofKit
import Derived.OpenShut
import Derived.ShutString
import Derived.ChangeOld
import Derived.Below
import Derived.SizedLaws
import Derived.Test.YtklanjkndoikeaaWSized

-- Written by wip/tools/px.py out of the translation. Lean checks it.
namespace Go.Proofs.Ytklanjkndoikeaa.P
open Go.RowKit Go.Proofs.YtklanjkndoikeaaW.PrintWords Go.Proofs.YtklanjkndoikeaaW.PrintLast Go.Proofs.YtklanjkndoikeaaW.PrintMore
attribute [local go_sem] max2_int min2_int max_two min_two max_three min_three max_four min_four   -- for this text's walks alone
set_option linter.unusedVariables false
set_option linter.unusedSimpArgs false

/-! ### secateurlaw02_DomOrder: function 7 -/
mutual
def secateurlaw02_DomOrder.j1 : Nat → List Int → List Int → Option (Bool)
 | 0, _, _ => none
 | k + 1, x3, x4 => secateurlaw02_DomOrder.l1 k x3 x4 (wrap64 ((x3.length : Int) - 1))
def secateurlaw02_DomOrder.l1 : Nat → List Int → List Int → Int → Option (Bool)
 | 0, _, _, _ => none
 | k + 1, x3, x4, x6 => if x6 ≥ 0 then (if 0 ≤ x6 then (if x6 < (x3.length : Int) then (if x4.length < 17592186044416 then ((some (x4 ++ [rd x3 x6] : List Int)).bind fun y447 => (if y447.length < 17592186044416 then (secateurlaw02_DomOrder.l1 k x3 (y447 ++ [rd x3 x6]) (wrap64 (x6 - 1))) else (none))) else (none)) else (none)) else (none)) else ((dom_Of.f k x3).bind fun bt454 => ((dom_Of.f k x4).bind fun bt458 => (if bt454.2 = 0 then (if bt458.2 = 0 then ((dom_Same.f k bt454.1 bt458.1).bind fun t462 => (if t462 = true then ((dom_Size.f k bt454.1).bind fun t463 => ((secateurref02_Sorted.f k x3).bind fun t464 => (if t463 = (t464.length : Int) then ((dom_Values.f bt454.1).bind fun t467 => ((secateurref02_Sorted.f k x3).bind fun t470 => ((secateurref02_Nums.f k t467 t470).bind fun t473 => (if t473 = true then ((secateurlaw02_fixed.f k).bind fun t474 => (some t474)) else (none))))) else (none)))) else (none))) else (none)) else (none))))
def secateurlaw02_DomOrder.l0 : Nat → List Int → List Int → List Int → Int → Option (Bool)
 | 0, _, _, _, _ => none
 | k + 1, x0, x3, x4, x5 => if x5 < (x0.length : Int) then (if x5 < 30 then (if 0 ≤ x5 then (if x3.length < 17592186044416 then (secateurlaw02_DomOrder.l0 k x0 (x3 ++ [Int.tmod (rd x0 x5) 1000]) x4 (wrap64 (x5 + 1))) else (none)) else (none)) else (secateurlaw02_DomOrder.j1 k x3 x4)) else (secateurlaw02_DomOrder.j1 k x3 x4)
end
def secateurlaw02_DomOrder.f (k : Nat) (l0 : List Int) : Option (Bool) := secateurlaw02_DomOrder.l0 k l0 (([] : List Int)) (([] : List Int)) 0
theorem secateurlaw02_DomOrder.mono_l : ∀ k, (∀ y0 y1, LeO (secateurlaw02_DomOrder.j1 k y0 y1) (secateurlaw02_DomOrder.j1 (k + 1) y0 y1)) ∧ (∀ y0 y1 y2, LeO (secateurlaw02_DomOrder.l1 k y0 y1 y2) (secateurlaw02_DomOrder.l1 (k + 1) y0 y1 y2)) ∧ (∀ y0 y1 y2 y3, LeO (secateurlaw02_DomOrder.l0 k y0 y1 y2 y3) (secateurlaw02_DomOrder.l0 (k + 1) y0 y1 y2 y3))
 | 0 => ⟨fun _ _ r h => by simp [secateurlaw02_DomOrder.j1] at h, fun _ _ _ r h => by simp [secateurlaw02_DomOrder.l1] at h, fun _ _ _ _ r h => by simp [secateurlaw02_DomOrder.l0] at h⟩
 | k + 1 => by
  obtain ⟨ih0, ih1, ih2⟩ := secateurlaw02_DomOrder.mono_l k
  refine ⟨?_, ?_, ?_⟩
  ·intro y0 y1
   unfold secateurlaw02_DomOrder.j1
   repeat' first
   | (with_reducible exact ih0 _ _)
   | (with_reducible exact ih1 _ _ _)
   | (with_reducible exact ih2 _ _ _ _)
   | (with_reducible exact dom_Of.mono _ _)
   | (with_reducible exact dom_Same.mono _ _ _)
   | (with_reducible exact dom_Size.mono _ _)
   | (with_reducible exact secateurlaw02_fixed.mono _)
   | (with_reducible exact secateurref02_Nums.mono _ _ _)
   | (with_reducible exact secateurref02_Sorted.mono _ _)
   | (with_reducible exact LeO.refl _)
   | (with_reducible exact LeO.none _)
   | (with_reducible refine LeO.ite ?_ ?_)
   | (with_reducible refine LeO.bind ?_ (fun _ => ?_))
   | exact ih0 _ _
   | exact ih1 _ _ _
   | exact ih2 _ _ _ _
   | exact dom_Of.mono _ _
   | exact dom_Same.mono _ _ _
   | exact dom_Size.mono _ _
   | exact secateurlaw02_fixed.mono _
   | exact secateurref02_Nums.mono _ _ _
   | exact secateurref02_Sorted.mono _ _
   | exact LeO.none _
   | refine LeO.ite ?_ ?_
   | refine LeO.bind ?_ (fun _ => ?_)
  ·intro y0 y1 y2
   unfold secateurlaw02_DomOrder.l1
   repeat' first
   | (with_reducible exact ih0 _ _)
   | (with_reducible exact ih1 _ _ _)
   | (with_reducible exact ih2 _ _ _ _)
   | (with_reducible exact dom_Of.mono _ _)
   | (with_reducible exact dom_Same.mono _ _ _)
   | (with_reducible exact dom_Size.mono _ _)
   | (with_reducible exact secateurlaw02_fixed.mono _)
   | (with_reducible exact secateurref02_Nums.mono _ _ _)
   | (with_reducible exact secateurref02_Sorted.mono _ _)
   | (with_reducible exact LeO.refl _)
   | (with_reducible exact LeO.none _)
   | (with_reducible refine LeO.ite ?_ ?_)
   | (with_reducible refine LeO.bind ?_ (fun _ => ?_))
   | exact ih0 _ _
   | exact ih1 _ _ _
   | exact ih2 _ _ _ _
   | exact dom_Of.mono _ _
   | exact dom_Same.mono _ _ _
   | exact dom_Size.mono _ _
   | exact secateurlaw02_fixed.mono _
   | exact secateurref02_Nums.mono _ _ _
   | exact secateurref02_Sorted.mono _ _
   | exact LeO.none _
   | refine LeO.ite ?_ ?_
   | refine LeO.bind ?_ (fun _ => ?_)
  ·intro y0 y1 y2 y3
   unfold secateurlaw02_DomOrder.l0
   repeat' first
   | (with_reducible exact ih0 _ _)
   | (with_reducible exact ih1 _ _ _)
   | (with_reducible exact ih2 _ _ _ _)
   | (with_reducible exact dom_Of.mono _ _)
   | (with_reducible exact dom_Same.mono _ _ _)
   | (with_reducible exact dom_Size.mono _ _)
   | (with_reducible exact secateurlaw02_fixed.mono _)
   | (with_reducible exact secateurref02_Nums.mono _ _ _)
   | (with_reducible exact secateurref02_Sorted.mono _ _)
   | (with_reducible exact LeO.refl _)
   | (with_reducible exact LeO.none _)
   | (with_reducible refine LeO.ite ?_ ?_)
   | (with_reducible refine LeO.bind ?_ (fun _ => ?_))
   | exact ih0 _ _
   | exact ih1 _ _ _
   | exact ih2 _ _ _ _
   | exact dom_Of.mono _ _
   | exact dom_Same.mono _ _ _
   | exact dom_Size.mono _ _
   | exact secateurlaw02_fixed.mono _
   | exact secateurref02_Nums.mono _ _ _
   | exact secateurref02_Sorted.mono _ _
   | exact LeO.none _
   | refine LeO.ite ?_ ?_
   | refine LeO.bind ?_ (fun _ => ?_)
theorem secateurlaw02_DomOrder.mono : ∀ a0 k, LeO (secateurlaw02_DomOrder.f k a0) (secateurlaw02_DomOrder.f (k + 1) a0) := by
 intro a0 k
 obtain ⟨ih0, ih1, ih2⟩ := secateurlaw02_DomOrder.mono_l k
 unfold secateurlaw02_DomOrder.f
 repeat' first
   | (with_reducible exact ih0 _ _)
   | (with_reducible exact ih1 _ _ _)
   | (with_reducible exact ih2 _ _ _ _)
   | (with_reducible exact dom_Of.mono _ _)
   | (with_reducible exact dom_Same.mono _ _ _)
   | (with_reducible exact dom_Size.mono _ _)
   | (with_reducible exact secateurlaw02_fixed.mono _)
   | (with_reducible exact secateurref02_Nums.mono _ _ _)
   | (with_reducible exact secateurref02_Sorted.mono _ _)
   | (with_reducible exact LeO.refl _)
   | (with_reducible exact LeO.none _)
   | (with_reducible refine LeO.ite ?_ ?_)
   | (with_reducible refine LeO.bind ?_ (fun _ => ?_))
   | exact ih0 _ _
   | exact ih1 _ _ _
   | exact ih2 _ _ _ _
   | exact dom_Of.mono _ _
   | exact dom_Same.mono _ _ _
   | exact dom_Size.mono _ _
   | exact secateurlaw02_fixed.mono _
   | exact secateurref02_Nums.mono _ _ _
   | exact secateurref02_Sorted.mono _ _
   | exact LeO.none _
   | refine LeO.ite ?_ ?_
   | refine LeO.bind ?_ (fun _ => ?_)
set_option maxHeartbeats 8000000 in
set_option maxRecDepth 100000 in
theorem secateurlaw02_DomOrder.calls (k : Nat) (A0 : Option Addr) (c0 : Nat) (l0 : List Int) (r : Bool) (w : World) (hr0 : Kd.C (Kd.int .i64) w A0 l0.length l0) (hc0 : l0.length ≤ c0) (h : secateurlaw02_DomOrder.f k l0 = some r) :
  Calls Try.prog 7 #[.slice A0 l0.length c0] w fun e w' => e = .returned (.bool r) ∧ Below w.heap.size w w' := by
 have HR0 := Aside0.mk hr0
 have HC0 := Aside0.mk hc0
 clear hr0 hc0
 have HB := Aside0.mk (Below.refl w.heap.size w)
 have H : (secateurlaw02_DomOrder.l0 k l0 (([] : List Int)) (([] : List Int)) 0) = some r := h
 clear h
 obtain ⟨y436, hy436⟩ : ∃ y_ : List Int, y_ = (([] : List Int)) := ⟨_, rfl⟩
 replace H : (secateurlaw02_DomOrder.l0 k l0 y436 (([] : List Int)) 0) = some r := by first | (rw [hy436]; with_reducible exact H) | (have H2_ := (Option.bind_some _ _).symm.trans H; rw [hy436]; with_reducible exact H2_) | (have H2_ := (Option.bind_some _ _).symm.trans H; with_reducible exact H2_) | with_reducible exact H | (rw [hy436]; exact H) | exact H
 have Ny436 := Aside0.mk hy436
 clear hy436
 obtain ⟨y439, hy439⟩ : ∃ y_ : List Int, y_ = (([] : List Int)) := ⟨_, rfl⟩
 replace H : (secateurlaw02_DomOrder.l0 k l0 y436 y439 0) = some r := by first | (rw [hy439]; with_reducible exact H) | (have H2_ := (Option.bind_some _ _).symm.trans H; rw [hy439]; with_reducible exact H2_) | (have H2_ := (Option.bind_some _ _).symm.trans H; with_reducible exact H2_) | with_reducible exact H | (rw [hy439]; exact H) | exact H
 have Ny439 := Aside0.mk hy439
 clear hy439
 have HC2 := Aside0.mk H
 clear H
 go_enter Try.func7, Try.ntmps7
 go_upto_block 0 with (first | ((with_reducible refine gate_dst (N := 11) rfl ?_); (try (refine gate_guard (by rfl) ?_; dsimp only)); refine Kd.R_lit (Kd.int .i64) _ 3 ?hg (N := 11) ?hd (xs := ([] : List Int)) (inner := []) (ok := fun _ => True) (okp := fun _ => True) ?hr ?hp (fun _ hk => hk) trivial (Below.refl _ _) (Nat.le_refl _) (by simp) ?_; (case hd => rfl); (case hg => rfl); (case hr => first | (go_simp; done) | (go_simp; rfl)); (case hp => exact (Reps.none _ _)); intro v437 w3 ho4 hb hg_ hnew_; clear hg_ hnew_; (first | rw [← Ny436.out] at ho4 | (simp only [Int.reduceToNat] at ho4; rw [← Ny436.out] at ho4)); have n0_ := Aside0.mk (Kd.R_lower ho4 (below_size (by repeat (first | (with_reducible first | exact HB.out | apply below_alloc | apply pw_below_drewN | apply below_drew1) | exact HB.out)))); have n1_ := Aside0.mk (below_step (by repeat (first | (with_reducible first | exact HB.out | apply below_alloc | apply pw_below_drewN | apply below_drew1) | exact HB.out)) hb); clear HB; have HO438 := n0_; have HB := n1_; clear n0_ n1_; clear hb ho4) | ((with_reducible refine gate_dst (N := 12) rfl ?_); (try (refine gate_guard (by rfl) ?_; dsimp only)); refine Kd.R_lit (Kd.int .i64) _ 3 ?hg (N := 12) ?hd (xs := ([] : List Int)) (inner := []) (ok := fun _ => True) (okp := fun _ => True) ?hr ?hp (fun _ hk => hk) trivial (Below.refl _ _) (Nat.le_refl _) (by simp) ?_; (case hd => rfl); (case hg => rfl); (case hr => first | (go_simp; done) | (go_simp; rfl)); (case hp => exact (Reps.none _ _)); intro v440 w5 ho6 hb hg_ hnew_; clear hg_ hnew_; (first | rw [← Ny439.out] at ho6 | (simp only [Int.reduceToNat] at ho6; rw [← Ny439.out] at ho6)); have n0_ := Aside0.mk (Kd.R_elder' (by (with_reducible repeat (first | apply Kd.R_alloc | apply Kd.R_drewN | apply Kd.R_drew)); exact HO438.out) (Kd.R_base ho6) hb); have n1_ := Aside0.mk (Kd.R_lower (Kd.R_new' ho6 (Kd.R_lt (by (with_reducible repeat (first | apply Kd.R_alloc | apply Kd.R_drewN | apply Kd.R_drew)); exact HO438.out))) (below_size (by repeat (first | (with_reducible first | exact HB.out | apply below_alloc | apply pw_below_drewN | apply below_drew1) | exact HB.out)))); have n2_ := Aside0.mk (below_step (by repeat (first | (with_reducible first | exact HB.out | apply below_alloc | apply pw_below_drewN | apply below_drew1) | exact HB.out)) hb); clear HO438; clear HB; have HO438 := n0_; have HO441 := n1_; have HB := n2_; clear n0_ n1_ n2_; clear hb ho6))
 (try simp only [Act.put, List.setIfInBounds_toArray, List.set_cons_zero, List.set_cons_succ])
 go_cut [3] (fun v3 wc => ∃ (kq : Nat) (x3_1 : List Int), Aside0 (secateurlaw02_DomOrder.j1 kq x3_1 y439 = some r) ∧ Aside0 (kq ≤ k) ∧ Aside0 (Kd.R (Kd.int .i64) 3 wc w.heap.size (fun k_ => some k_ ≠ (v440 : Value).ownBlock) v3 x3_1) ∧ Aside0 (Kd.R (Kd.int .i64) 3 wc w.heap.size (fun k_ => some k_ ≠ (v3 : Value).ownBlock) v440 y439) ∧ Aside0 (Below w.heap.size w wc))
 case first =>
  have H := HC2.out
  clear HC2
  have H' := Aside0.mk H
  clear H
  go_wp2
  go_loopg [3, 5] k (fun kq v3 v5 w' => ∃ (x3_1 : List Int) (x5_1 : Int), v5 = .int .i64 x5_1 ∧ Aside0 (secateurlaw02_DomOrder.l0 kq l0 x3_1 y439 x5_1 = some r) ∧ Aside0 (kq ≤ k) ∧ Aside0 (Kd.R (Kd.int .i64) 3 w' w.heap.size (fun k_ => some k_ ≠ (v440 : Value).ownBlock) v3 x3_1) ∧ Aside0 (Kd.R (Kd.int .i64) 3 w' w.heap.size (fun k_ => some k_ ≠ (v3 : Value).ownBlock) v440 y439) ∧ Aside0 (Below w.heap.size w w'))
  case atStart => exact ⟨(y436), (0), (by first | rfl | (simp; done) | (simp [*]; done)), H', ⟨Nat.le_refl _⟩, ⟨by (with_reducible repeat (first | apply Kd.R_alloc | apply Kd.R_drewN | apply Kd.R_drew)); exact Kd.R_mono HO438.out (fun _ hk => hk.2)⟩, ⟨by (with_reducible repeat (first | apply Kd.R_alloc | apply Kd.R_drewN | apply Kd.R_drew)); exact Kd.R_mono HO441.out (fun _ hk => hk.2)⟩, ⟨by repeat (first | (with_reducible first | exact HB.out | apply below_alloc | apply pw_below_drewN | apply below_drew1) | exact HB.out)⟩⟩
  case round =>
   clear H'
   try clear p2
   obtain ⟨x3_1, x5_1, rfl, HA, HK1, HO_3, HO_4, HB⟩ := hrel
   cases gk with
   | zero => exact absurd HA.out (by simp [secateurlaw02_DomOrder.l0])
   | succ k1 =>
    have H := HA.out
    clear HA
    simp only [secateurlaw02_DomOrder.l0] at H
    by_cases c7 : x5_1 < (l0.length : Int)
    ·rw [if_pos c7] at H
     have c7b0 : decide (x5_1 < (l0.length : Int)) = true := decide_eq_true c7
     clear c7
     (first | rw [c7b0] | (simp only [i64_w, i32_w]; rw [c7b0]) | skip)
     by_cases c8 : x5_1 < 30
     ·rw [if_pos c8] at H
      have c8b0 : decide (x5_1 < 30) = true := decide_eq_true c8
      clear c8
      by_cases c9 : 0 ≤ x5_1
      ·rw [if_pos c9] at H
       have c9b0 : decide (0 ≤ x5_1) = true := decide_eq_true c9
       clear c9
       by_cases c10 : x3_1.length < 17592186044416
       ·rw [if_pos c10] at H
        have LMc10 := Aside0.mk c10
        clear c10
        obtain ⟨y443, hy443⟩ : ∃ y_ : List Int, y_ = (x3_1 ++ [Int.tmod (rd l0 x5_1) 1000]) := ⟨_, rfl⟩
        replace H : (secateurlaw02_DomOrder.l0 k1 l0 y443 y439 (wrap64 (x5_1 + 1))) = some r := by first | (rw [hy443]; with_reducible exact H) | (have H2_ := (Option.bind_some _ _).symm.trans H; rw [hy443]; with_reducible exact H2_) | (have H2_ := (Option.bind_some _ _).symm.trans H; with_reducible exact H2_) | with_reducible exact H | (rw [hy443]; exact H) | exact H
        have Ny443 := Aside0.mk hy443
        clear hy443
        have H' := Aside0.mk H
        clear H
        have p442 : 0 ≤ (x5_1 : Int) := of_decide_eq_true (by first | (with_reducible assumption) | assumption)
        have q442 : x5_1 < (l0.length : Int) := of_decide_eq_true (by first | (with_reducible assumption) | assumption)
        obtain ⟨ad442, e442, hx442_0⟩ := Kd.at_int HR0.out x5_1 p442 q442
        cases e442
        replace hx442_0 := (HB.out.cell (World.block_lt_of_cell? w _ hx442_0)).trans hx442_0
        replace p442 := eq_true p442
        replace q442 := eq_true q442
        go_wp2_with (first | ((with_reducible refine gate_builtin (b := .append) (xs := #[.tmp 23, .tmp 29]) rfl ?_); (try (refine gate_guard (by rfl) ?_; dsimp only)); at_builtin; refine Kd.R_append (Kd.int .i64) (w0 := w) w.heap.size rfl (.tmp 23) (.tmp 29) 23 3 (.int .i64 0) 8 rfl Try.underlying23 info3 rfl (by decide) (by omega) u3 x3_1 (Int.tmod (rd l0 x5_1) 1000) [.int .i64 (Int.tmod (rd l0 x5_1) 1000)] (fun k_ => some k_ ≠ (v440 : Value).ownBlock) (fun _ => False) rfl rfl ?aP (fun _ hk => hk.elim) ?aF ?aO ?aB ?aS ?aL ?_; (case aP => exact rfl); (case aB => exact (by repeat (first | (with_reducible first | exact HB.out | apply below_alloc | apply pw_below_drewN | apply below_drew1) | exact HB.out))); (case aF => exact (fun k_ hk => Kd.fresh' (Kd.R_lt (by (with_reducible repeat (first | apply Kd.R_alloc | apply Kd.R_drewN | apply Kd.R_drew)); exact HO_4.out)) k_ hk)); (case aO => exact (by (with_reducible repeat (first | apply Kd.R_alloc | apply Kd.R_drewN | apply Kd.R_drew)); exact HO_3.out)); (case aS => exact (below_size (by repeat (first | (with_reducible first | exact HB.out | apply below_alloc | apply pw_below_drewN | apply below_drew1) | exact HB.out)))); (case aL => have := LMc10.out; omega); intro v444 w11 ho hb hg hat; rw [← Ny443.out] at ho; have n0_ := Aside0.mk (Kd.R_after (ok := (fun _ => True)) (by (with_reducible repeat (first | apply Kd.R_alloc | apply Kd.R_drewN | apply Kd.R_drew)); exact Kd.R_mono HO_4.out (fun _ hk => ⟨trivial, hk⟩)) hg hat); have n1_ := Aside0.mk (hb); have n2_ := Aside0.mk (ho); clear HO_4; clear HB; clear HO_3; have HO_4 := n0_; have HB := n1_; have HO445 := n2_; clear n0_ n1_ n2_; clear ho hb hg hat))
        go_roundg k1
        case measure => have := HK1.out; omega
        case rel => exact ⟨(y443), (wrap64 (x5_1 + 1)), (by first | rfl | (simp; done) | (simp [*]; done)), H', ⟨by have := HK1.out; omega⟩, ⟨by (with_reducible repeat (first | apply Kd.R_alloc | apply Kd.R_drewN | apply Kd.R_drew)); exact HO445.out⟩, ⟨by (with_reducible repeat (first | apply Kd.R_alloc | apply Kd.R_drewN | apply Kd.R_drew)); exact Kd.R_mono HO_4.out (fun _ hk => hk.2)⟩, ⟨by repeat (first | (with_reducible first | exact HB.out | apply below_alloc | apply pw_below_drewN | apply below_drew1) | exact HB.out)⟩⟩
       ·rw [if_neg c10] at H
        exact absurd H (by simp)
      ·rw [if_neg c9] at H
       exact absurd H (by simp)
     ·rw [if_neg c8] at H
      have c8b0 : decide (x5_1 < 30) = false := decide_eq_false c8
      clear c8
      have H' := Aside0.mk H
      clear H
      go_wp2
      go_meet
      case rel => exact ⟨_, (x3_1), H', ⟨by have := HK1.out; first | omega | exact Nat.le_refl _⟩, ⟨by (with_reducible repeat (first | apply Kd.R_alloc | apply Kd.R_drewN | apply Kd.R_drew)); exact HO_3.out⟩, ⟨by (with_reducible repeat (first | apply Kd.R_alloc | apply Kd.R_drewN | apply Kd.R_drew)); exact HO_4.out⟩, ⟨by repeat (first | (with_reducible first | exact HB.out | apply below_alloc | apply pw_below_drewN | apply below_drew1) | exact HB.out)⟩⟩
    ·rw [if_neg c7] at H
     have c7b0 : decide (x5_1 < (l0.length : Int)) = false := decide_eq_false c7
     clear c7
     (first | rw [c7b0] | (simp only [i64_w, i32_w]; rw [c7b0]) | skip)
     have H' := Aside0.mk H
     clear H
     go_wp2
     go_meet
     case rel => exact ⟨_, (x3_1), H', ⟨by have := HK1.out; first | omega | exact Nat.le_refl _⟩, ⟨by (with_reducible repeat (first | apply Kd.R_alloc | apply Kd.R_drewN | apply Kd.R_drew)); exact HO_3.out⟩, ⟨by (with_reducible repeat (first | apply Kd.R_alloc | apply Kd.R_drewN | apply Kd.R_drew)); exact HO_4.out⟩, ⟨by repeat (first | (with_reducible first | exact HB.out | apply below_alloc | apply pw_below_drewN | apply below_drew1) | exact HB.out)⟩⟩
 case rest =>
  clear HC2
  try clear c1
  try clear p2
  try clear p4
  try clear q4
  try clear hx4
  try clear p6
  try clear c7
  try clear c7b0
  try clear c8
  try clear c8b0
  try clear c9
  try clear c9b0
  try clear c10
  try clear hx442_0
  try clear p2
  try clear p442
  try clear q442
  obtain ⟨kq, x3_1, HA, HJ1, HO_3, HO_4, HB⟩ := hcut
  cases kq with
  | zero => exact absurd HA.out (by simp [secateurlaw02_DomOrder.j1])
  | succ kj1 =>
   have H := HA.out
   clear HA
   simp only [secateurlaw02_DomOrder.j1] at H
   have H' := Aside0.mk H
   clear H
   obtain ⟨Ao12, co12, eo12⟩ := Kd.R_slice HO_3.out
   subst eo12
   go_wp2
   go_loopg [4, 6] kj1 (fun kq v4 v6 w' => ∃ (x4_2 : List Int) (x6_2 : Int), v6 = .int .i64 x6_2 ∧ Aside0 (secateurlaw02_DomOrder.l1 kq x3_1 x4_2 x6_2 = some r) ∧ Aside0 (kq ≤ kj1) ∧ Aside0 (Kd.R (Kd.int .i64) 3 w' w.heap.size (fun k_ => some k_ ≠ (v4 : Value).ownBlock) (.slice Ao12 x3_1.length co12) x3_1) ∧ Aside0 (Kd.R (Kd.int .i64) 3 w' w.heap.size (fun k_ => some k_ ≠ ((.slice Ao12 x3_1.length co12) : Value).ownBlock) v4 x4_2) ∧ Aside0 (Below w.heap.size w w'))
   case atStart => exact ⟨(y439), (wrap64 ((x3_1.length : Int) - 1)), (by first | rfl | (simp; done) | (simp [*]; done)), H', ⟨Nat.le_refl _⟩, ⟨by (with_reducible repeat (first | apply Kd.R_alloc | apply Kd.R_drewN | apply Kd.R_drew)); exact HO_3.out⟩, ⟨by (with_reducible repeat (first | apply Kd.R_alloc | apply Kd.R_drewN | apply Kd.R_drew)); exact HO_4.out⟩, ⟨by repeat (first | (with_reducible first | exact HB.out | apply below_alloc | apply pw_below_drewN | apply below_drew1) | exact HB.out)⟩⟩
   case round =>
    clear H'
    try clear c1
    try clear p2
    try clear p4
    try clear q4
    try clear hx4
    try clear p6
    try clear c7
    try clear c7b0
    try clear c8
    try clear c8b0
    try clear c9
    try clear c9b0
    try clear c10
    try clear hx442_0
    try clear p2
    try clear p4
    try clear p442
    try clear p6
    try clear q4
    try clear q442
    obtain ⟨x4_2, x6_2, rfl, HA, HK2, HO_3, HO_4, HB⟩ := hrel
    cases gk with
    | zero => exact absurd HA.out (by simp [secateurlaw02_DomOrder.l1])
    | succ k2 =>
     have H := HA.out
     clear HA
     simp only [secateurlaw02_DomOrder.l1] at H
     by_cases c13 : x6_2 ≥ 0
     ·rw [if_pos c13] at H
      have c13b0 : decide (0 ≤ x6_2) = true := decide_eq_true c13
      clear c13
      by_cases c14 : 0 ≤ x6_2
      ·rw [if_pos c14] at H
       have c14b0 : decide (0 ≤ x6_2) = true := decide_eq_true c14
       clear c14
       by_cases c15 : x6_2 < (x3_1.length : Int)
       ·rw [if_pos c15] at H
        have c15b0 : decide (x6_2 < (x3_1.length : Int)) = true := decide_eq_true c15
        clear c15
        by_cases c16 : x4_2.length < 17592186044416
        ·rw [if_pos c16] at H
         have LMc16 := Aside0.mk c16
         clear c16
         obtain ⟨y447, hy447⟩ : ∃ y_ : List Int, y_ = (x4_2 ++ [rd x3_1 x6_2]) := ⟨_, rfl⟩
         replace H : (if y447.length < 17592186044416 then (secateurlaw02_DomOrder.l1 k2 x3_1 (y447 ++ [rd x3_1 x6_2]) (wrap64 (x6_2 - 1))) else (none)) = some r := by first | (rw [hy447]; with_reducible exact H) | (have H2_ := (Option.bind_some _ _).symm.trans H; rw [hy447]; with_reducible exact H2_) | (have H2_ := (Option.bind_some _ _).symm.trans H; with_reducible exact H2_) | with_reducible exact H | (rw [hy447]; exact H) | exact H
         have Ny447 := Aside0.mk hy447
         clear hy447
         by_cases c17 : y447.length < 17592186044416
         ·rw [if_pos c17] at H
          have LMc17 := Aside0.mk c17
          clear c17
          obtain ⟨y451, hy451⟩ : ∃ y_ : List Int, y_ = (y447 ++ [rd x3_1 x6_2]) := ⟨_, rfl⟩
          replace H : (secateurlaw02_DomOrder.l1 k2 x3_1 y451 (wrap64 (x6_2 - 1))) = some r := by first | (rw [hy451]; with_reducible exact H) | (have H2_ := (Option.bind_some _ _).symm.trans H; rw [hy451]; with_reducible exact H2_) | (have H2_ := (Option.bind_some _ _).symm.trans H; with_reducible exact H2_) | with_reducible exact H | (rw [hy451]; exact H) | exact H
          have Ny451 := Aside0.mk hy451
          clear hy451
          have H' := Aside0.mk H
          clear H
          have p446 : 0 ≤ (x6_2 : Int) := of_decide_eq_true (by first | (with_reducible assumption) | assumption)
          have q446 : x6_2 < (x3_1.length : Int) := of_decide_eq_true (by first | (with_reducible assumption) | assumption)
          obtain ⟨ad446, e446, hx446_0⟩ := Kd.at_int (Kd.R_reads' HO_3.out).2.2 x6_2 p446 q446
          cases e446
          replace p446 := eq_true p446
          replace q446 := eq_true q446
          go_wp2_with (first | ((with_reducible refine gate_builtin (b := .append) (xs := #[.tmp 38, .tmp 43]) rfl ?_); (try (refine gate_guard (by rfl) ?_; dsimp only)); at_builtin; refine Kd.R_append (Kd.int .i64) (w0 := w) w.heap.size rfl (.tmp 38) (.tmp 43) 23 3 (.int .i64 0) 8 rfl Try.underlying23 info3 rfl (by decide) (by omega) u4 x4_2 (rd x3_1 x6_2) [.int .i64 (rd x3_1 x6_2)] (fun k_ => some k_ ≠ (.slice (some ad446) x3_1.length co12 : Value).ownBlock) (fun _ => False) rfl rfl ?aP (fun _ hk => hk.elim) ?aF ?aO ?aB ?aS ?aL ?_; (case aP => exact rfl); (case aB => exact (by repeat (first | (with_reducible first | exact HB.out | apply below_alloc | apply pw_below_drewN | apply below_drew1) | exact HB.out))); (case aF => exact (fun k_ hk => Kd.fresh' (Kd.R_lt (by (with_reducible repeat (first | apply Kd.R_alloc | apply Kd.R_drewN | apply Kd.R_drew)); exact HO_3.out)) k_ hk)); (case aO => exact (by (with_reducible repeat (first | apply Kd.R_alloc | apply Kd.R_drewN | apply Kd.R_drew)); exact HO_4.out)); (case aS => exact (below_size (by repeat (first | (with_reducible first | exact HB.out | apply below_alloc | apply pw_below_drewN | apply below_drew1) | exact HB.out)))); (case aL => have := LMc16.out; omega); intro v448 w18 ho hb hg hat; rw [← Ny447.out] at ho; have n0_ := Aside0.mk (Kd.R_after (ok := (fun _ => True)) (by (with_reducible repeat (first | apply Kd.R_alloc | apply Kd.R_drewN | apply Kd.R_drew)); exact Kd.R_mono HO_3.out (fun _ hk => ⟨trivial, hk⟩)) hg hat); have n1_ := Aside0.mk (hb); have n2_ := Aside0.mk (ho); clear HO_3; clear HB; clear HO_4; have HO_3 := n0_; have HB := n1_; have HO449 := n2_; clear n0_ n1_ n2_; clear ho hb hg hat; have p450 : 0 ≤ (x6_2 : Int) := of_decide_eq_true (by first | (with_reducible assumption) | assumption); have q450 : x6_2 < (x3_1.length : Int) := of_decide_eq_true (by first | (with_reducible assumption) | assumption); obtain ⟨ad450, e450, hx450_0⟩ := Kd.at_int (Kd.R_reads' HO_3.out).2.2 x6_2 p450 q450; obtain rfl : ad446 = ad450 := (by injection e450); replace p450 := eq_true p450; replace q450 := eq_true q450) | ((with_reducible refine gate_builtin (b := .append) (xs := #[.tmp 45, .tmp 50]) rfl ?_); (try (refine gate_guard (by rfl) ?_; dsimp only)); at_builtin; refine Kd.R_append (Kd.int .i64) (w0 := w) w.heap.size rfl (.tmp 45) (.tmp 50) 23 3 (.int .i64 0) 8 rfl Try.underlying23 info3 rfl (by decide) (by omega) v448 y447 (rd x3_1 x6_2) [.int .i64 (rd x3_1 x6_2)] (fun k_ => some k_ ≠ (.slice (some ad446) x3_1.length co12 : Value).ownBlock) (fun _ => False) rfl rfl ?aP (fun _ hk => hk.elim) ?aF ?aO ?aB ?aS ?aL ?_; (case aP => exact rfl); (case aB => exact (by repeat (first | (with_reducible first | exact HB.out | apply below_alloc | apply pw_below_drewN | apply below_drew1) | exact HB.out))); (case aF => exact (fun k_ hk => Kd.fresh' (Kd.R_lt (by (with_reducible repeat (first | apply Kd.R_alloc | apply Kd.R_drewN | apply Kd.R_drew)); exact HO_3.out)) k_ hk)); (case aO => exact (by (with_reducible repeat (first | apply Kd.R_alloc | apply Kd.R_drewN | apply Kd.R_drew)); exact HO449.out)); (case aS => exact (below_size (by repeat (first | (with_reducible first | exact HB.out | apply below_alloc | apply pw_below_drewN | apply below_drew1) | exact HB.out)))); (case aL => have := LMc17.out; omega); intro v452 w19 ho hb hg hat; rw [← Ny451.out] at ho; have n0_ := Aside0.mk (Kd.R_after (ok := (fun _ => True)) (by (with_reducible repeat (first | apply Kd.R_alloc | apply Kd.R_drewN | apply Kd.R_drew)); exact HO_3.out) hg hat); have n1_ := Aside0.mk (hb); have n2_ := Aside0.mk (ho); clear HO_3; clear HB; clear HO449; have HO_3 := n0_; have HB := n1_; have HO453 := n2_; clear n0_ n1_ n2_; clear ho hb hg hat))
          go_roundg k2
          case measure => have := HJ1.out; have := HK2.out; omega
          case rel => exact ⟨(y451), (wrap64 (x6_2 - 1)), (by first | rfl | (simp; done) | (simp [*]; done)), H', ⟨by have := HJ1.out; have := HK2.out; omega⟩, ⟨by (with_reducible repeat (first | apply Kd.R_alloc | apply Kd.R_drewN | apply Kd.R_drew)); exact Kd.R_mono HO_3.out (fun _ hk => hk.2)⟩, ⟨by (with_reducible repeat (first | apply Kd.R_alloc | apply Kd.R_drewN | apply Kd.R_drew)); exact HO453.out⟩, ⟨by repeat (first | (with_reducible first | exact HB.out | apply below_alloc | apply pw_below_drewN | apply below_drew1) | exact HB.out)⟩⟩
         ·rw [if_neg c17] at H
          exact absurd H (by simp)
        ·rw [if_neg c16] at H
         exact absurd H (by simp)
       ·rw [if_neg c15] at H
        exact absurd H (by simp)
      ·rw [if_neg c14] at H
       exact absurd H (by simp)
     ·rw [if_neg c13] at H
      have c13b0 : decide (0 ≤ x6_2) = false := decide_eq_false c13
      clear c13
      replace H := Option.bind_eq_some_iff.mp H
      obtain ⟨⟨t454, t455⟩, A200, H⟩ := H
      replace H : ((dom_Of.f k2 x4_2).bind fun bt458 => (if t455 = 0 then (if bt458.2 = 0 then ((dom_Same.f k2 t454 bt458.1).bind fun t462 => (if t462 = true then ((dom_Size.f k2 t454).bind fun t463 => ((secateurref02_Sorted.f k2 x3_1).bind fun t464 => (if t463 = (t464.length : Int) then ((dom_Values.f t454).bind fun t467 => ((secateurref02_Sorted.f k2 x3_1).bind fun t470 => ((secateurref02_Nums.f k2 t467 t470).bind fun t473 => (if t473 = true then ((secateurlaw02_fixed.f k2).bind fun t474 => (some t474)) else (none))))) else (none)))) else (none))) else (none)) else (none))) = some r := H
      have A20 := Aside0.mk A200
      clear A200
      replace H := Option.bind_eq_some_iff.mp H
      obtain ⟨⟨t458, t459⟩, A210, H⟩ := H
      replace H : (if t455 = 0 then (if t459 = 0 then ((dom_Same.f k2 t454 t458).bind fun t462 => (if t462 = true then ((dom_Size.f k2 t454).bind fun t463 => ((secateurref02_Sorted.f k2 x3_1).bind fun t464 => (if t463 = (t464.length : Int) then ((dom_Values.f t454).bind fun t467 => ((secateurref02_Sorted.f k2 x3_1).bind fun t470 => ((secateurref02_Nums.f k2 t467 t470).bind fun t473 => (if t473 = true then ((secateurlaw02_fixed.f k2).bind fun t474 => (some t474)) else (none))))) else (none)))) else (none))) else (none)) else (none)) = some r := H
      have A21 := Aside0.mk A210
      clear A210
      by_cases c22 : t455 = 0
      ·rw [if_pos c22] at H
       have c22b0 : (t455 == 0) = true := beq_iff_eq.mpr c22
       have c22b1 : (t455 != 0) = false := bne_eq_false_iff_eq.mpr c22
       clear c22
       by_cases c23 : t459 = 0
       ·rw [if_pos c23] at H
        have c23b0 : (t459 == 0) = true := beq_iff_eq.mpr c23
        have c23b1 : (t459 != 0) = false := bne_eq_false_iff_eq.mpr c23
        clear c23
        replace H := Option.bind_eq_some_iff.mp H
        obtain ⟨t462, A240, H⟩ := H
        replace H : (if t462 = true then ((dom_Size.f k2 t454).bind fun t463 => ((secateurref02_Sorted.f k2 x3_1).bind fun t464 => (if t463 = (t464.length : Int) then ((dom_Values.f t454).bind fun t467 => ((secateurref02_Sorted.f k2 x3_1).bind fun t470 => ((secateurref02_Nums.f k2 t467 t470).bind fun t473 => (if t473 = true then ((secateurlaw02_fixed.f k2).bind fun t474 => (some t474)) else (none))))) else (none)))) else (none)) = some r := H
        have A24 := Aside0.mk A240
        clear A240
        by_cases c25 : t462 = true
        ·subst c25
         have H1 : ((dom_Size.f k2 t454).bind fun t463 => ((secateurref02_Sorted.f k2 x3_1).bind fun t464 => (if t463 = (t464.length : Int) then ((dom_Values.f t454).bind fun t467 => ((secateurref02_Sorted.f k2 x3_1).bind fun t470 => ((secateurref02_Nums.f k2 t467 t470).bind fun t473 => (if t473 = true then ((secateurlaw02_fixed.f k2).bind fun t474 => (some t474)) else (none))))) else (none)))) = some r := by rw [if_pos rfl] at H; exact H
         clear H
         have H := H1
         clear H1
         replace H := Option.bind_eq_some_iff.mp H
         obtain ⟨t463, A260, H⟩ := H
         replace H : ((secateurref02_Sorted.f k2 x3_1).bind fun t464 => (if t463 = (t464.length : Int) then ((dom_Values.f t454).bind fun t467 => ((secateurref02_Sorted.f k2 x3_1).bind fun t470 => ((secateurref02_Nums.f k2 t467 t470).bind fun t473 => (if t473 = true then ((secateurlaw02_fixed.f k2).bind fun t474 => (some t474)) else (none))))) else (none))) = some r := H
         have A26 := Aside0.mk A260
         clear A260
         replace H := Option.bind_eq_some_iff.mp H
         obtain ⟨t464, A270, H⟩ := H
         replace H : (if t463 = (t464.length : Int) then ((dom_Values.f t454).bind fun t467 => ((secateurref02_Sorted.f k2 x3_1).bind fun t470 => ((secateurref02_Nums.f k2 t467 t470).bind fun t473 => (if t473 = true then ((secateurlaw02_fixed.f k2).bind fun t474 => (some t474)) else (none))))) else (none)) = some r := H
         have A27 := Aside0.mk A270
         clear A270
         by_cases c28 : t463 = (t464.length : Int)
         ·rw [if_pos c28] at H
          have c28b0 : (t463 == (t464.length : Int)) = true := beq_iff_eq.mpr c28
          have c28b1 : (t463 != (t464.length : Int)) = false := bne_eq_false_iff_eq.mpr c28
          clear c28
          replace H := Option.bind_eq_some_iff.mp H
          obtain ⟨t467, A290, H⟩ := H
          replace H : ((secateurref02_Sorted.f k2 x3_1).bind fun t470 => ((secateurref02_Nums.f k2 t467 t470).bind fun t473 => (if t473 = true then ((secateurlaw02_fixed.f k2).bind fun t474 => (some t474)) else (none)))) = some r := H
          have A29 := Aside0.mk A290
          clear A290
          replace H := Option.bind_eq_some_iff.mp H
          obtain ⟨t470, A300, H⟩ := H
          replace H : ((secateurref02_Nums.f k2 t467 t470).bind fun t473 => (if t473 = true then ((secateurlaw02_fixed.f k2).bind fun t474 => (some t474)) else (none))) = some r := H
          have A30 := Aside0.mk A300
          clear A300
          replace H := Option.bind_eq_some_iff.mp H
          obtain ⟨t473, A310, H⟩ := H
          replace H : (if t473 = true then ((secateurlaw02_fixed.f k2).bind fun t474 => (some t474)) else (none)) = some r := H
          have A31 := Aside0.mk A310
          clear A310
          by_cases c32 : t473 = true
          ·subst c32
           have H1 : ((secateurlaw02_fixed.f k2).bind fun t474 => (some t474)) = some r := by rw [if_pos rfl] at H; exact H
           clear H
           have H := H1
           clear H1
           replace H := Option.bind_eq_some_iff.mp H
           obtain ⟨t474, A330, H⟩ := H
           replace H : (some t474) = some r := H
           have A33 := Aside0.mk A330
           clear A330
           obtain rfl := Option.some.inj H
           go_wp2_with (first | ((with_reducible refine gate_callee (f := 13) rfl ?_); refine goesL_ (some 54) rfl rfl Try.func13 (by kernel_rfl) rfl #[.slice Ao12 x3_1.length co12] rfl (by (try simp only [List.map_toArray, List.map_cons, List.map_nil]); first | done | rfl | (simp only [List.length_drop, List.length_take]; rfl)) ?_; (with_reducible refine (dom_Of.calls k2 _ _ x3_1 t454 t455 _ ?side1 ?side2 A20.out).mono ?_); (case side1 => repeat (first | exact (Kd.R_reads' HO_3.out).2.2 | (with_reducible refine Kd.C_alloc ?_ _) | (with_reducible refine Kd.C_drewN ?_ _) | (with_reducible refine Kd.C_drew ?_))); (case side2 => exact (Kd.R_reads' HO_3.out).2.1); rintro e w34 ⟨v456, rfl, ho0, hb⟩; refine ⟨_, rfl, ?_⟩; have n0_ := Aside0.mk (Kd.R_below (by (with_reducible repeat (first | apply Kd.R_alloc | apply Kd.R_drewN | apply Kd.R_drew)); exact HO_3.out) hb); have n1_ := Aside0.mk (Kd.R_below (by (with_reducible repeat (first | apply Kd.R_alloc | apply Kd.R_drewN | apply Kd.R_drew)); exact HO_4.out) hb); have n2_ := Aside0.mk (Kd.R_lower ho0 (below_size (by repeat (first | (with_reducible first | exact HB.out | apply below_alloc | apply pw_below_drewN | apply below_drew1) | exact HB.out)))); have n3_ := Aside0.mk (below_step (by repeat (first | (with_reducible first | exact HB.out | apply below_alloc | apply pw_below_drewN | apply below_drew1) | exact HB.out)) hb); clear HO_3; clear HO_4; clear HB; have HO_3 := n0_; have HO_4 := n1_; have HO457 := n2_; have HB := n3_; clear n0_ n1_ n2_ n3_; (try clear hb); (try clear hb2); (try clear hk); (try clear hi); (try clear ho0); obtain ⟨Ao35, co35, eo35⟩ := Kd.R_slice HO_4.out; subst eo35) | ((with_reducible refine gate_callee (f := 13) rfl ?_); refine goesL_ (some 59) rfl rfl Try.func13 (by kernel_rfl) rfl #[.slice Ao35 x4_2.length co35] rfl (by (try simp only [List.map_toArray, List.map_cons, List.map_nil]); first | done | rfl | (simp only [List.length_drop, List.length_take]; rfl)) ?_; (with_reducible refine (dom_Of.calls k2 _ _ x4_2 t458 t459 _ ?side1 ?side2 A21.out).mono ?_); (case side1 => repeat (first | exact (Kd.R_reads' HO_4.out).2.2 | (with_reducible refine Kd.C_alloc ?_ _) | (with_reducible refine Kd.C_drewN ?_ _) | (with_reducible refine Kd.C_drew ?_))); (case side2 => exact (Kd.R_reads' HO_4.out).2.1); rintro e w36 ⟨v460, rfl, ho0, hb⟩; refine ⟨_, rfl, ?_⟩; have n0_ := Aside0.mk (Kd.R_below (by (with_reducible repeat (first | apply Kd.R_alloc | apply Kd.R_drewN | apply Kd.R_drew)); exact HO_3.out) hb); have n1_ := Aside0.mk (Kd.R_below (by (with_reducible repeat (first | apply Kd.R_alloc | apply Kd.R_drewN | apply Kd.R_drew)); exact HO_4.out) hb); have n2_ := Aside0.mk (Kd.R_elder' (by (with_reducible repeat (first | apply Kd.R_alloc | apply Kd.R_drewN | apply Kd.R_drew)); exact HO457.out) (Kd.R_base ho0) hb); have n3_ := Aside0.mk (Kd.R_lower (Kd.R_new' ho0 (Kd.R_lt (by (with_reducible repeat (first | apply Kd.R_alloc | apply Kd.R_drewN | apply Kd.R_drew)); exact HO457.out))) (below_size (by repeat (first | (with_reducible first | exact HB.out | apply below_alloc | apply pw_below_drewN | apply below_drew1) | exact HB.out)))); have n4_ := Aside0.mk (below_step (by repeat (first | (with_reducible first | exact HB.out | apply below_alloc | apply pw_below_drewN | apply below_drew1) | exact HB.out)) hb); clear HO_3; clear HO_4; clear HO457; clear HB; have HO_3 := n0_; have HO_4 := n1_; have HO457 := n2_; have HO461 := n3_; have HB := n4_; clear n0_ n1_ n2_ n3_ n4_; (try clear hb); (try clear hb2); (try clear hk); (try clear hi); (try clear ho0); obtain ⟨Ao37, co37, eo37⟩ := Kd.R_slice HO457.out; subst eo37; obtain ⟨Ao38, co38, eo38⟩ := Kd.R_slice HO461.out; subst eo38) | (go_at_call 35; (with_reducible refine (dom_Same.calls k2 _ _ t454 _ _ t458 true _ ?side1 ?side2 ?side3 ?side4 A24.out).mono ?_); (case side1 => repeat (first | exact (Kd.R_reads' HO457.out).2.2 | (with_reducible refine Kd.C_alloc ?_ _) | (with_reducible refine Kd.C_drewN ?_ _) | (with_reducible refine Kd.C_drew ?_))); (case side2 => exact (Kd.R_reads' HO457.out).2.1); (case side3 => repeat (first | exact (Kd.R_reads' HO461.out).2.2 | (with_reducible refine Kd.C_alloc ?_ _) | (with_reducible refine Kd.C_drewN ?_ _) | (with_reducible refine Kd.C_drew ?_))); (case side4 => exact (Kd.R_reads' HO461.out).2.1); rintro e w' ⟨rfl, ⟨nd, rfl⟩⟩) | (go_at_call 28; (with_reducible refine (dom_Size.calls k2 _ _ t454 t463 _ ?side1 ?side2 A26.out).mono ?_); (case side1 => repeat (first | exact (Kd.R_reads' HO457.out).2.2 | (with_reducible refine Kd.C_alloc ?_ _) | (with_reducible refine Kd.C_drewN ?_ _) | (with_reducible refine Kd.C_drew ?_))); (case side2 => exact (Kd.R_reads' HO457.out).2.1); rintro e w39 ⟨rfl, hb⟩; have n0_ := Aside0.mk (Kd.R_below (by (with_reducible repeat (first | apply Kd.R_alloc | apply Kd.R_drewN | apply Kd.R_drew)); exact HO_3.out) hb); have n1_ := Aside0.mk (Kd.R_below (by (with_reducible repeat (first | apply Kd.R_alloc | apply Kd.R_drewN | apply Kd.R_drew)); exact HO_4.out) hb); have n2_ := Aside0.mk (Kd.R_below (by (with_reducible repeat (first | apply Kd.R_alloc | apply Kd.R_drewN | apply Kd.R_drew)); exact HO457.out) hb); have n3_ := Aside0.mk (Kd.R_below (by (with_reducible repeat (first | apply Kd.R_alloc | apply Kd.R_drewN | apply Kd.R_drew)); exact HO461.out) hb); have n4_ := Aside0.mk (below_step (by repeat (first | (with_reducible first | exact HB.out | apply below_alloc | apply pw_below_drewN | apply below_drew1) | exact HB.out)) hb); clear HO_3; clear HO_4; clear HO457; clear HO461; clear HB; have HO_3 := n0_; have HO_4 := n1_; have HO457 := n2_; have HO461 := n3_; have HB := n4_; clear n0_ n1_ n2_ n3_ n4_; (try clear hb); (try clear hb2); (try clear hk); (try clear hi)) | (go_at_call 36; (with_reducible refine (secateurref02_Sorted.calls k2 _ _ x3_1 t470 _ ?side1 ?side2 A30.out).mono ?_); (case side1 => repeat (first | exact (Kd.R_reads' HO_3.out).2.2 | (with_reducible refine Kd.C_alloc ?_ _) | (with_reducible refine Kd.C_drewN ?_ _) | (with_reducible refine Kd.C_drew ?_))); (case side2 => exact (Kd.R_reads' HO_3.out).2.1); rintro e w43 ⟨v471, rfl, ho0, hb⟩; have n0_ := Aside0.mk (Kd.R_elder' (by (with_reducible repeat (first | apply Kd.R_alloc | apply Kd.R_drewN | apply Kd.R_drew)); exact HO_3.out) (Kd.R_base ho0) hb); have n1_ := Aside0.mk (Kd.R_elder' (by (with_reducible repeat (first | apply Kd.R_alloc | apply Kd.R_drewN | apply Kd.R_drew)); exact HO_4.out) (Kd.R_base ho0) hb); have n2_ := Aside0.mk (Kd.R_below (by (with_reducible repeat (first | apply Kd.R_alloc | apply Kd.R_drewN | apply Kd.R_drew)); exact HO457.out) hb); have n3_ := Aside0.mk (Kd.R_below (by (with_reducible repeat (first | apply Kd.R_alloc | apply Kd.R_drewN | apply Kd.R_drew)); exact HO461.out) hb); have n4_ := Aside0.mk (Kd.R_elder' (by (with_reducible repeat (first | apply Kd.R_alloc | apply Kd.R_drewN | apply Kd.R_drew)); exact HO466.out) (Kd.R_base ho0) hb); have n5_ := Aside0.mk (Kd.R_elder' (by (with_reducible repeat (first | apply Kd.R_alloc | apply Kd.R_drewN | apply Kd.R_drew)); exact HO469.out) (Kd.R_base ho0) hb); have n6_ := Aside0.mk (Kd.R_lower (Kd.R_new' (Kd.R_new' (Kd.R_new' (Kd.R_new' ho0 (Kd.R_lt (by (with_reducible repeat (first | apply Kd.R_alloc | apply Kd.R_drewN | apply Kd.R_drew)); exact HO_3.out))) (Kd.R_lt (by (with_reducible repeat (first | apply Kd.R_alloc | apply Kd.R_drewN | apply Kd.R_drew)); exact HO_4.out))) (Kd.R_lt (by (with_reducible repeat (first | apply Kd.R_alloc | apply Kd.R_drewN | apply Kd.R_drew)); exact HO466.out))) (Kd.R_lt (by (with_reducible repeat (first | apply Kd.R_alloc | apply Kd.R_drewN | apply Kd.R_drew)); exact HO469.out))) (below_size (by repeat (first | (with_reducible first | exact HB.out | apply below_alloc | apply pw_below_drewN | apply below_drew1) | exact HB.out)))); have n7_ := Aside0.mk (below_step (by repeat (first | (with_reducible first | exact HB.out | apply below_alloc | apply pw_below_drewN | apply below_drew1) | exact HB.out)) hb); clear HO_3; clear HO_4; clear HO457; clear HO461; clear HO466; clear HO469; clear HB; have HO_3 := n0_; have HO_4 := n1_; have HO457 := n2_; have HO461 := n3_; have HO466 := n4_; have HO469 := n5_; have HO472 := n6_; have HB := n7_; clear n0_ n1_ n2_ n3_ n4_ n5_ n6_ n7_; (try clear hb); (try clear hb2); (try clear hk); (try clear hi); (try clear ho0); obtain ⟨Ao44, co44, eo44⟩ := Kd.R_slice HO469.out; subst eo44; obtain ⟨Ao45, co45, eo45⟩ := Kd.R_slice HO472.out; subst eo45) | (go_at_call 36; (with_reducible refine (secateurref02_Sorted.calls k2 _ _ x3_1 t464 _ ?side1 ?side2 A27.out).mono ?_); (case side1 => repeat (first | exact (Kd.R_reads' HO_3.out).2.2 | (with_reducible refine Kd.C_alloc ?_ _) | (with_reducible refine Kd.C_drewN ?_ _) | (with_reducible refine Kd.C_drew ?_))); (case side2 => exact (Kd.R_reads' HO_3.out).2.1); rintro e w40 ⟨v465, rfl, ho0, hb⟩; have n0_ := Aside0.mk (Kd.R_elder' (by (with_reducible repeat (first | apply Kd.R_alloc | apply Kd.R_drewN | apply Kd.R_drew)); exact HO_3.out) (Kd.R_base ho0) hb); have n1_ := Aside0.mk (Kd.R_elder' (by (with_reducible repeat (first | apply Kd.R_alloc | apply Kd.R_drewN | apply Kd.R_drew)); exact HO_4.out) (Kd.R_base ho0) hb); have n2_ := Aside0.mk (Kd.R_below (by (with_reducible repeat (first | apply Kd.R_alloc | apply Kd.R_drewN | apply Kd.R_drew)); exact HO457.out) hb); have n3_ := Aside0.mk (Kd.R_below (by (with_reducible repeat (first | apply Kd.R_alloc | apply Kd.R_drewN | apply Kd.R_drew)); exact HO461.out) hb); have n4_ := Aside0.mk (Kd.R_lower (Kd.R_new' (Kd.R_new' ho0 (Kd.R_lt (by (with_reducible repeat (first | apply Kd.R_alloc | apply Kd.R_drewN | apply Kd.R_drew)); exact HO_3.out))) (Kd.R_lt (by (with_reducible repeat (first | apply Kd.R_alloc | apply Kd.R_drewN | apply Kd.R_drew)); exact HO_4.out))) (below_size (by repeat (first | (with_reducible first | exact HB.out | apply below_alloc | apply pw_below_drewN | apply below_drew1) | exact HB.out)))); have n5_ := Aside0.mk (below_step (by repeat (first | (with_reducible first | exact HB.out | apply below_alloc | apply pw_below_drewN | apply below_drew1) | exact HB.out)) hb); clear HO_3; clear HO_4; clear HO457; clear HO461; clear HB; have HO_3 := n0_; have HO_4 := n1_; have HO457 := n2_; have HO461 := n3_; have HO466 := n4_; have HB := n5_; clear n0_ n1_ n2_ n3_ n4_ n5_; (try clear hb); (try clear hb2); (try clear hk); (try clear hi); (try clear ho0); obtain ⟨Ao41, co41, eo41⟩ := Kd.R_slice HO466.out; subst eo41) | (go_at_call 29; (with_reducible refine (dom_Values.calls _ _ t454 t467 _ ?side1 ?side2 A29.out).mono ?_); (case side1 => repeat (first | exact (Kd.R_reads' HO457.out).2.2 | (with_reducible refine Kd.C_alloc ?_ _) | (with_reducible refine Kd.C_drewN ?_ _) | (with_reducible refine Kd.C_drew ?_))); (case side2 => exact (Kd.R_reads' HO457.out).2.1); rintro e w42 ⟨v468, rfl, ho0, hb⟩; have n0_ := Aside0.mk (Kd.R_elder' (by (with_reducible repeat (first | apply Kd.R_alloc | apply Kd.R_drewN | apply Kd.R_drew)); exact HO_3.out) (Kd.R_base ho0) hb); have n1_ := Aside0.mk (Kd.R_elder' (by (with_reducible repeat (first | apply Kd.R_alloc | apply Kd.R_drewN | apply Kd.R_drew)); exact HO_4.out) (Kd.R_base ho0) hb); have n2_ := Aside0.mk (Kd.R_below (by (with_reducible repeat (first | apply Kd.R_alloc | apply Kd.R_drewN | apply Kd.R_drew)); exact HO457.out) hb); have n3_ := Aside0.mk (Kd.R_below (by (with_reducible repeat (first | apply Kd.R_alloc | apply Kd.R_drewN | apply Kd.R_drew)); exact HO461.out) hb); have n4_ := Aside0.mk (Kd.R_elder' (by (with_reducible repeat (first | apply Kd.R_alloc | apply Kd.R_drewN | apply Kd.R_drew)); exact HO466.out) (Kd.R_base ho0) hb); have n5_ := Aside0.mk (Kd.R_lower (Kd.R_new' (Kd.R_new' (Kd.R_new' ho0 (Kd.R_lt (by (with_reducible repeat (first | apply Kd.R_alloc | apply Kd.R_drewN | apply Kd.R_drew)); exact HO_3.out))) (Kd.R_lt (by (with_reducible repeat (first | apply Kd.R_alloc | apply Kd.R_drewN | apply Kd.R_drew)); exact HO_4.out))) (Kd.R_lt (by (with_reducible repeat (first | apply Kd.R_alloc | apply Kd.R_drewN | apply Kd.R_drew)); exact HO466.out))) (below_size (by repeat (first | (with_reducible first | exact HB.out | apply below_alloc | apply pw_below_drewN | apply below_drew1) | exact HB.out)))); have n6_ := Aside0.mk (below_step (by repeat (first | (with_reducible first | exact HB.out | apply below_alloc | apply pw_below_drewN | apply below_drew1) | exact HB.out)) hb); clear HO_3; clear HO_4; clear HO457; clear HO461; clear HO466; clear HB; have HO_3 := n0_; have HO_4 := n1_; have HO457 := n2_; have HO461 := n3_; have HO466 := n4_; have HO469 := n5_; have HB := n6_; clear n0_ n1_ n2_ n3_ n4_ n5_ n6_; (try clear hb); (try clear hb2); (try clear hk); (try clear hi); (try clear ho0)) | (go_at_call 18; (with_reducible refine (secateurref02_Nums.calls k2 _ _ t467 _ _ t470 true _ ?side1 ?side2 ?side3 ?side4 A31.out).mono ?_); (case side1 => repeat (first | exact (Kd.R_reads' HO469.out).2.2 | (with_reducible refine Kd.C_alloc ?_ _) | (with_reducible refine Kd.C_drewN ?_ _) | (with_reducible refine Kd.C_drew ?_))); (case side2 => exact (Kd.R_reads' HO469.out).2.1); (case side3 => repeat (first | exact (Kd.R_reads' HO472.out).2.2 | (with_reducible refine Kd.C_alloc ?_ _) | (with_reducible refine Kd.C_drewN ?_ _) | (with_reducible refine Kd.C_drew ?_))); (case side4 => exact (Kd.R_reads' HO472.out).2.1); rintro e w' ⟨rfl, ⟨nd, rfl⟩⟩) | (go_at_call 19; (with_reducible refine (secateurlaw02_fixed.calls k2  t474 _ A33.out).mono ?_); rintro e w46 ⟨rfl, hb⟩; have n0_ := Aside0.mk (Kd.R_below (by (with_reducible repeat (first | apply Kd.R_alloc | apply Kd.R_drewN | apply Kd.R_drew)); exact HO_3.out) hb); have n1_ := Aside0.mk (Kd.R_below (by (with_reducible repeat (first | apply Kd.R_alloc | apply Kd.R_drewN | apply Kd.R_drew)); exact HO_4.out) hb); have n2_ := Aside0.mk (Kd.R_below (by (with_reducible repeat (first | apply Kd.R_alloc | apply Kd.R_drewN | apply Kd.R_drew)); exact HO457.out) hb); have n3_ := Aside0.mk (Kd.R_below (by (with_reducible repeat (first | apply Kd.R_alloc | apply Kd.R_drewN | apply Kd.R_drew)); exact HO461.out) hb); have n4_ := Aside0.mk (Kd.R_below (by (with_reducible repeat (first | apply Kd.R_alloc | apply Kd.R_drewN | apply Kd.R_drew)); exact HO466.out) hb); have n5_ := Aside0.mk (Kd.R_below (by (with_reducible repeat (first | apply Kd.R_alloc | apply Kd.R_drewN | apply Kd.R_drew)); exact HO469.out) hb); have n6_ := Aside0.mk (Kd.R_below (by (with_reducible repeat (first | apply Kd.R_alloc | apply Kd.R_drewN | apply Kd.R_drew)); exact HO472.out) hb); have n7_ := Aside0.mk (below_step (by repeat (first | (with_reducible first | exact HB.out | apply below_alloc | apply pw_below_drewN | apply below_drew1) | exact HB.out)) hb); clear HO_3; clear HO_4; clear HO457; clear HO461; clear HO466; clear HO469; clear HO472; clear HB; have HO_3 := n0_; have HO_4 := n1_; have HO457 := n2_; have HO461 := n3_; have HO466 := n4_; have HO469 := n5_; have HO472 := n6_; have HB := n7_; clear n0_ n1_ n2_ n3_ n4_ n5_ n6_ n7_; (try clear hb); (try clear hb2); (try clear hk); (try clear hi)))
           go_ret
           exact ⟨by first | rfl | (simp [errW_none, errW_some] <;> rfl) | (simp [*, errW_none, errW_some] <;> rfl), by repeat (first | (with_reducible first | exact HB.out | apply below_alloc | apply pw_below_drewN | apply below_drew1) | exact HB.out)⟩
          ·replace c32 := Bool.eq_false_iff.mpr c32
           subst c32
           have H1 : (none) = some r := by rw [if_neg (show ¬ (false = true) by decide)] at H; exact H
           clear H
           have H := H1
           clear H1
           exact absurd H (by simp)
         ·rw [if_neg c28] at H
          exact absurd H (by simp)
        ·replace c25 := Bool.eq_false_iff.mpr c25
         subst c25
         have H1 : (none) = some r := by rw [if_neg (show ¬ (false = true) by decide)] at H; exact H
         clear H
         have H := H1
         clear H1
         exact absurd H (by simp)
       ·rw [if_neg c23] at H
        exact absurd H (by simp)
      ·rw [if_neg c22] at H
       exact absurd H (by simp)

/-- THE ONE PURE STATEMENT of secateurlaw02_DomOrder: yours. -/
def secateurlaw02_DomOrder.Pure : Prop := ∀ (l0 : List Int), l0.length ≤ maxLen → l0.length * 8 ≤ 140737488351232 → (∀ x ∈ l0, (Lit.int .i64 x).wf = true) → ∃ k, secateurlaw02_DomOrder.f k l0 = some true
theorem secateurlaw02_DomOrder.walk (P : secateurlaw02_DomOrder.Pure) (a0 : Option Addr) (len0 cap0 : Nat) (z0 : List Int) (w : World) (w0 : (a0 = none ∧ len0 = 0 ∧ cap0 = 0 ∧ z0 = []) ∨ ∃ x, a0 = some x ∧ len0 ≤ cap0 ∧ cap0 ≤ maxLen ∧ z0.length = cap0 ∧ (∀ i, i < z0.length → w.cell? (x.add i) = some (.int .i64 (z0.getD i 0))) ∧ ∀ n ∈ z0, (Lit.int .i64 n).wf = true) (y0 : len0 * 8 ≤ 140737488351232) :
  Calls Try.prog 7 #[.slice a0 len0 cap0] w fun e w' => e = .returned (.bool true) ∧ Below w.heap.size w w' := by
 obtain ⟨l0, rfl, hr0, hm0, hw0, hc0⟩ := ReadsInt.ofRowC w0
 obtain ⟨k, h⟩ := P l0 hm0 y0 hw0
 refine (secateurlaw02_DomOrder.calls k _ _ l0 true w (Kd.C_of_reads (d := (0 : Int)) (h1 := fun _ => rfl) hr0) hc0 h).mono ?_
 rintro e w' ⟨rfl, hd⟩
 exact ⟨rfl, hd⟩

end Go.Proofs.Ytklanjkndoikeaa.P

namespace Go.Proofs.Ytklanjkndoikeaa.Pure
open Go.RowKit Go.Proofs.Ytklanjkndoikeaa.P
set_option linter.unusedVariables false

def ordL (l : List Int) : List Int := (l.take 30).map fun v => Int.tmod v 1000
theorem ordL_length (l : List Int) : (ordL l).length ≤ 30 := by simp [ordL]; omega
theorem ordL_mem {l : List Int} {x : Int} (h : x ∈ ordL l) : -1000 ≤ x ∧ x ≤ 1000 := by
  obtain ⟨v, _, rfl⟩ := List.mem_map.1 h
  have := tmod_small v 1000 (by omega)
  have e : ((1000 : Nat) : Int) = 1000 := rfl
  rw [e] at this
  omega
theorem order_end (l : List Int) (back : List Int) (hb : back.length ≤ 60) (hm : ∀ x, x ∈ back ↔ x ∈ ordL l) : Ev (fun k => secateurlaw02_DomOrder.l1 k (ordL l) back (-1)) true := by
  have hl := ordL_length l
  have hv : ∀ x ∈ ordL l, isVal x = true := fun x hx => (isVal_iff x).2 (by have := ordL_mem hx; omega)
  have e1 := Of_ev (ordL l) (by omega)
  rw [ofSpec_yes hv] at e1
  have e2 := Of_ev back (by omega)
  rw [ofSpec_yes (fun x hx => hv x ((hm x).1 hx)), sd_congr hm] at e2
  obtain ⟨g, hmem⟩ := pack_good (V := 1048576) (b := -1048576) (sd_ss (ordL l)) (fun x hx => by have := ordL_mem ((mem_sd x _).1 hx); omega)
  have hvp := vals_pack (sd_ss (ordL l))
  have hsl := sd_length (ordL l)
  have hpl := pack_length_le (sd (ordL l))
  have hS := ref_Sorted (ordL l) (by omega)
  have hz := Size_ev _ g (Int.le_refl _)
  rw [hvp] at hz
  have hV := Values_ev _ g (Int.le_refl _) (by rw [hvp]; omega)
  rw [hvp] at hV
  refine Ev.step (fun k => by rw [secateurlaw02_DomOrder.l1, if_neg (by omega)]) ?_
  refine Ev.bind e1 (Ev.bind e2 (Ev.ite_pos rfl (Ev.ite_pos rfl (Ev.bind (dom_Same_self _ (by show (pack (sd (ordL l))).length < _; omega)) (Ev.ite_pos rfl (Ev.bind hz (Ev.bind hS (Ev.ite_pos rfl (Ev.bind (Ev.const hV) (Ev.bind hS (Ev.bind (ref_Nums_self _ (by omega)) (Ev.ite_pos rfl (Ev.bind fixed_ev (Ev.pure _))))))))))))))
theorem order_l1 (l : List Int) : ∀ (n : Nat) (back : List Int), n ≤ (ordL l).length → back.length + 2 * n ≤ 60 → (∀ x, x ∈ back ↔ x ∈ (ordL l).drop n) → Ev (fun k => secateurlaw02_DomOrder.l1 k (ordL l) back ((n : Int) - 1)) true := by
  intro n
  induction n with
  | zero =>
    intro back _ hb hm
    exact order_end l back (by omega) (by simpa using hm)
  | succ n ih =>
    intro back hn hb hm
    have hn2 : n < (ordL l).length := by omega
    have e : ((n + 1 : Nat) : Int) - 1 = (n : Int) := by omega
    rw [e]
    refine Ev.step (fun k => by rw [secateurlaw02_DomOrder.l1, if_pos (by omega), if_pos (by omega), if_pos (by omega), if_pos (by omega), Option.bind_some, if_pos (by simp; omega), rd_nat _ n hn2, w64 (n := (n : Int) - 1) (by omega) (by omega)]) (ih (back ++ [(ordL l)[n]] ++ [(ordL l)[n]]) (by omega) (by simp; omega) (fun x => ?_))
    rw [List.drop_eq_getElem_cons hn2, List.mem_append, List.mem_append, List.mem_singleton, List.mem_cons, hm x]
    constructor
    · rintro ((h | h) | h)
      · exact .inr h
      · exact .inl h
      · exact .inl h
    · rintro (h | h)
      · exact .inr h
      · exact .inl (.inl h)
theorem order_l0 (l : List Int) (hl : l.length ≤ 17592186044416) : ∀ (m n : Nat) (acc : List Int), n + m = min l.length 30 → acc = (l.take n).map (fun v => Int.tmod v 1000) → Ev (fun k => secateurlaw02_DomOrder.l0 k l acc [] (n : Int)) true := by
  have last : ∀ acc, acc = ordL l → Ev (fun k => secateurlaw02_DomOrder.j1 k acc []) true := fun acc e => by
    have h1 := ordL_length l
    subst e
    refine Ev.step (fun k => by rw [secateurlaw02_DomOrder.j1, w64 (by omega) (by omega)]) (order_l1 l (ordL l).length [] (Nat.le_refl _) (by simp; omega) (fun x => by simp))
  intro m
  induction m with
  | zero =>
    intro n acc h e
    by_cases hlt : n < l.length
    · obtain rfl : n = 30 := by omega
      exact Ev.step (fun k => by rw [secateurlaw02_DomOrder.l0, if_pos (by omega), if_neg (by omega)]) (last acc e)
    · refine Ev.step (fun k => by rw [secateurlaw02_DomOrder.l0, if_neg (by omega)]) (last acc ?_)
      rw [e, ordL, List.take_of_length_le (by omega), List.take_of_length_le (by omega)]
  | succ m ih =>
    intro n acc h e
    have hn : n < l.length := by omega
    have hal : acc.length = n := by rw [e]; simp; omega
    refine Ev.step (fun k => by rw [secateurlaw02_DomOrder.l0, if_pos (by omega), if_pos (by omega), if_pos (by omega), if_pos (by omega), rd_nat l n hn, w1 (by omega)]) (ih (n + 1) _ (by omega) ?_)
    rw [e, List.take_succ_eq_append_getElem hn, List.map_append]
    rfl
theorem DomOrder : secateurlaw02_DomOrder.Pure := by
  intro l0 _ h8 _
  exact Ev.out (F := fun k => secateurlaw02_DomOrder.f k l0) (order_l0 l0 (by omega) (min l0.length 30) 0 [] (by omega) rfl)
end Go.Proofs.Ytklanjkndoikeaa.Pure

-- Written by wip/tools/px.py out of the translation. Lean checks it.
namespace Go.Proofs.Ytklanjkndoikeaa.domOrder
open Go.ChangeShapes Go.WideShapes Go.ChangeAt Go.RowKit
open Go.ChangeMaps (open_string shut_string)
set_option linter.unusedVariables false
theorem own : ownKnob Try.prog.godebug = none := by kernel_rfl
theorem laidOut : laidOutB Try.prog = true := by kernel_rfl
def IsRow (k : IntKind) (w : World) (a : Option Addr) (len cap : Nat) (zs : List Int) : Prop :=
 (a = none ∧ len = 0 ∧ cap = 0 ∧ zs = []) ∨
 ∃ x, a = some x ∧ len ≤ cap ∧ cap ≤ maxLen ∧ zs.length = cap ∧ (∀ i, i < zs.length → w.cell? (x.add i) = some (.int k (zs.getD i 0))) ∧ ∀ n ∈ zs, (Lit.int k n).wf = true
set_option maxRecDepth 100000 in
theorem lifted (os : Os) (started : os.Started) (H : Type) (enc : TypeId × Value → H) :
  ReturnsInHanded {} Try.checked os 7 .any (Rows.domOrderSpec.pre6 enc Try.prog Try.f7 Rows.domOrderRow.domain false) (Rows.domOrderSpec.post enc Try.prog Try.f7 false true false false) := by
 refine returnsInHanded_of_change_sized (C := Try.checked) own started (by kernel_rfl) Try.func7
  (ChangeSpec.witness6 (enc := enc) (C := Try.checked) false ⟨#[], #[.slice none 0 0], []⟩ 8 (by kernel_rfl) (by kernel_rfl) (by kernel_rfl) (by kernel_rfl)) ?_
 intro W base args ds gs before hval0 hW hcnd hsz0 _
 have hsz : (DataW.weightsEach Try.prog (Try.f7.params.toList ++ Rows.domOrderSpec.plain.varTypes Try.prog) (ds ++ gs)).all (· ≤ reachBytes) = true := hsz0
 have hval : ∀ (j : Nat) t v, Try.f7.params[j]? = some t → args[j]? = some v → Value.okWide Try.prog W .any base t v := hval0
 have hW' := hW
 obtain ⟨p, q, hA0, hV, rfl, hfz, hnd⟩ := hW
 have hA : DataW.TrodAll enc Try.prog W 0 (fun _ => true) true Try.f7.params.toList args.toList ds p := hA0
 rw [Try.params7] at hA hval hsz
 obtain ⟨v0, vs0, d0, ds0, p0, q0, hargs, rfl, rfl, h0, r0⟩ := trodAll_cons hA
 obtain ⟨rfl, rfl, rfl⟩ := trodAll_nil r0
 obtain rfl : args = #[v0] := by cases args; simp_all
 obtain ⟨rfl, rfl⟩ := trodVars_none hV
 obtain ⟨a0, len0, cap0, rfl⟩ := okWide_slice Try.underlying23 (hval 0 23 v0 rfl rfl)
 have k0 := h0
 have lt0 : ∀ x ∈ p0, x.block < W.heap.size := by obtain ⟨m, hm⟩ := k0; exact DataW.trod_lt m _ _ _ hm
 obtain ⟨z0, w0⟩ : ∃ zs, IsRow .i64 W a0 len0 cap0 zs := by
  obtain ⟨fuel, hf⟩ := h0
  rcases open_ints Try.underlying23 Try.underlying3 (by kernel_rfl) hf with ⟨hcs, _⟩ | ⟨x, l, c, zs, hcs, _, hl, hm, hz, _, hcell, hwz⟩
  ·simp [Value.cells] at hcs
   obtain ⟨rfl, rfl, rfl⟩ := hcs
   exact ⟨[], .inl ⟨rfl, rfl, rfl, rfl⟩⟩
  ·simp [Value.cells] at hcs
   obtain ⟨rfl, rfl, rfl⟩ := hcs
   exact ⟨zs, .inr ⟨_, rfl, hl, hm, by simpa using hz, hcell, hwz⟩⟩
 have y0 : len0 * 8 ≤ 140737488351232 := Go.Proofs.YtklanjkndoikeaaW.PrintWords.sized_ints hsz (j := 0) (t := 23) rfl rfl Try.underlying23 Try.underlying3 (by kernel_rfl) (by kernel_rfl) h0
 clear hA0 hval0 hsz0 hsz
 refine (P.secateurlaw02_DomOrder.walk Pure.DomOrder a0 len0 cap0 z0 W w0 y0).mono fun e W' ⟨he, bel⟩ => ?_
 subst he
 exact ⟨_, rfl, _, _, _, [], _, [], hW', trodAll_mk1 (shut_bool Try.underlying4 _), (trodAll_cons_mk (Below.trod laidOut (by kernel_rfl) (of_decide_eq_true (by kernel_rfl)) k0 bel lt0) trodAll_mk0), rfl, bel.frame _, fun h => by cases h⟩
theorem over : Rows.domOrderRow.holds Try.pinned (OpenSpec.ofChange Rows.domOrderSpec) :=
 OpenClaim.holds_of_wide 7 Try.f7 rfl rfl rfl rfl rfl rfl rfl ⟨rfl, rfl, rfl, rfl, rfl⟩ rfl rfl rfl rfl rfl (by kernel_rfl) Try.func7 (by kernel_rfl)
  (of_decide_eq_true (by kernel_rfl)) (by unfold Func.isWrapper; first | (rw [if_pos (by decide +kernel)]; kernel_rfl) | (rw [if_neg (by decide +kernel)]; exact ⟨rfl, rfl⟩))
  (fun os started H enc _ => lifted os started H enc)
theorem proved : Rows.DomOrderSaid := over
end Go.Proofs.Ytklanjkndoikeaa.domOrder
namespace Go.Proofs.Ytklanjkndoikeaa
/-- The row, under a short name, for the claim. -/
theorem domOrder_holds : Rows.DomOrderSaid := domOrder.proved
end Go.Proofs.Ytklanjkndoikeaa
