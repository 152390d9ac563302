/- Proved: the statement DomSteps. Conditions: none but those of the statement. -/
import Derived.Test.YtklanjkndoikeaaZ1
import Derived.Test.YtklanjkndoikeaaZ2
import Derived.Test.YtklanjkndoikeaaZ3
import Derived.Test.YtklanjkndoikeaaZ4
import Derived.Test.YtklanjkndoikeaaRows
import Derived.WalkKit
import Derived.ProofKit
import Derived.OpenShut
import Derived.ShutString
import Derived.ChangeOld
import Derived.Below
import Derived.SizedLaws
import Derived.Test.YtklanjkndoikeaaWSized

-- Written by wip/tools/px.py out of the translation. Lean checks it.
namespace Go.Proofs.Ytklanjkndoikeaa.P
open Go.RowKit Go.Proofs.YtklanjkndoikeaaW.PrintWords Go.Proofs.YtklanjkndoikeaaW.PrintLast Go.Proofs.YtklanjkndoikeaaW.PrintMore
attribute [local go_sem] max2_int min2_int max_two min_two max_three min_three max_four min_four   -- for this text's walks alone
set_option linter.unusedVariables false
set_option linter.unusedSimpArgs false

/-! ### secateurlaw02_DomSteps: function 5 -/
mutual
def secateurlaw02_DomSteps.l0 : Nat → List (S52) → Int → Bool → Int → Int → Int → Option (Bool)
 | 0, _, _, _, _, _, _ => none
 | k + 1, x3, x4, x5, x6, x7, x8 => if x8 < 40 then (secateurlaw02_DomSteps.j1 k x3 x4 x5 x6 x7 x8 x5) else (secateurlaw02_DomSteps.j1 k x3 x4 x5 x6 x7 x8 false)
def secateurlaw02_DomSteps.j1 : Nat → List (S52) → Int → Bool → Int → Int → Int → Bool → Option (Bool)
 | 0, _, _, _, _, _, _, _ => none
 | k + 1, x3, x4, x5, x6, x7, x8, x22 => if x22 = true then ((dom_Has.f x3 x4).bind fun t385 => (if t385 = true then (if x6 > 0 then (if x4 ≤ x7 then (none) else ((dom_Next.f k x3 x4).bind fun bt386 => (secateurlaw02_DomSteps.l0 k x3 bt386.1 bt386.2 (wrap64 (x6 + 1)) x4 (wrap64 (x8 + 1))))) else ((dom_Next.f k x3 x4).bind fun bt388 => (secateurlaw02_DomSteps.l0 k x3 bt388.1 bt388.2 (wrap64 (x6 + 1)) x4 (wrap64 (x8 + 1))))) else (none))) else ((dom_Most.f x3).bind fun bt380 => (if x5 = true then (none) else ((dom_Size.f k x3).bind fun t382 => (if x6 = t382 then (if (bt380.2 == (decide (x6 > 0))) = true then (if bt380.2 = true then (if bt380.1 = x7 then ((secateurlaw02_fixed.f k).bind fun t383 => (some t383)) else (none)) else ((secateurlaw02_fixed.f k).bind fun t384 => (some t384))) else (none)) else (none)))))
end
def secateurlaw02_DomSteps.f (k : Nat) (l0 : List Int) : Option (Bool) := (secateurlaw02_Small.f k l0).bind fun t375 => ((dom_Next.f k t375 (-1000)).bind fun bt378 => (secateurlaw02_DomSteps.l0 k t375 bt378.1 bt378.2 0 0 0))
theorem secateurlaw02_DomSteps.mono_l : ∀ k, (∀ y0 y1 y2 y3 y4 y5, LeO (secateurlaw02_DomSteps.l0 k y0 y1 y2 y3 y4 y5) (secateurlaw02_DomSteps.l0 (k + 1) y0 y1 y2 y3 y4 y5)) ∧ (∀ y0 y1 y2 y3 y4 y5 y6, LeO (secateurlaw02_DomSteps.j1 k y0 y1 y2 y3 y4 y5 y6) (secateurlaw02_DomSteps.j1 (k + 1) y0 y1 y2 y3 y4 y5 y6))
 | 0 => ⟨fun _ _ _ _ _ _ r h => by simp [secateurlaw02_DomSteps.l0] at h, fun _ _ _ _ _ _ _ r h => by simp [secateurlaw02_DomSteps.j1] at h⟩
 | k + 1 => by
  obtain ⟨ih0, ih1⟩ := secateurlaw02_DomSteps.mono_l k
  refine ⟨?_, ?_⟩
  ·intro y0 y1 y2 y3 y4 y5
   unfold secateurlaw02_DomSteps.l0
   repeat' first
   | (with_reducible exact ih0 _ _ _ _ _ _)
   | (with_reducible exact ih1 _ _ _ _ _ _ _)
   | (with_reducible exact dom_Next.mono _ _ _)
   | (with_reducible exact dom_Size.mono _ _)
   | (with_reducible exact secateurlaw02_Small.mono _ _)
   | (with_reducible exact secateurlaw02_fixed.mono _)
   | (with_reducible exact LeO.refl _)
   | (with_reducible exact LeO.none _)
   | (with_reducible refine LeO.ite ?_ ?_)
   | (with_reducible refine LeO.bind ?_ (fun _ => ?_))
   | exact ih0 _ _ _ _ _ _
   | exact ih1 _ _ _ _ _ _ _
   | exact dom_Next.mono _ _ _
   | exact dom_Size.mono _ _
   | exact secateurlaw02_Small.mono _ _
   | exact secateurlaw02_fixed.mono _
   | exact LeO.none _
   | refine LeO.ite ?_ ?_
   | refine LeO.bind ?_ (fun _ => ?_)
  ·intro y0 y1 y2 y3 y4 y5 y6
   unfold secateurlaw02_DomSteps.j1
   repeat' first
   | (with_reducible exact ih0 _ _ _ _ _ _)
   | (with_reducible exact ih1 _ _ _ _ _ _ _)
   | (with_reducible exact dom_Next.mono _ _ _)
   | (with_reducible exact dom_Size.mono _ _)
   | (with_reducible exact secateurlaw02_Small.mono _ _)
   | (with_reducible exact secateurlaw02_fixed.mono _)
   | (with_reducible exact LeO.refl _)
   | (with_reducible exact LeO.none _)
   | (with_reducible refine LeO.ite ?_ ?_)
   | (with_reducible refine LeO.bind ?_ (fun _ => ?_))
   | exact ih0 _ _ _ _ _ _
   | exact ih1 _ _ _ _ _ _ _
   | exact dom_Next.mono _ _ _
   | exact dom_Size.mono _ _
   | exact secateurlaw02_Small.mono _ _
   | exact secateurlaw02_fixed.mono _
   | exact LeO.none _
   | refine LeO.ite ?_ ?_
   | refine LeO.bind ?_ (fun _ => ?_)
theorem secateurlaw02_DomSteps.mono : ∀ a0 k, LeO (secateurlaw02_DomSteps.f k a0) (secateurlaw02_DomSteps.f (k + 1) a0) := by
 intro a0 k
 obtain ⟨ih0, ih1⟩ := secateurlaw02_DomSteps.mono_l k
 unfold secateurlaw02_DomSteps.f
 repeat' first
   | (with_reducible exact ih0 _ _ _ _ _ _)
   | (with_reducible exact ih1 _ _ _ _ _ _ _)
   | (with_reducible exact dom_Next.mono _ _ _)
   | (with_reducible exact dom_Size.mono _ _)
   | (with_reducible exact secateurlaw02_Small.mono _ _)
   | (with_reducible exact secateurlaw02_fixed.mono _)
   | (with_reducible exact LeO.refl _)
   | (with_reducible exact LeO.none _)
   | (with_reducible refine LeO.ite ?_ ?_)
   | (with_reducible refine LeO.bind ?_ (fun _ => ?_))
   | exact ih0 _ _ _ _ _ _
   | exact ih1 _ _ _ _ _ _ _
   | exact dom_Next.mono _ _ _
   | exact dom_Size.mono _ _
   | exact secateurlaw02_Small.mono _ _
   | exact secateurlaw02_fixed.mono _
   | exact LeO.none _
   | refine LeO.ite ?_ ?_
   | refine LeO.bind ?_ (fun _ => ?_)
set_option maxHeartbeats 8000000 in
set_option maxRecDepth 100000 in
theorem secateurlaw02_DomSteps.calls (k : Nat) (A0 : Option Addr) (c0 : Nat) (l0 : List Int) (r : Bool) (w : World) (hr0 : Kd.C (Kd.int .i64) w A0 l0.length l0) (hc0 : l0.length ≤ c0) (h : secateurlaw02_DomSteps.f k l0 = some r) :
  Calls Try.prog 5 #[.slice A0 l0.length c0] w fun e w' => e = .returned (.bool r) ∧ Below w.heap.size w w' := by
 have HR0 := Aside0.mk hr0
 have HC0 := Aside0.mk hc0
 clear hr0 hc0
 have HB := Aside0.mk (Below.refl w.heap.size w)
 have H : ((secateurlaw02_Small.f k l0).bind fun t375 => ((dom_Next.f k t375 (-1000)).bind fun bt378 => (secateurlaw02_DomSteps.l0 k t375 bt378.1 bt378.2 0 0 0))) = some r := h
 clear h
 replace H := Option.bind_eq_some_iff.mp H
 obtain ⟨t375, A20, H⟩ := H
 replace H : ((dom_Next.f k t375 (-1000)).bind fun bt378 => (secateurlaw02_DomSteps.l0 k t375 bt378.1 bt378.2 0 0 0)) = some r := H
 have A2 := Aside0.mk A20
 clear A20
 replace H := Option.bind_eq_some_iff.mp H
 obtain ⟨⟨t378, t379⟩, A30, H⟩ := H
 replace H : (secateurlaw02_DomSteps.l0 k t375 t378 t379 0 0 0) = some r := H
 have A3 := Aside0.mk A30
 clear A30
 have H' := Aside0.mk H
 clear H
 go_enter Try.func5, Try.ntmps5
 go_wp2_with (first | ((with_reducible refine gate_callee (f := 20) rfl ?_); refine goesL_ (some 12) rfl rfl Try.func20 (by kernel_rfl) rfl #[.slice A0 l0.length c0] rfl (by (try simp only [List.map_toArray, List.map_cons, List.map_nil]); first | done | rfl | (simp only [List.length_drop, List.length_take]; rfl)) ?_; (with_reducible refine (secateurlaw02_Small.calls k _ _ l0 t375 _ ?side1 ?side2 A2.out).mono ?_); (case side1 => repeat (first | exact HR0.out | (with_reducible refine Kd.C_alloc ?_ _) | (with_reducible refine Kd.C_drewN ?_ _) | (with_reducible refine Kd.C_drew ?_))); (case side2 => exact HC0.out); rintro e w4 ⟨v376, rfl, ho0, hb⟩; refine ⟨_, rfl, ?_⟩; have n0_ := Aside0.mk (Kd.R_lower ho0 (below_size (by repeat (first | (with_reducible first | exact HB.out | apply below_alloc | apply pw_below_drewN | apply below_drew1) | exact HB.out)))); have n1_ := Aside0.mk (below_step (by repeat (first | (with_reducible first | exact HB.out | apply below_alloc | apply pw_below_drewN | apply below_drew1) | exact HB.out)) hb); clear HB; have HO377 := n0_; have HB := n1_; clear n0_ n1_; (try clear hb); (try clear hb2); (try clear hk); (try clear hi); (try clear ho0); obtain ⟨Ao5, co5, eo5⟩ := Kd.R_slice HO377.out; subst eo5) | ((with_reducible refine gate_callee (f := 25) rfl ?_); refine goesL_ (some 15) rfl rfl Try.func25 (by kernel_rfl) rfl #[.slice Ao5 t375.length co5, .int .i64 (-1000)] rfl (by (try simp only [List.map_toArray, List.map_cons, List.map_nil]); first | done | rfl | (simp only [List.length_drop, List.length_take]; rfl)) ?_; (with_reducible refine (dom_Next.calls k _ _ t375 (-1000) t378 t379 _ ?side1 ?side2 A3.out).mono ?_); (case side1 => repeat (first | exact (Kd.R_reads' HO377.out).2.2 | (with_reducible refine Kd.C_alloc ?_ _) | (with_reducible refine Kd.C_drewN ?_ _) | (with_reducible refine Kd.C_drew ?_))); (case side2 => exact (Kd.R_reads' HO377.out).2.1); rintro e w6 ⟨rfl, hb⟩; refine ⟨_, rfl, ?_⟩; have n0_ := Aside0.mk (Kd.R_below (by (with_reducible repeat (first | apply Kd.R_alloc | apply Kd.R_drewN | apply Kd.R_drew)); exact HO377.out) hb); have n1_ := Aside0.mk (below_step (by repeat (first | (with_reducible first | exact HB.out | apply below_alloc | apply pw_below_drewN | apply below_drew1) | exact HB.out)) hb); clear HO377; clear HB; have HO377 := n0_; have HB := n1_; clear n0_ n1_; (try clear hb); (try clear hb2); (try clear hk); (try clear hi)))
 go_loopg [4, 5, 6, 7, 8] k (fun kq v4 v5 v6 v7 v8 w' => ∃ (x4_1 : Int) (x5_1 : Bool) (x6_1 : Int) (x7_1 : Int) (x8_1 : Int), v4 = .int .i64 x4_1 ∧ v5 = .bool x5_1 ∧ v6 = .int .i64 x6_1 ∧ v7 = .int .i64 x7_1 ∧ v8 = .int .i64 x8_1 ∧ Aside0 (secateurlaw02_DomSteps.l0 kq t375 x4_1 x5_1 x6_1 x7_1 x8_1 = some r) ∧ Aside0 (kq ≤ k) ∧ Aside0 (Kd.R k52 52 w' w.heap.size (fun _ => True) (.slice Ao5 t375.length co5) t375) ∧ Aside0 (Below w.heap.size w w'))
 case atStart => exact ⟨(t378), (t379), (0), (0), (0), (by first | rfl | (simp; done) | (simp [*]; done)), (by first | rfl | (simp; done) | (simp [*]; done)), (by first | rfl | (simp; done) | (simp [*]; done)), (by first | rfl | (simp; done) | (simp [*]; done)), (by first | rfl | (simp; done) | (simp [*]; done)), H', ⟨Nat.le_refl _⟩, ⟨by (with_reducible repeat (first | apply Kd.R_alloc | apply Kd.R_drewN | apply Kd.R_drew)); exact HO377.out⟩, ⟨by repeat (first | (with_reducible first | exact HB.out | apply below_alloc | apply pw_below_drewN | apply below_drew1) | exact HB.out)⟩⟩
 case round =>
  clear H'
  try clear c2
  try clear p2
  try clear c5
  obtain ⟨x4_1, x5_1, x6_1, x7_1, x8_1, rfl, rfl, rfl, rfl, rfl, HA, HK1, HO_3, HB⟩ := hrel
  cases gk with
  | zero => exact absurd HA.out (by simp [secateurlaw02_DomSteps.l0])
  | succ k1 =>
   have H := HA.out
   clear HA
   simp only [secateurlaw02_DomSteps.l0] at H
   have HC7 := Aside0.mk H
   clear H
   go_upto_region 5 with (fail)
   go_cut [22] (fun v22 wc => ∃ (kq : Nat) (x22_6 : Bool), v22 = .bool x22_6 ∧ Aside0 (secateurlaw02_DomSteps.j1 kq t375 x4_1 x5_1 x6_1 x7_1 x8_1 x22_6 = some r) ∧ Aside0 (kq ≤ k1) ∧ Aside0 (Kd.R k52 52 wc w.heap.size (fun _ => True) (.slice Ao5 t375.length co5) t375) ∧ Aside0 (Below w.heap.size w wc))
   case first =>
    have H := HC7.out
    clear HC7
    by_cases c8 : x8_1 < 40
    ·rw [if_pos c8] at H
     have c8b0 : decide (x8_1 < 40) = true := decide_eq_true c8
     clear c8
     (first | rw [c8b0] | (simp only [i64_w, i32_w]; rw [c8b0]) | skip)
     have H' := Aside0.mk H
     clear H
     go_wp2
     go_meet
     case rel => exact ⟨_, (x5_1), (by first | rfl | (simp; done) | (simp [*]; done)), H', ⟨by have := HK1.out; first | omega | exact Nat.le_refl _⟩, ⟨by (with_reducible repeat (first | apply Kd.R_alloc | apply Kd.R_drewN | apply Kd.R_drew)); exact HO_3.out⟩, ⟨by repeat (first | (with_reducible first | exact HB.out | apply below_alloc | apply pw_below_drewN | apply below_drew1) | exact HB.out)⟩⟩
    ·rw [if_neg c8] at H
     have c8b0 : decide (x8_1 < 40) = false := decide_eq_false c8
     clear c8
     (first | rw [c8b0] | (simp only [i64_w, i32_w]; rw [c8b0]) | skip)
     have H' := Aside0.mk H
     clear H
     go_wp2
     go_meet
     case rel => exact ⟨_, (false), (by first | rfl | (simp; done) | (simp [*]; done)), H', ⟨by have := HK1.out; first | omega | exact Nat.le_refl _⟩, ⟨by (with_reducible repeat (first | apply Kd.R_alloc | apply Kd.R_drewN | apply Kd.R_drew)); exact HO_3.out⟩, ⟨by repeat (first | (with_reducible first | exact HB.out | apply below_alloc | apply pw_below_drewN | apply below_drew1) | exact HB.out)⟩⟩
   case rest =>
    clear HC7
    try clear c2
    try clear p2
    try clear c5
    try clear c8
    try clear c8b0
    try clear p2
    obtain ⟨kq, x22_6, rfl, HA, HJ6, HO_3, HB⟩ := hcut
    cases kq with
    | zero => exact absurd HA.out (by simp [secateurlaw02_DomSteps.j1])
    | succ kj6 =>
     have H := HA.out
     clear HA
     simp only [secateurlaw02_DomSteps.j1] at H
     by_cases c9 : x22_6 = true
     ·subst c9
      have H1 : ((dom_Has.f t375 x4_1).bind fun t385 => (if t385 = true then (if x6_1 > 0 then (if x4_1 ≤ x7_1 then (none) else ((dom_Next.f kj6 t375 x4_1).bind fun bt386 => (secateurlaw02_DomSteps.l0 kj6 t375 bt386.1 bt386.2 (wrap64 (x6_1 + 1)) x4_1 (wrap64 (x8_1 + 1))))) else ((dom_Next.f kj6 t375 x4_1).bind fun bt388 => (secateurlaw02_DomSteps.l0 kj6 t375 bt388.1 bt388.2 (wrap64 (x6_1 + 1)) x4_1 (wrap64 (x8_1 + 1))))) else (none))) = some r := by rw [if_pos rfl] at H; exact H
      clear H
      have H := H1
      clear H1
      replace H := Option.bind_eq_some_iff.mp H
      obtain ⟨t385, A100, H⟩ := H
      replace H : (if t385 = true then (if x6_1 > 0 then (if x4_1 ≤ x7_1 then (none) else ((dom_Next.f kj6 t375 x4_1).bind fun bt386 => (secateurlaw02_DomSteps.l0 kj6 t375 bt386.1 bt386.2 (wrap64 (x6_1 + 1)) x4_1 (wrap64 (x8_1 + 1))))) else ((dom_Next.f kj6 t375 x4_1).bind fun bt388 => (secateurlaw02_DomSteps.l0 kj6 t375 bt388.1 bt388.2 (wrap64 (x6_1 + 1)) x4_1 (wrap64 (x8_1 + 1))))) else (none)) = some r := H
      have A10 := Aside0.mk A100
      clear A100
      by_cases c11 : t385 = true
      ·subst c11
       have H1 : (if x6_1 > 0 then (if x4_1 ≤ x7_1 then (none) else ((dom_Next.f kj6 t375 x4_1).bind fun bt386 => (secateurlaw02_DomSteps.l0 kj6 t375 bt386.1 bt386.2 (wrap64 (x6_1 + 1)) x4_1 (wrap64 (x8_1 + 1))))) else ((dom_Next.f kj6 t375 x4_1).bind fun bt388 => (secateurlaw02_DomSteps.l0 kj6 t375 bt388.1 bt388.2 (wrap64 (x6_1 + 1)) x4_1 (wrap64 (x8_1 + 1))))) = some r := by rw [if_pos rfl] at H; exact H
       clear H
       have H := H1
       clear H1
       by_cases c12 : x6_1 > 0
       ·rw [if_pos c12] at H
        have c12b0 : decide (0 < x6_1) = true := decide_eq_true c12
        clear c12
        by_cases c13 : x4_1 ≤ x7_1
        ·rw [if_pos c13] at H
         exact absurd H (by simp)
        ·rw [if_neg c13] at H
         have c13b0 : decide (x4_1 ≤ x7_1) = false := decide_eq_false c13
         clear c13
         replace H := Option.bind_eq_some_iff.mp H
         obtain ⟨⟨t386, t387⟩, A140, H⟩ := H
         replace H : (secateurlaw02_DomSteps.l0 kj6 t375 t386 t387 (wrap64 (x6_1 + 1)) x4_1 (wrap64 (x8_1 + 1))) = some r := H
         have A14 := Aside0.mk A140
         clear A140
         have H' := Aside0.mk H
         clear H
         go_wp2_with (first | ((with_reducible refine gate_callee (f := 26) rfl ?_); refine goesL_ (some 27) rfl rfl Try.func26 (by kernel_rfl) rfl #[.slice Ao5 t375.length co5, .int .i64 x4_1] rfl (by (try simp only [List.map_toArray, List.map_cons, List.map_nil]); first | done | rfl | (simp only [List.length_drop, List.length_take]; rfl)) ?_; (with_reducible refine (dom_Has.calls _ _ t375 x4_1 true _ ?side1 ?side2 A10.out).mono ?_); (case side1 => repeat (first | exact (Kd.R_reads' HO_3.out).2.2 | (with_reducible refine Kd.C_alloc ?_ _) | (with_reducible refine Kd.C_drewN ?_ _) | (with_reducible refine Kd.C_drew ?_))); (case side2 => exact (Kd.R_reads' HO_3.out).2.1); rintro e w15 ⟨rfl, hb⟩; refine ⟨_, rfl, ?_⟩; have n0_ := Aside0.mk (Kd.R_below (by (with_reducible repeat (first | apply Kd.R_alloc | apply Kd.R_drewN | apply Kd.R_drew)); exact HO_3.out) hb); have n1_ := Aside0.mk (below_step (by repeat (first | (with_reducible first | exact HB.out | apply below_alloc | apply pw_below_drewN | apply below_drew1) | exact HB.out)) hb); clear HO_3; clear HB; have HO_3 := n0_; have HB := n1_; clear n0_ n1_; (try clear hb); (try clear hb2); (try clear hk); (try clear hi)) | ((with_reducible refine gate_callee (f := 25) rfl ?_); refine goesL_ (some 44) rfl rfl Try.func25 (by kernel_rfl) rfl #[.slice Ao5 t375.length co5, .int .i64 x4_1] rfl (by (try simp only [List.map_toArray, List.map_cons, List.map_nil]); first | done | rfl | (simp only [List.length_drop, List.length_take]; rfl)) ?_; (with_reducible refine (dom_Next.calls kj6 _ _ t375 x4_1 t386 t387 _ ?side1 ?side2 A14.out).mono ?_); (case side1 => repeat (first | exact (Kd.R_reads' HO_3.out).2.2 | (with_reducible refine Kd.C_alloc ?_ _) | (with_reducible refine Kd.C_drewN ?_ _) | (with_reducible refine Kd.C_drew ?_))); (case side2 => exact (Kd.R_reads' HO_3.out).2.1); rintro e w16 ⟨rfl, hb⟩; refine ⟨_, rfl, ?_⟩; have n0_ := Aside0.mk (Kd.R_below (by (with_reducible repeat (first | apply Kd.R_alloc | apply Kd.R_drewN | apply Kd.R_drew)); exact HO_3.out) hb); have n1_ := Aside0.mk (below_step (by repeat (first | (with_reducible first | exact HB.out | apply below_alloc | apply pw_below_drewN | apply below_drew1) | exact HB.out)) hb); clear HO_3; clear HB; have HO_3 := n0_; have HB := n1_; clear n0_ n1_; (try clear hb); (try clear hb2); (try clear hk); (try clear hi)))
         go_roundg kj6
         case measure => have := HK1.out; have := HJ6.out; omega
         case rel => exact ⟨(t386), (t387), (wrap64 (x6_1 + 1)), (x4_1), (wrap64 (x8_1 + 1)), (by first | rfl | (simp; done) | (simp [*]; done)), (by first | rfl | (simp; done) | (simp [*]; done)), (by first | rfl | (simp; done) | (simp [*]; done)), (by first | rfl | (simp; done) | (simp [*]; done)), (by first | rfl | (simp; done) | (simp [*]; done)), H', ⟨by have := HK1.out; have := HJ6.out; omega⟩, ⟨by (with_reducible repeat (first | apply Kd.R_alloc | apply Kd.R_drewN | apply Kd.R_drew)); exact HO_3.out⟩, ⟨by repeat (first | (with_reducible first | exact HB.out | apply below_alloc | apply pw_below_drewN | apply below_drew1) | exact HB.out)⟩⟩
       ·rw [if_neg c12] at H
        have c12b0 : decide (0 < x6_1) = false := decide_eq_false c12
        clear c12
        replace H := Option.bind_eq_some_iff.mp H
        obtain ⟨⟨t388, t389⟩, A170, H⟩ := H
        replace H : (secateurlaw02_DomSteps.l0 kj6 t375 t388 t389 (wrap64 (x6_1 + 1)) x4_1 (wrap64 (x8_1 + 1))) = some r := H
        have A17 := Aside0.mk A170
        clear A170
        have H' := Aside0.mk H
        clear H
        go_wp2_with (first | ((with_reducible refine gate_callee (f := 26) rfl ?_); refine goesL_ (some 27) rfl rfl Try.func26 (by kernel_rfl) rfl #[.slice Ao5 t375.length co5, .int .i64 x4_1] rfl (by (try simp only [List.map_toArray, List.map_cons, List.map_nil]); first | done | rfl | (simp only [List.length_drop, List.length_take]; rfl)) ?_; (with_reducible refine (dom_Has.calls _ _ t375 x4_1 true _ ?side1 ?side2 A10.out).mono ?_); (case side1 => repeat (first | exact (Kd.R_reads' HO_3.out).2.2 | (with_reducible refine Kd.C_alloc ?_ _) | (with_reducible refine Kd.C_drewN ?_ _) | (with_reducible refine Kd.C_drew ?_))); (case side2 => exact (Kd.R_reads' HO_3.out).2.1); rintro e w18 ⟨rfl, hb⟩; refine ⟨_, rfl, ?_⟩; have n0_ := Aside0.mk (Kd.R_below (by (with_reducible repeat (first | apply Kd.R_alloc | apply Kd.R_drewN | apply Kd.R_drew)); exact HO_3.out) hb); have n1_ := Aside0.mk (below_step (by repeat (first | (with_reducible first | exact HB.out | apply below_alloc | apply pw_below_drewN | apply below_drew1) | exact HB.out)) hb); clear HO_3; clear HB; have HO_3 := n0_; have HB := n1_; clear n0_ n1_; (try clear hb); (try clear hb2); (try clear hk); (try clear hi)) | ((with_reducible refine gate_callee (f := 25) rfl ?_); refine goesL_ (some 44) rfl rfl Try.func25 (by kernel_rfl) rfl #[.slice Ao5 t375.length co5, .int .i64 x4_1] rfl (by (try simp only [List.map_toArray, List.map_cons, List.map_nil]); first | done | rfl | (simp only [List.length_drop, List.length_take]; rfl)) ?_; (with_reducible refine (dom_Next.calls kj6 _ _ t375 x4_1 t388 t389 _ ?side1 ?side2 A17.out).mono ?_); (case side1 => repeat (first | exact (Kd.R_reads' HO_3.out).2.2 | (with_reducible refine Kd.C_alloc ?_ _) | (with_reducible refine Kd.C_drewN ?_ _) | (with_reducible refine Kd.C_drew ?_))); (case side2 => exact (Kd.R_reads' HO_3.out).2.1); rintro e w19 ⟨rfl, hb⟩; refine ⟨_, rfl, ?_⟩; have n0_ := Aside0.mk (Kd.R_below (by (with_reducible repeat (first | apply Kd.R_alloc | apply Kd.R_drewN | apply Kd.R_drew)); exact HO_3.out) hb); have n1_ := Aside0.mk (below_step (by repeat (first | (with_reducible first | exact HB.out | apply below_alloc | apply pw_below_drewN | apply below_drew1) | exact HB.out)) hb); clear HO_3; clear HB; have HO_3 := n0_; have HB := n1_; clear n0_ n1_; (try clear hb); (try clear hb2); (try clear hk); (try clear hi)))
        go_roundg kj6
        case measure => have := HK1.out; have := HJ6.out; omega
        case rel => exact ⟨(t388), (t389), (wrap64 (x6_1 + 1)), (x4_1), (wrap64 (x8_1 + 1)), (by first | rfl | (simp; done) | (simp [*]; done)), (by first | rfl | (simp; done) | (simp [*]; done)), (by first | rfl | (simp; done) | (simp [*]; done)), (by first | rfl | (simp; done) | (simp [*]; done)), (by first | rfl | (simp; done) | (simp [*]; done)), H', ⟨by have := HK1.out; have := HJ6.out; omega⟩, ⟨by (with_reducible repeat (first | apply Kd.R_alloc | apply Kd.R_drewN | apply Kd.R_drew)); exact HO_3.out⟩, ⟨by repeat (first | (with_reducible first | exact HB.out | apply below_alloc | apply pw_below_drewN | apply below_drew1) | exact HB.out)⟩⟩
      ·replace c11 := Bool.eq_false_iff.mpr c11
       subst c11
       have H1 : (none) = some r := by rw [if_neg (show ¬ (false = true) by decide)] at H; exact H
       clear H
       have H := H1
       clear H1
       exact absurd H (by simp)
     ·replace c9 := Bool.eq_false_iff.mpr c9
      subst c9
      have H1 : ((dom_Most.f t375).bind fun bt380 => (if x5_1 = true then (none) else ((dom_Size.f kj6 t375).bind fun t382 => (if x6_1 = t382 then (if (bt380.2 == (decide (x6_1 > 0))) = true then (if bt380.2 = true then (if bt380.1 = x7_1 then ((secateurlaw02_fixed.f kj6).bind fun t383 => (some t383)) else (none)) else ((secateurlaw02_fixed.f kj6).bind fun t384 => (some t384))) else (none)) else (none))))) = some r := by rw [if_neg (show ¬ (false = true) by decide)] at H; exact H
      clear H
      have H := H1
      clear H1
      replace H := Option.bind_eq_some_iff.mp H
      obtain ⟨⟨t380, t381⟩, A200, H⟩ := H
      replace H : (if x5_1 = true then (none) else ((dom_Size.f kj6 t375).bind fun t382 => (if x6_1 = t382 then (if (t381 == (decide (x6_1 > 0))) = true then (if t381 = true then (if t380 = x7_1 then ((secateurlaw02_fixed.f kj6).bind fun t383 => (some t383)) else (none)) else ((secateurlaw02_fixed.f kj6).bind fun t384 => (some t384))) else (none)) else (none)))) = some r := H
      have A20 := Aside0.mk A200
      clear A200
      by_cases c21 : x5_1 = true
      ·subst c21
       have H1 : (none) = some r := by rw [if_pos rfl] at H; exact H
       clear H
       have H := H1
       clear H1
       exact absurd H (by simp)
      ·replace c21 := Bool.eq_false_iff.mpr c21
       subst c21
       have H1 : ((dom_Size.f kj6 t375).bind fun t382 => (if x6_1 = t382 then (if (t381 == (decide (x6_1 > 0))) = true then (if t381 = true then (if t380 = x7_1 then ((secateurlaw02_fixed.f kj6).bind fun t383 => (some t383)) else (none)) else ((secateurlaw02_fixed.f kj6).bind fun t384 => (some t384))) else (none)) else (none))) = some r := by rw [if_neg (show ¬ (false = true) by decide)] at H; exact H
       clear H
       have H := H1
       clear H1
       replace H := Option.bind_eq_some_iff.mp H
       obtain ⟨t382, A220, H⟩ := H
       replace H : (if x6_1 = t382 then (if (t381 == (decide (x6_1 > 0))) = true then (if t381 = true then (if t380 = x7_1 then ((secateurlaw02_fixed.f kj6).bind fun t383 => (some t383)) else (none)) else ((secateurlaw02_fixed.f kj6).bind fun t384 => (some t384))) else (none)) else (none)) = some r := H
       have A22 := Aside0.mk A220
       clear A220
       by_cases c23 : x6_1 = t382
       ·rw [if_pos c23] at H
        have c23b0 : (x6_1 == t382) = true := beq_iff_eq.mpr c23
        have c23b1 : (x6_1 != t382) = false := bne_eq_false_iff_eq.mpr c23
        clear c23
        by_cases c24 : (t381 == (decide (x6_1 > 0))) = true
        ·rw [if_pos c24] at H
         have c24b0 : (t381 == (decide (x6_1 > 0))) = true := c24
         (try (have c24b1 : decide (t381 = (decide (x6_1 > 0))) = true := by simpa using c24))
         (try (have c24b2 : (t381 == (decide (x6_1 > 0))) = true := by simpa using c24))
         clear c24
         by_cases c25 : t381 = true
         ·subst c25
          have H1 : (if t380 = x7_1 then ((secateurlaw02_fixed.f kj6).bind fun t383 => (some t383)) else (none)) = some r := by rw [if_pos rfl] at H; exact H
          clear H
          have H := H1
          clear H1
          by_cases c26 : t380 = x7_1
          ·rw [if_pos c26] at H
           have c26b0 : (t380 == x7_1) = true := beq_iff_eq.mpr c26
           have c26b1 : (t380 != x7_1) = false := bne_eq_false_iff_eq.mpr c26
           clear c26
           replace H := Option.bind_eq_some_iff.mp H
           obtain ⟨t383, A270, H⟩ := H
           replace H : (some t383) = some r := H
           have A27 := Aside0.mk A270
           clear A270
           obtain rfl := Option.some.inj H
           go_wp2_with (first | ((with_reducible refine gate_callee (f := 27) rfl ?_); refine goesL_ (some 49) rfl rfl Try.func27 (by kernel_rfl) rfl #[.slice Ao5 t375.length co5] rfl (by (try simp only [List.map_toArray, List.map_cons, List.map_nil]); first | done | rfl | (simp only [List.length_drop, List.length_take]; rfl)) ?_; (with_reducible refine (dom_Most.calls _ _ t375 t380 true _ ?side1 ?side2 A20.out).mono ?_); (case side1 => repeat (first | exact (Kd.R_reads' HO_3.out).2.2 | (with_reducible refine Kd.C_alloc ?_ _) | (with_reducible refine Kd.C_drewN ?_ _) | (with_reducible refine Kd.C_drew ?_))); (case side2 => exact (Kd.R_reads' HO_3.out).2.1); rintro e w' ⟨rfl, ⟨nd, rfl⟩⟩; refine ⟨_, rfl, ?_⟩) | (go_at_call 28; (with_reducible refine (dom_Size.calls kj6 _ _ t375 t382 _ ?side1 ?side2 A22.out).mono ?_); (case side1 => repeat (first | exact (Kd.R_reads' HO_3.out).2.2 | (with_reducible refine Kd.C_alloc ?_ _) | (with_reducible refine Kd.C_drewN ?_ _) | (with_reducible refine Kd.C_drew ?_))); (case side2 => exact (Kd.R_reads' HO_3.out).2.1); rintro e w28 ⟨rfl, hb⟩; have n0_ := Aside0.mk (Kd.R_below (by (with_reducible repeat (first | apply Kd.R_alloc | apply Kd.R_drewN | apply Kd.R_drew)); exact HO_3.out) hb); have n1_ := Aside0.mk (below_step (by repeat (first | (with_reducible first | exact HB.out | apply below_alloc | apply pw_below_drewN | apply below_drew1) | exact HB.out)) hb); clear HO_3; clear HB; have HO_3 := n0_; have HB := n1_; clear n0_ n1_; (try clear hb); (try clear hb2); (try clear hk); (try clear hi)) | (go_at_call 19; (with_reducible refine (secateurlaw02_fixed.calls kj6  t383 _ A27.out).mono ?_); rintro e w29 ⟨rfl, hb⟩; have n0_ := Aside0.mk (Kd.R_below (by (with_reducible repeat (first | apply Kd.R_alloc | apply Kd.R_drewN | apply Kd.R_drew)); exact HO_3.out) hb); have n1_ := Aside0.mk (below_step (by repeat (first | (with_reducible first | exact HB.out | apply below_alloc | apply pw_below_drewN | apply below_drew1) | exact HB.out)) hb); clear HO_3; clear HB; have HO_3 := n0_; have HB := n1_; clear n0_ n1_; (try clear hb); (try clear hb2); (try clear hk); (try clear hi)))
           go_ret
           exact ⟨by first | rfl | (simp [errW_none, errW_some] <;> rfl) | (simp [*, errW_none, errW_some] <;> rfl), by repeat (first | (with_reducible first | exact HB.out | apply below_alloc | apply pw_below_drewN | apply below_drew1) | exact HB.out)⟩
          ·rw [if_neg c26] at H
           exact absurd H (by simp)
         ·replace c25 := Bool.eq_false_iff.mpr c25
          subst c25
          have H1 : ((secateurlaw02_fixed.f kj6).bind fun t384 => (some t384)) = some r := by rw [if_neg (show ¬ (false = true) by decide)] at H; exact H
          clear H
          have H := H1
          clear H1
          replace H := Option.bind_eq_some_iff.mp H
          obtain ⟨t384, A300, H⟩ := H
          replace H : (some t384) = some r := H
          have A30 := Aside0.mk A300
          clear A300
          obtain rfl := Option.some.inj H
          go_wp2_with (first | ((with_reducible refine gate_callee (f := 27) rfl ?_); refine goesL_ (some 49) rfl rfl Try.func27 (by kernel_rfl) rfl #[.slice Ao5 t375.length co5] rfl (by (try simp only [List.map_toArray, List.map_cons, List.map_nil]); first | done | rfl | (simp only [List.length_drop, List.length_take]; rfl)) ?_; (with_reducible refine (dom_Most.calls _ _ t375 t380 false _ ?side1 ?side2 A20.out).mono ?_); (case side1 => repeat (first | exact (Kd.R_reads' HO_3.out).2.2 | (with_reducible refine Kd.C_alloc ?_ _) | (with_reducible refine Kd.C_drewN ?_ _) | (with_reducible refine Kd.C_drew ?_))); (case side2 => exact (Kd.R_reads' HO_3.out).2.1); rintro e w' ⟨rfl, ⟨nd, rfl⟩⟩; refine ⟨_, rfl, ?_⟩) | (go_at_call 28; (with_reducible refine (dom_Size.calls kj6 _ _ t375 t382 _ ?side1 ?side2 A22.out).mono ?_); (case side1 => repeat (first | exact (Kd.R_reads' HO_3.out).2.2 | (with_reducible refine Kd.C_alloc ?_ _) | (with_reducible refine Kd.C_drewN ?_ _) | (with_reducible refine Kd.C_drew ?_))); (case side2 => exact (Kd.R_reads' HO_3.out).2.1); rintro e w31 ⟨rfl, hb⟩; have n0_ := Aside0.mk (Kd.R_below (by (with_reducible repeat (first | apply Kd.R_alloc | apply Kd.R_drewN | apply Kd.R_drew)); exact HO_3.out) hb); have n1_ := Aside0.mk (below_step (by repeat (first | (with_reducible first | exact HB.out | apply below_alloc | apply pw_below_drewN | apply below_drew1) | exact HB.out)) hb); clear HO_3; clear HB; have HO_3 := n0_; have HB := n1_; clear n0_ n1_; (try clear hb); (try clear hb2); (try clear hk); (try clear hi)) | (go_at_call 19; (with_reducible refine (secateurlaw02_fixed.calls kj6  t384 _ A30.out).mono ?_); rintro e w32 ⟨rfl, hb⟩; have n0_ := Aside0.mk (Kd.R_below (by (with_reducible repeat (first | apply Kd.R_alloc | apply Kd.R_drewN | apply Kd.R_drew)); exact HO_3.out) hb); have n1_ := Aside0.mk (below_step (by repeat (first | (with_reducible first | exact HB.out | apply below_alloc | apply pw_below_drewN | apply below_drew1) | exact HB.out)) hb); clear HO_3; clear HB; have HO_3 := n0_; have HB := n1_; clear n0_ n1_; (try clear hb); (try clear hb2); (try clear hk); (try clear hi)))
          go_ret
          exact ⟨by first | rfl | (simp [errW_none, errW_some] <;> rfl) | (simp [*, errW_none, errW_some] <;> rfl), by repeat (first | (with_reducible first | exact HB.out | apply below_alloc | apply pw_below_drewN | apply below_drew1) | exact HB.out)⟩
        ·rw [if_neg c24] at H
         exact absurd H (by simp)
       ·rw [if_neg c23] at H
        exact absurd H (by simp)

/-- THE ONE PURE STATEMENT of secateurlaw02_DomSteps: yours. -/
def secateurlaw02_DomSteps.Pure : Prop := ∀ (l0 : List Int), l0.length ≤ maxLen → l0.length * 8 ≤ 140737488351232 → (∀ x ∈ l0, (Lit.int .i64 x).wf = true) → ∃ k, secateurlaw02_DomSteps.f k l0 = some true
theorem secateurlaw02_DomSteps.walk (P : secateurlaw02_DomSteps.Pure) (a0 : Option Addr) (len0 cap0 : Nat) (z0 : List Int) (w : World) (w0 : (a0 = none ∧ len0 = 0 ∧ cap0 = 0 ∧ z0 = []) ∨ ∃ x, a0 = some x ∧ len0 ≤ cap0 ∧ cap0 ≤ maxLen ∧ z0.length = cap0 ∧ (∀ i, i < z0.length → w.cell? (x.add i) = some (.int .i64 (z0.getD i 0))) ∧ ∀ n ∈ z0, (Lit.int .i64 n).wf = true) (y0 : len0 * 8 ≤ 140737488351232) :
  Calls Try.prog 5 #[.slice a0 len0 cap0] w fun e w' => e = .returned (.bool true) ∧ Below w.heap.size w w' := by
 obtain ⟨l0, rfl, hr0, hm0, hw0, hc0⟩ := ReadsInt.ofRowC w0
 obtain ⟨k, h⟩ := P l0 hm0 y0 hw0
 refine (secateurlaw02_DomSteps.calls k _ _ l0 true w (Kd.C_of_reads (d := (0 : Int)) (h1 := fun _ => rfl) hr0) hc0 h).mono ?_
 rintro e w' ⟨rfl, hd⟩
 exact ⟨rfl, hd⟩

end Go.Proofs.Ytklanjkndoikeaa.P

namespace Go.Proofs.Ytklanjkndoikeaa.Pure
open Go.RowKit Go.Proofs.Ytklanjkndoikeaa.P
set_option linter.unusedVariables false

/-- The state ahead of the round at place n of the values s: the next value, and whether there is one. -/
theorem next_at (d : List Rg) (hd : Gd 1048576 (-1048576) d) (n : Nat) (hn : n < (vals d).length) :
    NextIs d (vals d)[n] (if h : n + 1 < (vals d).length then ((vals d)[n + 1], true) else (0, false)) := by
  have hs := vals_ss hd
  by_cases h : n + 1 < (vals d).length
  · rw [dif_pos h]
    refine .inl ⟨rfl, (mem_vals _ d).1 (List.getElem_mem h), mem_le_of_ss hs hn h (by omega), fun z hz hlt => ?_⟩
    obtain ⟨j, hj, rfl⟩ := List.mem_iff_getElem.1 ((mem_vals z d).2 hz)
    show (vals d)[n + 1] ≤ (vals d)[j]
    rcases Nat.lt_trichotomy j (n + 1) with h2 | h2 | h2
    · rcases Nat.lt_or_ge j n with h3 | h3
      · have := mem_le_of_ss hs hj hn h3; omega
      · obtain rfl : j = n := by omega
        omega
    · subst h2; exact Int.le_refl _
    · have := mem_le_of_ss hs h hj h2; omega
  · rw [dif_neg h]
    refine .inr ⟨rfl, fun z hz => ?_⟩
    obtain ⟨j, hj, rfl⟩ := List.mem_iff_getElem.1 ((mem_vals z d).2 hz)
    rcases Nat.lt_or_ge j n with h3 | h3
    · have := mem_le_of_ss hs hj hn h3; omega
    · obtain rfl : j = n := by omega
      exact Int.le_refl _
theorem steps_end (d : List Rg) (hd : Gd 1048576 (-1048576) d) (hl : (vals d).length ≤ 30) (x4 last : Int) (hlast : ∀ h : vals d ≠ [], last = (vals d).getLast h) :
    Ev (fun k => secateurlaw02_DomSteps.l0 k d x4 false ((vals d).length : Int) last ((vals d).length : Int)) true := by
  refine Ev.step (fun k => by rw [secateurlaw02_DomSteps.l0, if_pos (by omega)]) ?_
  refine Ev.step (fun k => by rw [secateurlaw02_DomSteps.j1, if_neg (by simp)]) ?_
  refine Ev.bind (Ev.const (Most_ev d hd)) (Ev.ite_neg (by simp) (Ev.bind (Size_ev d hd (Int.le_refl _)) (Ev.ite_pos rfl ?_)))
  cases hv : vals d with
  | nil => exact Ev.ite_pos rfl (Ev.ite_neg (by simp) (Ev.bind fixed_ev (Ev.pure _)))
  | cons x l =>
    have h1 := hlast (by rw [hv]; simp)
    have h2 : last = ((x :: l).getLast?.getD 0) := by
      rw [h1]
      simp only [hv]
      rw [List.getLast?_eq_some_getLast (by simp)]
      rfl
    refine Ev.ite_pos (by simp) (Ev.ite_pos rfl (Ev.ite_pos h2.symm (Ev.bind fixed_ev (Ev.pure _))))
theorem steps_l0 (d : List Rg) (hd : Gd 1048576 (-1048576) d) (hl : (vals d).length ≤ 30) (hb : ∀ v ∈ vals d, -200 ≤ v) : ∀ (m n : Nat) (last : Int), n + 1 + m = (vals d).length → (∀ h : 0 < n, ∀ hn : n - 1 < (vals d).length, last = (vals d)[n - 1]) →
    Ev (fun k => secateurlaw02_DomSteps.l0 k d (if h : n < (vals d).length then (vals d)[n] else 0) true (n : Int) last (n : Int)) true := by
  intro m
  induction m with
  | zero =>
    intro n last h hla
    have hn : n < (vals d).length := by omega
    rw [dif_pos hn]
    have hlo := hb _ (List.getElem_mem hn)
    obtain ⟨r, hr, hN⟩ := Next_ev d (vals d)[n] (by omega) hd
    obtain rfl := hN.unique (next_at d hd n hn)
    rw [dif_neg (by omega)] at hr
    have he := steps_end d hd hl 0 (vals d)[n] (fun hh => by rw [List.getLast_eq_getElem]; congr 1; omega)
    rw [show ((vals d).length : Int) = ((n + 1 : Nat) : Int) by omega] at he
    refine Ev.step (fun k => by rw [secateurlaw02_DomSteps.l0, if_pos (by omega)]) ?_
    refine Ev.step (fun k => by rw [secateurlaw02_DomSteps.j1, if_pos rfl]) ?_
    refine Ev.bind (Ev.const (Has_ev d _)) (Ev.ite_pos (decide_eq_true ((mem_vals _ d).1 (List.getElem_mem hn))) ?_)
    rw [w1 (by omega)]
    rcases Nat.eq_zero_or_pos n with h0 | h0
    · exact Ev.ite_neg (by omega) (Ev.bind hr he)
    · have h3 := hla h0 (by omega)
      have h4 := mem_le_of_ss (vals_ss hd) (show n - 1 < (vals d).length by omega) hn (by omega)
      exact Ev.ite_pos (by omega) (Ev.ite_neg (by omega) (Ev.bind hr he))
  | succ m ih =>
    intro n last h hla
    have hn : n < (vals d).length := by omega
    have hn1 : n + 1 < (vals d).length := by omega
    rw [dif_pos hn]
    have hlo := hb _ (List.getElem_mem hn)
    obtain ⟨r, hr, hN⟩ := Next_ev d (vals d)[n] (by omega) hd
    obtain rfl := hN.unique (next_at d hd n hn)
    rw [dif_pos hn1] at hr
    have he := ih (n + 1) (vals d)[n] (by omega) (fun _ hh => by congr 1)
    rw [dif_pos hn1] at he
    refine Ev.step (fun k => by rw [secateurlaw02_DomSteps.l0, if_pos (by omega)]) ?_
    refine Ev.step (fun k => by rw [secateurlaw02_DomSteps.j1, if_pos rfl]) ?_
    refine Ev.bind (Ev.const (Has_ev d _)) (Ev.ite_pos (decide_eq_true ((mem_vals _ d).1 (List.getElem_mem hn))) ?_)
    rw [w1 (by omega)]
    rcases Nat.eq_zero_or_pos n with h0 | h0
    · exact Ev.ite_neg (by omega) (Ev.bind hr he)
    · have h3 := hla h0 (by omega)
      have h4 := mem_le_of_ss (vals_ss hd) (show n - 1 < (vals d).length by omega) hn (by omega)
      exact Ev.ite_pos (by omega) (Ev.ite_neg (by omega) (Ev.bind hr he))
theorem DomSteps : secateurlaw02_DomSteps.Pure := by
  intro l0 _ h8 _
  have g := dsm_gd l0
  have hv := dsm_vlen l0
  have hb : ∀ v ∈ vals (dsm l0), -200 ≤ v := fun v hv => (dsm_bd l0 hv).1
  refine Ev.out (F := fun k => secateurlaw02_DomSteps.f k l0) ?_
  unfold secateurlaw02_DomSteps.f
  refine Ev.bind (Small_ev l0 h8) ?_
  generalize dsm l0 = d at *
  obtain ⟨r, hr, hN⟩ := Next_ev d (-1000) (by omega) g
  refine Ev.bind hr ?_
  rcases Nat.eq_zero_or_pos (vals d).length with h0 | h0
  · have e : vals d = [] := List.length_eq_zero_iff.1 h0
    obtain rfl : r = (0, false) := by
      rcases hN with ⟨_, h2, _⟩ | ⟨h, _⟩
      · have := (mem_vals _ d).2 h2; rw [e] at this; simp at this
      · exact h
    have := steps_end d g hv 0 0 (fun h => absurd e h)
    rw [h0] at this
    exact this
  · obtain rfl : r = ((vals d)[0], true) := by
      refine hN.unique (.inl ⟨rfl, (mem_vals _ d).1 (List.getElem_mem h0), by have := hb _ (List.getElem_mem h0); show -1000 < (vals d)[0]; omega, fun z hz _ => ?_⟩)
      obtain ⟨j, hj, rfl⟩ := List.mem_iff_getElem.1 ((mem_vals z d).2 hz)
      show (vals d)[0] ≤ (vals d)[j]
      rcases Nat.eq_zero_or_pos j with rfl | h
      · exact Int.le_refl _
      · have := mem_le_of_ss (vals_ss g) h0 hj h; omega
    have := steps_l0 d g hv hb ((vals d).length - 1) 0 0 (by omega) (fun h => by omega)
    rw [dif_pos h0] at this
    exact this
end Go.Proofs.Ytklanjkndoikeaa.Pure

-- Written by wip/tools/px.py out of the translation. Lean checks it.
namespace Go.Proofs.Ytklanjkndoikeaa.domSteps
open Go.ChangeShapes Go.WideShapes Go.ChangeAt Go.RowKit
open Go.ChangeMaps (open_string shut_string)
set_option linter.unusedVariables false
theorem own : ownKnob Try.prog.godebug = none := by kernel_rfl
theorem laidOut : laidOutB Try.prog = true := by kernel_rfl
def IsRow (k : IntKind) (w : World) (a : Option Addr) (len cap : Nat) (zs : List Int) : Prop :=
 (a = none ∧ len = 0 ∧ cap = 0 ∧ zs = []) ∨
 ∃ x, a = some x ∧ len ≤ cap ∧ cap ≤ maxLen ∧ zs.length = cap ∧ (∀ i, i < zs.length → w.cell? (x.add i) = some (.int k (zs.getD i 0))) ∧ ∀ n ∈ zs, (Lit.int k n).wf = true
set_option maxRecDepth 100000 in
theorem lifted (os : Os) (started : os.Started) (H : Type) (enc : TypeId × Value → H) :
  ReturnsInHanded {} Try.checked os 5 .any (Rows.domStepsSpec.pre6 enc Try.prog Try.f5 Rows.domStepsRow.domain false) (Rows.domStepsSpec.post enc Try.prog Try.f5 false true false false) := by
 refine returnsInHanded_of_change_sized (C := Try.checked) own started (by kernel_rfl) Try.func5
  (ChangeSpec.witness6 (enc := enc) (C := Try.checked) false ⟨#[], #[.slice none 0 0], []⟩ 8 (by kernel_rfl) (by kernel_rfl) (by kernel_rfl) (by kernel_rfl)) ?_
 intro W base args ds gs before hval0 hW hcnd hsz0 _
 have hsz : (DataW.weightsEach Try.prog (Try.f5.params.toList ++ Rows.domStepsSpec.plain.varTypes Try.prog) (ds ++ gs)).all (· ≤ reachBytes) = true := hsz0
 have hval : ∀ (j : Nat) t v, Try.f5.params[j]? = some t → args[j]? = some v → Value.okWide Try.prog W .any base t v := hval0
 have hW' := hW
 obtain ⟨p, q, hA0, hV, rfl, hfz, hnd⟩ := hW
 have hA : DataW.TrodAll enc Try.prog W 0 (fun _ => true) true Try.f5.params.toList args.toList ds p := hA0
 rw [Try.params5] at hA hval hsz
 obtain ⟨v0, vs0, d0, ds0, p0, q0, hargs, rfl, rfl, h0, r0⟩ := trodAll_cons hA
 obtain ⟨rfl, rfl, rfl⟩ := trodAll_nil r0
 obtain rfl : args = #[v0] := by cases args; simp_all
 obtain ⟨rfl, rfl⟩ := trodVars_none hV
 obtain ⟨a0, len0, cap0, rfl⟩ := okWide_slice Try.underlying23 (hval 0 23 v0 rfl rfl)
 have k0 := h0
 have lt0 : ∀ x ∈ p0, x.block < W.heap.size := by obtain ⟨m, hm⟩ := k0; exact DataW.trod_lt m _ _ _ hm
 obtain ⟨z0, w0⟩ : ∃ zs, IsRow .i64 W a0 len0 cap0 zs := by
  obtain ⟨fuel, hf⟩ := h0
  rcases open_ints Try.underlying23 Try.underlying3 (by kernel_rfl) hf with ⟨hcs, _⟩ | ⟨x, l, c, zs, hcs, _, hl, hm, hz, _, hcell, hwz⟩
  ·simp [Value.cells] at hcs
   obtain ⟨rfl, rfl, rfl⟩ := hcs
   exact ⟨[], .inl ⟨rfl, rfl, rfl, rfl⟩⟩
  ·simp [Value.cells] at hcs
   obtain ⟨rfl, rfl, rfl⟩ := hcs
   exact ⟨zs, .inr ⟨_, rfl, hl, hm, by simpa using hz, hcell, hwz⟩⟩
 have y0 : len0 * 8 ≤ 140737488351232 := Go.Proofs.YtklanjkndoikeaaW.PrintWords.sized_ints hsz (j := 0) (t := 23) rfl rfl Try.underlying23 Try.underlying3 (by kernel_rfl) (by kernel_rfl) h0
 clear hA0 hval0 hsz0 hsz
 refine (P.secateurlaw02_DomSteps.walk Pure.DomSteps a0 len0 cap0 z0 W w0 y0).mono fun e W' ⟨he, bel⟩ => ?_
 subst he
 exact ⟨_, rfl, _, _, _, [], _, [], hW', trodAll_mk1 (shut_bool Try.underlying4 _), (trodAll_cons_mk (Below.trod laidOut (by kernel_rfl) (of_decide_eq_true (by kernel_rfl)) k0 bel lt0) trodAll_mk0), rfl, bel.frame _, fun h => by cases h⟩
theorem over : Rows.domStepsRow.holds Try.pinned (OpenSpec.ofChange Rows.domStepsSpec) :=
 OpenClaim.holds_of_wide 5 Try.f5 rfl rfl rfl rfl rfl rfl rfl ⟨rfl, rfl, rfl, rfl, rfl⟩ rfl rfl rfl rfl rfl (by kernel_rfl) Try.func5 (by kernel_rfl)
  (of_decide_eq_true (by kernel_rfl)) (by unfold Func.isWrapper; first | (rw [if_pos (by decide +kernel)]; kernel_rfl) | (rw [if_neg (by decide +kernel)]; exact ⟨rfl, rfl⟩))
  (fun os started H enc _ => lifted os started H enc)
theorem proved : Rows.DomStepsSaid := over
end Go.Proofs.Ytklanjkndoikeaa.domSteps
namespace Go.Proofs.Ytklanjkndoikeaa
/-- The row, under a short name, for the claim. -/
theorem domSteps_holds : Rows.DomStepsSaid := domSteps.proved
end Go.Proofs.Ytklanjkndoikeaa
