/- Proved: the statement DomTells. Conditions: none but those of the statement. -/
import Derived.Test.YtklanjkndoikeaaZ1
import Derived.Test.YtklanjkndoikeaaZ2
import Derived.Test.YtklanjkndoikeaaZ3
import Derived.Test.YtklanjkndoikeaaZ4
import Derived.Test.YtklanjkndoikeaaRows
import Derived.WalkKit
import Derived.ProofKit
import Derived.OpenShut
import Derived.ShutString
import Derived.ChangeOld
import Derived.Below
import Derived.SizedLaws
import Derived.Test.YtklanjkndoikeaaWSized

-- Written by wip/tools/px.py out of the translation. Lean checks it.
namespace Go.Proofs.Ytklanjkndoikeaa.P
open Go.RowKit Go.Proofs.YtklanjkndoikeaaW.PrintWords Go.Proofs.YtklanjkndoikeaaW.PrintLast Go.Proofs.YtklanjkndoikeaaW.PrintMore
attribute [local go_sem] max2_int min2_int max_two min_two max_three min_three max_four min_four   -- for this text's walks alone
set_option linter.unusedVariables false
set_option linter.unusedSimpArgs false

/-! ### secateurlaw02_DomTells: function 6 -/
mutual
def secateurlaw02_DomTells.l0 : Nat → Int → List (S52) → Int → Option (Bool)
 | 0, _, _, _ => none
 | k + 1, x1, x5, x6 => if x6 < 2 then ((dom_Values.f x5).bind fun t404 => ((secateurref02_Values.f k x5).bind fun t407 => ((secateurref02_Nums.f k t404 t407).bind fun t410 => (if t410 = true then (secateurlaw02_DomTells.l1 k x1 x5 x6 t404 0) else (none))))) else ((secateurref02_Ends.f k x5).bind fun bt412 => ((dom_Least.f x5).bind fun bt415 => ((dom_Most.f x5).bind fun bt417 => ((dom_Next.f k x5 x1).bind fun bt419 => ((secateurref02_Next.f k x5 x1).bind fun bt421 => ((dom_Size.f k x5).bind fun t423 => ((secateurref02_Values.f k x5).bind fun t424 => (if t423 = (t424.length : Int) then (if bt412.1 = bt415.1 then (if bt412.2.1 = bt417.1 then (if (bt415.2 == bt412.2.2) = true then (if (bt417.2 == bt412.2.2) = true then (if bt419.1 = bt421.1 then (if (bt419.2 == bt421.2) = true then ((dom_Has.f x5 x1).bind fun t427 => ((secateurref02_Values.f k x5).bind fun t428 => ((secateurref02_Has.f k t428 x1).bind fun t431 => (if (t427 == t431) = true then ((secateurlaw02_fixed.f k).bind fun t432 => (some t432)) else (none))))) else (none)) else (none)) else (none)) else (none)) else (none)) else (none)) else (none)))))))))
def secateurlaw02_DomTells.l1 : Nat → Int → List (S52) → Int → List Int → Int → Option (Bool)
 | 0, _, _, _, _, _ => none
 | k + 1, x1, x5, x6, x7, x8 => if x8 < (x7.length : Int) then (if 0 ≤ x8 then (secateurlaw02_DomTells.l1 k x1 x5 x6 (x7.set (x8 : Int).toNat 0) (wrap64 (x8 + 1))) else (none)) else (secateurlaw02_DomTells.l0 k x1 x5 (wrap64 (x6 + 1)))
end
def secateurlaw02_DomTells.f (k : Nat) (l0 : List Int) (a1 : Int) : Option (Bool) := (secateurlaw02_Small.f k l0).bind fun t401 => (secateurlaw02_DomTells.l0 k a1 t401 0)
theorem secateurlaw02_DomTells.mono_l : ∀ k, (∀ y0 y1 y2, LeO (secateurlaw02_DomTells.l0 k y0 y1 y2) (secateurlaw02_DomTells.l0 (k + 1) y0 y1 y2)) ∧ (∀ y0 y1 y2 y3 y4, LeO (secateurlaw02_DomTells.l1 k y0 y1 y2 y3 y4) (secateurlaw02_DomTells.l1 (k + 1) y0 y1 y2 y3 y4))
 | 0 => ⟨fun _ _ _ r h => by simp [secateurlaw02_DomTells.l0] at h, fun _ _ _ _ _ r h => by simp [secateurlaw02_DomTells.l1] at h⟩
 | k + 1 => by
  obtain ⟨ih0, ih1⟩ := secateurlaw02_DomTells.mono_l k
  refine ⟨?_, ?_⟩
  ·intro y0 y1 y2
   unfold secateurlaw02_DomTells.l0
   repeat' first
   | (with_reducible exact ih0 _ _ _)
   | (with_reducible exact ih1 _ _ _ _ _)
   | (with_reducible exact dom_Next.mono _ _ _)
   | (with_reducible exact dom_Size.mono _ _)
   | (with_reducible exact secateurlaw02_Small.mono _ _)
   | (with_reducible exact secateurlaw02_fixed.mono _)
   | (with_reducible exact secateurref02_Ends.mono _ _)
   | (with_reducible exact secateurref02_Has.mono _ _ _)
   | (with_reducible exact secateurref02_Next.mono _ _ _)
   | (with_reducible exact secateurref02_Nums.mono _ _ _)
   | (with_reducible exact secateurref02_Values.mono _ _)
   | (with_reducible exact LeO.refl _)
   | (with_reducible exact LeO.none _)
   | (with_reducible refine LeO.ite ?_ ?_)
   | (with_reducible refine LeO.bind ?_ (fun _ => ?_))
   | exact ih0 _ _ _
   | exact ih1 _ _ _ _ _
   | exact dom_Next.mono _ _ _
   | exact dom_Size.mono _ _
   | exact secateurlaw02_Small.mono _ _
   | exact secateurlaw02_fixed.mono _
   | exact secateurref02_Ends.mono _ _
   | exact secateurref02_Has.mono _ _ _
   | exact secateurref02_Next.mono _ _ _
   | exact secateurref02_Nums.mono _ _ _
   | exact secateurref02_Values.mono _ _
   | exact LeO.none _
   | refine LeO.ite ?_ ?_
   | refine LeO.bind ?_ (fun _ => ?_)
  ·intro y0 y1 y2 y3 y4
   unfold secateurlaw02_DomTells.l1
   repeat' first
   | (with_reducible exact ih0 _ _ _)
   | (with_reducible exact ih1 _ _ _ _ _)
   | (with_reducible exact dom_Next.mono _ _ _)
   | (with_reducible exact dom_Size.mono _ _)
   | (with_reducible exact secateurlaw02_Small.mono _ _)
   | (with_reducible exact secateurlaw02_fixed.mono _)
   | (with_reducible exact secateurref02_Ends.mono _ _)
   | (with_reducible exact secateurref02_Has.mono _ _ _)
   | (with_reducible exact secateurref02_Next.mono _ _ _)
   | (with_reducible exact secateurref02_Nums.mono _ _ _)
   | (with_reducible exact secateurref02_Values.mono _ _)
   | (with_reducible exact LeO.refl _)
   | (with_reducible exact LeO.none _)
   | (with_reducible refine LeO.ite ?_ ?_)
   | (with_reducible refine LeO.bind ?_ (fun _ => ?_))
   | exact ih0 _ _ _
   | exact ih1 _ _ _ _ _
   | exact dom_Next.mono _ _ _
   | exact dom_Size.mono _ _
   | exact secateurlaw02_Small.mono _ _
   | exact secateurlaw02_fixed.mono _
   | exact secateurref02_Ends.mono _ _
   | exact secateurref02_Has.mono _ _ _
   | exact secateurref02_Next.mono _ _ _
   | exact secateurref02_Nums.mono _ _ _
   | exact secateurref02_Values.mono _ _
   | exact LeO.none _
   | refine LeO.ite ?_ ?_
   | refine LeO.bind ?_ (fun _ => ?_)
theorem secateurlaw02_DomTells.mono : ∀ a0 a1 k, LeO (secateurlaw02_DomTells.f k a0 a1) (secateurlaw02_DomTells.f (k + 1) a0 a1) := by
 intro a0 a1 k
 obtain ⟨ih0, ih1⟩ := secateurlaw02_DomTells.mono_l k
 unfold secateurlaw02_DomTells.f
 repeat' first
   | (with_reducible exact ih0 _ _ _)
   | (with_reducible exact ih1 _ _ _ _ _)
   | (with_reducible exact dom_Next.mono _ _ _)
   | (with_reducible exact dom_Size.mono _ _)
   | (with_reducible exact secateurlaw02_Small.mono _ _)
   | (with_reducible exact secateurlaw02_fixed.mono _)
   | (with_reducible exact secateurref02_Ends.mono _ _)
   | (with_reducible exact secateurref02_Has.mono _ _ _)
   | (with_reducible exact secateurref02_Next.mono _ _ _)
   | (with_reducible exact secateurref02_Nums.mono _ _ _)
   | (with_reducible exact secateurref02_Values.mono _ _)
   | (with_reducible exact LeO.refl _)
   | (with_reducible exact LeO.none _)
   | (with_reducible refine LeO.ite ?_ ?_)
   | (with_reducible refine LeO.bind ?_ (fun _ => ?_))
   | exact ih0 _ _ _
   | exact ih1 _ _ _ _ _
   | exact dom_Next.mono _ _ _
   | exact dom_Size.mono _ _
   | exact secateurlaw02_Small.mono _ _
   | exact secateurlaw02_fixed.mono _
   | exact secateurref02_Ends.mono _ _
   | exact secateurref02_Has.mono _ _ _
   | exact secateurref02_Next.mono _ _ _
   | exact secateurref02_Nums.mono _ _ _
   | exact secateurref02_Values.mono _ _
   | exact LeO.none _
   | refine LeO.ite ?_ ?_
   | refine LeO.bind ?_ (fun _ => ?_)
set_option maxHeartbeats 8000000 in
set_option maxRecDepth 100000 in
theorem secateurlaw02_DomTells.calls (k : Nat) (A0 : Option Addr) (c0 : Nat) (l0 : List Int) (a1 : Int) (r : Bool) (w : World) (hr0 : Kd.C (Kd.int .i64) w A0 l0.length l0) (hc0 : l0.length ≤ c0) (h : secateurlaw02_DomTells.f k l0 a1 = some r) :
  Calls Try.prog 6 #[.slice A0 l0.length c0, .int .i64 a1] w fun e w' => e = .returned (.bool r) ∧ Below w.heap.size w w' := by
 have HR0 := Aside0.mk hr0
 have HC0 := Aside0.mk hc0
 clear hr0 hc0
 have HB := Aside0.mk (Below.refl w.heap.size w)
 have H : ((secateurlaw02_Small.f k l0).bind fun t401 => (secateurlaw02_DomTells.l0 k a1 t401 0)) = some r := h
 clear h
 replace H := Option.bind_eq_some_iff.mp H
 obtain ⟨t401, A30, H⟩ := H
 replace H : (secateurlaw02_DomTells.l0 k a1 t401 0) = some r := H
 have A3 := Aside0.mk A30
 clear A30
 have H' := Aside0.mk H
 clear H
 go_enter Try.func6, Try.ntmps6
 go_wp2_with (first | ((with_reducible refine gate_callee (f := 20) rfl ?_); refine goesL_ (some 21) rfl rfl Try.func20 (by kernel_rfl) rfl #[.slice A0 l0.length c0] rfl (by (try simp only [List.map_toArray, List.map_cons, List.map_nil]); first | done | rfl | (simp only [List.length_drop, List.length_take]; rfl)) ?_; (with_reducible refine (secateurlaw02_Small.calls k _ _ l0 t401 _ ?side1 ?side2 A3.out).mono ?_); (case side1 => repeat (first | exact HR0.out | (with_reducible refine Kd.C_alloc ?_ _) | (with_reducible refine Kd.C_drewN ?_ _) | (with_reducible refine Kd.C_drew ?_))); (case side2 => exact HC0.out); rintro e w4 ⟨v402, rfl, ho0, hb⟩; refine ⟨_, rfl, ?_⟩; have n0_ := Aside0.mk (Kd.R_lower ho0 (below_size (by repeat (first | (with_reducible first | exact HB.out | apply below_alloc | apply pw_below_drewN | apply below_drew1) | exact HB.out)))); have n1_ := Aside0.mk (below_step (by repeat (first | (with_reducible first | exact HB.out | apply below_alloc | apply pw_below_drewN | apply below_drew1) | exact HB.out)) hb); clear HB; have HO403 := n0_; have HB := n1_; clear n0_ n1_; (try clear hb); (try clear hb2); (try clear hk); (try clear hi); (try clear ho0)))
 go_loopg [6] k (fun kq v6 w' => ∃ (x6_1 : Int), v6 = .int .i64 x6_1 ∧ Aside0 (secateurlaw02_DomTells.l0 kq a1 t401 x6_1 = some r) ∧ Aside0 (kq ≤ k) ∧ Aside0 (Kd.R k52 52 w' w.heap.size (fun _ => True) v402 t401) ∧ Aside0 (Below w.heap.size w w'))
 case atStart => exact ⟨(0), (by first | rfl | (simp; done) | (simp [*]; done)), H', ⟨Nat.le_refl _⟩, ⟨by (with_reducible repeat (first | apply Kd.R_alloc | apply Kd.R_drewN | apply Kd.R_drew)); exact HO403.out⟩, ⟨by repeat (first | (with_reducible first | exact HB.out | apply below_alloc | apply pw_below_drewN | apply below_drew1) | exact HB.out)⟩⟩
 case round =>
  clear H'
  try clear c2
  try clear p2
  obtain ⟨x6_1, rfl, HA, HK1, HO_5, HB⟩ := hrel
  cases gk with
  | zero => exact absurd HA.out (by simp [secateurlaw02_DomTells.l0])
  | succ k1 =>
   have H := HA.out
   clear HA
   simp only [secateurlaw02_DomTells.l0] at H
   by_cases c5 : x6_1 < 2
   ·rw [if_pos c5] at H
    have c5b0 : decide (x6_1 < 2) = true := decide_eq_true c5
    clear c5
    replace H := Option.bind_eq_some_iff.mp H
    obtain ⟨t404, A60, H⟩ := H
    replace H : ((secateurref02_Values.f k1 t401).bind fun t407 => ((secateurref02_Nums.f k1 t404 t407).bind fun t410 => (if t410 = true then (secateurlaw02_DomTells.l1 k1 a1 t401 x6_1 t404 0) else (none)))) = some r := H
    have A6 := Aside0.mk A60
    clear A60
    replace H := Option.bind_eq_some_iff.mp H
    obtain ⟨t407, A70, H⟩ := H
    replace H : ((secateurref02_Nums.f k1 t404 t407).bind fun t410 => (if t410 = true then (secateurlaw02_DomTells.l1 k1 a1 t401 x6_1 t404 0) else (none))) = some r := H
    have A7 := Aside0.mk A70
    clear A70
    replace H := Option.bind_eq_some_iff.mp H
    obtain ⟨t410, A80, H⟩ := H
    replace H : (if t410 = true then (secateurlaw02_DomTells.l1 k1 a1 t401 x6_1 t404 0) else (none)) = some r := H
    have A8 := Aside0.mk A80
    clear A80
    by_cases c9 : t410 = true
    ·subst c9
     have H1 : (secateurlaw02_DomTells.l1 k1 a1 t401 x6_1 t404 0) = some r := by rw [if_pos rfl] at H; exact H
     clear H
     have H := H1
     clear H1
     have H' := Aside0.mk H
     clear H
     obtain ⟨Ao10, co10, eo10⟩ := Kd.R_slice HO_5.out
     subst eo10
     go_wp2_with (first | ((with_reducible refine gate_callee (f := 29) rfl ?_); refine goesL_ (some 27) rfl rfl Try.func29 (by kernel_rfl) rfl #[.slice Ao10 t401.length co10] rfl (by (try simp only [List.map_toArray, List.map_cons, List.map_nil]); first | done | rfl | (simp only [List.length_drop, List.length_take]; rfl)) ?_; (with_reducible refine (dom_Values.calls _ _ t401 t404 _ ?side1 ?side2 A6.out).mono ?_); (case side1 => repeat (first | exact (Kd.R_reads' HO_5.out).2.2 | (with_reducible refine Kd.C_alloc ?_ _) | (with_reducible refine Kd.C_drewN ?_ _) | (with_reducible refine Kd.C_drew ?_))); (case side2 => exact (Kd.R_reads' HO_5.out).2.1); rintro e w11 ⟨v405, rfl, ho0, hb⟩; refine ⟨_, rfl, ?_⟩; have n0_ := Aside0.mk (Kd.R_below (by (with_reducible repeat (first | apply Kd.R_alloc | apply Kd.R_drewN | apply Kd.R_drew)); exact HO_5.out) hb); have n1_ := Aside0.mk (Kd.R_lower ho0 (below_size (by repeat (first | (with_reducible first | exact HB.out | apply below_alloc | apply pw_below_drewN | apply below_drew1) | exact HB.out)))); have n2_ := Aside0.mk (below_step (by repeat (first | (with_reducible first | exact HB.out | apply below_alloc | apply pw_below_drewN | apply below_drew1) | exact HB.out)) hb); clear HO_5; clear HB; have HO_5 := n0_; have HO406 := n1_; have HB := n2_; clear n0_ n1_ n2_; (try clear hb); (try clear hb2); (try clear hk); (try clear hi); (try clear ho0)) | ((with_reducible refine gate_callee (f := 30) rfl ?_); refine goesL_ (some 30) rfl rfl Try.func30 (by kernel_rfl) rfl #[.slice Ao10 t401.length co10] rfl (by (try simp only [List.map_toArray, List.map_cons, List.map_nil]); first | done | rfl | (simp only [List.length_drop, List.length_take]; rfl)) ?_; (with_reducible refine (secateurref02_Values.calls k1 _ _ t401 t407 _ ?side1 ?side2 A7.out).mono ?_); (case side1 => repeat (first | exact (Kd.R_reads' HO_5.out).2.2 | (with_reducible refine Kd.C_alloc ?_ _) | (with_reducible refine Kd.C_drewN ?_ _) | (with_reducible refine Kd.C_drew ?_))); (case side2 => exact (Kd.R_reads' HO_5.out).2.1); rintro e w12 ⟨v408, rfl, ho0, hb⟩; refine ⟨_, rfl, ?_⟩; have n0_ := Aside0.mk (Kd.R_below (by (with_reducible repeat (first | apply Kd.R_alloc | apply Kd.R_drewN | apply Kd.R_drew)); exact HO_5.out) hb); have n1_ := Aside0.mk (Kd.R_elder' (by (with_reducible repeat (first | apply Kd.R_alloc | apply Kd.R_drewN | apply Kd.R_drew)); exact HO406.out) (Kd.R_base ho0) hb); have n2_ := Aside0.mk (Kd.R_lower (Kd.R_new' ho0 (Kd.R_lt (by (with_reducible repeat (first | apply Kd.R_alloc | apply Kd.R_drewN | apply Kd.R_drew)); exact HO406.out))) (below_size (by repeat (first | (with_reducible first | exact HB.out | apply below_alloc | apply pw_below_drewN | apply below_drew1) | exact HB.out)))); have n3_ := Aside0.mk (below_step (by repeat (first | (with_reducible first | exact HB.out | apply below_alloc | apply pw_below_drewN | apply below_drew1) | exact HB.out)) hb); clear HO_5; clear HO406; clear HB; have HO_5 := n0_; have HO406 := n1_; have HO409 := n2_; have HB := n3_; clear n0_ n1_ n2_ n3_; (try clear hb); (try clear hb2); (try clear hk); (try clear hi); (try clear ho0); obtain ⟨Ao13, co13, eo13⟩ := Kd.R_slice HO406.out; subst eo13; obtain ⟨Ao14, co14, eo14⟩ := Kd.R_slice HO409.out; subst eo14) | ((with_reducible refine gate_callee (f := 18) rfl ?_); refine goesL_ (some 31) rfl rfl Try.func18 (by kernel_rfl) rfl #[.slice Ao13 t404.length co13, .slice Ao14 t407.length co14] rfl (by (try simp only [List.map_toArray, List.map_cons, List.map_nil]); first | done | rfl | (simp only [List.length_drop, List.length_take]; rfl)) ?_; (with_reducible refine (secateurref02_Nums.calls k1 _ _ t404 _ _ t407 true _ ?side1 ?side2 ?side3 ?side4 A8.out).mono ?_); (case side1 => repeat (first | exact (Kd.R_reads' HO406.out).2.2 | (with_reducible refine Kd.C_alloc ?_ _) | (with_reducible refine Kd.C_drewN ?_ _) | (with_reducible refine Kd.C_drew ?_))); (case side2 => exact (Kd.R_reads' HO406.out).2.1); (case side3 => repeat (first | exact (Kd.R_reads' HO409.out).2.2 | (with_reducible refine Kd.C_alloc ?_ _) | (with_reducible refine Kd.C_drewN ?_ _) | (with_reducible refine Kd.C_drew ?_))); (case side4 => exact (Kd.R_reads' HO409.out).2.1); rintro e w' ⟨rfl, ⟨nd, rfl⟩⟩; refine ⟨_, rfl, ?_⟩))
     go_loopg [8] k1 (fun kq v8 w' => ∃ (x7_2 : List Int) (x8_2 : Int), v8 = .int .i64 x8_2 ∧ Aside0 (secateurlaw02_DomTells.l1 kq a1 t401 x6_1 x7_2 x8_2 = some r) ∧ Aside0 (kq ≤ k1) ∧ Aside0 (Kd.R k52 52 w' w.heap.size (fun _ => True) (.slice Ao10 t401.length co10) t401) ∧ Aside0 (Kd.R (Kd.int .i64) 3 w' w.heap.size (fun _ => True) (.slice Ao13 t404.length co13) x7_2) ∧ Aside0 (Below w.heap.size w w'))
     case atStart => exact ⟨(t404), (0), (by first | rfl | (simp; done) | (simp [*]; done)), H', ⟨Nat.le_refl _⟩, ⟨by (with_reducible repeat (first | apply Kd.R_alloc | apply Kd.R_drewN | apply Kd.R_drew)); exact HO_5.out⟩, ⟨by (with_reducible repeat (first | apply Kd.R_alloc | apply Kd.R_drewN | apply Kd.R_drew)); exact Kd.R_mono HO406.out (fun _ hk => trivial)⟩, ⟨by repeat (first | (with_reducible first | exact HB.out | apply below_alloc | apply pw_below_drewN | apply below_drew1) | exact HB.out)⟩⟩
     case round =>
      clear H'
      try clear c1
      try clear c2
      try clear p2
      try clear c3
      try clear c5
      try clear c5b0
      try clear c6
      try clear c9
      try clear p2
      obtain ⟨x7_2, x8_2, rfl, HA, HK2, HO_5, HO_7, HB⟩ := hrel
      have hl7_2 := (Kd.R_reads' HO_7.out).1
      rw [hl7_2] at HO_7
      (try simp only [hl7_2])
      (try simp only [hl7_2] at HO_5)
      cases gk with
      | zero => exact absurd HA.out (by simp [secateurlaw02_DomTells.l1])
      | succ k2 =>
       have H := HA.out
       clear HA
       simp only [secateurlaw02_DomTells.l1] at H
       by_cases c15 : x8_2 < (x7_2.length : Int)
       ·rw [if_pos c15] at H
        have c15b0 : decide (x8_2 < (x7_2.length : Int)) = true := decide_eq_true c15
        clear c15
        by_cases c16 : 0 ≤ x8_2
        ·rw [if_pos c16] at H
         have c16b0 : decide (0 ≤ x8_2) = true := decide_eq_true c16
         clear c16
         obtain ⟨y411, hy411⟩ : ∃ y_ : List Int, y_ = (x7_2.set (x8_2 : Int).toNat 0) := ⟨_, rfl⟩
         replace H : (secateurlaw02_DomTells.l1 k2 a1 t401 x6_1 y411 (wrap64 (x8_2 + 1))) = some r := by first | (rw [hy411]; with_reducible exact H) | (have H2_ := (Option.bind_some _ _).symm.trans H; rw [hy411]; with_reducible exact H2_) | (have H2_ := (Option.bind_some _ _).symm.trans H; with_reducible exact H2_) | with_reducible exact H | (rw [hy411]; exact H) | exact H
         have Ny411 := Aside0.mk hy411
         clear hy411
         have H' := Aside0.mk H
         clear H
         have p17 : 0 ≤ (x8_2 : Int) := of_decide_eq_true (by first | (with_reducible assumption) | assumption)
         have q17 : (x8_2 : Int) < ((x7_2.length : Int) : Int) := of_decide_eq_true (by first | (with_reducible assumption) | assumption)
         obtain ⟨go17, co17, eo17, gb17, gl17, cl17, HG17⟩ := Kd.R_form HO_7.out (by omega)
         (first | cases eo17 | (injection eo17 with ea_ en_ ec_; (first | subst ea_ | (injection ea_ with ea_; subst ea_)); subst ec_; clear en_))
         have GB17 := Aside0.mk gb17
         have GG17 := Aside0.mk HG17
         clear gb17 gl17 HG17
         obtain ⟨hx17_0, hf17_0⟩ := Kd.R_celln 0 HO_7.out (x8_2 : Int) p17 q17
         replace p17 := eq_true p17
         replace q17 := eq_true q17
         have HP18 := Kd.R_putg HO_7.out (x8_2 : Int) 0
         go_wp2_with (first | ((with_reducible refine gate_store (t := 3) (p := 41) rfl ?_); refine store_event (t := 3) (p := 41) (v := ?vo_w19) (w1 := (wr.setCell ⟨go17, (x8_2 : Int).toNat, none⟩ (.int .i64 0))) ?hg ?ho ?hn ?hr ?_; (case ho => rfl); (case hg => rfl); (case hn => rfl); (case hr => first | (go_simp; done) | (go_simp; rfl)); intro w19 hw; have hg : wr.grownBy w19 (some go17) := (by rw [hw]; exact HP18.2); have hp_ : Kd.R (Kd.int .i64) 3 w19 w.heap.size (fun _ => True) (.slice (some ⟨go17, 0, none⟩) x7_2.length co13) y411 := (by rw [hw, Ny411.out]; exact HP18.1); clear HP18; have n0_ := Aside0.mk (Kd.R_over' (v := (.slice (some ⟨go17, 0, none⟩) x7_2.length co13)) (by (with_reducible repeat (first | apply Kd.R_alloc | apply Kd.R_drewN | apply Kd.R_drew)); exact HO_5.out) (Kd.R_typed HO_7.out) (by decide) hg); have n1_ := Aside0.mk (hp_); have n2_ := Aside0.mk ((by rw [hw]; exact below_set (HB.out) GB17.out : Below w.heap.size w w19)); clear HO_5; clear HO_7; clear HB; have HO_5 := n0_; have HO_7 := n1_; have HB := n2_; clear n0_ n1_ n2_; clear hg hw hp_))
         (try simp only [← hl7_2])
         go_roundg k2
         case measure => have := HK1.out; have := HK2.out; omega
         case rel => exact ⟨(y411), (wrap64 (x8_2 + 1)), (by first | rfl | (simp; done) | (simp [*]; done)), H', ⟨by have := HK1.out; have := HK2.out; omega⟩, ⟨by (try simp only [hl7_2]); (with_reducible repeat (first | apply Kd.R_alloc | apply Kd.R_drewN | apply Kd.R_drew)); exact HO_5.out⟩, ⟨by (try simp only [hl7_2]); (with_reducible repeat (first | apply Kd.R_alloc | apply Kd.R_drewN | apply Kd.R_drew)); exact HO_7.out⟩, ⟨by repeat (first | (with_reducible first | exact HB.out | apply below_alloc | apply pw_below_drewN | apply below_drew1) | exact HB.out)⟩⟩
        ·rw [if_neg c16] at H
         exact absurd H (by simp)
       ·rw [if_neg c15] at H
        have c15b0 : decide (x8_2 < (x7_2.length : Int)) = false := decide_eq_false c15
        clear c15
        have H' := Aside0.mk H
        clear H
        go_wp2
        (try simp only [← hl7_2])
        go_roundg k2
        case measure => have := HK1.out; have := HK2.out; omega
        case rel => exact ⟨(wrap64 (x6_1 + 1)), (by first | rfl | (simp; done) | (simp [*]; done)), H', ⟨by have := HK1.out; have := HK2.out; omega⟩, ⟨by (try simp only [hl7_2]); (with_reducible repeat (first | apply Kd.R_alloc | apply Kd.R_drewN | apply Kd.R_drew)); exact HO_5.out⟩, ⟨by repeat (first | (with_reducible first | exact HB.out | apply below_alloc | apply pw_below_drewN | apply below_drew1) | exact HB.out)⟩⟩
    ·replace c9 := Bool.eq_false_iff.mpr c9
     subst c9
     have H1 : (none) = some r := by rw [if_neg (show ¬ (false = true) by decide)] at H; exact H
     clear H
     have H := H1
     clear H1
     exact absurd H (by simp)
   ·rw [if_neg c5] at H
    have c5b0 : decide (x6_1 < 2) = false := decide_eq_false c5
    clear c5
    replace H := Option.bind_eq_some_iff.mp H
    obtain ⟨⟨t412, t413, t414⟩, A200, H⟩ := H
    replace H : ((dom_Least.f t401).bind fun bt415 => ((dom_Most.f t401).bind fun bt417 => ((dom_Next.f k1 t401 a1).bind fun bt419 => ((secateurref02_Next.f k1 t401 a1).bind fun bt421 => ((dom_Size.f k1 t401).bind fun t423 => ((secateurref02_Values.f k1 t401).bind fun t424 => (if t423 = (t424.length : Int) then (if t412 = bt415.1 then (if t413 = bt417.1 then (if (bt415.2 == t414) = true then (if (bt417.2 == t414) = true then (if bt419.1 = bt421.1 then (if (bt419.2 == bt421.2) = true then ((dom_Has.f t401 a1).bind fun t427 => ((secateurref02_Values.f k1 t401).bind fun t428 => ((secateurref02_Has.f k1 t428 a1).bind fun t431 => (if (t427 == t431) = true then ((secateurlaw02_fixed.f k1).bind fun t432 => (some t432)) else (none))))) else (none)) else (none)) else (none)) else (none)) else (none)) else (none)) else (none)))))))) = some r := H
    have A20 := Aside0.mk A200
    clear A200
    replace H := Option.bind_eq_some_iff.mp H
    obtain ⟨⟨t415, t416⟩, A210, H⟩ := H
    replace H : ((dom_Most.f t401).bind fun bt417 => ((dom_Next.f k1 t401 a1).bind fun bt419 => ((secateurref02_Next.f k1 t401 a1).bind fun bt421 => ((dom_Size.f k1 t401).bind fun t423 => ((secateurref02_Values.f k1 t401).bind fun t424 => (if t423 = (t424.length : Int) then (if t412 = t415 then (if t413 = bt417.1 then (if (t416 == t414) = true then (if (bt417.2 == t414) = true then (if bt419.1 = bt421.1 then (if (bt419.2 == bt421.2) = true then ((dom_Has.f t401 a1).bind fun t427 => ((secateurref02_Values.f k1 t401).bind fun t428 => ((secateurref02_Has.f k1 t428 a1).bind fun t431 => (if (t427 == t431) = true then ((secateurlaw02_fixed.f k1).bind fun t432 => (some t432)) else (none))))) else (none)) else (none)) else (none)) else (none)) else (none)) else (none)) else (none))))))) = some r := H
    have A21 := Aside0.mk A210
    clear A210
    replace H := Option.bind_eq_some_iff.mp H
    obtain ⟨⟨t417, t418⟩, A220, H⟩ := H
    replace H : ((dom_Next.f k1 t401 a1).bind fun bt419 => ((secateurref02_Next.f k1 t401 a1).bind fun bt421 => ((dom_Size.f k1 t401).bind fun t423 => ((secateurref02_Values.f k1 t401).bind fun t424 => (if t423 = (t424.length : Int) then (if t412 = t415 then (if t413 = t417 then (if (t416 == t414) = true then (if (t418 == t414) = true then (if bt419.1 = bt421.1 then (if (bt419.2 == bt421.2) = true then ((dom_Has.f t401 a1).bind fun t427 => ((secateurref02_Values.f k1 t401).bind fun t428 => ((secateurref02_Has.f k1 t428 a1).bind fun t431 => (if (t427 == t431) = true then ((secateurlaw02_fixed.f k1).bind fun t432 => (some t432)) else (none))))) else (none)) else (none)) else (none)) else (none)) else (none)) else (none)) else (none)))))) = some r := H
    have A22 := Aside0.mk A220
    clear A220
    replace H := Option.bind_eq_some_iff.mp H
    obtain ⟨⟨t419, t420⟩, A230, H⟩ := H
    replace H : ((secateurref02_Next.f k1 t401 a1).bind fun bt421 => ((dom_Size.f k1 t401).bind fun t423 => ((secateurref02_Values.f k1 t401).bind fun t424 => (if t423 = (t424.length : Int) then (if t412 = t415 then (if t413 = t417 then (if (t416 == t414) = true then (if (t418 == t414) = true then (if t419 = bt421.1 then (if (t420 == bt421.2) = true then ((dom_Has.f t401 a1).bind fun t427 => ((secateurref02_Values.f k1 t401).bind fun t428 => ((secateurref02_Has.f k1 t428 a1).bind fun t431 => (if (t427 == t431) = true then ((secateurlaw02_fixed.f k1).bind fun t432 => (some t432)) else (none))))) else (none)) else (none)) else (none)) else (none)) else (none)) else (none)) else (none))))) = some r := H
    have A23 := Aside0.mk A230
    clear A230
    replace H := Option.bind_eq_some_iff.mp H
    obtain ⟨⟨t421, t422⟩, A240, H⟩ := H
    replace H : ((dom_Size.f k1 t401).bind fun t423 => ((secateurref02_Values.f k1 t401).bind fun t424 => (if t423 = (t424.length : Int) then (if t412 = t415 then (if t413 = t417 then (if (t416 == t414) = true then (if (t418 == t414) = true then (if t419 = t421 then (if (t420 == t422) = true then ((dom_Has.f t401 a1).bind fun t427 => ((secateurref02_Values.f k1 t401).bind fun t428 => ((secateurref02_Has.f k1 t428 a1).bind fun t431 => (if (t427 == t431) = true then ((secateurlaw02_fixed.f k1).bind fun t432 => (some t432)) else (none))))) else (none)) else (none)) else (none)) else (none)) else (none)) else (none)) else (none)))) = some r := H
    have A24 := Aside0.mk A240
    clear A240
    replace H := Option.bind_eq_some_iff.mp H
    obtain ⟨t423, A250, H⟩ := H
    replace H : ((secateurref02_Values.f k1 t401).bind fun t424 => (if t423 = (t424.length : Int) then (if t412 = t415 then (if t413 = t417 then (if (t416 == t414) = true then (if (t418 == t414) = true then (if t419 = t421 then (if (t420 == t422) = true then ((dom_Has.f t401 a1).bind fun t427 => ((secateurref02_Values.f k1 t401).bind fun t428 => ((secateurref02_Has.f k1 t428 a1).bind fun t431 => (if (t427 == t431) = true then ((secateurlaw02_fixed.f k1).bind fun t432 => (some t432)) else (none))))) else (none)) else (none)) else (none)) else (none)) else (none)) else (none)) else (none))) = some r := H
    have A25 := Aside0.mk A250
    clear A250
    replace H := Option.bind_eq_some_iff.mp H
    obtain ⟨t424, A260, H⟩ := H
    replace H : (if t423 = (t424.length : Int) then (if t412 = t415 then (if t413 = t417 then (if (t416 == t414) = true then (if (t418 == t414) = true then (if t419 = t421 then (if (t420 == t422) = true then ((dom_Has.f t401 a1).bind fun t427 => ((secateurref02_Values.f k1 t401).bind fun t428 => ((secateurref02_Has.f k1 t428 a1).bind fun t431 => (if (t427 == t431) = true then ((secateurlaw02_fixed.f k1).bind fun t432 => (some t432)) else (none))))) else (none)) else (none)) else (none)) else (none)) else (none)) else (none)) else (none)) = some r := H
    have A26 := Aside0.mk A260
    clear A260
    by_cases c27 : t423 = (t424.length : Int)
    ·rw [if_pos c27] at H
     have c27b0 : (t423 == (t424.length : Int)) = true := beq_iff_eq.mpr c27
     have c27b1 : (t423 != (t424.length : Int)) = false := bne_eq_false_iff_eq.mpr c27
     clear c27
     by_cases c28 : t412 = t415
     ·rw [if_pos c28] at H
      have c28b0 : (t412 == t415) = true := beq_iff_eq.mpr c28
      have c28b1 : (t412 != t415) = false := bne_eq_false_iff_eq.mpr c28
      clear c28
      by_cases c29 : t413 = t417
      ·rw [if_pos c29] at H
       have c29b0 : (t413 == t417) = true := beq_iff_eq.mpr c29
       have c29b1 : (t413 != t417) = false := bne_eq_false_iff_eq.mpr c29
       clear c29
       by_cases c30 : (t416 == t414) = true
       ·rw [if_pos c30] at H
        have c30b0 : (t416 == t414) = true := c30
        (try (have c30b1 : decide (t416 = t414) = true := by simpa using c30))
        (try (have c30b2 : (t416 == t414) = true := by simpa using c30))
        clear c30
        by_cases c31 : (t418 == t414) = true
        ·rw [if_pos c31] at H
         have c31b0 : (t418 == t414) = true := c31
         (try (have c31b1 : decide (t418 = t414) = true := by simpa using c31))
         (try (have c31b2 : (t418 == t414) = true := by simpa using c31))
         clear c31
         by_cases c32 : t419 = t421
         ·rw [if_pos c32] at H
          have c32b0 : (t419 == t421) = true := beq_iff_eq.mpr c32
          have c32b1 : (t419 != t421) = false := bne_eq_false_iff_eq.mpr c32
          clear c32
          by_cases c33 : (t420 == t422) = true
          ·rw [if_pos c33] at H
           have c33b0 : (t420 == t422) = true := c33
           (try (have c33b1 : decide (t420 = t422) = true := by simpa using c33))
           (try (have c33b2 : (t420 == t422) = true := by simpa using c33))
           clear c33
           replace H := Option.bind_eq_some_iff.mp H
           obtain ⟨t427, A340, H⟩ := H
           replace H : ((secateurref02_Values.f k1 t401).bind fun t428 => ((secateurref02_Has.f k1 t428 a1).bind fun t431 => (if (t427 == t431) = true then ((secateurlaw02_fixed.f k1).bind fun t432 => (some t432)) else (none)))) = some r := H
           have A34 := Aside0.mk A340
           clear A340
           replace H := Option.bind_eq_some_iff.mp H
           obtain ⟨t428, A350, H⟩ := H
           replace H : ((secateurref02_Has.f k1 t428 a1).bind fun t431 => (if (t427 == t431) = true then ((secateurlaw02_fixed.f k1).bind fun t432 => (some t432)) else (none))) = some r := H
           have A35 := Aside0.mk A350
           clear A350
           replace H := Option.bind_eq_some_iff.mp H
           obtain ⟨t431, A360, H⟩ := H
           replace H : (if (t427 == t431) = true then ((secateurlaw02_fixed.f k1).bind fun t432 => (some t432)) else (none)) = some r := H
           have A36 := Aside0.mk A360
           clear A360
           by_cases c37 : (t427 == t431) = true
           ·rw [if_pos c37] at H
            have c37b0 : (t427 == t431) = true := c37
            (try (have c37b1 : decide (t427 = t431) = true := by simpa using c37))
            (try (have c37b2 : (t427 == t431) = true := by simpa using c37))
            clear c37
            replace H := Option.bind_eq_some_iff.mp H
            obtain ⟨t432, A380, H⟩ := H
            replace H : (some t432) = some r := H
            have A38 := Aside0.mk A380
            clear A380
            obtain rfl := Option.some.inj H
            obtain ⟨Ao39, co39, eo39⟩ := Kd.R_slice HO_5.out
            subst eo39
            go_wp2_with (first | ((with_reducible refine gate_callee (f := 31) rfl ?_); refine goesL_ (some 44) rfl rfl Try.func31 (by kernel_rfl) rfl #[.slice Ao39 t401.length co39] rfl (by (try simp only [List.map_toArray, List.map_cons, List.map_nil]); first | done | rfl | (simp only [List.length_drop, List.length_take]; rfl)) ?_; (with_reducible refine (secateurref02_Ends.calls k1 _ _ t401 t412 t413 t414 _ ?side1 ?side2 A20.out).mono ?_); (case side1 => repeat (first | exact (Kd.R_reads' HO_5.out).2.2 | (with_reducible refine Kd.C_alloc ?_ _) | (with_reducible refine Kd.C_drewN ?_ _) | (with_reducible refine Kd.C_drew ?_))); (case side2 => exact (Kd.R_reads' HO_5.out).2.1); rintro e w40 ⟨rfl, hb⟩; refine ⟨_, rfl, ?_⟩; have n0_ := Aside0.mk (Kd.R_below (by (with_reducible repeat (first | apply Kd.R_alloc | apply Kd.R_drewN | apply Kd.R_drew)); exact HO_5.out) hb); have n1_ := Aside0.mk (below_step (by repeat (first | (with_reducible first | exact HB.out | apply below_alloc | apply pw_below_drewN | apply below_drew1) | exact HB.out)) hb); clear HO_5; clear HB; have HO_5 := n0_; have HB := n1_; clear n0_ n1_; (try clear hb); (try clear hb2); (try clear hk); (try clear hi)) | ((with_reducible refine gate_callee (f := 32) rfl ?_); refine goesL_ (some 50) rfl rfl Try.func32 (by kernel_rfl) rfl #[.slice Ao39 t401.length co39] rfl (by (try simp only [List.map_toArray, List.map_cons, List.map_nil]); first | done | rfl | (simp only [List.length_drop, List.length_take]; rfl)) ?_; (with_reducible refine (dom_Least.calls _ _ t401 t415 t416 _ ?side1 ?side2 A21.out).mono ?_); (case side1 => repeat (first | exact (Kd.R_reads' HO_5.out).2.2 | (with_reducible refine Kd.C_alloc ?_ _) | (with_reducible refine Kd.C_drewN ?_ _) | (with_reducible refine Kd.C_drew ?_))); (case side2 => exact (Kd.R_reads' HO_5.out).2.1); rintro e w' ⟨rfl, ⟨nd, rfl⟩⟩; refine ⟨_, rfl, ?_⟩) | ((with_reducible refine gate_callee (f := 27) rfl ?_); refine goesL_ (some 55) rfl rfl Try.func27 (by kernel_rfl) rfl #[.slice Ao39 t401.length co39] rfl (by (try simp only [List.map_toArray, List.map_cons, List.map_nil]); first | done | rfl | (simp only [List.length_drop, List.length_take]; rfl)) ?_; (with_reducible refine (dom_Most.calls _ _ t401 t417 t418 _ ?side1 ?side2 A22.out).mono ?_); (case side1 => repeat (first | exact (Kd.R_reads' HO_5.out).2.2 | (with_reducible refine Kd.C_alloc ?_ _) | (with_reducible refine Kd.C_drewN ?_ _) | (with_reducible refine Kd.C_drew ?_))); (case side2 => exact (Kd.R_reads' HO_5.out).2.1); rintro e w' ⟨rfl, ⟨nd, rfl⟩⟩; refine ⟨_, rfl, ?_⟩) | ((with_reducible refine gate_callee (f := 25) rfl ?_); refine goesL_ (some 61) rfl rfl Try.func25 (by kernel_rfl) rfl #[.slice Ao39 t401.length co39, .int .i64 a1] rfl (by (try simp only [List.map_toArray, List.map_cons, List.map_nil]); first | done | rfl | (simp only [List.length_drop, List.length_take]; rfl)) ?_; (with_reducible refine (dom_Next.calls k1 _ _ t401 a1 t419 t420 _ ?side1 ?side2 A23.out).mono ?_); (case side1 => repeat (first | exact (Kd.R_reads' HO_5.out).2.2 | (with_reducible refine Kd.C_alloc ?_ _) | (with_reducible refine Kd.C_drewN ?_ _) | (with_reducible refine Kd.C_drew ?_))); (case side2 => exact (Kd.R_reads' HO_5.out).2.1); rintro e w41 ⟨rfl, hb⟩; refine ⟨_, rfl, ?_⟩; have n0_ := Aside0.mk (Kd.R_below (by (with_reducible repeat (first | apply Kd.R_alloc | apply Kd.R_drewN | apply Kd.R_drew)); exact HO_5.out) hb); have n1_ := Aside0.mk (below_step (by repeat (first | (with_reducible first | exact HB.out | apply below_alloc | apply pw_below_drewN | apply below_drew1) | exact HB.out)) hb); clear HO_5; clear HB; have HO_5 := n0_; have HB := n1_; clear n0_ n1_; (try clear hb); (try clear hb2); (try clear hk); (try clear hi)) | ((with_reducible refine gate_callee (f := 33) rfl ?_); refine goesL_ (some 67) rfl rfl Try.func33 (by kernel_rfl) rfl #[.slice Ao39 t401.length co39, .int .i64 a1] rfl (by (try simp only [List.map_toArray, List.map_cons, List.map_nil]); first | done | rfl | (simp only [List.length_drop, List.length_take]; rfl)) ?_; (with_reducible refine (secateurref02_Next.calls k1 _ _ t401 a1 t421 t422 _ ?side1 ?side2 A24.out).mono ?_); (case side1 => repeat (first | exact (Kd.R_reads' HO_5.out).2.2 | (with_reducible refine Kd.C_alloc ?_ _) | (with_reducible refine Kd.C_drewN ?_ _) | (with_reducible refine Kd.C_drew ?_))); (case side2 => exact (Kd.R_reads' HO_5.out).2.1); rintro e w42 ⟨rfl, hb⟩; refine ⟨_, rfl, ?_⟩; have n0_ := Aside0.mk (Kd.R_below (by (with_reducible repeat (first | apply Kd.R_alloc | apply Kd.R_drewN | apply Kd.R_drew)); exact HO_5.out) hb); have n1_ := Aside0.mk (below_step (by repeat (first | (with_reducible first | exact HB.out | apply below_alloc | apply pw_below_drewN | apply below_drew1) | exact HB.out)) hb); clear HO_5; clear HB; have HO_5 := n0_; have HB := n1_; clear n0_ n1_; (try clear hb); (try clear hb2); (try clear hk); (try clear hi)) | ((with_reducible refine gate_callee (f := 28) rfl ?_); refine goesL_ (some 71) rfl rfl Try.func28 (by kernel_rfl) rfl #[.slice Ao39 t401.length co39] rfl (by (try simp only [List.map_toArray, List.map_cons, List.map_nil]); first | done | rfl | (simp only [List.length_drop, List.length_take]; rfl)) ?_; (with_reducible refine (dom_Size.calls k1 _ _ t401 t423 _ ?side1 ?side2 A25.out).mono ?_); (case side1 => repeat (first | exact (Kd.R_reads' HO_5.out).2.2 | (with_reducible refine Kd.C_alloc ?_ _) | (with_reducible refine Kd.C_drewN ?_ _) | (with_reducible refine Kd.C_drew ?_))); (case side2 => exact (Kd.R_reads' HO_5.out).2.1); rintro e w43 ⟨rfl, hb⟩; refine ⟨_, rfl, ?_⟩; have n0_ := Aside0.mk (Kd.R_below (by (with_reducible repeat (first | apply Kd.R_alloc | apply Kd.R_drewN | apply Kd.R_drew)); exact HO_5.out) hb); have n1_ := Aside0.mk (below_step (by repeat (first | (with_reducible first | exact HB.out | apply below_alloc | apply pw_below_drewN | apply below_drew1) | exact HB.out)) hb); clear HO_5; clear HB; have HO_5 := n0_; have HB := n1_; clear n0_ n1_; (try clear hb); (try clear hb2); (try clear hk); (try clear hi)) | ((with_reducible refine gate_callee (f := 30) rfl ?_); refine goesL_ (some 73) rfl rfl Try.func30 (by kernel_rfl) rfl #[.slice Ao39 t401.length co39] rfl (by (try simp only [List.map_toArray, List.map_cons, List.map_nil]); first | done | rfl | (simp only [List.length_drop, List.length_take]; rfl)) ?_; (with_reducible refine (secateurref02_Values.calls k1 _ _ t401 t424 _ ?side1 ?side2 A26.out).mono ?_); (case side1 => repeat (first | exact (Kd.R_reads' HO_5.out).2.2 | (with_reducible refine Kd.C_alloc ?_ _) | (with_reducible refine Kd.C_drewN ?_ _) | (with_reducible refine Kd.C_drew ?_))); (case side2 => exact (Kd.R_reads' HO_5.out).2.1); rintro e w44 ⟨v425, rfl, ho0, hb⟩; refine ⟨_, rfl, ?_⟩; have n0_ := Aside0.mk (Kd.R_below (by (with_reducible repeat (first | apply Kd.R_alloc | apply Kd.R_drewN | apply Kd.R_drew)); exact HO_5.out) hb); have n1_ := Aside0.mk (Kd.R_lower ho0 (below_size (by repeat (first | (with_reducible first | exact HB.out | apply below_alloc | apply pw_below_drewN | apply below_drew1) | exact HB.out)))); have n2_ := Aside0.mk (below_step (by repeat (first | (with_reducible first | exact HB.out | apply below_alloc | apply pw_below_drewN | apply below_drew1) | exact HB.out)) hb); clear HO_5; clear HB; have HO_5 := n0_; have HO426 := n1_; have HB := n2_; clear n0_ n1_ n2_; (try clear hb); (try clear hb2); (try clear hk); (try clear hi); (try clear ho0); obtain ⟨Ao45, co45, eo45⟩ := Kd.R_slice HO426.out; subst eo45) | (go_at_call 26; (with_reducible refine (dom_Has.calls _ _ t401 a1 t427 _ ?side1 ?side2 A34.out).mono ?_); (case side1 => repeat (first | exact (Kd.R_reads' HO_5.out).2.2 | (with_reducible refine Kd.C_alloc ?_ _) | (with_reducible refine Kd.C_drewN ?_ _) | (with_reducible refine Kd.C_drew ?_))); (case side2 => exact (Kd.R_reads' HO_5.out).2.1); rintro e w46 ⟨rfl, hb⟩; have n0_ := Aside0.mk (Kd.R_below (by (with_reducible repeat (first | apply Kd.R_alloc | apply Kd.R_drewN | apply Kd.R_drew)); exact HO_5.out) hb); have n1_ := Aside0.mk (Kd.R_below (by (with_reducible repeat (first | apply Kd.R_alloc | apply Kd.R_drewN | apply Kd.R_drew)); exact HO426.out) hb); have n2_ := Aside0.mk (below_step (by repeat (first | (with_reducible first | exact HB.out | apply below_alloc | apply pw_below_drewN | apply below_drew1) | exact HB.out)) hb); clear HO_5; clear HO426; clear HB; have HO_5 := n0_; have HO426 := n1_; have HB := n2_; clear n0_ n1_ n2_; (try clear hb); (try clear hb2); (try clear hk); (try clear hi)) | (go_at_call 30; (with_reducible refine (secateurref02_Values.calls k1 _ _ t401 t428 _ ?side1 ?side2 A35.out).mono ?_); (case side1 => repeat (first | exact (Kd.R_reads' HO_5.out).2.2 | (with_reducible refine Kd.C_alloc ?_ _) | (with_reducible refine Kd.C_drewN ?_ _) | (with_reducible refine Kd.C_drew ?_))); (case side2 => exact (Kd.R_reads' HO_5.out).2.1); rintro e w47 ⟨v429, rfl, ho0, hb⟩; have n0_ := Aside0.mk (Kd.R_below (by (with_reducible repeat (first | apply Kd.R_alloc | apply Kd.R_drewN | apply Kd.R_drew)); exact HO_5.out) hb); have n1_ := Aside0.mk (Kd.R_elder' (by (with_reducible repeat (first | apply Kd.R_alloc | apply Kd.R_drewN | apply Kd.R_drew)); exact HO426.out) (Kd.R_base ho0) hb); have n2_ := Aside0.mk (Kd.R_lower (Kd.R_new' ho0 (Kd.R_lt (by (with_reducible repeat (first | apply Kd.R_alloc | apply Kd.R_drewN | apply Kd.R_drew)); exact HO426.out))) (below_size (by repeat (first | (with_reducible first | exact HB.out | apply below_alloc | apply pw_below_drewN | apply below_drew1) | exact HB.out)))); have n3_ := Aside0.mk (below_step (by repeat (first | (with_reducible first | exact HB.out | apply below_alloc | apply pw_below_drewN | apply below_drew1) | exact HB.out)) hb); clear HO_5; clear HO426; clear HB; have HO_5 := n0_; have HO426 := n1_; have HO430 := n2_; have HB := n3_; clear n0_ n1_ n2_ n3_; (try clear hb); (try clear hb2); (try clear hk); (try clear hi); (try clear ho0); obtain ⟨Ao48, co48, eo48⟩ := Kd.R_slice HO430.out; subst eo48) | (go_at_call 34; (with_reducible refine (secateurref02_Has.calls k1 _ _ t428 a1 t431 _ ?side1 ?side2 A36.out).mono ?_); (case side1 => repeat (first | exact (Kd.R_reads' HO430.out).2.2 | (with_reducible refine Kd.C_alloc ?_ _) | (with_reducible refine Kd.C_drewN ?_ _) | (with_reducible refine Kd.C_drew ?_))); (case side2 => exact (Kd.R_reads' HO430.out).2.1); rintro e w' ⟨rfl, ⟨nd, rfl⟩⟩) | (go_at_call 19; (with_reducible refine (secateurlaw02_fixed.calls k1  t432 _ A38.out).mono ?_); rintro e w49 ⟨rfl, hb⟩; have n0_ := Aside0.mk (Kd.R_below (by (with_reducible repeat (first | apply Kd.R_alloc | apply Kd.R_drewN | apply Kd.R_drew)); exact HO_5.out) hb); have n1_ := Aside0.mk (Kd.R_below (by (with_reducible repeat (first | apply Kd.R_alloc | apply Kd.R_drewN | apply Kd.R_drew)); exact HO426.out) hb); have n2_ := Aside0.mk (Kd.R_below (by (with_reducible repeat (first | apply Kd.R_alloc | apply Kd.R_drewN | apply Kd.R_drew)); exact HO430.out) hb); have n3_ := Aside0.mk (below_step (by repeat (first | (with_reducible first | exact HB.out | apply below_alloc | apply pw_below_drewN | apply below_drew1) | exact HB.out)) hb); clear HO_5; clear HO426; clear HO430; clear HB; have HO_5 := n0_; have HO426 := n1_; have HO430 := n2_; have HB := n3_; clear n0_ n1_ n2_ n3_; (try clear hb); (try clear hb2); (try clear hk); (try clear hi)))
            go_ret
            exact ⟨by first | rfl | (simp [errW_none, errW_some] <;> rfl) | (simp [*, errW_none, errW_some] <;> rfl), by repeat (first | (with_reducible first | exact HB.out | apply below_alloc | apply pw_below_drewN | apply below_drew1) | exact HB.out)⟩
           ·rw [if_neg c37] at H
            exact absurd H (by simp)
          ·rw [if_neg c33] at H
           exact absurd H (by simp)
         ·rw [if_neg c32] at H
          exact absurd H (by simp)
        ·rw [if_neg c31] at H
         exact absurd H (by simp)
       ·rw [if_neg c30] at H
        exact absurd H (by simp)
      ·rw [if_neg c29] at H
       exact absurd H (by simp)
     ·rw [if_neg c28] at H
      exact absurd H (by simp)
    ·rw [if_neg c27] at H
     exact absurd H (by simp)

/-- THE ONE PURE STATEMENT of secateurlaw02_DomTells: yours. -/
def secateurlaw02_DomTells.Pure : Prop := ∀ (l0 : List Int) (a1 : Int), l0.length ≤ maxLen → l0.length * 8 ≤ 140737488351232 → (∀ x ∈ l0, (Lit.int .i64 x).wf = true) → (Lit.int .i64 a1).wf = true → ∃ k, secateurlaw02_DomTells.f k l0 a1 = some true
theorem secateurlaw02_DomTells.walk (P : secateurlaw02_DomTells.Pure) (a0 : Option Addr) (len0 cap0 : Nat) (z0 : List Int) (a1 : Int) (w : World) (w0 : (a0 = none ∧ len0 = 0 ∧ cap0 = 0 ∧ z0 = []) ∨ ∃ x, a0 = some x ∧ len0 ≤ cap0 ∧ cap0 ≤ maxLen ∧ z0.length = cap0 ∧ (∀ i, i < z0.length → w.cell? (x.add i) = some (.int .i64 (z0.getD i 0))) ∧ ∀ n ∈ z0, (Lit.int .i64 n).wf = true) (y0 : len0 * 8 ≤ 140737488351232) (w1 : (Lit.int .i64 a1).wf = true) :
  Calls Try.prog 6 #[.slice a0 len0 cap0, .int .i64 a1] w fun e w' => e = .returned (.bool true) ∧ Below w.heap.size w w' := by
 obtain ⟨l0, rfl, hr0, hm0, hw0, hc0⟩ := ReadsInt.ofRowC w0
 obtain ⟨k, h⟩ := P l0 a1 hm0 y0 hw0 w1
 refine (secateurlaw02_DomTells.calls k _ _ l0 a1 true w (Kd.C_of_reads (d := (0 : Int)) (h1 := fun _ => rfl) hr0) hc0 h).mono ?_
 rintro e w' ⟨rfl, hd⟩
 exact ⟨rfl, hd⟩

end Go.Proofs.Ytklanjkndoikeaa.P

namespace Go.Proofs.Ytklanjkndoikeaa.Pure
open Go.RowKit Go.Proofs.Ytklanjkndoikeaa.P
set_option linter.unusedVariables false

theorem tells_l1 (a1 : Int) (d : List Rg) (i : Nat) {b : Bool} (h : Ev (fun k => secateurlaw02_DomTells.l0 k a1 d (wrap64 ((i : Int) + 1))) b) : ∀ (m n : Nat) (x : List Int), n + m = x.length → x.length ≤ 4096 →
    Ev (fun k => secateurlaw02_DomTells.l1 k a1 d (i : Int) x (n : Int)) b := by
  intro m
  induction m with
  | zero =>
    intro n x hx _
    exact Ev.step (fun k => by rw [secateurlaw02_DomTells.l1, if_neg (by omega)]) h
  | succ m ih =>
    intro n x hx hl
    exact Ev.step (fun k => by rw [secateurlaw02_DomTells.l1, if_pos (by omega), if_pos (by omega), w1 (by omega)]) (ih (n + 1) _ (by simp; omega) (by simpa using hl))
theorem DomTells : secateurlaw02_DomTells.Pure := by
  intro l0 a1 _ h8 _ hw
  have g := dsm_gd l0
  have hv := dsm_vlen l0
  have hlo := wf64 hw
  refine Ev.out (F := fun k => secateurlaw02_DomTells.f k l0 a1) ?_
  unfold secateurlaw02_DomTells.f
  refine Ev.bind (Small_ev l0 h8) ?_
  generalize dsm l0 = d at *
  obtain ⟨r, hr, hN⟩ := Next_ev d a1 hlo.1 g
  obtain ⟨r', hr', hN'⟩ := ref_Next_ev d a1 g
  obtain rfl := hN.unique hN'
  have hV := Values_ev d g (Int.le_refl _) (by omega)
  have hR := ref_Values d g (Int.le_refl _)
  have hZ := Size_ev d g (Int.le_refl _)
  have hH := ref_Has (vals d) a1 (by omega)
  have e1 : decide (a1 ∈ vals d) = decide (Va d a1) := decide_eq_decide.2 (mem_vals a1 d)
  rw [e1] at hH
  have last : Ev (fun k => secateurlaw02_DomTells.l0 k a1 d ((2 : Nat) : Int)) true := by
    refine Ev.step (fun k => by rw [secateurlaw02_DomTells.l0, if_neg (by omega)]) ?_
    refine Ev.bind (ref_Ends_ev d g) ?_
    refine Ev.bind (Ev.const (Least_ev d g)) (Ev.bind (Ev.const (Most_ev d g)) (Ev.bind hr (Ev.bind hr' (Ev.bind hZ (Ev.bind hR ?_)))))
    refine Ev.ite_pos rfl (Ev.ite_pos rfl (Ev.ite_pos rfl (Ev.ite_pos (by simp) (Ev.ite_pos (by simp) (Ev.ite_pos rfl (Ev.ite_pos (by simp) ?_))))))
    exact Ev.bind (Ev.const (Has_ev d a1)) (Ev.bind hR (Ev.bind hH (Ev.ite_pos (by simp) (Ev.bind fixed_ev (Ev.pure _)))))
  have step : ∀ i : Nat, i < 2 → Ev (fun k => secateurlaw02_DomTells.l0 k a1 d ((i + 1 : Nat) : Int)) true → Ev (fun k => secateurlaw02_DomTells.l0 k a1 d (i : Int)) true := fun i hi h => by
    refine Ev.step (fun k => by rw [secateurlaw02_DomTells.l0, if_pos (by omega)]) ?_
    refine Ev.bind (Ev.const hV) (Ev.bind hR (Ev.bind (ref_Nums_self _ (by omega)) (Ev.ite_pos rfl ?_)))
    exact tells_l1 a1 d i (by rw [w1 (by omega)]; exact h) (vals d).length 0 (vals d) (by omega) (by omega)
  exact step 0 (by omega) (step 1 (by omega) last)
end Go.Proofs.Ytklanjkndoikeaa.Pure

-- Written by wip/tools/px.py out of the translation. Lean checks it.
namespace Go.Proofs.Ytklanjkndoikeaa.domTells
open Go.ChangeShapes Go.WideShapes Go.ChangeAt Go.RowKit
open Go.ChangeMaps (open_string shut_string)
set_option linter.unusedVariables false
theorem own : ownKnob Try.prog.godebug = none := by kernel_rfl
theorem laidOut : laidOutB Try.prog = true := by kernel_rfl
def IsRow (k : IntKind) (w : World) (a : Option Addr) (len cap : Nat) (zs : List Int) : Prop :=
 (a = none ∧ len = 0 ∧ cap = 0 ∧ zs = []) ∨
 ∃ x, a = some x ∧ len ≤ cap ∧ cap ≤ maxLen ∧ zs.length = cap ∧ (∀ i, i < zs.length → w.cell? (x.add i) = some (.int k (zs.getD i 0))) ∧ ∀ n ∈ zs, (Lit.int k n).wf = true
set_option maxRecDepth 100000 in
theorem lifted (os : Os) (started : os.Started) (H : Type) (enc : TypeId × Value → H) :
  ReturnsInHanded {} Try.checked os 6 .any (Rows.domTellsSpec.pre6 enc Try.prog Try.f6 Rows.domTellsRow.domain false) (Rows.domTellsSpec.post enc Try.prog Try.f6 false true false false) := by
 refine returnsInHanded_of_change_sized (C := Try.checked) own started (by kernel_rfl) Try.func6
  (ChangeSpec.witness6 (enc := enc) (C := Try.checked) false ⟨#[], #[.slice none 0 0, .int .i64 0], []⟩ 8 (by kernel_rfl) (by kernel_rfl) (by kernel_rfl) (by kernel_rfl)) ?_
 intro W base args ds gs before hval0 hW hcnd hsz0 _
 have hsz : (DataW.weightsEach Try.prog (Try.f6.params.toList ++ Rows.domTellsSpec.plain.varTypes Try.prog) (ds ++ gs)).all (· ≤ reachBytes) = true := hsz0
 have hval : ∀ (j : Nat) t v, Try.f6.params[j]? = some t → args[j]? = some v → Value.okWide Try.prog W .any base t v := hval0
 have hW' := hW
 obtain ⟨p, q, hA0, hV, rfl, hfz, hnd⟩ := hW
 have hA : DataW.TrodAll enc Try.prog W 0 (fun _ => true) true Try.f6.params.toList args.toList ds p := hA0
 rw [Try.params6] at hA hval hsz
 obtain ⟨v0, vs0, d0, ds0, p0, q0, hargs, rfl, rfl, h0, r0⟩ := trodAll_cons hA
 obtain ⟨v1, vs1, d1, ds1, p1, q1, rfl, rfl, rfl, h1, r1⟩ := trodAll_cons r0
 obtain ⟨rfl, rfl, rfl⟩ := trodAll_nil r1
 obtain rfl : args = #[v0, v1] := by cases args; simp_all
 obtain ⟨rfl, rfl⟩ := trodVars_none hV
 obtain ⟨a0, len0, cap0, rfl⟩ := okWide_slice Try.underlying23 (hval 0 23 v0 rfl rfl)
 have k0 := h0
 have lt0 : ∀ x ∈ p0, x.block < W.heap.size := by obtain ⟨m, hm⟩ := k0; exact DataW.trod_lt m _ _ _ hm
 obtain ⟨z0, w0⟩ : ∃ zs, IsRow .i64 W a0 len0 cap0 zs := by
  obtain ⟨fuel, hf⟩ := h0
  rcases open_ints Try.underlying23 Try.underlying3 (by kernel_rfl) hf with ⟨hcs, _⟩ | ⟨x, l, c, zs, hcs, _, hl, hm, hz, _, hcell, hwz⟩
  ·simp [Value.cells] at hcs
   obtain ⟨rfl, rfl, rfl⟩ := hcs
   exact ⟨[], .inl ⟨rfl, rfl, rfl, rfl⟩⟩
  ·simp [Value.cells] at hcs
   obtain ⟨rfl, rfl, rfl⟩ := hcs
   exact ⟨zs, .inr ⟨_, rfl, hl, hm, by simpa using hz, hcell, hwz⟩⟩
 have y0 : len0 * 8 ≤ 140737488351232 := Go.Proofs.YtklanjkndoikeaaW.PrintWords.sized_ints hsz (j := 0) (t := 23) rfl rfl Try.underlying23 Try.underlying3 (by kernel_rfl) (by kernel_rfl) h0
 obtain ⟨a1, rfl, rfl, rfl, w1⟩ := open_int Try.underlying3 (hval 1 3 v1 rfl rfl) h1
 clear hA0 hval0 hsz0 hsz
 refine (P.secateurlaw02_DomTells.walk Pure.DomTells a0 len0 cap0 z0 a1 W w0 y0 w1).mono fun e W' ⟨he, bel⟩ => ?_
 subst he
 exact ⟨_, rfl, _, _, _, [], _, [], hW', trodAll_mk1 (shut_bool Try.underlying4 _), (trodAll_cons_mk (Below.trod laidOut (by kernel_rfl) (of_decide_eq_true (by kernel_rfl)) k0 bel lt0) (trodAll_cons_mk (shut_int Try.underlying3 w1) trodAll_mk0)), rfl, bel.frame _, fun h => by cases h⟩
theorem over : Rows.domTellsRow.holds Try.pinned (OpenSpec.ofChange Rows.domTellsSpec) :=
 OpenClaim.holds_of_wide 6 Try.f6 rfl rfl rfl rfl rfl rfl rfl ⟨rfl, rfl, rfl, rfl, rfl⟩ rfl rfl rfl rfl rfl (by kernel_rfl) Try.func6 (by kernel_rfl)
  (of_decide_eq_true (by kernel_rfl)) (by unfold Func.isWrapper; first | (rw [if_pos (by decide +kernel)]; kernel_rfl) | (rw [if_neg (by decide +kernel)]; exact ⟨rfl, rfl⟩))
  (fun os started H enc _ => lifted os started H enc)
theorem proved : Rows.DomTellsSaid := over
end Go.Proofs.Ytklanjkndoikeaa.domTells
namespace Go.Proofs.Ytklanjkndoikeaa
/-- The row, under a short name, for the claim. -/
theorem domTells_holds : Rows.DomTellsSaid := domTells.proved
end Go.Proofs.Ytklanjkndoikeaa
