/- Proved: the statement GroupPlaces. Conditions: none but those of the statement. -/
import Derived.Test.YteopgafbamipeaaZ1
import Derived.Test.YteopgafbamipeaaZ2
import Derived.Test.YteopgafbamipeaaRows
import Derived.WalkKit
import Derived.ProofKit
import Derived.OpenShut
import Derived.ShutString
import Derived.ChangeOld
import Derived.Below
import Derived.SizedLaws
import Derived.Test.YteopgafbamipeaaU1

namespace Go.Proofs.Yteopgafbamipeaa.P
open Go.RowKit Go.Proofs.YteopgafbamipeaaW.PrintWords Go.Proofs.YteopgafbamipeaaW.PrintLast Go.Proofs.YteopgafbamipeaaW.PrintMore
attribute [local go_sem] Zb6 Zb8 Zcp Zcq Zbu Zbv Zb7 Zb9
set_option linter.unusedVariables false
set_option linter.unusedSimpArgs false
/-! ### Zac: function 7 -/
def Zac.j0 : Nat → List Int → List Int → List Int → Bool → Option (Bool)
 | 0, _, _, _, _ => none
 | k + 1, x0, x1, x2, x45 => if x45 = true then ((Zam.f k).bind fun t418 => (some t418)) else ((Zae.f k x2 x0).bind fun bt419 => ((Zae.f k bt419.1 x1).bind fun bt423 => ((Zah.f k x0 x1).bind fun bt427 => ((Zae.f k x2 bt427.1).bind fun bt431 => ((Zao.f k x0).bind fun bt435 => ((Zae.f k bt419.1 bt435.1).bind fun bt439 => (if bt419.2 = 0 then (if bt423.2 = 0 then (if bt427.2 = 0 then (if bt431.2 = 0 then (if bt435.2 = 0 then (if bt439.2 = 0 then ((Zab.f k bt423.1 bt431.1).bind fun t443 => (if t443 = true then ((Zab.f k bt439.1 x2).bind fun t444 => (if t444 = true then ((Zam.f k).bind fun t445 => (some t445)) else (none))) else (none))) else (none)) else (none)) else (none)) else (none)) else (none)) else (none))))))))
def Zac.f (k : Nat) (l0 : List Int) (l1 : List Int) (l2 : List Int) : Option (Bool) := if (l0.length : Int) > 30 then (Zac.j0 k l0 l1 l2 true) else (if (l1.length : Int) = (l0.length : Int) then (if (l2.length : Int) = (l0.length : Int) then ((Zag.f k l0).bind fun t416 => (if t416 = true then ((Zag.f k l1).bind fun t417 => (Zac.j0 k l0 l1 l2 (!t417))) else (Zac.j0 k l0 l1 l2 true))) else (Zac.j0 k l0 l1 l2 true)) else (Zac.j0 k l0 l1 l2 true))
theorem Zac.Za7 : ∀ k, (∀ y0 y1 y2 y3, LeO (Zac.j0 k y0 y1 y2 y3) (Zac.j0 (k + 1) y0 y1 y2 y3))
 | 0 => fun _ _ _ _ r h => by simp [Zac.j0] at h
 | k + 1 => by
  have ih0 := Zac.Za7 k
  intro y0 y1 y2 y3
  unfold Zac.j0
  repeat' first
  | (with_reducible exact ih0 _ _ _ _)
  | (with_reducible exact Zao.mono _ _)
  | (with_reducible exact Zah.mono _ _ _)
  | (with_reducible exact Zae.mono _ _ _)
  | (with_reducible exact Zam.mono _)
  | (with_reducible exact Zab.mono _ _ _)
  | (with_reducible exact Zag.mono _ _)
  | (with_reducible exact LeO.refl _)
  | (with_reducible exact LeO.none _)
  | (with_reducible refine LeO.ite ?_ ?_)
  | (with_reducible refine LeO.bind ?_ (fun _ => ?_))
  | exact ih0 _ _ _ _
  | exact Zao.mono _ _
  | exact Zah.mono _ _ _
  | exact Zae.mono _ _ _
  | exact Zam.mono _
  | exact Zab.mono _ _ _
  | exact Zag.mono _ _
  | exact LeO.none _
  | refine LeO.ite ?_ ?_
  | refine LeO.bind ?_ (fun _ => ?_)
theorem Zac.mono : ∀ a0 a1 a2 k, LeO (Zac.f k a0 a1 a2) (Zac.f (k + 1) a0 a1 a2) := by
 intro a0 a1 a2 k
 have ih0 := Zac.Za7 k
 unfold Zac.f
 repeat' first
   | (with_reducible exact ih0 _ _ _ _)
   | (with_reducible exact Zao.mono _ _)
   | (with_reducible exact Zah.mono _ _ _)
   | (with_reducible exact Zae.mono _ _ _)
   | (with_reducible exact Zam.mono _)
   | (with_reducible exact Zab.mono _ _ _)
   | (with_reducible exact Zag.mono _ _)
   | (with_reducible exact LeO.refl _)
   | (with_reducible exact LeO.none _)
   | (with_reducible refine LeO.ite ?_ ?_)
   | (with_reducible refine LeO.bind ?_ (fun _ => ?_))
   | exact ih0 _ _ _ _
   | exact Zao.mono _ _
   | exact Zah.mono _ _ _
   | exact Zae.mono _ _ _
   | exact Zam.mono _
   | exact Zab.mono _ _ _
   | exact Zag.mono _ _
   | exact LeO.none _
   | refine LeO.ite ?_ ?_
   | refine LeO.bind ?_ (fun _ => ?_)
set_option maxHeartbeats 8000000 in
set_option maxRecDepth 100000 in
theorem Zac.calls (k : Nat) (A0 : Option Addr) (c0 : Nat) (l0 : List Int) (A1 : Option Addr) (c1 : Nat) (l1 : List Int) (A2 : Option Addr) (c2 : Nat) (l2 : List Int) (r : Bool) (w : World) (hr0 : Kd.C (Kd.int .i64) w A0 l0.length l0) (hc0 : l0.length ≤ c0) (hr1 : Kd.C (Kd.int .i64) w A1 l1.length l1) (hc1 : l1.length ≤ c1) (hr2 : Kd.C (Kd.int .i64) w A2 l2.length l2) (hc2 : l2.length ≤ c2) (h : Zac.f k l0 l1 l2 = some r) :
  Calls Try.prog 7 #[.slice A0 l0.length c0, .slice A1 l1.length c1, .slice A2 l2.length c2] w fun e w' => e = .returned (.bool r) ∧ Below w.heap.size w w' := by
 have HR0 := Za.mk hr0
 have HC0 := Za.mk hc0
 clear hr0 hc0
 have HR1 := Za.mk hr1
 have HC1 := Za.mk hc1
 clear hr1 hc1
 have HR2 := Za.mk hr2
 have HC2 := Za.mk hc2
 clear hr2 hc2
 have HB := Za.mk (Below.refl w.heap.size w)
 have H : (if (l0.length : Int) > 30 then (Zac.j0 k l0 l1 l2 true) else (if (l1.length : Int) = (l0.length : Int) then (if (l2.length : Int) = (l0.length : Int) then ((Zag.f k l0).bind fun t416 => (if t416 = true then ((Zag.f k l1).bind fun t417 => (Zac.j0 k l0 l1 l2 (!t417))) else (Zac.j0 k l0 l1 l2 true))) else (Zac.j0 k l0 l1 l2 true)) else (Zac.j0 k l0 l1 l2 true))) = some r := h
 clear h
 have HC4 := Za.mk H
 clear H
 go_enter Try.func7, Try.ntmps7
 go_upto_region 2 with (fail)
 go_cut [45] (fun v45 wc => ∃ (kq : Nat) (x45_3 : Bool), v45 = .bool x45_3 ∧ Za (Zac.j0 kq l0 l1 l2 x45_3 = some r) ∧ Za (kq ≤ k) ∧ Za (Below w.heap.size w wc))
 case first =>
  have H := HC4.out
  clear HC4
  by_cases c5 : (l0.length : Int) > 30
  ·rw [if_pos c5] at H
   have c5b0 : decide (30 < (l0.length : Int)) = true := decide_eq_true c5
   have c5b1 : decide (30 < l0.length) = true := decide_eq_true (by omega)
   clear c5
   (first | rw [c5b0] | (simp only [i64_w, i32_w]; rw [c5b0]) | skip)
   have H' := Za.mk H
   clear H
   go_wp2
   go_meet
   case rel => exact ⟨_, (true), (by first | rfl | (simp; done) | (simp [*]; done)), H', ⟨by first | omega | exact Nat.le_refl _⟩, ⟨by repeat (first | (with_reducible first | exact HB.out | apply Zad | apply Zaa | apply Zaf) | exact HB.out)⟩⟩
  rw [if_neg c5] at H
  have c5b0 : decide (30 < (l0.length : Int)) = false := decide_eq_false c5
  have c5b1 : decide (30 < l0.length) = false := decide_eq_false (by omega)
  clear c5
  (first | rw [c5b0] | (simp only [i64_w, i32_w]; rw [c5b0]) | skip)
  by_cases c6 : (l1.length : Int) = (l0.length : Int)
  rotate_left
  ·rw [if_neg c6] at H
   have c6b0 : ((l1.length : Int) == (l0.length : Int)) = false := beq_eq_false_iff_ne.mpr c6
   have c6b1 : ((l1.length : Int) != (l0.length : Int)) = true := bne_iff_ne.mpr c6
   have c6b2 : (l1.length == l0.length) = false := by first | simpa using c6 | (simp at c6 ⊢; omega)
   have H' := Za.mk H
   clear H
   go_wp2
   go_meet
   case rel => exact ⟨_, (true), (by first | rfl | (simp; done) | (simp [*]; done)), H', ⟨by first | omega | exact Nat.le_refl _⟩, ⟨by repeat (first | (with_reducible first | exact HB.out | apply Zad | apply Zaa | apply Zaf) | exact HB.out)⟩⟩
  rw [if_pos c6] at H
  have c6b0 : ((l1.length : Int) == (l0.length : Int)) = true := beq_iff_eq.mpr c6
  have c6b1 : ((l1.length : Int) != (l0.length : Int)) = false := bne_eq_false_iff_eq.mpr c6
  have c6b2 : (l1.length == l0.length) = true := by first | simpa using c6 | (simp at c6 ⊢; omega)
  clear c6
  by_cases c7 : (l2.length : Int) = (l0.length : Int)
  rotate_left
  ·rw [if_neg c7] at H
   have c7b0 : ((l2.length : Int) == (l0.length : Int)) = false := beq_eq_false_iff_ne.mpr c7
   have c7b1 : ((l2.length : Int) != (l0.length : Int)) = true := bne_iff_ne.mpr c7
   have c7b2 : (l2.length == l0.length) = false := by first | simpa using c7 | (simp at c7 ⊢; omega)
   have H' := Za.mk H
   clear H
   go_wp2
   go_meet
   case rel => exact ⟨_, (true), (by first | rfl | (simp; done) | (simp [*]; done)), H', ⟨by first | omega | exact Nat.le_refl _⟩, ⟨by repeat (first | (with_reducible first | exact HB.out | apply Zad | apply Zaa | apply Zaf) | exact HB.out)⟩⟩
  rw [if_pos c7] at H
  have c7b0 : ((l2.length : Int) == (l0.length : Int)) = true := beq_iff_eq.mpr c7
  have c7b1 : ((l2.length : Int) != (l0.length : Int)) = false := bne_eq_false_iff_eq.mpr c7
  have c7b2 : (l2.length == l0.length) = true := by first | simpa using c7 | (simp at c7 ⊢; omega)
  clear c7
  replace H := Option.bind_eq_some_iff.mp H
  obtain ⟨t416, A80, H⟩ := H
  replace H : (if t416 = true then ((Zag.f k l1).bind fun t417 => (Zac.j0 k l0 l1 l2 (!t417))) else (Zac.j0 k l0 l1 l2 true)) = some r := H
  have A8 := Za.mk A80
  clear A80
  by_cases c9 : t416 = true
  rotate_left
  ·replace c9 := Bool.eq_false_iff.mpr c9
   subst c9
   have H1 : (Zac.j0 k l0 l1 l2 true) = some r := by rw [if_neg (show ¬ (false = true) by decide)] at H; exact H
   clear H
   have H := H1
   clear H1
   have H' := Za.mk H
   clear H
   go_wp2_with (first | (go_at_call 15; (with_reducible refine (Zag.calls k _ _ l0 false _ ?side1 ?side2 A8.out).mono ?_); (case side1 => repeat (first | exact (Kd.Zal HR0.out HB.out) | (with_reducible refine Kd.Zat ?_ _) | (with_reducible refine Kd.C_drewN ?_ _) | (with_reducible refine Kd.C_drew ?_))); (case side2 => exact HC0.out); rintro e w' ⟨rfl, ⟨nd, rfl⟩⟩))
   go_meet
   case rel => exact ⟨_, (true), (by first | rfl | (simp; done) | (simp [*]; done)), H', ⟨by first | omega | exact Nat.le_refl _⟩, ⟨by repeat (first | (with_reducible first | exact HB.out | apply Zad | apply Zaa | apply Zaf) | exact HB.out)⟩⟩
  subst c9
  have H1 : ((Zag.f k l1).bind fun t417 => (Zac.j0 k l0 l1 l2 (!t417))) = some r := by rw [if_pos rfl] at H; exact H
  clear H
  have H := H1
  clear H1
  replace H := Option.bind_eq_some_iff.mp H
  obtain ⟨t417, A100, H⟩ := H
  replace H : (Zac.j0 k l0 l1 l2 (!t417)) = some r := H
  have A10 := Za.mk A100
  clear A100
  have H' := Za.mk H
  clear H
  go_wp2_with (first | (go_at_call 15; (with_reducible refine (Zag.calls k _ _ l0 true _ ?side1 ?side2 A8.out).mono ?_); (case side1 => repeat (first | exact (Kd.Zal HR0.out HB.out) | (with_reducible refine Kd.Zat ?_ _) | (with_reducible refine Kd.C_drewN ?_ _) | (with_reducible refine Kd.C_drew ?_))); (case side2 => exact HC0.out); rintro e w' ⟨rfl, ⟨nd, rfl⟩⟩) | (go_at_call 15; (with_reducible refine (Zag.calls k _ _ l1 t417 _ ?side1 ?side2 A10.out).mono ?_); (case side1 => repeat (first | exact (Kd.Zal HR1.out (by repeat (first | (with_reducible first | exact HB.out | apply Zad | apply Zaa | apply Zaf) | exact HB.out))) | (with_reducible refine Kd.Zat ?_ _) | (with_reducible refine Kd.C_drewN ?_ _) | (with_reducible refine Kd.C_drew ?_))); (case side2 => exact HC1.out); rintro e w' ⟨rfl, ⟨nd, rfl⟩⟩))
  go_meet
  case rel => exact ⟨_, (!t417), (by first | rfl | (simp; done) | (simp [*]; done)), H', ⟨by first | omega | exact Nat.le_refl _⟩, ⟨by repeat (first | (with_reducible first | exact HB.out | apply Zad | apply Zaa | apply Zaf) | exact HB.out)⟩⟩
 case rest =>
  clear HC4
  try clear c1
  try clear c2
  try clear p2
  try clear c5
  try clear c5b0
  try clear c5b1
  try clear c6
  try clear c6b0
  try clear c6b1
  try clear c6b2
  try clear c7
  try clear c7b0
  try clear c7b1
  try clear c7b2
  try clear c9
  obtain ⟨kq, x45_3, rfl, HA, HJ3, HB⟩ := hcut
  cases kq with
  | zero => exact absurd HA.out (by simp [Zac.j0])
  | succ kj3 =>
   have H := HA.out
   clear HA
   simp only [Zac.j0] at H
   by_cases c11 : x45_3 = true
   ·subst c11
    have H1 : ((Zam.f kj3).bind fun t418 => (some t418)) = some r := by rw [if_pos rfl] at H; exact H
    clear H
    have H := H1
    clear H1
    replace H := Option.bind_eq_some_iff.mp H
    obtain ⟨t418, A120, H⟩ := H
    replace H : (some t418) = some r := H
    have A12 := Za.mk A120
    clear A120
    obtain rfl := Option.some.inj H
    go_wp2_with (first | ((with_reducible refine Zap (f := 16) rfl ?_); refine Za8 (some 46) rfl rfl Try.func16 (by kernel_rfl) rfl #[] rfl (by (try simp only [List.map_toArray, List.map_cons, List.map_nil]); first | done | rfl | (simp only [List.length_drop, List.length_take]; rfl)) ?_; (with_reducible refine (Zam.calls kj3  t418 _ A12.out).mono ?_); rintro e w13 ⟨rfl, hb⟩; refine ⟨_, rfl, ?_⟩; have n0_ := Za.mk (Zan (by repeat (first | (with_reducible first | exact HB.out | apply Zad | apply Zaa | apply Zaf) | exact HB.out)) hb); clear HB; have HB := n0_; clear n0_; (try clear hb); (try clear hb2); (try clear hk); (try clear hi)))
    go_ret
    exact ⟨by first | rfl | (simp [Zay, Zaz] <;> rfl) | (simp [*, Zay, Zaz] <;> rfl), by repeat (first | (with_reducible first | exact HB.out | apply Zad | apply Zaa | apply Zaf) | exact HB.out)⟩
   replace c11 := Bool.eq_false_iff.mpr c11
   subst c11
   have H1 : ((Zae.f kj3 l2 l0).bind fun bt419 => ((Zae.f kj3 bt419.1 l1).bind fun bt423 => ((Zah.f kj3 l0 l1).bind fun bt427 => ((Zae.f kj3 l2 bt427.1).bind fun bt431 => ((Zao.f kj3 l0).bind fun bt435 => ((Zae.f kj3 bt419.1 bt435.1).bind fun bt439 => (if bt419.2 = 0 then (if bt423.2 = 0 then (if bt427.2 = 0 then (if bt431.2 = 0 then (if bt435.2 = 0 then (if bt439.2 = 0 then ((Zab.f kj3 bt423.1 bt431.1).bind fun t443 => (if t443 = true then ((Zab.f kj3 bt439.1 l2).bind fun t444 => (if t444 = true then ((Zam.f kj3).bind fun t445 => (some t445)) else (none))) else (none))) else (none)) else (none)) else (none)) else (none)) else (none)) else (none)))))))) = some r := by rw [if_neg (show ¬ (false = true) by decide)] at H; exact H
   clear H
   have H := H1
   clear H1
   replace H := Option.bind_eq_some_iff.mp H
   obtain ⟨⟨t419, t420⟩, A140, H⟩ := H
   replace H : ((Zae.f kj3 t419 l1).bind fun bt423 => ((Zah.f kj3 l0 l1).bind fun bt427 => ((Zae.f kj3 l2 bt427.1).bind fun bt431 => ((Zao.f kj3 l0).bind fun bt435 => ((Zae.f kj3 t419 bt435.1).bind fun bt439 => (if t420 = 0 then (if bt423.2 = 0 then (if bt427.2 = 0 then (if bt431.2 = 0 then (if bt435.2 = 0 then (if bt439.2 = 0 then ((Zab.f kj3 bt423.1 bt431.1).bind fun t443 => (if t443 = true then ((Zab.f kj3 bt439.1 l2).bind fun t444 => (if t444 = true then ((Zam.f kj3).bind fun t445 => (some t445)) else (none))) else (none))) else (none)) else (none)) else (none)) else (none)) else (none)) else (none))))))) = some r := H
   have A14 := Za.mk A140
   clear A140
   replace H := Option.bind_eq_some_iff.mp H
   obtain ⟨⟨t423, t424⟩, A150, H⟩ := H
   replace H : ((Zah.f kj3 l0 l1).bind fun bt427 => ((Zae.f kj3 l2 bt427.1).bind fun bt431 => ((Zao.f kj3 l0).bind fun bt435 => ((Zae.f kj3 t419 bt435.1).bind fun bt439 => (if t420 = 0 then (if t424 = 0 then (if bt427.2 = 0 then (if bt431.2 = 0 then (if bt435.2 = 0 then (if bt439.2 = 0 then ((Zab.f kj3 t423 bt431.1).bind fun t443 => (if t443 = true then ((Zab.f kj3 bt439.1 l2).bind fun t444 => (if t444 = true then ((Zam.f kj3).bind fun t445 => (some t445)) else (none))) else (none))) else (none)) else (none)) else (none)) else (none)) else (none)) else (none)))))) = some r := H
   have A15 := Za.mk A150
   clear A150
   replace H := Option.bind_eq_some_iff.mp H
   obtain ⟨⟨t427, t428⟩, A160, H⟩ := H
   replace H : ((Zae.f kj3 l2 t427).bind fun bt431 => ((Zao.f kj3 l0).bind fun bt435 => ((Zae.f kj3 t419 bt435.1).bind fun bt439 => (if t420 = 0 then (if t424 = 0 then (if t428 = 0 then (if bt431.2 = 0 then (if bt435.2 = 0 then (if bt439.2 = 0 then ((Zab.f kj3 t423 bt431.1).bind fun t443 => (if t443 = true then ((Zab.f kj3 bt439.1 l2).bind fun t444 => (if t444 = true then ((Zam.f kj3).bind fun t445 => (some t445)) else (none))) else (none))) else (none)) else (none)) else (none)) else (none)) else (none)) else (none))))) = some r := H
   have A16 := Za.mk A160
   clear A160
   replace H := Option.bind_eq_some_iff.mp H
   obtain ⟨⟨t431, t432⟩, A170, H⟩ := H
   replace H : ((Zao.f kj3 l0).bind fun bt435 => ((Zae.f kj3 t419 bt435.1).bind fun bt439 => (if t420 = 0 then (if t424 = 0 then (if t428 = 0 then (if t432 = 0 then (if bt435.2 = 0 then (if bt439.2 = 0 then ((Zab.f kj3 t423 t431).bind fun t443 => (if t443 = true then ((Zab.f kj3 bt439.1 l2).bind fun t444 => (if t444 = true then ((Zam.f kj3).bind fun t445 => (some t445)) else (none))) else (none))) else (none)) else (none)) else (none)) else (none)) else (none)) else (none)))) = some r := H
   have A17 := Za.mk A170
   clear A170
   replace H := Option.bind_eq_some_iff.mp H
   obtain ⟨⟨t435, t436⟩, A180, H⟩ := H
   replace H : ((Zae.f kj3 t419 t435).bind fun bt439 => (if t420 = 0 then (if t424 = 0 then (if t428 = 0 then (if t432 = 0 then (if t436 = 0 then (if bt439.2 = 0 then ((Zab.f kj3 t423 t431).bind fun t443 => (if t443 = true then ((Zab.f kj3 bt439.1 l2).bind fun t444 => (if t444 = true then ((Zam.f kj3).bind fun t445 => (some t445)) else (none))) else (none))) else (none)) else (none)) else (none)) else (none)) else (none)) else (none))) = some r := H
   have A18 := Za.mk A180
   clear A180
   replace H := Option.bind_eq_some_iff.mp H
   obtain ⟨⟨t439, t440⟩, A190, H⟩ := H
   replace H : (if t420 = 0 then (if t424 = 0 then (if t428 = 0 then (if t432 = 0 then (if t436 = 0 then (if t440 = 0 then ((Zab.f kj3 t423 t431).bind fun t443 => (if t443 = true then ((Zab.f kj3 t439 l2).bind fun t444 => (if t444 = true then ((Zam.f kj3).bind fun t445 => (some t445)) else (none))) else (none))) else (none)) else (none)) else (none)) else (none)) else (none)) else (none)) = some r := H
   have A19 := Za.mk A190
   clear A190
   by_cases c20 : t420 = 0
   rotate_left
   ·rw [if_neg c20] at H
    exact absurd H (by simp)

   rw [if_pos c20] at H
   have c20b0 : (t420 == 0) = true := beq_iff_eq.mpr c20
   have c20b1 : (t420 != 0) = false := bne_eq_false_iff_eq.mpr c20
   clear c20
   by_cases c21 : t424 = 0
   rotate_left
   ·rw [if_neg c21] at H
    exact absurd H (by simp)
   rw [if_pos c21] at H
   have c21b0 : (t424 == 0) = true := beq_iff_eq.mpr c21
   have c21b1 : (t424 != 0) = false := bne_eq_false_iff_eq.mpr c21
   clear c21
   by_cases c22 : t428 = 0
   rotate_left
   ·rw [if_neg c22] at H
    exact absurd H (by simp)
   rw [if_pos c22] at H
   have c22b0 : (t428 == 0) = true := beq_iff_eq.mpr c22
   have c22b1 : (t428 != 0) = false := bne_eq_false_iff_eq.mpr c22
   clear c22
   by_cases c23 : t432 = 0
   rotate_left
   ·rw [if_neg c23] at H
    exact absurd H (by simp)
   rw [if_pos c23] at H
   have c23b0 : (t432 == 0) = true := beq_iff_eq.mpr c23
   have c23b1 : (t432 != 0) = false := bne_eq_false_iff_eq.mpr c23
   clear c23
   by_cases c24 : t436 = 0
   rotate_left
   ·rw [if_neg c24] at H
    exact absurd H (by simp)
   rw [if_pos c24] at H
   have c24b0 : (t436 == 0) = true := beq_iff_eq.mpr c24
   have c24b1 : (t436 != 0) = false := bne_eq_false_iff_eq.mpr c24
   clear c24
   by_cases c25 : t440 = 0
   rotate_left
   ·rw [if_neg c25] at H
    exact absurd H (by simp)
   rw [if_pos c25] at H
   have c25b0 : (t440 == 0) = true := beq_iff_eq.mpr c25
   have c25b1 : (t440 != 0) = false := bne_eq_false_iff_eq.mpr c25
   clear c25
   replace H := Option.bind_eq_some_iff.mp H
   obtain ⟨t443, A260, H⟩ := H
   replace H : (if t443 = true then ((Zab.f kj3 t439 l2).bind fun t444 => (if t444 = true then ((Zam.f kj3).bind fun t445 => (some t445)) else (none))) else (none)) = some r := H
   have A26 := Za.mk A260
   clear A260
   by_cases c27 : t443 = true
   rotate_left
   ·replace c27 := Bool.eq_false_iff.mpr c27
    subst c27
    have H1 : (none) = some r := by rw [if_neg (show ¬ (false = true) by decide)] at H; exact H
    clear H
    have H := H1
    clear H1
    exact absurd H (by simp)
   subst c27
   have H1 : ((Zab.f kj3 t439 l2).bind fun t444 => (if t444 = true then ((Zam.f kj3).bind fun t445 => (some t445)) else (none))) = some r := by rw [if_pos rfl] at H; exact H
   clear H
   have H := H1
   clear H1
   replace H := Option.bind_eq_some_iff.mp H
   obtain ⟨t444, A280, H⟩ := H
   replace H : (if t444 = true then ((Zam.f kj3).bind fun t445 => (some t445)) else (none)) = some r := H
   have A28 := Za.mk A280
   clear A280
   by_cases c29 : t444 = true
   rotate_left
   ·replace c29 := Bool.eq_false_iff.mpr c29
    subst c29
    have H1 : (none) = some r := by rw [if_neg (show ¬ (false = true) by decide)] at H; exact H
    clear H
    have H := H1
    clear H1
    exact absurd H (by simp)
   subst c29
   have H1 : ((Zam.f kj3).bind fun t445 => (some t445)) = some r := by rw [if_pos rfl] at H; exact H
   clear H
   have H := H1
   clear H1
   replace H := Option.bind_eq_some_iff.mp H
   obtain ⟨t445, A300, H⟩ := H
   replace H : (some t445) = some r := H
   have A30 := Za.mk A300
   clear A300
   obtain rfl := Option.some.inj H
   go_wp2_with (first | ((with_reducible refine Zap (f := 13) rfl ?_); refine Za8 (some 50) rfl rfl Try.func13 (by kernel_rfl) rfl #[.slice A2 l2.length c2, .slice A0 l0.length c0] rfl (by (try simp only [List.map_toArray, List.map_cons, List.map_nil]); first | done | rfl | (simp only [List.length_drop, List.length_take]; rfl)) ?_; (with_reducible refine (Zae.calls kj3 _ _ l2 _ _ l0 t419 t420 _ ?side1 ?side2 ?side3 ?side4 A14.out).mono ?_); (case side1 => repeat (first | exact (Kd.Zal HR2.out HB.out) | (with_reducible refine Kd.Zat ?_ _) | (with_reducible refine Kd.C_drewN ?_ _) | (with_reducible refine Kd.C_drew ?_))); (case side2 => exact HC2.out); (case side3 => repeat (first | exact (Kd.Zal HR0.out HB.out) | (with_reducible refine Kd.Zat ?_ _) | (with_reducible refine Kd.C_drewN ?_ _) | (with_reducible refine Kd.C_drew ?_))); (case side4 => exact HC0.out); rintro e w31 ⟨v421, rfl, ho0, hb⟩; refine ⟨_, rfl, ?_⟩; have n0_ := Za.mk (Kd.Zbh ho0 (Zau (by repeat (first | (with_reducible first | exact HB.out | apply Zad | apply Zaa | apply Zaf) | exact HB.out)))); have n1_ := Za.mk (Zan (by repeat (first | (with_reducible first | exact HB.out | apply Zad | apply Zaa | apply Zaf) | exact HB.out)) hb); clear HB; have HO422 := n0_; have HB := n1_; clear n0_ n1_; (try clear hb); (try clear hb2); (try clear hk); (try clear hi); (try clear ho0); obtain ⟨Ao32, co32, eo32⟩ := Kd.Zbo HO422.out; subst eo32) | ((with_reducible refine Zap (f := 13) rfl ?_); refine Za8 (some 56) rfl rfl Try.func13 (by kernel_rfl) rfl #[.slice Ao32 t419.length co32, .slice A1 l1.length c1] rfl (by (try simp only [List.map_toArray, List.map_cons, List.map_nil]); first | done | rfl | (simp only [List.length_drop, List.length_take]; rfl)) ?_; (with_reducible refine (Zae.calls kj3 _ _ t419 _ _ l1 t423 t424 _ ?side1 ?side2 ?side3 ?side4 A15.out).mono ?_); (case side1 => repeat (first | exact (Kd.Za3 HO422.out).2.2 | (with_reducible refine Kd.Zat ?_ _) | (with_reducible refine Kd.C_drewN ?_ _) | (with_reducible refine Kd.C_drew ?_))); (case side2 => exact (Kd.Za3 HO422.out).2.1); (case side3 => repeat (first | exact (Kd.Zal HR1.out HB.out) | (with_reducible refine Kd.Zat ?_ _) | (with_reducible refine Kd.C_drewN ?_ _) | (with_reducible refine Kd.C_drew ?_))); (case side4 => exact HC1.out); rintro e w33 ⟨v425, rfl, ho0, hb⟩; refine ⟨_, rfl, ?_⟩; have n0_ := Za.mk (Kd.Zb (by (with_reducible repeat (first | apply Kd.Zaw | apply Kd.Zax | apply Kd.Za1)); exact HO422.out) (Kd.Zbe ho0) hb); have n1_ := Za.mk (Kd.Zbh (Kd.Zbs ho0 (Kd.R_lt (by (with_reducible repeat (first | apply Kd.Zaw | apply Kd.Zax | apply Kd.Za1)); exact HO422.out))) (Zau (by repeat (first | (with_reducible first | exact HB.out | apply Zad | apply Zaa | apply Zaf) | exact HB.out)))); have n2_ := Za.mk (Zan (by repeat (first | (with_reducible first | exact HB.out | apply Zad | apply Zaa | apply Zaf) | exact HB.out)) hb); clear HO422; clear HB; have HO422 := n0_; have HO426 := n1_; have HB := n2_; clear n0_ n1_ n2_; (try clear hb); (try clear hb2); (try clear hk); (try clear hi); (try clear ho0)) | ((with_reducible refine Zap (f := 9) rfl ?_); refine Za8 (some 62) rfl rfl Try.func9 (by kernel_rfl) rfl #[.slice A0 l0.length c0, .slice A1 l1.length c1] rfl (by (try simp only [List.map_toArray, List.map_cons, List.map_nil]); first | done | rfl | (simp only [List.length_drop, List.length_take]; rfl)) ?_; (with_reducible refine (Zah.calls kj3 _ _ l0 _ _ l1 t427 t428 _ ?side1 ?side2 ?side3 ?side4 A16.out).mono ?_); (case side1 => repeat (first | exact (Kd.Zal HR0.out HB.out) | (with_reducible refine Kd.Zat ?_ _) | (with_reducible refine Kd.C_drewN ?_ _) | (with_reducible refine Kd.C_drew ?_))); (case side2 => exact HC0.out); (case side3 => repeat (first | exact (Kd.Zal HR1.out HB.out) | (with_reducible refine Kd.Zat ?_ _) | (with_reducible refine Kd.C_drewN ?_ _) | (with_reducible refine Kd.C_drew ?_))); (case side4 => exact HC1.out); rintro e w34 ⟨v429, rfl, ho0, hb⟩; refine ⟨_, rfl, ?_⟩; have n0_ := Za.mk (Kd.Zb (by (with_reducible repeat (first | apply Kd.Zaw | apply Kd.Zax | apply Kd.Za1)); exact HO422.out) (Kd.Zbe ho0) hb); have n1_ := Za.mk (Kd.Zb (by (with_reducible repeat (first | apply Kd.Zaw | apply Kd.Zax | apply Kd.Za1)); exact HO426.out) (Kd.Zbe ho0) hb); have n2_ := Za.mk (Kd.Zbh (Kd.Zbs (Kd.Zbs ho0 (Kd.R_lt (by (with_reducible repeat (first | apply Kd.Zaw | apply Kd.Zax | apply Kd.Za1)); exact HO422.out))) (Kd.R_lt (by (with_reducible repeat (first | apply Kd.Zaw | apply Kd.Zax | apply Kd.Za1)); exact HO426.out))) (Zau (by repeat (first | (with_reducible first | exact HB.out | apply Zad | apply Zaa | apply Zaf) | exact HB.out)))); have n3_ := Za.mk (Zan (by repeat (first | (with_reducible first | exact HB.out | apply Zad | apply Zaa | apply Zaf) | exact HB.out)) hb); clear HO422; clear HO426; clear HB; have HO422 := n0_; have HO426 := n1_; have HO430 := n2_; have HB := n3_; clear n0_ n1_ n2_ n3_; (try clear hb); (try clear hb2); (try clear hk); (try clear hi); (try clear ho0); obtain ⟨Ao35, co35, eo35⟩ := Kd.Zbo HO430.out; subst eo35) | ((with_reducible refine Zap (f := 13) rfl ?_); refine Za8 (some 68) rfl rfl Try.func13 (by kernel_rfl) rfl #[.slice A2 l2.length c2, .slice Ao35 t427.length co35] rfl (by (try simp only [List.map_toArray, List.map_cons, List.map_nil]); first | done | rfl | (simp only [List.length_drop, List.length_take]; rfl)) ?_; (with_reducible refine (Zae.calls kj3 _ _ l2 _ _ t427 t431 t432 _ ?side1 ?side2 ?side3 ?side4 A17.out).mono ?_); (case side1 => repeat (first | exact (Kd.Zal HR2.out HB.out) | (with_reducible refine Kd.Zat ?_ _) | (with_reducible refine Kd.C_drewN ?_ _) | (with_reducible refine Kd.C_drew ?_))); (case side2 => exact HC2.out); (case side3 => repeat (first | exact (Kd.Za3 HO430.out).2.2 | (with_reducible refine Kd.Zat ?_ _) | (with_reducible refine Kd.C_drewN ?_ _) | (with_reducible refine Kd.C_drew ?_))); (case side4 => exact (Kd.Za3 HO430.out).2.1); rintro e w36 ⟨v433, rfl, ho0, hb⟩; refine ⟨_, rfl, ?_⟩; have n0_ := Za.mk (Kd.Zb (by (with_reducible repeat (first | apply Kd.Zaw | apply Kd.Zax | apply Kd.Za1)); exact HO422.out) (Kd.Zbe ho0) hb); have n1_ := Za.mk (Kd.Zb (by (with_reducible repeat (first | apply Kd.Zaw | apply Kd.Zax | apply Kd.Za1)); exact HO426.out) (Kd.Zbe ho0) hb); have n2_ := Za.mk (Kd.Zb (by (with_reducible repeat (first | apply Kd.Zaw | apply Kd.Zax | apply Kd.Za1)); exact HO430.out) (Kd.Zbe ho0) hb); have n3_ := Za.mk (Kd.Zbh (Kd.Zbs (Kd.Zbs (Kd.Zbs ho0 (Kd.R_lt (by (with_reducible repeat (first | apply Kd.Zaw | apply Kd.Zax | apply Kd.Za1)); exact HO422.out))) (Kd.R_lt (by (with_reducible repeat (first | apply Kd.Zaw | apply Kd.Zax | apply Kd.Za1)); exact HO426.out))) (Kd.R_lt (by (with_reducible repeat (first | apply Kd.Zaw | apply Kd.Zax | apply Kd.Za1)); exact HO430.out))) (Zau (by repeat (first | (with_reducible first | exact HB.out | apply Zad | apply Zaa | apply Zaf) | exact HB.out)))); have n4_ := Za.mk (Zan (by repeat (first | (with_reducible first | exact HB.out | apply Zad | apply Zaa | apply Zaf) | exact HB.out)) hb); clear HO422; clear HO426; clear HO430; clear HB; have HO422 := n0_; have HO426 := n1_; have HO430 := n2_; have HO434 := n3_; have HB := n4_; clear n0_ n1_ n2_ n3_ n4_; (try clear hb); (try clear hb2); (try clear hk); (try clear hi); (try clear ho0)) | ((with_reducible refine Zap (f := 11) rfl ?_); refine Za8 (some 73) rfl rfl Try.func11 (by kernel_rfl) rfl #[.slice A0 l0.length c0] rfl (by (try simp only [List.map_toArray, List.map_cons, List.map_nil]); first | done | rfl | (simp only [List.length_drop, List.length_take]; rfl)) ?_; (with_reducible refine (Zao.calls kj3 _ _ l0 t435 t436 _ ?side1 ?side2 A18.out).mono ?_); (case side1 => repeat (first | exact (Kd.Zal HR0.out HB.out) | (with_reducible refine Kd.Zat ?_ _) | (with_reducible refine Kd.C_drewN ?_ _) | (with_reducible refine Kd.C_drew ?_))); (case side2 => exact HC0.out); rintro e w37 ⟨v437, rfl, ho0, hb⟩; refine ⟨_, rfl, ?_⟩; have n0_ := Za.mk (Kd.Zb (by (with_reducible repeat (first | apply Kd.Zaw | apply Kd.Zax | apply Kd.Za1)); exact HO422.out) (Kd.Zbe ho0) hb); have n1_ := Za.mk (Kd.Zb (by (with_reducible repeat (first | apply Kd.Zaw | apply Kd.Zax | apply Kd.Za1)); exact HO426.out) (Kd.Zbe ho0) hb); have n2_ := Za.mk (Kd.Zb (by (with_reducible repeat (first | apply Kd.Zaw | apply Kd.Zax | apply Kd.Za1)); exact HO430.out) (Kd.Zbe ho0) hb); have n3_ := Za.mk (Kd.Zb (by (with_reducible repeat (first | apply Kd.Zaw | apply Kd.Zax | apply Kd.Za1)); exact HO434.out) (Kd.Zbe ho0) hb); have n4_ := Za.mk (Kd.Zbh (Kd.Zbs (Kd.Zbs (Kd.Zbs (Kd.Zbs ho0 (Kd.R_lt (by (with_reducible repeat (first | apply Kd.Zaw | apply Kd.Zax | apply Kd.Za1)); exact HO422.out))) (Kd.R_lt (by (with_reducible repeat (first | apply Kd.Zaw | apply Kd.Zax | apply Kd.Za1)); exact HO426.out))) (Kd.R_lt (by (with_reducible repeat (first | apply Kd.Zaw | apply Kd.Zax | apply Kd.Za1)); exact HO430.out))) (Kd.R_lt (by (with_reducible repeat (first | apply Kd.Zaw | apply Kd.Zax | apply Kd.Za1)); exact HO434.out))) (Zau (by repeat (first | (with_reducible first | exact HB.out | apply Zad | apply Zaa | apply Zaf) | exact HB.out)))); have n5_ := Za.mk (Zan (by repeat (first | (with_reducible first | exact HB.out | apply Zad | apply Zaa | apply Zaf) | exact HB.out)) hb); clear HO422; clear HO426; clear HO430; clear HO434; clear HB; have HO422 := n0_; have HO426 := n1_; have HO430 := n2_; have HO434 := n3_; have HO438 := n4_; have HB := n5_; clear n0_ n1_ n2_ n3_ n4_ n5_; (try clear hb); (try clear hb2); (try clear hk); (try clear hi); (try clear ho0); obtain ⟨Ao38, co38, eo38⟩ := Kd.Zbo HO438.out; subst eo38) | ((with_reducible refine Zap (f := 13) rfl ?_); refine Za8 (some 79) rfl rfl Try.func13 (by kernel_rfl) rfl #[.slice Ao32 t419.length co32, .slice Ao38 t435.length co38] rfl (by (try simp only [List.map_toArray, List.map_cons, List.map_nil]); first | done | rfl | (simp only [List.length_drop, List.length_take]; rfl)) ?_; (with_reducible refine (Zae.calls kj3 _ _ t419 _ _ t435 t439 t440 _ ?side1 ?side2 ?side3 ?side4 A19.out).mono ?_); (case side1 => repeat (first | exact (Kd.Za3 HO422.out).2.2 | (with_reducible refine Kd.Zat ?_ _) | (with_reducible refine Kd.C_drewN ?_ _) | (with_reducible refine Kd.C_drew ?_))); (case side2 => exact (Kd.Za3 HO422.out).2.1); (case side3 => repeat (first | exact (Kd.Za3 HO438.out).2.2 | (with_reducible refine Kd.Zat ?_ _) | (with_reducible refine Kd.C_drewN ?_ _) | (with_reducible refine Kd.C_drew ?_))); (case side4 => exact (Kd.Za3 HO438.out).2.1); rintro e w39 ⟨v441, rfl, ho0, hb⟩; refine ⟨_, rfl, ?_⟩; have n0_ := Za.mk (Kd.Zb (by (with_reducible repeat (first | apply Kd.Zaw | apply Kd.Zax | apply Kd.Za1)); exact HO422.out) (Kd.Zbe ho0) hb); have n1_ := Za.mk (Kd.Zb (by (with_reducible repeat (first | apply Kd.Zaw | apply Kd.Zax | apply Kd.Za1)); exact HO426.out) (Kd.Zbe ho0) hb); have n2_ := Za.mk (Kd.Zb (by (with_reducible repeat (first | apply Kd.Zaw | apply Kd.Zax | apply Kd.Za1)); exact HO430.out) (Kd.Zbe ho0) hb); have n3_ := Za.mk (Kd.Zb (by (with_reducible repeat (first | apply Kd.Zaw | apply Kd.Zax | apply Kd.Za1)); exact HO434.out) (Kd.Zbe ho0) hb); have n4_ := Za.mk (Kd.Zb (by (with_reducible repeat (first | apply Kd.Zaw | apply Kd.Zax | apply Kd.Za1)); exact HO438.out) (Kd.Zbe ho0) hb); have n5_ := Za.mk (Kd.Zbh (Kd.Zbs (Kd.Zbs (Kd.Zbs (Kd.Zbs (Kd.Zbs ho0 (Kd.R_lt (by (with_reducible repeat (first | apply Kd.Zaw | apply Kd.Zax | apply Kd.Za1)); exact HO422.out))) (Kd.R_lt (by (with_reducible repeat (first | apply Kd.Zaw | apply Kd.Zax | apply Kd.Za1)); exact HO426.out))) (Kd.R_lt (by (with_reducible repeat (first | apply Kd.Zaw | apply Kd.Zax | apply Kd.Za1)); exact HO430.out))) (Kd.R_lt (by (with_reducible repeat (first | apply Kd.Zaw | apply Kd.Zax | apply Kd.Za1)); exact HO434.out))) (Kd.R_lt (by (with_reducible repeat (first | apply Kd.Zaw | apply Kd.Zax | apply Kd.Za1)); exact HO438.out))) (Zau (by repeat (first | (with_reducible first | exact HB.out | apply Zad | apply Zaa | apply Zaf) | exact HB.out)))); have n6_ := Za.mk (Zan (by repeat (first | (with_reducible first | exact HB.out | apply Zad | apply Zaa | apply Zaf) | exact HB.out)) hb); clear HO422; clear HO426; clear HO430; clear HO434; clear HO438; clear HB; have HO422 := n0_; have HO426 := n1_; have HO430 := n2_; have HO434 := n3_; have HO438 := n4_; have HO442 := n5_; have HB := n6_; clear n0_ n1_ n2_ n3_ n4_ n5_ n6_; (try clear hb); (try clear hb2); (try clear hk); (try clear hi); (try clear ho0); obtain ⟨Ao40, co40, eo40⟩ := Kd.Zbo HO426.out; subst eo40; obtain ⟨Ao41, co41, eo41⟩ := Kd.Zbo HO434.out; subst eo41) | (go_at_call 14; (with_reducible refine (Zab.calls kj3 _ _ t423 _ _ t431 true _ ?side1 ?side2 ?side3 ?side4 A26.out).mono ?_); (case side1 => repeat (first | exact (Kd.Za3 HO426.out).2.2 | (with_reducible refine Kd.Zat ?_ _) | (with_reducible refine Kd.C_drewN ?_ _) | (with_reducible refine Kd.C_drew ?_))); (case side2 => exact (Kd.Za3 HO426.out).2.1); (case side3 => repeat (first | exact (Kd.Za3 HO434.out).2.2 | (with_reducible refine Kd.Zat ?_ _) | (with_reducible refine Kd.C_drewN ?_ _) | (with_reducible refine Kd.C_drew ?_))); (case side4 => exact (Kd.Za3 HO434.out).2.1); rintro e w' ⟨rfl, ⟨nd, rfl⟩⟩; obtain ⟨Ao42, co42, eo42⟩ := Kd.Zbo HO442.out; subst eo42) | (go_at_call 14; (with_reducible refine (Zab.calls kj3 _ _ t439 _ _ l2 true _ ?side1 ?side2 ?side3 ?side4 A28.out).mono ?_); (case side1 => repeat (first | exact (Kd.Za3 HO442.out).2.2 | (with_reducible refine Kd.Zat ?_ _) | (with_reducible refine Kd.C_drewN ?_ _) | (with_reducible refine Kd.C_drew ?_))); (case side2 => exact (Kd.Za3 HO442.out).2.1); (case side3 => repeat (first | exact (Kd.Zal HR2.out (by repeat (first | (with_reducible first | exact HB.out | apply Zad | apply Zaa | apply Zaf) | exact HB.out))) | (with_reducible refine Kd.Zat ?_ _) | (with_reducible refine Kd.C_drewN ?_ _) | (with_reducible refine Kd.C_drew ?_))); (case side4 => exact HC2.out); rintro e w' ⟨rfl, ⟨nd, rfl⟩⟩) | (go_at_call 16; (with_reducible refine (Zam.calls kj3  t445 _ A30.out).mono ?_); rintro e w43 ⟨rfl, hb⟩; have n0_ := Za.mk (Kd.Zbt (by (with_reducible repeat (first | apply Kd.Zaw | apply Kd.Zax | apply Kd.Za1)); exact HO422.out) hb); have n1_ := Za.mk (Kd.Zbt (by (with_reducible repeat (first | apply Kd.Zaw | apply Kd.Zax | apply Kd.Za1)); exact HO426.out) hb); have n2_ := Za.mk (Kd.Zbt (by (with_reducible repeat (first | apply Kd.Zaw | apply Kd.Zax | apply Kd.Za1)); exact HO430.out) hb); have n3_ := Za.mk (Kd.Zbt (by (with_reducible repeat (first | apply Kd.Zaw | apply Kd.Zax | apply Kd.Za1)); exact HO434.out) hb); have n4_ := Za.mk (Kd.Zbt (by (with_reducible repeat (first | apply Kd.Zaw | apply Kd.Zax | apply Kd.Za1)); exact HO438.out) hb); have n5_ := Za.mk (Kd.Zbt (by (with_reducible repeat (first | apply Kd.Zaw | apply Kd.Zax | apply Kd.Za1)); exact HO442.out) hb); have n6_ := Za.mk (Zan (by repeat (first | (with_reducible first | exact HB.out | apply Zad | apply Zaa | apply Zaf) | exact HB.out)) hb); clear HO422; clear HO426; clear HO430; clear HO434; clear HO438; clear HO442; clear HB; have HO422 := n0_; have HO426 := n1_; have HO430 := n2_; have HO434 := n3_; have HO438 := n4_; have HO442 := n5_; have HB := n6_; clear n0_ n1_ n2_ n3_ n4_ n5_ n6_; (try clear hb); (try clear hb2); (try clear hk); (try clear hi)))
   go_ret
   exact ⟨by first | rfl | (simp [Zay, Zaz] <;> rfl) | (simp [*, Zay, Zaz] <;> rfl), by repeat (first | (with_reducible first | exact HB.out | apply Zad | apply Zaa | apply Zaf) | exact HB.out)⟩
/-- THE ONE PURE STATEMENT of Zac: yours. -/
def Zac.Pure : Prop := ∀ (l0 : List Int) (l1 : List Int) (l2 : List Int), l0.length ≤ maxLen → l0.length * 8 ≤ 140737488351232 → (∀ x ∈ l0, (Lit.int .i64 x).wf = true) → l1.length ≤ maxLen → l1.length * 8 ≤ 140737488351232 → (∀ x ∈ l1, (Lit.int .i64 x).wf = true) → l2.length ≤ maxLen → l2.length * 8 ≤ 140737488351232 → (∀ x ∈ l2, (Lit.int .i64 x).wf = true) → ∃ k, Zac.f k l0 l1 l2 = some true
theorem Zac.walk (P : Zac.Pure) (a0 : Option Addr) (len0 cap0 : Nat) (z0 : List Int) (a1 : Option Addr) (len1 cap1 : Nat) (z1 : List Int) (a2 : Option Addr) (len2 cap2 : Nat) (z2 : List Int) (w : World) (w0 : (a0 = none ∧ len0 = 0 ∧ cap0 = 0 ∧ z0 = []) ∨ ∃ x, a0 = some x ∧ len0 ≤ cap0 ∧ cap0 ≤ maxLen ∧ z0.length = cap0 ∧ (∀ i, i < z0.length → w.cell? (x.add i) = some (.int .i64 (z0.getD i 0))) ∧ ∀ n ∈ z0, (Lit.int .i64 n).wf = true) (y0 : len0 * 8 ≤ 140737488351232) (w1 : (a1 = none ∧ len1 = 0 ∧ cap1 = 0 ∧ z1 = []) ∨ ∃ x, a1 = some x ∧ len1 ≤ cap1 ∧ cap1 ≤ maxLen ∧ z1.length = cap1 ∧ (∀ i, i < z1.length → w.cell? (x.add i) = some (.int .i64 (z1.getD i 0))) ∧ ∀ n ∈ z1, (Lit.int .i64 n).wf = true) (y1 : len1 * 8 ≤ 140737488351232) (w2 : (a2 = none ∧ len2 = 0 ∧ cap2 = 0 ∧ z2 = []) ∨ ∃ x, a2 = some x ∧ len2 ≤ cap2 ∧ cap2 ≤ maxLen ∧ z2.length = cap2 ∧ (∀ i, i < z2.length → w.cell? (x.add i) = some (.int .i64 (z2.getD i 0))) ∧ ∀ n ∈ z2, (Lit.int .i64 n).wf = true) (y2 : len2 * 8 ≤ 140737488351232) :
  Calls Try.prog 7 #[.slice a0 len0 cap0, .slice a1 len1 cap1, .slice a2 len2 cap2] w fun e w' => e = .returned (.bool true) ∧ Below w.heap.size w w' := by
 obtain ⟨l0, rfl, hr0, hm0, hw0, hc0⟩ := ReadsInt.ofRowC w0
 obtain ⟨l1, rfl, hr1, hm1, hw1, hc1⟩ := ReadsInt.ofRowC w1
 obtain ⟨l2, rfl, hr2, hm2, hw2, hc2⟩ := ReadsInt.ofRowC w2
 obtain ⟨k, h⟩ := P l0 l1 l2 hm0 y0 hw0 hm1 y1 hw1 hm2 y2 hw2
 refine (Zac.calls k _ _ l0 _ _ l1 _ _ l2 true w (Kd.Zc2 (d := (0 : Int)) (h1 := fun _ => rfl) hr0) hc0 (Kd.Zc2 (d := (0 : Int)) (h1 := fun _ => rfl) hr1) hc1 (Kd.Zc2 (d := (0 : Int)) (h1 := fun _ => rfl) hr2) hc2 h).mono ?_
 rintro e w' ⟨rfl, hd⟩
 exact ⟨rfl, hd⟩

end Go.Proofs.Yteopgafbamipeaa.P
/- Values, moved by one change and then another one, are moved by both; the way back brings them back: for any lists. -/
namespace Go.Proofs.Yteopgafbamipeaa.P
open Go.RowKit G Go.Proofs.YteopgafbamipeaaW.PrintWords Go.Proofs.YteopgafbamipeaaW.PrintLast
set_option linter.unusedVariables false
theorem places (l0 l1 l2 : List Int) (m0 : l0.length ≤ 17592186044416) (m1 : l1.length ≤ 17592186044416) (m2 : l2.length ≤ 17592186044416) : Ev (fun k => Zac.f k l0 l1 l2) true := by
  have hf : Ev (fun k => Zam.f k) true := Ev.const rfl
  have hno : ∀ b : Bool, b = true → Ev (fun k => Zac.j0 k l0 l1 l2 b) true := fun b hb => by
    subst hb
    exact Ev.step (fun k => by rw [Zac.j0, if_pos rfl]) (Ev.bind hf (Ev.const rfl))
  unfold Zac.f
  by_cases h30 : (l0.length : Int) > 30
  · exact Ev.Zbd h30 (hno _ rfl)
  refine Ev.Zb4 h30 ?_
  by_cases e1 : (l1.length : Int) = (l0.length : Int)
  case neg => exact Ev.Zb4 e1 (hno _ rfl)
  refine Ev.Zbd e1 ?_
  by_cases e2 : (l2.length : Int) = (l0.length : Int)
  case neg => exact Ev.Zb4 e2 (hno _ rfl)
  refine Ev.Zbd e2 (Ev.bind (Zdc (p := l0) (by omega)) ?_)
  cases r0 : rtB l0
  · exact Ev.Zb4 (by simp) (hno _ rfl)
  refine Ev.Zbd rfl (Ev.bind (Zdc (p := l1) (by omega)) ?_)
  cases r1 : rtB l1
  · exact hno _ rfl
  have h0 := Zbw.1 r0
  have h1 := Zbw.1 r1
  have f0 : l0.length = l1.length := by omega
  have f2 : l2.length = l0.length := by omega
  have hb : l0.length ≤ 30 := by omega
  have hc := Zdn h0 h1 f0
  have b0 := back_is_Rt h0
  have s0 := sc_Sc (a := ids l0.length) h0
  have x0 := sc_Sc (a := l2) h0
  have x1 := sc_Sc (a := sc l2 l0) h1
  have x2 := sc_Sc (a := l2) hc
  have x3 := sc_Sc (a := sc l2 l0) b0
  refine Ev.step (fun k => by rw [Zac.j0, if_neg (by simp)]) (Ev.bind (Zc0 h0 f2 (by omega)) (Ev.bind (Zc0 (a := sc l2 l0) h1 (by rw [x0.1]; omega) (by omega)) (Ev.bind (behind_ok h0 h1 f0 (by omega)) (Ev.bind (Zc0 (a := l2) hc (by rw [Za0]; omega) (by rw [Za0]; omega)) (Ev.bind (back_ok h0 (by omega)) (Ev.bind (Zc0 (a := sc l2 l0) b0 (by rw [x0.1, s0.1]) (by rw [s0.1]; omega)) ?_))))))
  refine Ev.Zbd rfl (Ev.Zbd rfl (Ev.Zbd rfl (Ev.Zbd rfl (Ev.Zbd rfl (Ev.Zbd rfl ?_)))))
  have q1 : sc (sc l2 l0) l1 = sc l2 (comp l0 l1) := Sc.uniq hc (Sc.comp h0 h1 f0 x0 x1) x2
  have q2 : sc (sc l2 l0) (sc (ids l0.length) l0) = l2 := by
    have h := Sc.comp h0 b0 s0.1.symm x0 x3
    rw [back_comp h0 s0] at h
    exact Sc.uniq (ids_Rt _) h (Sc.of_ids f2)
  refine Ev.bind (ref_Nums _ _ (by rw [x1.1]; omega)) (Ev.Zbd (decide_eq_true q1) (Ev.bind (ref_Nums _ _ (by rw [x3.1, s0.1]; omega)) (Ev.Zbd (decide_eq_true q2) (Ev.bind hf (Ev.const rfl)))))
end Go.Proofs.Yteopgafbamipeaa.P
namespace Go.Proofs.Yteopgafbamipeaa.Pure
open Go.Proofs.Yteopgafbamipeaa.P
theorem GroupPlaces : Zac.Pure := fun l0 l1 l2 _ m0 _ _ m1 _ _ m2 _ => (places l0 l1 l2 (by omega) (by omega) (by omega)).out
end Go.Proofs.Yteopgafbamipeaa.Pure
-- Written by wip/tools/px.py out of the translation. Lean checks it.
namespace Go.Proofs.Yteopgafbamipeaa.groupPlaces
open Go.ChangeShapes Go.WideShapes Go.ChangeAt Go.RowKit
open Go.ChangeMaps (open_string shut_string)
set_option linter.unusedVariables false
theorem own : ownKnob Try.prog.godebug = none := by kernel_rfl
theorem laidOut : laidOutB Try.prog = true := by kernel_rfl
def IsRow (k : IntKind) (w : World) (a : Option Addr) (len cap : Nat) (zs : List Int) : Prop :=
 (a = none ∧ len = 0 ∧ cap = 0 ∧ zs = []) ∨
 ∃ x, a = some x ∧ len ≤ cap ∧ cap ≤ maxLen ∧ zs.length = cap ∧ (∀ i, i < zs.length → w.cell? (x.add i) = some (.int k (zs.getD i 0))) ∧ ∀ n ∈ zs, (Lit.int k n).wf = true
set_option maxRecDepth 100000 in
theorem lifted (os : Os) (started : os.Started) (H : Type) (enc : TypeId × Value → H) :
  ReturnsInHanded {} Try.checked os 7 .any (Rows.groupPlacesSpec.pre6 enc Try.prog Try.f7 Rows.groupPlacesRow.domain false) (Rows.groupPlacesSpec.post enc Try.prog Try.f7 false true false false) := by
 refine returnsInHanded_of_change_sized (C := Try.checked) own started (by kernel_rfl) Try.func7
  (ChangeSpec.witness6 (enc := enc) (C := Try.checked) false ⟨#[], #[.slice none 0 0, .slice none 0 0, .slice none 0 0], []⟩ 8 (by kernel_rfl) (by kernel_rfl) (by kernel_rfl) (by kernel_rfl)) ?_
 intro W base args ds gs before hval0 hW hcnd hsz0 _
 have hsz : (DataW.weightsEach Try.prog (Try.f7.params.toList ++ Rows.groupPlacesSpec.plain.varTypes Try.prog) (ds ++ gs)).all (· ≤ reachBytes) = true := hsz0
 have hval : ∀ (j : Nat) t v, Try.f7.params[j]? = some t → args[j]? = some v → Value.okWide Try.prog W .any base t v := hval0
 have hW' := hW
 obtain ⟨p, q, hA0, hV, rfl, hfz, hnd⟩ := hW
 have hA : DataW.TrodAll enc Try.prog W 0 (fun _ => true) true Try.f7.params.toList args.toList ds p := hA0
 rw [Try.params7] at hA hval hsz
 obtain ⟨v0, vs0, d0, ds0, p0, q0, hargs, rfl, rfl, h0, r0⟩ := trodAll_cons hA
 obtain ⟨v1, vs1, d1, ds1, p1, q1, rfl, rfl, rfl, h1, r1⟩ := trodAll_cons r0
 obtain ⟨v2, vs2, d2, ds2, p2, q2, rfl, rfl, rfl, h2, r2⟩ := trodAll_cons r1
 obtain ⟨rfl, rfl, rfl⟩ := trodAll_nil r2
 obtain rfl : args = #[v0, v1, v2] := by cases args; simp_all
 obtain ⟨rfl, rfl⟩ := trodVars_none hV
 obtain ⟨a0, len0, cap0, rfl⟩ := okWide_slice Try.underlying22 (hval 0 22 v0 rfl rfl)
 have k0 := h0
 have lt0 : ∀ x ∈ p0, x.block < W.heap.size := by obtain ⟨m, hm⟩ := k0; exact DataW.trod_lt m _ _ _ hm
 obtain ⟨z0, w0⟩ : ∃ zs, IsRow .i64 W a0 len0 cap0 zs := by
  obtain ⟨fuel, hf⟩ := h0
  rcases open_ints Try.underlying22 Try.underlying3 (by kernel_rfl) hf with ⟨hcs, _⟩ | ⟨x, l, c, zs, hcs, _, hl, hm, hz, _, hcell, hwz⟩
  ·simp [Value.cells] at hcs
   obtain ⟨rfl, rfl, rfl⟩ := hcs
   exact ⟨[], .inl ⟨rfl, rfl, rfl, rfl⟩⟩
  simp [Value.cells] at hcs
  obtain ⟨rfl, rfl, rfl⟩ := hcs
  exact ⟨zs, .inr ⟨_, rfl, hl, hm, by simpa using hz, hcell, hwz⟩⟩
 have y0 : len0 * 8 ≤ 140737488351232 := Go.Proofs.YteopgafbamipeaaW.PrintWords.Zc5 hsz (j := 0) (t := 22) rfl rfl Try.underlying22 Try.underlying3 (by kernel_rfl) (by kernel_rfl) h0
 obtain ⟨a1, len1, cap1, rfl⟩ := okWide_slice Try.underlying22 (hval 1 22 v1 rfl rfl)
 have k1 := h1
 have lt1 : ∀ x ∈ p1, x.block < W.heap.size := by obtain ⟨m, hm⟩ := k1; exact DataW.trod_lt m _ _ _ hm
 obtain ⟨z1, w1⟩ : ∃ zs, IsRow .i64 W a1 len1 cap1 zs := by
  obtain ⟨fuel, hf⟩ := h1
  rcases open_ints Try.underlying22 Try.underlying3 (by kernel_rfl) hf with ⟨hcs, _⟩ | ⟨x, l, c, zs, hcs, _, hl, hm, hz, _, hcell, hwz⟩
  ·simp [Value.cells] at hcs
   obtain ⟨rfl, rfl, rfl⟩ := hcs
   exact ⟨[], .inl ⟨rfl, rfl, rfl, rfl⟩⟩
  simp [Value.cells] at hcs
  obtain ⟨rfl, rfl, rfl⟩ := hcs
  exact ⟨zs, .inr ⟨_, rfl, hl, hm, by simpa using hz, hcell, hwz⟩⟩
 have y1 : len1 * 8 ≤ 140737488351232 := Go.Proofs.YteopgafbamipeaaW.PrintWords.Zc5 hsz (j := 1) (t := 22) rfl rfl Try.underlying22 Try.underlying3 (by kernel_rfl) (by kernel_rfl) h1
 obtain ⟨a2, len2, cap2, rfl⟩ := okWide_slice Try.underlying22 (hval 2 22 v2 rfl rfl)
 have k2 := h2
 have lt2 : ∀ x ∈ p2, x.block < W.heap.size := by obtain ⟨m, hm⟩ := k2; exact DataW.trod_lt m _ _ _ hm
 obtain ⟨z2, w2⟩ : ∃ zs, IsRow .i64 W a2 len2 cap2 zs := by
  obtain ⟨fuel, hf⟩ := h2
  rcases open_ints Try.underlying22 Try.underlying3 (by kernel_rfl) hf with ⟨hcs, _⟩ | ⟨x, l, c, zs, hcs, _, hl, hm, hz, _, hcell, hwz⟩
  ·simp [Value.cells] at hcs
   obtain ⟨rfl, rfl, rfl⟩ := hcs
   exact ⟨[], .inl ⟨rfl, rfl, rfl, rfl⟩⟩
  simp [Value.cells] at hcs
  obtain ⟨rfl, rfl, rfl⟩ := hcs
  exact ⟨zs, .inr ⟨_, rfl, hl, hm, by simpa using hz, hcell, hwz⟩⟩
 have y2 : len2 * 8 ≤ 140737488351232 := Go.Proofs.YteopgafbamipeaaW.PrintWords.Zc5 hsz (j := 2) (t := 22) rfl rfl Try.underlying22 Try.underlying3 (by kernel_rfl) (by kernel_rfl) h2
 clear hA0 hval0 hsz0 hsz
 refine (P.Zac.walk Pure.GroupPlaces a0 len0 cap0 z0 a1 len1 cap1 z1 a2 len2 cap2 z2 W w0 y0 w1 y1 w2 y2).mono fun e W' ⟨he, bel⟩ => ?_
 subst he
 exact ⟨_, rfl, _, _, _, [], _, [], hW', trodAll_mk1 (shut_bool Try.underlying4 _), (trodAll_cons_mk (Below.trod laidOut (by kernel_rfl) (of_decide_eq_true (by kernel_rfl)) k0 bel lt0) (trodAll_cons_mk (Below.trod laidOut (by kernel_rfl) (of_decide_eq_true (by kernel_rfl)) k1 bel lt1) (trodAll_cons_mk (Below.trod laidOut (by kernel_rfl) (of_decide_eq_true (by kernel_rfl)) k2 bel lt2) trodAll_mk0))), rfl, bel.frame _, fun h => by cases h⟩
theorem over : Rows.groupPlacesRow.holds Try.pinned (OpenSpec.ofChange Rows.groupPlacesSpec) :=
 OpenClaim.holds_of_wide 7 Try.f7 rfl rfl rfl rfl rfl rfl rfl ⟨rfl, rfl, rfl, rfl, rfl⟩ rfl rfl rfl rfl rfl (by kernel_rfl) Try.func7 (by kernel_rfl)
  (of_decide_eq_true (by kernel_rfl)) (by unfold Func.isWrapper; first | (rw [if_pos (by decide +kernel)]; kernel_rfl) | (rw [if_neg (by decide +kernel)]; exact ⟨rfl, rfl⟩))
  (fun os started H enc _ => lifted os started H enc)
theorem proved : Rows.GroupPlacesSaid := over
end Go.Proofs.Yteopgafbamipeaa.groupPlaces
namespace Go.Proofs.Yteopgafbamipeaa
/-- The row, under a short name, for the claim. -/
theorem groupPlaces_holds : Rows.GroupPlacesSaid := groupPlaces.proved
end Go.Proofs.Yteopgafbamipeaa
