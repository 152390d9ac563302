/- Proved: the statement GroupThree. Conditions: none but those of the statement. -/
import Derived.Test.YteopgafbamipeaaZ1
import Derived.Test.YteopgafbamipeaaZ2
import Derived.Test.YteopgafbamipeaaRows
import Derived.WalkKit
import Derived.ProofKit
import Derived.OpenShut
import Derived.ShutString
import Derived.ChangeOld
import Derived.Below
import Derived.SizedLaws
import Derived.Test.YteopgafbamipeaaU1

namespace Go.Proofs.Yteopgafbamipeaa.P
open Go.RowKit Go.Proofs.YteopgafbamipeaaW.PrintWords Go.Proofs.YteopgafbamipeaaW.PrintLast Go.Proofs.YteopgafbamipeaaW.PrintMore
attribute [local go_sem] Zb6 Zb8 Zcr Zcs Zbv Zbw Zb7 Zb9
set_option linter.unusedVariables false
set_option linter.unusedSimpArgs false
/-! ### Zab: function 6 -/
def Zab.j0 : Nat → List Int → List Int → List Int → Bool → Option (Bool)
 | 0, _, _, _, _ => none
 | k + 1, x0, x1, x2, x54 => if x54 = true then ((Zak.f k).bind fun t347 => (some t347)) else ((Zae.f k x0 x1).bind fun bt348 => ((Zae.f k bt348.1 x2).bind fun bt352 => ((Zae.f k x1 x2).bind fun bt356 => ((Zae.f k x0 bt356.1).bind fun bt360 => ((Zao.f k bt348.1).bind fun bt364 => ((Zao.f k x0).bind fun bt368 => ((Zao.f k x1).bind fun bt372 => ((Zae.f k bt372.1 bt368.1).bind fun bt376 => (if bt348.2 = 0 then (if bt352.2 = 0 then (if bt356.2 = 0 then (if bt360.2 = 0 then (if bt364.2 = 0 then (if bt368.2 = 0 then (if bt372.2 = 0 then (if bt376.2 = 0 then ((Zac.f k bt352.1 bt360.1).bind fun t380 => (if t380 = true then ((Zac.f k bt364.1 bt376.1).bind fun t381 => (if t381 = true then ((Zak.f k).bind fun t382 => (some t382)) else (none))) else (none))) else (none)) else (none)) else (none)) else (none)) else (none)) else (none)) else (none)) else (none))))))))))
def Zab.f (k : Nat) (l0 : List Int) (l1 : List Int) (l2 : List Int) : Option (Bool) := if (l0.length : Int) > 30 then (Zab.j0 k l0 l1 l2 true) else (if (l1.length : Int) = (l0.length : Int) then (if (l2.length : Int) = (l0.length : Int) then ((Zaf.f k l0).bind fun t344 => (if t344 = true then ((Zaf.f k l1).bind fun t345 => (if t345 = true then ((Zaf.f k l2).bind fun t346 => (Zab.j0 k l0 l1 l2 (!t346))) else (Zab.j0 k l0 l1 l2 true))) else (Zab.j0 k l0 l1 l2 true))) else (Zab.j0 k l0 l1 l2 true)) else (Zab.j0 k l0 l1 l2 true))
theorem Zab.Zb : ∀ k, (∀ y0 y1 y2 y3, LeO (Zab.j0 k y0 y1 y2 y3) (Zab.j0 (k + 1) y0 y1 y2 y3))
 | 0 => fun _ _ _ _ r h => by simp [Zab.j0] at h
 | k + 1 => by
  have ih0 := Zab.Zb k
  intro y0 y1 y2 y3
  unfold Zab.j0
  repeat' first
  | (with_reducible exact ih0 _ _ _ _)
  | (with_reducible exact Zao.mono _ _)
  | (with_reducible exact Zae.mono _ _ _)
  | (with_reducible exact Zak.mono _)
  | (with_reducible exact Zac.mono _ _ _)
  | (with_reducible exact Zaf.mono _ _)
  | (with_reducible exact LeO.refl _)
  | (with_reducible exact LeO.none _)
  | (with_reducible refine LeO.ite ?_ ?_)
  | (with_reducible refine LeO.bind ?_ (fun _ => ?_))
  | exact ih0 _ _ _ _
  | exact Zao.mono _ _
  | exact Zae.mono _ _ _
  | exact Zak.mono _
  | exact Zac.mono _ _ _
  | exact Zaf.mono _ _
  | exact LeO.none _
  | refine LeO.ite ?_ ?_
  | refine LeO.bind ?_ (fun _ => ?_)
theorem Zab.mono : ∀ a0 a1 a2 k, LeO (Zab.f k a0 a1 a2) (Zab.f (k + 1) a0 a1 a2) := by
 intro a0 a1 a2 k
 have ih0 := Zab.Zb k
 unfold Zab.f
 repeat' first
   | (with_reducible exact ih0 _ _ _ _)
   | (with_reducible exact Zao.mono _ _)
   | (with_reducible exact Zae.mono _ _ _)
   | (with_reducible exact Zak.mono _)
   | (with_reducible exact Zac.mono _ _ _)
   | (with_reducible exact Zaf.mono _ _)
   | (with_reducible exact LeO.refl _)
   | (with_reducible exact LeO.none _)
   | (with_reducible refine LeO.ite ?_ ?_)
   | (with_reducible refine LeO.bind ?_ (fun _ => ?_))
   | exact ih0 _ _ _ _
   | exact Zao.mono _ _
   | exact Zae.mono _ _ _
   | exact Zak.mono _
   | exact Zac.mono _ _ _
   | exact Zaf.mono _ _
   | exact LeO.none _
   | refine LeO.ite ?_ ?_
   | refine LeO.bind ?_ (fun _ => ?_)
set_option maxHeartbeats 8000000 in
set_option maxRecDepth 100000 in
theorem Zab.calls (k : Nat) (A0 : Option Addr) (c0 : Nat) (l0 : List Int) (A1 : Option Addr) (c1 : Nat) (l1 : List Int) (A2 : Option Addr) (c2 : Nat) (l2 : List Int) (r : Bool) (w : World) (hr0 : Kd.C (Kd.int .i64) w A0 l0.length l0) (hc0 : l0.length ≤ c0) (hr1 : Kd.C (Kd.int .i64) w A1 l1.length l1) (hc1 : l1.length ≤ c1) (hr2 : Kd.C (Kd.int .i64) w A2 l2.length l2) (hc2 : l2.length ≤ c2) (h : Zab.f k l0 l1 l2 = some r) :
  Calls Try.prog 6 #[.slice A0 l0.length c0, .slice A1 l1.length c1, .slice A2 l2.length c2] w fun e w' => e = .returned (.bool r) ∧ Below w.heap.size w w' := by
 have HR0 := Za.mk hr0
 have HC0 := Za.mk hc0
 clear hr0 hc0
 have HR1 := Za.mk hr1
 have HC1 := Za.mk hc1
 clear hr1 hc1
 have HR2 := Za.mk hr2
 have HC2 := Za.mk hc2
 clear hr2 hc2
 have HB := Za.mk (Below.refl w.heap.size w)
 have H : (if (l0.length : Int) > 30 then (Zab.j0 k l0 l1 l2 true) else (if (l1.length : Int) = (l0.length : Int) then (if (l2.length : Int) = (l0.length : Int) then ((Zaf.f k l0).bind fun t344 => (if t344 = true then ((Zaf.f k l1).bind fun t345 => (if t345 = true then ((Zaf.f k l2).bind fun t346 => (Zab.j0 k l0 l1 l2 (!t346))) else (Zab.j0 k l0 l1 l2 true))) else (Zab.j0 k l0 l1 l2 true))) else (Zab.j0 k l0 l1 l2 true)) else (Zab.j0 k l0 l1 l2 true))) = some r := h
 clear h
 have HC4 := Za.mk H
 clear H
 go_enter Try.func6, Try.ntmps6
 go_upto_region 2 with (fail)
 go_cut [54] (fun v54 wc => ∃ (kq : Nat) (x54_3 : Bool), v54 = .bool x54_3 ∧ Za (Zab.j0 kq l0 l1 l2 x54_3 = some r) ∧ Za (kq ≤ k) ∧ Za (Below w.heap.size w wc))
 case first =>
  have H := HC4.out
  clear HC4
  by_cases c5 : (l0.length : Int) > 30
  ·rw [if_pos c5] at H
   have c5b0 : decide (30 < (l0.length : Int)) = true := decide_eq_true c5
   have c5b1 : decide (30 < l0.length) = true := decide_eq_true (by omega)
   clear c5
   (first | rw [c5b0] | (simp only [i64_w, i32_w]; rw [c5b0]) | skip)
   have H' := Za.mk H
   clear H
   go_wp2
   go_meet
   case rel => exact ⟨_, (true), (by first | rfl | (simp; done) | (simp [*]; done)), H', ⟨by first | omega | exact Nat.le_refl _⟩, ⟨by repeat (first | (with_reducible first | exact HB.out | apply Zad | apply Zaa | apply Zag) | exact HB.out)⟩⟩
  rw [if_neg c5] at H
  have c5b0 : decide (30 < (l0.length : Int)) = false := decide_eq_false c5
  have c5b1 : decide (30 < l0.length) = false := decide_eq_false (by omega)
  clear c5
  (first | rw [c5b0] | (simp only [i64_w, i32_w]; rw [c5b0]) | skip)
  by_cases c6 : (l1.length : Int) = (l0.length : Int)
  rotate_left
  ·rw [if_neg c6] at H
   have c6b0 : ((l1.length : Int) == (l0.length : Int)) = false := beq_eq_false_iff_ne.mpr c6
   have c6b1 : ((l1.length : Int) != (l0.length : Int)) = true := bne_iff_ne.mpr c6
   have c6b2 : (l1.length == l0.length) = false := by first | simpa using c6 | (simp at c6 ⊢; omega)
   have H' := Za.mk H
   clear H
   go_wp2
   go_meet
   case rel => exact ⟨_, (true), (by first | rfl | (simp; done) | (simp [*]; done)), H', ⟨by first | omega | exact Nat.le_refl _⟩, ⟨by repeat (first | (with_reducible first | exact HB.out | apply Zad | apply Zaa | apply Zag) | exact HB.out)⟩⟩
  rw [if_pos c6] at H
  have c6b0 : ((l1.length : Int) == (l0.length : Int)) = true := beq_iff_eq.mpr c6
  have c6b1 : ((l1.length : Int) != (l0.length : Int)) = false := bne_eq_false_iff_eq.mpr c6
  have c6b2 : (l1.length == l0.length) = true := by first | simpa using c6 | (simp at c6 ⊢; omega)
  clear c6
  by_cases c7 : (l2.length : Int) = (l0.length : Int)
  rotate_left
  ·rw [if_neg c7] at H
   have c7b0 : ((l2.length : Int) == (l0.length : Int)) = false := beq_eq_false_iff_ne.mpr c7
   have c7b1 : ((l2.length : Int) != (l0.length : Int)) = true := bne_iff_ne.mpr c7
   have c7b2 : (l2.length == l0.length) = false := by first | simpa using c7 | (simp at c7 ⊢; omega)
   have H' := Za.mk H
   clear H
   go_wp2
   go_meet
   case rel => exact ⟨_, (true), (by first | rfl | (simp; done) | (simp [*]; done)), H', ⟨by first | omega | exact Nat.le_refl _⟩, ⟨by repeat (first | (with_reducible first | exact HB.out | apply Zad | apply Zaa | apply Zag) | exact HB.out)⟩⟩
  rw [if_pos c7] at H
  have c7b0 : ((l2.length : Int) == (l0.length : Int)) = true := beq_iff_eq.mpr c7
  have c7b1 : ((l2.length : Int) != (l0.length : Int)) = false := bne_eq_false_iff_eq.mpr c7
  have c7b2 : (l2.length == l0.length) = true := by first | simpa using c7 | (simp at c7 ⊢; omega)
  clear c7
  replace H := Option.bind_eq_some_iff.mp H
  obtain ⟨t344, A80, H⟩ := H
  replace H : (if t344 = true then ((Zaf.f k l1).bind fun t345 => (if t345 = true then ((Zaf.f k l2).bind fun t346 => (Zab.j0 k l0 l1 l2 (!t346))) else (Zab.j0 k l0 l1 l2 true))) else (Zab.j0 k l0 l1 l2 true)) = some r := H
  have A8 := Za.mk A80
  clear A80
  by_cases c9 : t344 = true
  rotate_left
  ·replace c9 := Bool.eq_false_iff.mpr c9
   subst c9
   have H1 : (Zab.j0 k l0 l1 l2 true) = some r := by rw [if_neg (show ¬ (false = true) by decide)] at H; exact H
   clear H
   have H := H1
   clear H1
   have H' := Za.mk H
   clear H
   go_wp2_with (first | (go_at_call 15; (with_reducible refine (Zaf.calls k _ _ l0 false _ ?side1 ?side2 A8.out).mono ?_); (case side1 => repeat (first | exact (Kd.Zam HR0.out HB.out) | (with_reducible refine Kd.Zau ?_ _) | (with_reducible refine Kd.C_drewN ?_ _) | (with_reducible refine Kd.C_drew ?_))); (case side2 => exact HC0.out); rintro e w' ⟨rfl, ⟨nd, rfl⟩⟩))
   go_meet
   case rel => exact ⟨_, (true), (by first | rfl | (simp; done) | (simp [*]; done)), H', ⟨by first | omega | exact Nat.le_refl _⟩, ⟨by repeat (first | (with_reducible first | exact HB.out | apply Zad | apply Zaa | apply Zag) | exact HB.out)⟩⟩
  subst c9
  have H1 : ((Zaf.f k l1).bind fun t345 => (if t345 = true then ((Zaf.f k l2).bind fun t346 => (Zab.j0 k l0 l1 l2 (!t346))) else (Zab.j0 k l0 l1 l2 true))) = some r := by rw [if_pos rfl] at H; exact H
  clear H
  have H := H1
  clear H1
  replace H := Option.bind_eq_some_iff.mp H
  obtain ⟨t345, A100, H⟩ := H
  replace H : (if t345 = true then ((Zaf.f k l2).bind fun t346 => (Zab.j0 k l0 l1 l2 (!t346))) else (Zab.j0 k l0 l1 l2 true)) = some r := H
  have A10 := Za.mk A100
  clear A100
  by_cases c11 : t345 = true
  rotate_left
  ·replace c11 := Bool.eq_false_iff.mpr c11
   subst c11
   have H1 : (Zab.j0 k l0 l1 l2 true) = some r := by rw [if_neg (show ¬ (false = true) by decide)] at H; exact H
   clear H
   have H := H1
   clear H1
   have H' := Za.mk H
   clear H
   go_wp2_with (first | (go_at_call 15; (with_reducible refine (Zaf.calls k _ _ l0 true _ ?side1 ?side2 A8.out).mono ?_); (case side1 => repeat (first | exact (Kd.Zam HR0.out HB.out) | (with_reducible refine Kd.Zau ?_ _) | (with_reducible refine Kd.C_drewN ?_ _) | (with_reducible refine Kd.C_drew ?_))); (case side2 => exact HC0.out); rintro e w' ⟨rfl, ⟨nd, rfl⟩⟩) | (go_at_call 15; (with_reducible refine (Zaf.calls k _ _ l1 false _ ?side1 ?side2 A10.out).mono ?_); (case side1 => repeat (first | exact (Kd.Zam HR1.out (by repeat (first | (with_reducible first | exact HB.out | apply Zad | apply Zaa | apply Zag) | exact HB.out))) | (with_reducible refine Kd.Zau ?_ _) | (with_reducible refine Kd.C_drewN ?_ _) | (with_reducible refine Kd.C_drew ?_))); (case side2 => exact HC1.out); rintro e w' ⟨rfl, ⟨nd, rfl⟩⟩))
   go_meet
   case rel => exact ⟨_, (true), (by first | rfl | (simp; done) | (simp [*]; done)), H', ⟨by first | omega | exact Nat.le_refl _⟩, ⟨by repeat (first | (with_reducible first | exact HB.out | apply Zad | apply Zaa | apply Zag) | exact HB.out)⟩⟩
  subst c11
  have H1 : ((Zaf.f k l2).bind fun t346 => (Zab.j0 k l0 l1 l2 (!t346))) = some r := by rw [if_pos rfl] at H; exact H
  clear H
  have H := H1
  clear H1
  replace H := Option.bind_eq_some_iff.mp H
  obtain ⟨t346, A120, H⟩ := H
  replace H : (Zab.j0 k l0 l1 l2 (!t346)) = some r := H
  have A12 := Za.mk A120
  clear A120
  have H' := Za.mk H
  clear H
  go_wp2_with (first | (go_at_call 15; (with_reducible refine (Zaf.calls k _ _ l0 true _ ?side1 ?side2 A8.out).mono ?_); (case side1 => repeat (first | exact (Kd.Zam HR0.out HB.out) | (with_reducible refine Kd.Zau ?_ _) | (with_reducible refine Kd.C_drewN ?_ _) | (with_reducible refine Kd.C_drew ?_))); (case side2 => exact HC0.out); rintro e w' ⟨rfl, ⟨nd, rfl⟩⟩) | (go_at_call 15; (with_reducible refine (Zaf.calls k _ _ l1 true _ ?side1 ?side2 A10.out).mono ?_); (case side1 => repeat (first | exact (Kd.Zam HR1.out (by repeat (first | (with_reducible first | exact HB.out | apply Zad | apply Zaa | apply Zag) | exact HB.out))) | (with_reducible refine Kd.Zau ?_ _) | (with_reducible refine Kd.C_drewN ?_ _) | (with_reducible refine Kd.C_drew ?_))); (case side2 => exact HC1.out); rintro e w' ⟨rfl, ⟨nd, rfl⟩⟩) | (go_at_call 15; (with_reducible refine (Zaf.calls k _ _ l2 t346 _ ?side1 ?side2 A12.out).mono ?_); (case side1 => repeat (first | exact (Kd.Zam HR2.out (by repeat (first | (with_reducible first | exact HB.out | apply Zad | apply Zaa | apply Zag) | exact HB.out))) | (with_reducible refine Kd.Zau ?_ _) | (with_reducible refine Kd.C_drewN ?_ _) | (with_reducible refine Kd.C_drew ?_))); (case side2 => exact HC2.out); rintro e w' ⟨rfl, ⟨nd, rfl⟩⟩))
  go_meet
  case rel => exact ⟨_, (!t346), (by first | rfl | (simp; done) | (simp [*]; done)), H', ⟨by first | omega | exact Nat.le_refl _⟩, ⟨by repeat (first | (with_reducible first | exact HB.out | apply Zad | apply Zaa | apply Zag) | exact HB.out)⟩⟩
 case rest =>
  clear HC4
  try clear c1
  try clear c2
  try clear p2
  try clear c5
  try clear c5b0
  try clear c5b1
  try clear c6
  try clear c6b0
  try clear c6b1
  try clear c6b2
  try clear c7
  try clear c7b0
  try clear c7b1
  try clear c7b2
  try clear c9
  try clear c11
  obtain ⟨kq, x54_3, rfl, HA, HJ3, HB⟩ := hcut
  cases kq with
  | zero => exact absurd HA.out (by simp [Zab.j0])
  | succ kj3 =>
   have H := HA.out
   clear HA
   simp only [Zab.j0] at H
   by_cases c13 : x54_3 = true
   ·subst c13
    have H1 : ((Zak.f kj3).bind fun t347 => (some t347)) = some r := by rw [if_pos rfl] at H; exact H
    clear H
    have H := H1
    clear H1
    replace H := Option.bind_eq_some_iff.mp H
    obtain ⟨t347, A140, H⟩ := H
    replace H : (some t347) = some r := H
    have A14 := Za.mk A140
    clear A140
    obtain rfl := Option.some.inj H
    go_wp2_with (first | ((with_reducible refine Zar (f := 16) rfl ?_); refine Za9 (some 55) rfl rfl Try.func16 (by kernel_rfl) rfl #[] rfl (by (try simp only [List.map_toArray, List.map_cons, List.map_nil]); first | done | rfl | (simp only [List.length_drop, List.length_take]; rfl)) ?_; (with_reducible refine (Zak.calls kj3  t347 _ A14.out).mono ?_); rintro e w15 ⟨rfl, hb⟩; refine ⟨_, rfl, ?_⟩; have n0_ := Za.mk (Zan (by repeat (first | (with_reducible first | exact HB.out | apply Zad | apply Zaa | apply Zag) | exact HB.out)) hb); clear HB; have HB := n0_; clear n0_; (try clear hb); (try clear hb2); (try clear hk); (try clear hi)))
    go_ret
    exact ⟨by first | rfl | (simp [Za0, Za1] <;> rfl) | (simp [*, Za0, Za1] <;> rfl), by repeat (first | (with_reducible first | exact HB.out | apply Zad | apply Zaa | apply Zag) | exact HB.out)⟩
   replace c13 := Bool.eq_false_iff.mpr c13
   subst c13
   have H1 : ((Zae.f kj3 l0 l1).bind fun bt348 => ((Zae.f kj3 bt348.1 l2).bind fun bt352 => ((Zae.f kj3 l1 l2).bind fun bt356 => ((Zae.f kj3 l0 bt356.1).bind fun bt360 => ((Zao.f kj3 bt348.1).bind fun bt364 => ((Zao.f kj3 l0).bind fun bt368 => ((Zao.f kj3 l1).bind fun bt372 => ((Zae.f kj3 bt372.1 bt368.1).bind fun bt376 => (if bt348.2 = 0 then (if bt352.2 = 0 then (if bt356.2 = 0 then (if bt360.2 = 0 then (if bt364.2 = 0 then (if bt368.2 = 0 then (if bt372.2 = 0 then (if bt376.2 = 0 then ((Zac.f kj3 bt352.1 bt360.1).bind fun t380 => (if t380 = true then ((Zac.f kj3 bt364.1 bt376.1).bind fun t381 => (if t381 = true then ((Zak.f kj3).bind fun t382 => (some t382)) else (none))) else (none))) else (none)) else (none)) else (none)) else (none)) else (none)) else (none)) else (none)) else (none)))))))))) = some r := by rw [if_neg (show ¬ (false = true) by decide)] at H; exact H
   clear H
   have H := H1
   clear H1
   replace H := Option.bind_eq_some_iff.mp H
   obtain ⟨⟨t348, t349⟩, A160, H⟩ := H
   replace H : ((Zae.f kj3 t348 l2).bind fun bt352 => ((Zae.f kj3 l1 l2).bind fun bt356 => ((Zae.f kj3 l0 bt356.1).bind fun bt360 => ((Zao.f kj3 t348).bind fun bt364 => ((Zao.f kj3 l0).bind fun bt368 => ((Zao.f kj3 l1).bind fun bt372 => ((Zae.f kj3 bt372.1 bt368.1).bind fun bt376 => (if t349 = 0 then (if bt352.2 = 0 then (if bt356.2 = 0 then (if bt360.2 = 0 then (if bt364.2 = 0 then (if bt368.2 = 0 then (if bt372.2 = 0 then (if bt376.2 = 0 then ((Zac.f kj3 bt352.1 bt360.1).bind fun t380 => (if t380 = true then ((Zac.f kj3 bt364.1 bt376.1).bind fun t381 => (if t381 = true then ((Zak.f kj3).bind fun t382 => (some t382)) else (none))) else (none))) else (none)) else (none)) else (none)) else (none)) else (none)) else (none)) else (none)) else (none))))))))) = some r := H
   have A16 := Za.mk A160
   clear A160
   replace H := Option.bind_eq_some_iff.mp H
   obtain ⟨⟨t352, t353⟩, A170, H⟩ := H
   replace H : ((Zae.f kj3 l1 l2).bind fun bt356 => ((Zae.f kj3 l0 bt356.1).bind fun bt360 => ((Zao.f kj3 t348).bind fun bt364 => ((Zao.f kj3 l0).bind fun bt368 => ((Zao.f kj3 l1).bind fun bt372 => ((Zae.f kj3 bt372.1 bt368.1).bind fun bt376 => (if t349 = 0 then (if t353 = 0 then (if bt356.2 = 0 then (if bt360.2 = 0 then (if bt364.2 = 0 then (if bt368.2 = 0 then (if bt372.2 = 0 then (if bt376.2 = 0 then ((Zac.f kj3 t352 bt360.1).bind fun t380 => (if t380 = true then ((Zac.f kj3 bt364.1 bt376.1).bind fun t381 => (if t381 = true then ((Zak.f kj3).bind fun t382 => (some t382)) else (none))) else (none))) else (none)) else (none)) else (none)) else (none)) else (none)) else (none)) else (none)) else (none)))))))) = some r := H
   have A17 := Za.mk A170
   clear A170
   replace H := Option.bind_eq_some_iff.mp H
   obtain ⟨⟨t356, t357⟩, A180, H⟩ := H
   replace H : ((Zae.f kj3 l0 t356).bind fun bt360 => ((Zao.f kj3 t348).bind fun bt364 => ((Zao.f kj3 l0).bind fun bt368 => ((Zao.f kj3 l1).bind fun bt372 => ((Zae.f kj3 bt372.1 bt368.1).bind fun bt376 => (if t349 = 0 then (if t353 = 0 then (if t357 = 0 then (if bt360.2 = 0 then (if bt364.2 = 0 then (if bt368.2 = 0 then (if bt372.2 = 0 then (if bt376.2 = 0 then ((Zac.f kj3 t352 bt360.1).bind fun t380 => (if t380 = true then ((Zac.f kj3 bt364.1 bt376.1).bind fun t381 => (if t381 = true then ((Zak.f kj3).bind fun t382 => (some t382)) else (none))) else (none))) else (none)) else (none)) else (none)) else (none)) else (none)) else (none)) else (none)) else (none))))))) = some r := H
   have A18 := Za.mk A180
   clear A180
   replace H := Option.bind_eq_some_iff.mp H
   obtain ⟨⟨t360, t361⟩, A190, H⟩ := H
   replace H : ((Zao.f kj3 t348).bind fun bt364 => ((Zao.f kj3 l0).bind fun bt368 => ((Zao.f kj3 l1).bind fun bt372 => ((Zae.f kj3 bt372.1 bt368.1).bind fun bt376 => (if t349 = 0 then (if t353 = 0 then (if t357 = 0 then (if t361 = 0 then (if bt364.2 = 0 then (if bt368.2 = 0 then (if bt372.2 = 0 then (if bt376.2 = 0 then ((Zac.f kj3 t352 t360).bind fun t380 => (if t380 = true then ((Zac.f kj3 bt364.1 bt376.1).bind fun t381 => (if t381 = true then ((Zak.f kj3).bind fun t382 => (some t382)) else (none))) else (none))) else (none)) else (none)) else (none)) else (none)) else (none)) else (none)) else (none)) else (none)))))) = some r := H
   have A19 := Za.mk A190
   clear A190
   replace H := Option.bind_eq_some_iff.mp H
   obtain ⟨⟨t364, t365⟩, A200, H⟩ := H
   replace H : ((Zao.f kj3 l0).bind fun bt368 => ((Zao.f kj3 l1).bind fun bt372 => ((Zae.f kj3 bt372.1 bt368.1).bind fun bt376 => (if t349 = 0 then (if t353 = 0 then (if t357 = 0 then (if t361 = 0 then (if t365 = 0 then (if bt368.2 = 0 then (if bt372.2 = 0 then (if bt376.2 = 0 then ((Zac.f kj3 t352 t360).bind fun t380 => (if t380 = true then ((Zac.f kj3 t364 bt376.1).bind fun t381 => (if t381 = true then ((Zak.f kj3).bind fun t382 => (some t382)) else (none))) else (none))) else (none)) else (none)) else (none)) else (none)) else (none)) else (none)) else (none)) else (none))))) = some r := H
   have A20 := Za.mk A200
   clear A200
   replace H := Option.bind_eq_some_iff.mp H
   obtain ⟨⟨t368, t369⟩, A210, H⟩ := H
   replace H : ((Zao.f kj3 l1).bind fun bt372 => ((Zae.f kj3 bt372.1 t368).bind fun bt376 => (if t349 = 0 then (if t353 = 0 then (if t357 = 0 then (if t361 = 0 then (if t365 = 0 then (if t369 = 0 then (if bt372.2 = 0 then (if bt376.2 = 0 then ((Zac.f kj3 t352 t360).bind fun t380 => (if t380 = true then ((Zac.f kj3 t364 bt376.1).bind fun t381 => (if t381 = true then ((Zak.f kj3).bind fun t382 => (some t382)) else (none))) else (none))) else (none)) else (none)) else (none)) else (none)) else (none)) else (none)) else (none)) else (none)))) = some r := H
   have A21 := Za.mk A210
   clear A210
   replace H := Option.bind_eq_some_iff.mp H
   obtain ⟨⟨t372, t373⟩, A220, H⟩ := H
   replace H : ((Zae.f kj3 t372 t368).bind fun bt376 => (if t349 = 0 then (if t353 = 0 then (if t357 = 0 then (if t361 = 0 then (if t365 = 0 then (if t369 = 0 then (if t373 = 0 then (if bt376.2 = 0 then ((Zac.f kj3 t352 t360).bind fun t380 => (if t380 = true then ((Zac.f kj3 t364 bt376.1).bind fun t381 => (if t381 = true then ((Zak.f kj3).bind fun t382 => (some t382)) else (none))) else (none))) else (none)) else (none)) else (none)) else (none)) else (none)) else (none)) else (none)) else (none))) = some r := H
   have A22 := Za.mk A220
   clear A220
   replace H := Option.bind_eq_some_iff.mp H
   obtain ⟨⟨t376, t377⟩, A230, H⟩ := H
   replace H : (if t349 = 0 then (if t353 = 0 then (if t357 = 0 then (if t361 = 0 then (if t365 = 0 then (if t369 = 0 then (if t373 = 0 then (if t377 = 0 then ((Zac.f kj3 t352 t360).bind fun t380 => (if t380 = true then ((Zac.f kj3 t364 t376).bind fun t381 => (if t381 = true then ((Zak.f kj3).bind fun t382 => (some t382)) else (none))) else (none))) else (none)) else (none)) else (none)) else (none)) else (none)) else (none)) else (none)) else (none)) = some r := H
   have A23 := Za.mk A230
   clear A230
   by_cases c24 : t349 = 0
   rotate_left
   ·rw [if_neg c24] at H
    exact absurd H (by simp)

   rw [if_pos c24] at H
   have c24b0 : (t349 == 0) = true := beq_iff_eq.mpr c24
   have c24b1 : (t349 != 0) = false := bne_eq_false_iff_eq.mpr c24
   clear c24
   by_cases c25 : t353 = 0
   rotate_left
   ·rw [if_neg c25] at H
    exact absurd H (by simp)
   rw [if_pos c25] at H
   have c25b0 : (t353 == 0) = true := beq_iff_eq.mpr c25
   have c25b1 : (t353 != 0) = false := bne_eq_false_iff_eq.mpr c25
   clear c25
   by_cases c26 : t357 = 0
   rotate_left
   ·rw [if_neg c26] at H
    exact absurd H (by simp)
   rw [if_pos c26] at H
   have c26b0 : (t357 == 0) = true := beq_iff_eq.mpr c26
   have c26b1 : (t357 != 0) = false := bne_eq_false_iff_eq.mpr c26
   clear c26
   by_cases c27 : t361 = 0
   rotate_left
   ·rw [if_neg c27] at H
    exact absurd H (by simp)
   rw [if_pos c27] at H
   have c27b0 : (t361 == 0) = true := beq_iff_eq.mpr c27
   have c27b1 : (t361 != 0) = false := bne_eq_false_iff_eq.mpr c27
   clear c27
   by_cases c28 : t365 = 0
   rotate_left
   ·rw [if_neg c28] at H
    exact absurd H (by simp)
   rw [if_pos c28] at H
   have c28b0 : (t365 == 0) = true := beq_iff_eq.mpr c28
   have c28b1 : (t365 != 0) = false := bne_eq_false_iff_eq.mpr c28
   clear c28
   by_cases c29 : t369 = 0
   rotate_left
   ·rw [if_neg c29] at H
    exact absurd H (by simp)
   rw [if_pos c29] at H
   have c29b0 : (t369 == 0) = true := beq_iff_eq.mpr c29
   have c29b1 : (t369 != 0) = false := bne_eq_false_iff_eq.mpr c29
   clear c29
   by_cases c30 : t373 = 0
   rotate_left
   ·rw [if_neg c30] at H
    exact absurd H (by simp)
   rw [if_pos c30] at H
   have c30b0 : (t373 == 0) = true := beq_iff_eq.mpr c30
   have c30b1 : (t373 != 0) = false := bne_eq_false_iff_eq.mpr c30
   clear c30
   by_cases c31 : t377 = 0
   rotate_left
   ·rw [if_neg c31] at H
    exact absurd H (by simp)
   rw [if_pos c31] at H
   have c31b0 : (t377 == 0) = true := beq_iff_eq.mpr c31
   have c31b1 : (t377 != 0) = false := bne_eq_false_iff_eq.mpr c31
   clear c31
   replace H := Option.bind_eq_some_iff.mp H
   obtain ⟨t380, A320, H⟩ := H
   replace H : (if t380 = true then ((Zac.f kj3 t364 t376).bind fun t381 => (if t381 = true then ((Zak.f kj3).bind fun t382 => (some t382)) else (none))) else (none)) = some r := H
   have A32 := Za.mk A320
   clear A320
   by_cases c33 : t380 = true
   rotate_left
   ·replace c33 := Bool.eq_false_iff.mpr c33
    subst c33
    have H1 : (none) = some r := by rw [if_neg (show ¬ (false = true) by decide)] at H; exact H
    clear H
    have H := H1
    clear H1
    exact absurd H (by simp)
   subst c33
   have H1 : ((Zac.f kj3 t364 t376).bind fun t381 => (if t381 = true then ((Zak.f kj3).bind fun t382 => (some t382)) else (none))) = some r := by rw [if_pos rfl] at H; exact H
   clear H
   have H := H1
   clear H1
   replace H := Option.bind_eq_some_iff.mp H
   obtain ⟨t381, A340, H⟩ := H
   replace H : (if t381 = true then ((Zak.f kj3).bind fun t382 => (some t382)) else (none)) = some r := H
   have A34 := Za.mk A340
   clear A340
   by_cases c35 : t381 = true
   rotate_left
   ·replace c35 := Bool.eq_false_iff.mpr c35
    subst c35
    have H1 : (none) = some r := by rw [if_neg (show ¬ (false = true) by decide)] at H; exact H
    clear H
    have H := H1
    clear H1
    exact absurd H (by simp)
   subst c35
   have H1 : ((Zak.f kj3).bind fun t382 => (some t382)) = some r := by rw [if_pos rfl] at H; exact H
   clear H
   have H := H1
   clear H1
   replace H := Option.bind_eq_some_iff.mp H
   obtain ⟨t382, A360, H⟩ := H
   replace H : (some t382) = some r := H
   have A36 := Za.mk A360
   clear A360
   obtain rfl := Option.some.inj H
   go_wp2_with (first | ((with_reducible refine Zar (f := 9) rfl ?_); refine Za9 (some 59) rfl rfl Try.func9 (by kernel_rfl) rfl #[.slice A0 l0.length c0, .slice A1 l1.length c1] rfl (by (try simp only [List.map_toArray, List.map_cons, List.map_nil]); first | done | rfl | (simp only [List.length_drop, List.length_take]; rfl)) ?_; (with_reducible refine (Zae.calls kj3 _ _ l0 _ _ l1 t348 t349 _ ?side1 ?side2 ?side3 ?side4 A16.out).mono ?_); (case side1 => repeat (first | exact (Kd.Zam HR0.out HB.out) | (with_reducible refine Kd.Zau ?_ _) | (with_reducible refine Kd.C_drewN ?_ _) | (with_reducible refine Kd.C_drew ?_))); (case side2 => exact HC0.out); (case side3 => repeat (first | exact (Kd.Zam HR1.out HB.out) | (with_reducible refine Kd.Zau ?_ _) | (with_reducible refine Kd.C_drewN ?_ _) | (with_reducible refine Kd.C_drew ?_))); (case side4 => exact HC1.out); rintro e w37 ⟨v350, rfl, ho0, hb⟩; refine ⟨_, rfl, ?_⟩; have n0_ := Za.mk (Kd.Zbg ho0 (Zax (by repeat (first | (with_reducible first | exact HB.out | apply Zad | apply Zaa | apply Zag) | exact HB.out)))); have n1_ := Za.mk (Zan (by repeat (first | (with_reducible first | exact HB.out | apply Zad | apply Zaa | apply Zag) | exact HB.out)) hb); clear HB; have HO351 := n0_; have HB := n1_; clear n0_ n1_; (try clear hb); (try clear hb2); (try clear hk); (try clear hi); (try clear ho0); obtain ⟨Ao38, co38, eo38⟩ := Kd.Zbl HO351.out; subst eo38) | ((with_reducible refine Zar (f := 9) rfl ?_); refine Za9 (some 65) rfl rfl Try.func9 (by kernel_rfl) rfl #[.slice Ao38 t348.length co38, .slice A2 l2.length c2] rfl (by (try simp only [List.map_toArray, List.map_cons, List.map_nil]); first | done | rfl | (simp only [List.length_drop, List.length_take]; rfl)) ?_; (with_reducible refine (Zae.calls kj3 _ _ t348 _ _ l2 t352 t353 _ ?side1 ?side2 ?side3 ?side4 A17.out).mono ?_); (case side1 => repeat (first | exact (Kd.Za3 HO351.out).2.2 | (with_reducible refine Kd.Zau ?_ _) | (with_reducible refine Kd.C_drewN ?_ _) | (with_reducible refine Kd.C_drew ?_))); (case side2 => exact (Kd.Za3 HO351.out).2.1); (case side3 => repeat (first | exact (Kd.Zam HR2.out HB.out) | (with_reducible refine Kd.Zau ?_ _) | (with_reducible refine Kd.C_drewN ?_ _) | (with_reducible refine Kd.C_drew ?_))); (case side4 => exact HC2.out); rintro e w39 ⟨v354, rfl, ho0, hb⟩; refine ⟨_, rfl, ?_⟩; have n0_ := Za.mk (Kd.Za2 (by (with_reducible repeat (first | apply Kd.Zap | apply Kd.Zaq | apply Kd.Zav)); exact HO351.out) (Kd.Za8 ho0) hb); have n1_ := Za.mk (Kd.Zbg (Kd.Zbb ho0 (Kd.R_lt (by (with_reducible repeat (first | apply Kd.Zap | apply Kd.Zaq | apply Kd.Zav)); exact HO351.out))) (Zax (by repeat (first | (with_reducible first | exact HB.out | apply Zad | apply Zaa | apply Zag) | exact HB.out)))); have n2_ := Za.mk (Zan (by repeat (first | (with_reducible first | exact HB.out | apply Zad | apply Zaa | apply Zag) | exact HB.out)) hb); clear HO351; clear HB; have HO351 := n0_; have HO355 := n1_; have HB := n2_; clear n0_ n1_ n2_; (try clear hb); (try clear hb2); (try clear hk); (try clear hi); (try clear ho0)) | ((with_reducible refine Zar (f := 9) rfl ?_); refine Za9 (some 71) rfl rfl Try.func9 (by kernel_rfl) rfl #[.slice A1 l1.length c1, .slice A2 l2.length c2] rfl (by (try simp only [List.map_toArray, List.map_cons, List.map_nil]); first | done | rfl | (simp only [List.length_drop, List.length_take]; rfl)) ?_; (with_reducible refine (Zae.calls kj3 _ _ l1 _ _ l2 t356 t357 _ ?side1 ?side2 ?side3 ?side4 A18.out).mono ?_); (case side1 => repeat (first | exact (Kd.Zam HR1.out HB.out) | (with_reducible refine Kd.Zau ?_ _) | (with_reducible refine Kd.C_drewN ?_ _) | (with_reducible refine Kd.C_drew ?_))); (case side2 => exact HC1.out); (case side3 => repeat (first | exact (Kd.Zam HR2.out HB.out) | (with_reducible refine Kd.Zau ?_ _) | (with_reducible refine Kd.C_drewN ?_ _) | (with_reducible refine Kd.C_drew ?_))); (case side4 => exact HC2.out); rintro e w40 ⟨v358, rfl, ho0, hb⟩; refine ⟨_, rfl, ?_⟩; have n0_ := Za.mk (Kd.Za2 (by (with_reducible repeat (first | apply Kd.Zap | apply Kd.Zaq | apply Kd.Zav)); exact HO351.out) (Kd.Za8 ho0) hb); have n1_ := Za.mk (Kd.Za2 (by (with_reducible repeat (first | apply Kd.Zap | apply Kd.Zaq | apply Kd.Zav)); exact HO355.out) (Kd.Za8 ho0) hb); have n2_ := Za.mk (Kd.Zbg (Kd.Zbb (Kd.Zbb ho0 (Kd.R_lt (by (with_reducible repeat (first | apply Kd.Zap | apply Kd.Zaq | apply Kd.Zav)); exact HO351.out))) (Kd.R_lt (by (with_reducible repeat (first | apply Kd.Zap | apply Kd.Zaq | apply Kd.Zav)); exact HO355.out))) (Zax (by repeat (first | (with_reducible first | exact HB.out | apply Zad | apply Zaa | apply Zag) | exact HB.out)))); have n3_ := Za.mk (Zan (by repeat (first | (with_reducible first | exact HB.out | apply Zad | apply Zaa | apply Zag) | exact HB.out)) hb); clear HO351; clear HO355; clear HB; have HO351 := n0_; have HO355 := n1_; have HO359 := n2_; have HB := n3_; clear n0_ n1_ n2_ n3_; (try clear hb); (try clear hb2); (try clear hk); (try clear hi); (try clear ho0); obtain ⟨Ao41, co41, eo41⟩ := Kd.Zbl HO359.out; subst eo41) | ((with_reducible refine Zar (f := 9) rfl ?_); refine Za9 (some 77) rfl rfl Try.func9 (by kernel_rfl) rfl #[.slice A0 l0.length c0, .slice Ao41 t356.length co41] rfl (by (try simp only [List.map_toArray, List.map_cons, List.map_nil]); first | done | rfl | (simp only [List.length_drop, List.length_take]; rfl)) ?_; (with_reducible refine (Zae.calls kj3 _ _ l0 _ _ t356 t360 t361 _ ?side1 ?side2 ?side3 ?side4 A19.out).mono ?_); (case side1 => repeat (first | exact (Kd.Zam HR0.out HB.out) | (with_reducible refine Kd.Zau ?_ _) | (with_reducible refine Kd.C_drewN ?_ _) | (with_reducible refine Kd.C_drew ?_))); (case side2 => exact HC0.out); (case side3 => repeat (first | exact (Kd.Za3 HO359.out).2.2 | (with_reducible refine Kd.Zau ?_ _) | (with_reducible refine Kd.C_drewN ?_ _) | (with_reducible refine Kd.C_drew ?_))); (case side4 => exact (Kd.Za3 HO359.out).2.1); rintro e w42 ⟨v362, rfl, ho0, hb⟩; refine ⟨_, rfl, ?_⟩; have n0_ := Za.mk (Kd.Za2 (by (with_reducible repeat (first | apply Kd.Zap | apply Kd.Zaq | apply Kd.Zav)); exact HO351.out) (Kd.Za8 ho0) hb); have n1_ := Za.mk (Kd.Za2 (by (with_reducible repeat (first | apply Kd.Zap | apply Kd.Zaq | apply Kd.Zav)); exact HO355.out) (Kd.Za8 ho0) hb); have n2_ := Za.mk (Kd.Za2 (by (with_reducible repeat (first | apply Kd.Zap | apply Kd.Zaq | apply Kd.Zav)); exact HO359.out) (Kd.Za8 ho0) hb); have n3_ := Za.mk (Kd.Zbg (Kd.Zbb (Kd.Zbb (Kd.Zbb ho0 (Kd.R_lt (by (with_reducible repeat (first | apply Kd.Zap | apply Kd.Zaq | apply Kd.Zav)); exact HO351.out))) (Kd.R_lt (by (with_reducible repeat (first | apply Kd.Zap | apply Kd.Zaq | apply Kd.Zav)); exact HO355.out))) (Kd.R_lt (by (with_reducible repeat (first | apply Kd.Zap | apply Kd.Zaq | apply Kd.Zav)); exact HO359.out))) (Zax (by repeat (first | (with_reducible first | exact HB.out | apply Zad | apply Zaa | apply Zag) | exact HB.out)))); have n4_ := Za.mk (Zan (by repeat (first | (with_reducible first | exact HB.out | apply Zad | apply Zaa | apply Zag) | exact HB.out)) hb); clear HO351; clear HO355; clear HO359; clear HB; have HO351 := n0_; have HO355 := n1_; have HO359 := n2_; have HO363 := n3_; have HB := n4_; clear n0_ n1_ n2_ n3_ n4_; (try clear hb); (try clear hb2); (try clear hk); (try clear hi); (try clear ho0)) | ((with_reducible refine Zar (f := 11) rfl ?_); refine Za9 (some 82) rfl rfl Try.func11 (by kernel_rfl) rfl #[.slice Ao38 t348.length co38] rfl (by (try simp only [List.map_toArray, List.map_cons, List.map_nil]); first | done | rfl | (simp only [List.length_drop, List.length_take]; rfl)) ?_; (with_reducible refine (Zao.calls kj3 _ _ t348 t364 t365 _ ?side1 ?side2 A20.out).mono ?_); (case side1 => repeat (first | exact (Kd.Za3 HO351.out).2.2 | (with_reducible refine Kd.Zau ?_ _) | (with_reducible refine Kd.C_drewN ?_ _) | (with_reducible refine Kd.C_drew ?_))); (case side2 => exact (Kd.Za3 HO351.out).2.1); rintro e w43 ⟨v366, rfl, ho0, hb⟩; refine ⟨_, rfl, ?_⟩; have n0_ := Za.mk (Kd.Za2 (by (with_reducible repeat (first | apply Kd.Zap | apply Kd.Zaq | apply Kd.Zav)); exact HO351.out) (Kd.Za8 ho0) hb); have n1_ := Za.mk (Kd.Za2 (by (with_reducible repeat (first | apply Kd.Zap | apply Kd.Zaq | apply Kd.Zav)); exact HO355.out) (Kd.Za8 ho0) hb); have n2_ := Za.mk (Kd.Za2 (by (with_reducible repeat (first | apply Kd.Zap | apply Kd.Zaq | apply Kd.Zav)); exact HO359.out) (Kd.Za8 ho0) hb); have n3_ := Za.mk (Kd.Za2 (by (with_reducible repeat (first | apply Kd.Zap | apply Kd.Zaq | apply Kd.Zav)); exact HO363.out) (Kd.Za8 ho0) hb); have n4_ := Za.mk (Kd.Zbg (Kd.Zbb (Kd.Zbb (Kd.Zbb (Kd.Zbb ho0 (Kd.R_lt (by (with_reducible repeat (first | apply Kd.Zap | apply Kd.Zaq | apply Kd.Zav)); exact HO351.out))) (Kd.R_lt (by (with_reducible repeat (first | apply Kd.Zap | apply Kd.Zaq | apply Kd.Zav)); exact HO355.out))) (Kd.R_lt (by (with_reducible repeat (first | apply Kd.Zap | apply Kd.Zaq | apply Kd.Zav)); exact HO359.out))) (Kd.R_lt (by (with_reducible repeat (first | apply Kd.Zap | apply Kd.Zaq | apply Kd.Zav)); exact HO363.out))) (Zax (by repeat (first | (with_reducible first | exact HB.out | apply Zad | apply Zaa | apply Zag) | exact HB.out)))); have n5_ := Za.mk (Zan (by repeat (first | (with_reducible first | exact HB.out | apply Zad | apply Zaa | apply Zag) | exact HB.out)) hb); clear HO351; clear HO355; clear HO359; clear HO363; clear HB; have HO351 := n0_; have HO355 := n1_; have HO359 := n2_; have HO363 := n3_; have HO367 := n4_; have HB := n5_; clear n0_ n1_ n2_ n3_ n4_ n5_; (try clear hb); (try clear hb2); (try clear hk); (try clear hi); (try clear ho0)) | ((with_reducible refine Zar (f := 11) rfl ?_); refine Za9 (some 87) rfl rfl Try.func11 (by kernel_rfl) rfl #[.slice A0 l0.length c0] rfl (by (try simp only [List.map_toArray, List.map_cons, List.map_nil]); first | done | rfl | (simp only [List.length_drop, List.length_take]; rfl)) ?_; (with_reducible refine (Zao.calls kj3 _ _ l0 t368 t369 _ ?side1 ?side2 A21.out).mono ?_); (case side1 => repeat (first | exact (Kd.Zam HR0.out HB.out) | (with_reducible refine Kd.Zau ?_ _) | (with_reducible refine Kd.C_drewN ?_ _) | (with_reducible refine Kd.C_drew ?_))); (case side2 => exact HC0.out); rintro e w44 ⟨v370, rfl, ho0, hb⟩; refine ⟨_, rfl, ?_⟩; have n0_ := Za.mk (Kd.Za2 (by (with_reducible repeat (first | apply Kd.Zap | apply Kd.Zaq | apply Kd.Zav)); exact HO351.out) (Kd.Za8 ho0) hb); have n1_ := Za.mk (Kd.Za2 (by (with_reducible repeat (first | apply Kd.Zap | apply Kd.Zaq | apply Kd.Zav)); exact HO355.out) (Kd.Za8 ho0) hb); have n2_ := Za.mk (Kd.Za2 (by (with_reducible repeat (first | apply Kd.Zap | apply Kd.Zaq | apply Kd.Zav)); exact HO359.out) (Kd.Za8 ho0) hb); have n3_ := Za.mk (Kd.Za2 (by (with_reducible repeat (first | apply Kd.Zap | apply Kd.Zaq | apply Kd.Zav)); exact HO363.out) (Kd.Za8 ho0) hb); have n4_ := Za.mk (Kd.Za2 (by (with_reducible repeat (first | apply Kd.Zap | apply Kd.Zaq | apply Kd.Zav)); exact HO367.out) (Kd.Za8 ho0) hb); have n5_ := Za.mk (Kd.Zbg (Kd.Zbb (Kd.Zbb (Kd.Zbb (Kd.Zbb (Kd.Zbb ho0 (Kd.R_lt (by (with_reducible repeat (first | apply Kd.Zap | apply Kd.Zaq | apply Kd.Zav)); exact HO351.out))) (Kd.R_lt (by (with_reducible repeat (first | apply Kd.Zap | apply Kd.Zaq | apply Kd.Zav)); exact HO355.out))) (Kd.R_lt (by (with_reducible repeat (first | apply Kd.Zap | apply Kd.Zaq | apply Kd.Zav)); exact HO359.out))) (Kd.R_lt (by (with_reducible repeat (first | apply Kd.Zap | apply Kd.Zaq | apply Kd.Zav)); exact HO363.out))) (Kd.R_lt (by (with_reducible repeat (first | apply Kd.Zap | apply Kd.Zaq | apply Kd.Zav)); exact HO367.out))) (Zax (by repeat (first | (with_reducible first | exact HB.out | apply Zad | apply Zaa | apply Zag) | exact HB.out)))); have n6_ := Za.mk (Zan (by repeat (first | (with_reducible first | exact HB.out | apply Zad | apply Zaa | apply Zag) | exact HB.out)) hb); clear HO351; clear HO355; clear HO359; clear HO363; clear HO367; clear HB; have HO351 := n0_; have HO355 := n1_; have HO359 := n2_; have HO363 := n3_; have HO367 := n4_; have HO371 := n5_; have HB := n6_; clear n0_ n1_ n2_ n3_ n4_ n5_ n6_; (try clear hb); (try clear hb2); (try clear hk); (try clear hi); (try clear ho0)) | ((with_reducible refine Zar (f := 11) rfl ?_); refine Za9 (some 92) rfl rfl Try.func11 (by kernel_rfl) rfl #[.slice A1 l1.length c1] rfl (by (try simp only [List.map_toArray, List.map_cons, List.map_nil]); first | done | rfl | (simp only [List.length_drop, List.length_take]; rfl)) ?_; (with_reducible refine (Zao.calls kj3 _ _ l1 t372 t373 _ ?side1 ?side2 A22.out).mono ?_); (case side1 => repeat (first | exact (Kd.Zam HR1.out HB.out) | (with_reducible refine Kd.Zau ?_ _) | (with_reducible refine Kd.C_drewN ?_ _) | (with_reducible refine Kd.C_drew ?_))); (case side2 => exact HC1.out); rintro e w45 ⟨v374, rfl, ho0, hb⟩; refine ⟨_, rfl, ?_⟩; have n0_ := Za.mk (Kd.Za2 (by (with_reducible repeat (first | apply Kd.Zap | apply Kd.Zaq | apply Kd.Zav)); exact HO351.out) (Kd.Za8 ho0) hb); have n1_ := Za.mk (Kd.Za2 (by (with_reducible repeat (first | apply Kd.Zap | apply Kd.Zaq | apply Kd.Zav)); exact HO355.out) (Kd.Za8 ho0) hb); have n2_ := Za.mk (Kd.Za2 (by (with_reducible repeat (first | apply Kd.Zap | apply Kd.Zaq | apply Kd.Zav)); exact HO359.out) (Kd.Za8 ho0) hb); have n3_ := Za.mk (Kd.Za2 (by (with_reducible repeat (first | apply Kd.Zap | apply Kd.Zaq | apply Kd.Zav)); exact HO363.out) (Kd.Za8 ho0) hb); have n4_ := Za.mk (Kd.Za2 (by (with_reducible repeat (first | apply Kd.Zap | apply Kd.Zaq | apply Kd.Zav)); exact HO367.out) (Kd.Za8 ho0) hb); have n5_ := Za.mk (Kd.Za2 (by (with_reducible repeat (first | apply Kd.Zap | apply Kd.Zaq | apply Kd.Zav)); exact HO371.out) (Kd.Za8 ho0) hb); have n6_ := Za.mk (Kd.Zbg (Kd.Zbb (Kd.Zbb (Kd.Zbb (Kd.Zbb (Kd.Zbb (Kd.Zbb ho0 (Kd.R_lt (by (with_reducible repeat (first | apply Kd.Zap | apply Kd.Zaq | apply Kd.Zav)); exact HO351.out))) (Kd.R_lt (by (with_reducible repeat (first | apply Kd.Zap | apply Kd.Zaq | apply Kd.Zav)); exact HO355.out))) (Kd.R_lt (by (with_reducible repeat (first | apply Kd.Zap | apply Kd.Zaq | apply Kd.Zav)); exact HO359.out))) (Kd.R_lt (by (with_reducible repeat (first | apply Kd.Zap | apply Kd.Zaq | apply Kd.Zav)); exact HO363.out))) (Kd.R_lt (by (with_reducible repeat (first | apply Kd.Zap | apply Kd.Zaq | apply Kd.Zav)); exact HO367.out))) (Kd.R_lt (by (with_reducible repeat (first | apply Kd.Zap | apply Kd.Zaq | apply Kd.Zav)); exact HO371.out))) (Zax (by repeat (first | (with_reducible first | exact HB.out | apply Zad | apply Zaa | apply Zag) | exact HB.out)))); have n7_ := Za.mk (Zan (by repeat (first | (with_reducible first | exact HB.out | apply Zad | apply Zaa | apply Zag) | exact HB.out)) hb); clear HO351; clear HO355; clear HO359; clear HO363; clear HO367; clear HO371; clear HB; have HO351 := n0_; have HO355 := n1_; have HO359 := n2_; have HO363 := n3_; have HO367 := n4_; have HO371 := n5_; have HO375 := n6_; have HB := n7_; clear n0_ n1_ n2_ n3_ n4_ n5_ n6_ n7_; (try clear hb); (try clear hb2); (try clear hk); (try clear hi); (try clear ho0); obtain ⟨Ao46, co46, eo46⟩ := Kd.Zbl HO375.out; subst eo46; obtain ⟨Ao47, co47, eo47⟩ := Kd.Zbl HO371.out; subst eo47) | ((with_reducible refine Zar (f := 9) rfl ?_); refine Za9 (some 98) rfl rfl Try.func9 (by kernel_rfl) rfl #[.slice Ao46 t372.length co46, .slice Ao47 t368.length co47] rfl (by (try simp only [List.map_toArray, List.map_cons, List.map_nil]); first | done | rfl | (simp only [List.length_drop, List.length_take]; rfl)) ?_; (with_reducible refine (Zae.calls kj3 _ _ t372 _ _ t368 t376 t377 _ ?side1 ?side2 ?side3 ?side4 A23.out).mono ?_); (case side1 => repeat (first | exact (Kd.Za3 HO375.out).2.2 | (with_reducible refine Kd.Zau ?_ _) | (with_reducible refine Kd.C_drewN ?_ _) | (with_reducible refine Kd.C_drew ?_))); (case side2 => exact (Kd.Za3 HO375.out).2.1); (case side3 => repeat (first | exact (Kd.Za3 HO371.out).2.2 | (with_reducible refine Kd.Zau ?_ _) | (with_reducible refine Kd.C_drewN ?_ _) | (with_reducible refine Kd.C_drew ?_))); (case side4 => exact (Kd.Za3 HO371.out).2.1); rintro e w48 ⟨v378, rfl, ho0, hb⟩; refine ⟨_, rfl, ?_⟩; have n0_ := Za.mk (Kd.Za2 (by (with_reducible repeat (first | apply Kd.Zap | apply Kd.Zaq | apply Kd.Zav)); exact HO351.out) (Kd.Za8 ho0) hb); have n1_ := Za.mk (Kd.Za2 (by (with_reducible repeat (first | apply Kd.Zap | apply Kd.Zaq | apply Kd.Zav)); exact HO355.out) (Kd.Za8 ho0) hb); have n2_ := Za.mk (Kd.Za2 (by (with_reducible repeat (first | apply Kd.Zap | apply Kd.Zaq | apply Kd.Zav)); exact HO359.out) (Kd.Za8 ho0) hb); have n3_ := Za.mk (Kd.Za2 (by (with_reducible repeat (first | apply Kd.Zap | apply Kd.Zaq | apply Kd.Zav)); exact HO363.out) (Kd.Za8 ho0) hb); have n4_ := Za.mk (Kd.Za2 (by (with_reducible repeat (first | apply Kd.Zap | apply Kd.Zaq | apply Kd.Zav)); exact HO367.out) (Kd.Za8 ho0) hb); have n5_ := Za.mk (Kd.Za2 (by (with_reducible repeat (first | apply Kd.Zap | apply Kd.Zaq | apply Kd.Zav)); exact HO371.out) (Kd.Za8 ho0) hb); have n6_ := Za.mk (Kd.Za2 (by (with_reducible repeat (first | apply Kd.Zap | apply Kd.Zaq | apply Kd.Zav)); exact HO375.out) (Kd.Za8 ho0) hb); have n7_ := Za.mk (Kd.Zbg (Kd.Zbb (Kd.Zbb (Kd.Zbb (Kd.Zbb (Kd.Zbb (Kd.Zbb (Kd.Zbb ho0 (Kd.R_lt (by (with_reducible repeat (first | apply Kd.Zap | apply Kd.Zaq | apply Kd.Zav)); exact HO351.out))) (Kd.R_lt (by (with_reducible repeat (first | apply Kd.Zap | apply Kd.Zaq | apply Kd.Zav)); exact HO355.out))) (Kd.R_lt (by (with_reducible repeat (first | apply Kd.Zap | apply Kd.Zaq | apply Kd.Zav)); exact HO359.out))) (Kd.R_lt (by (with_reducible repeat (first | apply Kd.Zap | apply Kd.Zaq | apply Kd.Zav)); exact HO363.out))) (Kd.R_lt (by (with_reducible repeat (first | apply Kd.Zap | apply Kd.Zaq | apply Kd.Zav)); exact HO367.out))) (Kd.R_lt (by (with_reducible repeat (first | apply Kd.Zap | apply Kd.Zaq | apply Kd.Zav)); exact HO371.out))) (Kd.R_lt (by (with_reducible repeat (first | apply Kd.Zap | apply Kd.Zaq | apply Kd.Zav)); exact HO375.out))) (Zax (by repeat (first | (with_reducible first | exact HB.out | apply Zad | apply Zaa | apply Zag) | exact HB.out)))); have n8_ := Za.mk (Zan (by repeat (first | (with_reducible first | exact HB.out | apply Zad | apply Zaa | apply Zag) | exact HB.out)) hb); clear HO351; clear HO355; clear HO359; clear HO363; clear HO367; clear HO371; clear HO375; clear HB; have HO351 := n0_; have HO355 := n1_; have HO359 := n2_; have HO363 := n3_; have HO367 := n4_; have HO371 := n5_; have HO375 := n6_; have HO379 := n7_; have HB := n8_; clear n0_ n1_ n2_ n3_ n4_ n5_ n6_ n7_ n8_; (try clear hb); (try clear hb2); (try clear hk); (try clear hi); (try clear ho0); obtain ⟨Ao49, co49, eo49⟩ := Kd.Zbl HO355.out; subst eo49; obtain ⟨Ao50, co50, eo50⟩ := Kd.Zbl HO363.out; subst eo50) | (go_at_call 14; (with_reducible refine (Zac.calls kj3 _ _ t352 _ _ t360 true _ ?side1 ?side2 ?side3 ?side4 A32.out).mono ?_); (case side1 => repeat (first | exact (Kd.Za3 HO355.out).2.2 | (with_reducible refine Kd.Zau ?_ _) | (with_reducible refine Kd.C_drewN ?_ _) | (with_reducible refine Kd.C_drew ?_))); (case side2 => exact (Kd.Za3 HO355.out).2.1); (case side3 => repeat (first | exact (Kd.Za3 HO363.out).2.2 | (with_reducible refine Kd.Zau ?_ _) | (with_reducible refine Kd.C_drewN ?_ _) | (with_reducible refine Kd.C_drew ?_))); (case side4 => exact (Kd.Za3 HO363.out).2.1); rintro e w' ⟨rfl, ⟨nd, rfl⟩⟩; obtain ⟨Ao51, co51, eo51⟩ := Kd.Zbl HO367.out; subst eo51; obtain ⟨Ao52, co52, eo52⟩ := Kd.Zbl HO379.out; subst eo52) | (go_at_call 14; (with_reducible refine (Zac.calls kj3 _ _ t364 _ _ t376 true _ ?side1 ?side2 ?side3 ?side4 A34.out).mono ?_); (case side1 => repeat (first | exact (Kd.Za3 HO367.out).2.2 | (with_reducible refine Kd.Zau ?_ _) | (with_reducible refine Kd.C_drewN ?_ _) | (with_reducible refine Kd.C_drew ?_))); (case side2 => exact (Kd.Za3 HO367.out).2.1); (case side3 => repeat (first | exact (Kd.Za3 HO379.out).2.2 | (with_reducible refine Kd.Zau ?_ _) | (with_reducible refine Kd.C_drewN ?_ _) | (with_reducible refine Kd.C_drew ?_))); (case side4 => exact (Kd.Za3 HO379.out).2.1); rintro e w' ⟨rfl, ⟨nd, rfl⟩⟩) | (go_at_call 16; (with_reducible refine (Zak.calls kj3  t382 _ A36.out).mono ?_); rintro e w53 ⟨rfl, hb⟩; have n0_ := Za.mk (Kd.Zbq (by (with_reducible repeat (first | apply Kd.Zap | apply Kd.Zaq | apply Kd.Zav)); exact HO351.out) hb); have n1_ := Za.mk (Kd.Zbq (by (with_reducible repeat (first | apply Kd.Zap | apply Kd.Zaq | apply Kd.Zav)); exact HO355.out) hb); have n2_ := Za.mk (Kd.Zbq (by (with_reducible repeat (first | apply Kd.Zap | apply Kd.Zaq | apply Kd.Zav)); exact HO359.out) hb); have n3_ := Za.mk (Kd.Zbq (by (with_reducible repeat (first | apply Kd.Zap | apply Kd.Zaq | apply Kd.Zav)); exact HO363.out) hb); have n4_ := Za.mk (Kd.Zbq (by (with_reducible repeat (first | apply Kd.Zap | apply Kd.Zaq | apply Kd.Zav)); exact HO367.out) hb); have n5_ := Za.mk (Kd.Zbq (by (with_reducible repeat (first | apply Kd.Zap | apply Kd.Zaq | apply Kd.Zav)); exact HO371.out) hb); have n6_ := Za.mk (Kd.Zbq (by (with_reducible repeat (first | apply Kd.Zap | apply Kd.Zaq | apply Kd.Zav)); exact HO375.out) hb); have n7_ := Za.mk (Kd.Zbq (by (with_reducible repeat (first | apply Kd.Zap | apply Kd.Zaq | apply Kd.Zav)); exact HO379.out) hb); have n8_ := Za.mk (Zan (by repeat (first | (with_reducible first | exact HB.out | apply Zad | apply Zaa | apply Zag) | exact HB.out)) hb); clear HO351; clear HO355; clear HO359; clear HO363; clear HO367; clear HO371; clear HO375; clear HO379; clear HB; have HO351 := n0_; have HO355 := n1_; have HO359 := n2_; have HO363 := n3_; have HO367 := n4_; have HO371 := n5_; have HO375 := n6_; have HO379 := n7_; have HB := n8_; clear n0_ n1_ n2_ n3_ n4_ n5_ n6_ n7_ n8_; (try clear hb); (try clear hb2); (try clear hk); (try clear hi)))
   go_ret
   exact ⟨by first | rfl | (simp [Za0, Za1] <;> rfl) | (simp [*, Za0, Za1] <;> rfl), by repeat (first | (with_reducible first | exact HB.out | apply Zad | apply Zaa | apply Zag) | exact HB.out)⟩
/-- THE ONE PURE STATEMENT of Zab: yours. -/
def Zab.Pure : Prop := ∀ (l0 : List Int) (l1 : List Int) (l2 : List Int), l0.length ≤ maxLen → l0.length * 8 ≤ 140737488351232 → (∀ x ∈ l0, (Lit.int .i64 x).wf = true) → l1.length ≤ maxLen → l1.length * 8 ≤ 140737488351232 → (∀ x ∈ l1, (Lit.int .i64 x).wf = true) → l2.length ≤ maxLen → l2.length * 8 ≤ 140737488351232 → (∀ x ∈ l2, (Lit.int .i64 x).wf = true) → ∃ k, Zab.f k l0 l1 l2 = some true
theorem Zab.walk (P : Zab.Pure) (a0 : Option Addr) (len0 cap0 : Nat) (z0 : List Int) (a1 : Option Addr) (len1 cap1 : Nat) (z1 : List Int) (a2 : Option Addr) (len2 cap2 : Nat) (z2 : List Int) (w : World) (w0 : (a0 = none ∧ len0 = 0 ∧ cap0 = 0 ∧ z0 = []) ∨ ∃ x, a0 = some x ∧ len0 ≤ cap0 ∧ cap0 ≤ maxLen ∧ z0.length = cap0 ∧ (∀ i, i < z0.length → w.cell? (x.add i) = some (.int .i64 (z0.getD i 0))) ∧ ∀ n ∈ z0, (Lit.int .i64 n).wf = true) (y0 : len0 * 8 ≤ 140737488351232) (w1 : (a1 = none ∧ len1 = 0 ∧ cap1 = 0 ∧ z1 = []) ∨ ∃ x, a1 = some x ∧ len1 ≤ cap1 ∧ cap1 ≤ maxLen ∧ z1.length = cap1 ∧ (∀ i, i < z1.length → w.cell? (x.add i) = some (.int .i64 (z1.getD i 0))) ∧ ∀ n ∈ z1, (Lit.int .i64 n).wf = true) (y1 : len1 * 8 ≤ 140737488351232) (w2 : (a2 = none ∧ len2 = 0 ∧ cap2 = 0 ∧ z2 = []) ∨ ∃ x, a2 = some x ∧ len2 ≤ cap2 ∧ cap2 ≤ maxLen ∧ z2.length = cap2 ∧ (∀ i, i < z2.length → w.cell? (x.add i) = some (.int .i64 (z2.getD i 0))) ∧ ∀ n ∈ z2, (Lit.int .i64 n).wf = true) (y2 : len2 * 8 ≤ 140737488351232) :
  Calls Try.prog 6 #[.slice a0 len0 cap0, .slice a1 len1 cap1, .slice a2 len2 cap2] w fun e w' => e = .returned (.bool true) ∧ Below w.heap.size w w' := by
 obtain ⟨l0, rfl, hr0, hm0, hw0, hc0⟩ := ReadsInt.ofRowC w0
 obtain ⟨l1, rfl, hr1, hm1, hw1, hc1⟩ := ReadsInt.ofRowC w1
 obtain ⟨l2, rfl, hr2, hm2, hw2, hc2⟩ := ReadsInt.ofRowC w2
 obtain ⟨k, h⟩ := P l0 l1 l2 hm0 y0 hw0 hm1 y1 hw1 hm2 y2 hw2
 refine (Zab.calls k _ _ l0 _ _ l1 _ _ l2 true w (Kd.Zc3 (d := (0 : Int)) (h1 := fun _ => rfl) hr0) hc0 (Kd.Zc3 (d := (0 : Int)) (h1 := fun _ => rfl) hr1) hc1 (Kd.Zc3 (d := (0 : Int)) (h1 := fun _ => rfl) hr2) hc2 h).mono ?_
 rintro e w' ⟨rfl, hd⟩
 exact ⟨rfl, hd⟩

end Go.Proofs.Yteopgafbamipeaa.P
/- Of three changes it makes no difference which two are put together first; the way back of two is both ways back, the other way round: for any lists. -/
namespace Go.Proofs.Yteopgafbamipeaa.P
open Go.RowKit G Go.Proofs.YteopgafbamipeaaW.PrintWords Go.Proofs.YteopgafbamipeaaW.PrintLast
set_option linter.unusedVariables false
theorem three (l0 l1 l2 : List Int) (m0 : l0.length ≤ 17592186044416) (m1 : l1.length ≤ 17592186044416) (m2 : l2.length ≤ 17592186044416) : Ev (fun k => Zab.f k l0 l1 l2) true := by
  have hf : Ev (fun k => Zak.f k) true := Ev.const rfl
  have hno : ∀ b : Bool, b = true → Ev (fun k => Zab.j0 k l0 l1 l2 b) true := fun b hb => by
    subst hb
    exact Ev.step (fun k => by rw [Zab.j0, if_pos rfl]) (Ev.bind hf (Ev.const rfl))
  unfold Zab.f
  by_cases h30 : (l0.length : Int) > 30
  · exact Ev.Zba h30 (hno _ rfl)
  refine Ev.Zb0 h30 ?_
  by_cases e1 : (l1.length : Int) = (l0.length : Int)
  case neg => exact Ev.Zb0 e1 (hno _ rfl)
  refine Ev.Zba e1 ?_
  by_cases e2 : (l2.length : Int) = (l0.length : Int)
  case neg => exact Ev.Zb0 e2 (hno _ rfl)
  refine Ev.Zba e2 (Ev.bind (Zci (p := l0) (by omega)) ?_)
  cases r0 : rtB l0
  · exact Ev.Zb0 (by simp) (hno _ rfl)
  refine Ev.Zba rfl (Ev.bind (Zci (p := l1) (by omega)) ?_)
  cases r1 : rtB l1
  · exact Ev.Zb0 (by simp) (hno _ rfl)
  refine Ev.Zba rfl (Ev.bind (Zci (p := l2) (by omega)) ?_)
  cases r2 : rtB l2
  · exact hno _ rfl
  have h0 := Zbu.1 r0
  have h1 := Zbu.1 r1
  have h2 := Zbu.1 r2
  have f0 : l0.length = l1.length := by omega
  have f1 : l1.length = l2.length := by omega
  have hb : l0.length ≤ 30 := by omega
  have hc := Zc6 h0 h1 f0
  have hd := Zc6 h1 h2 f1
  have b0 := Zea h0
  have b1 := Zea h1
  have s0 := sc_Sc (a := ids l0.length) h0
  have s1 := sc_Sc (a := ids l1.length) h1
  refine Ev.step (fun k => by rw [Zab.j0, if_neg (by simp)]) (Ev.bind (Zcc h0 h1 f0 (by omega)) (Ev.bind (Zcc hc h2 (by rw [Zaz]; omega) (by rw [Zaz]; omega)) (Ev.bind (Zcc h1 h2 f1 (by omega)) (Ev.bind (Zcc h0 hd (by rw [Zaz]; omega) (by omega)) (Ev.bind (back_ok hc (by rw [Zaz]; omega)) (Ev.bind (back_ok h0 (by omega)) (Ev.bind (back_ok h1 (by omega)) (Ev.bind (Zcc b1 b0 (by rw [s0.1, s1.1]; omega) (by rw [s1.1]; omega)) ?_))))))))
  refine Ev.Zba rfl (Ev.Zba rfl (Ev.Zba rfl (Ev.Zba rfl (Ev.Zba rfl (Ev.Zba rfl (Ev.Zba rfl (Ev.Zba rfl ?_)))))))
  have q1 : comp (comp l0 l1) l2 = comp l0 (comp l1 l2) := comp_assoc h0 f0
  have q2 : sc (ids (comp l0 l1).length) (comp l0 l1) = comp (sc (ids l1.length) l1) (sc (ids l0.length) l0) := back_two h0 h1 f0 (sc_Sc hc) s0 s1
  refine Ev.bind (ref_Nums _ _ (by rw [Zaz, Zaz]; omega)) ?_
  refine Ev.Zba (decide_eq_true q1) (Ev.bind (ref_Nums _ _ (by rw [(sc_Sc hc).1, Zaz]; omega)) (Ev.Zba (decide_eq_true q2) (Ev.bind hf (Ev.const rfl))))
end Go.Proofs.Yteopgafbamipeaa.P
namespace Go.Proofs.Yteopgafbamipeaa.Pure
open Go.Proofs.Yteopgafbamipeaa.P
theorem GroupThree : Zab.Pure := fun l0 l1 l2 _ m0 _ _ m1 _ _ m2 _ => (three l0 l1 l2 (by omega) (by omega) (by omega)).out
end Go.Proofs.Yteopgafbamipeaa.Pure
-- Written by wip/tools/px.py out of the translation. Lean checks it.
namespace Go.Proofs.Yteopgafbamipeaa.groupThree
open Go.ChangeShapes Go.WideShapes Go.ChangeAt Go.RowKit
open Go.ChangeMaps (open_string shut_string)
set_option linter.unusedVariables false
theorem own : ownKnob Try.prog.godebug = none := by kernel_rfl
theorem laidOut : laidOutB Try.prog = true := by kernel_rfl
def IsRow (k : IntKind) (w : World) (a : Option Addr) (len cap : Nat) (zs : List Int) : Prop :=
 (a = none ∧ len = 0 ∧ cap = 0 ∧ zs = []) ∨
 ∃ x, a = some x ∧ len ≤ cap ∧ cap ≤ maxLen ∧ zs.length = cap ∧ (∀ i, i < zs.length → w.cell? (x.add i) = some (.int k (zs.getD i 0))) ∧ ∀ n ∈ zs, (Lit.int k n).wf = true
set_option maxRecDepth 100000 in
theorem lifted (os : Os) (started : os.Started) (H : Type) (enc : TypeId × Value → H) :
  ReturnsInHanded {} Try.checked os 6 .any (Rows.groupThreeSpec.pre6 enc Try.prog Try.f6 Rows.groupThreeRow.domain false) (Rows.groupThreeSpec.post enc Try.prog Try.f6 false true false false) := by
 refine returnsInHanded_of_change_sized (C := Try.checked) own started (by kernel_rfl) Try.func6
  (ChangeSpec.witness6 (enc := enc) (C := Try.checked) false ⟨#[], #[.slice none 0 0, .slice none 0 0, .slice none 0 0], []⟩ 8 (by kernel_rfl) (by kernel_rfl) (by kernel_rfl) (by kernel_rfl)) ?_
 intro W base args ds gs before hval0 hW hcnd hsz0 _
 have hsz : (DataW.weightsEach Try.prog (Try.f6.params.toList ++ Rows.groupThreeSpec.plain.varTypes Try.prog) (ds ++ gs)).all (· ≤ reachBytes) = true := hsz0
 have hval : ∀ (j : Nat) t v, Try.f6.params[j]? = some t → args[j]? = some v → Value.okWide Try.prog W .any base t v := hval0
 have hW' := hW
 obtain ⟨p, q, hA0, hV, rfl, hfz, hnd⟩ := hW
 have hA : DataW.TrodAll enc Try.prog W 0 (fun _ => true) true Try.f6.params.toList args.toList ds p := hA0
 rw [Try.params6] at hA hval hsz
 obtain ⟨v0, vs0, d0, ds0, p0, q0, hargs, rfl, rfl, h0, r0⟩ := trodAll_cons hA
 obtain ⟨v1, vs1, d1, ds1, p1, q1, rfl, rfl, rfl, h1, r1⟩ := trodAll_cons r0
 obtain ⟨v2, vs2, d2, ds2, p2, q2, rfl, rfl, rfl, h2, r2⟩ := trodAll_cons r1
 obtain ⟨rfl, rfl, rfl⟩ := trodAll_nil r2
 obtain rfl : args = #[v0, v1, v2] := by cases args; simp_all
 obtain ⟨rfl, rfl⟩ := trodVars_none hV
 obtain ⟨a0, len0, cap0, rfl⟩ := okWide_slice Try.underlying22 (hval 0 22 v0 rfl rfl)
 have k0 := h0
 have lt0 : ∀ x ∈ p0, x.block < W.heap.size := by obtain ⟨m, hm⟩ := k0; exact DataW.trod_lt m _ _ _ hm
 obtain ⟨z0, w0⟩ : ∃ zs, IsRow .i64 W a0 len0 cap0 zs := by
  obtain ⟨fuel, hf⟩ := h0
  rcases open_ints Try.underlying22 Try.underlying3 (by kernel_rfl) hf with ⟨hcs, _⟩ | ⟨x, l, c, zs, hcs, _, hl, hm, hz, _, hcell, hwz⟩
  ·simp [Value.cells] at hcs
   obtain ⟨rfl, rfl, rfl⟩ := hcs
   exact ⟨[], .inl ⟨rfl, rfl, rfl, rfl⟩⟩
  simp [Value.cells] at hcs
  obtain ⟨rfl, rfl, rfl⟩ := hcs
  exact ⟨zs, .inr ⟨_, rfl, hl, hm, by simpa using hz, hcell, hwz⟩⟩
 have y0 : len0 * 8 ≤ 140737488351232 := Go.Proofs.YteopgafbamipeaaW.PrintWords.Zc7 hsz (j := 0) (t := 22) rfl rfl Try.underlying22 Try.underlying3 (by kernel_rfl) (by kernel_rfl) h0
 obtain ⟨a1, len1, cap1, rfl⟩ := okWide_slice Try.underlying22 (hval 1 22 v1 rfl rfl)
 have k1 := h1
 have lt1 : ∀ x ∈ p1, x.block < W.heap.size := by obtain ⟨m, hm⟩ := k1; exact DataW.trod_lt m _ _ _ hm
 obtain ⟨z1, w1⟩ : ∃ zs, IsRow .i64 W a1 len1 cap1 zs := by
  obtain ⟨fuel, hf⟩ := h1
  rcases open_ints Try.underlying22 Try.underlying3 (by kernel_rfl) hf with ⟨hcs, _⟩ | ⟨x, l, c, zs, hcs, _, hl, hm, hz, _, hcell, hwz⟩
  ·simp [Value.cells] at hcs
   obtain ⟨rfl, rfl, rfl⟩ := hcs
   exact ⟨[], .inl ⟨rfl, rfl, rfl, rfl⟩⟩
  simp [Value.cells] at hcs
  obtain ⟨rfl, rfl, rfl⟩ := hcs
  exact ⟨zs, .inr ⟨_, rfl, hl, hm, by simpa using hz, hcell, hwz⟩⟩
 have y1 : len1 * 8 ≤ 140737488351232 := Go.Proofs.YteopgafbamipeaaW.PrintWords.Zc7 hsz (j := 1) (t := 22) rfl rfl Try.underlying22 Try.underlying3 (by kernel_rfl) (by kernel_rfl) h1
 obtain ⟨a2, len2, cap2, rfl⟩ := okWide_slice Try.underlying22 (hval 2 22 v2 rfl rfl)
 have k2 := h2
 have lt2 : ∀ x ∈ p2, x.block < W.heap.size := by obtain ⟨m, hm⟩ := k2; exact DataW.trod_lt m _ _ _ hm
 obtain ⟨z2, w2⟩ : ∃ zs, IsRow .i64 W a2 len2 cap2 zs := by
  obtain ⟨fuel, hf⟩ := h2
  rcases open_ints Try.underlying22 Try.underlying3 (by kernel_rfl) hf with ⟨hcs, _⟩ | ⟨x, l, c, zs, hcs, _, hl, hm, hz, _, hcell, hwz⟩
  ·simp [Value.cells] at hcs
   obtain ⟨rfl, rfl, rfl⟩ := hcs
   exact ⟨[], .inl ⟨rfl, rfl, rfl, rfl⟩⟩
  simp [Value.cells] at hcs
  obtain ⟨rfl, rfl, rfl⟩ := hcs
  exact ⟨zs, .inr ⟨_, rfl, hl, hm, by simpa using hz, hcell, hwz⟩⟩
 have y2 : len2 * 8 ≤ 140737488351232 := Go.Proofs.YteopgafbamipeaaW.PrintWords.Zc7 hsz (j := 2) (t := 22) rfl rfl Try.underlying22 Try.underlying3 (by kernel_rfl) (by kernel_rfl) h2
 clear hA0 hval0 hsz0 hsz
 refine (P.Zab.walk Pure.GroupThree a0 len0 cap0 z0 a1 len1 cap1 z1 a2 len2 cap2 z2 W w0 y0 w1 y1 w2 y2).mono fun e W' ⟨he, bel⟩ => ?_
 subst he
 exact ⟨_, rfl, _, _, _, [], _, [], hW', trodAll_mk1 (shut_bool Try.underlying4 _), (trodAll_cons_mk (Below.trod laidOut (by kernel_rfl) (of_decide_eq_true (by kernel_rfl)) k0 bel lt0) (trodAll_cons_mk (Below.trod laidOut (by kernel_rfl) (of_decide_eq_true (by kernel_rfl)) k1 bel lt1) (trodAll_cons_mk (Below.trod laidOut (by kernel_rfl) (of_decide_eq_true (by kernel_rfl)) k2 bel lt2) trodAll_mk0))), rfl, bel.frame _, fun h => by cases h⟩
theorem over : Rows.groupThreeRow.holds Try.pinned (OpenSpec.ofChange Rows.groupThreeSpec) :=
 OpenClaim.holds_of_wide 6 Try.f6 rfl rfl rfl rfl rfl rfl rfl ⟨rfl, rfl, rfl, rfl, rfl⟩ rfl rfl rfl rfl rfl (by kernel_rfl) Try.func6 (by kernel_rfl)
  (of_decide_eq_true (by kernel_rfl)) (by unfold Func.isWrapper; first | (rw [if_pos (by decide +kernel)]; kernel_rfl) | (rw [if_neg (by decide +kernel)]; exact ⟨rfl, rfl⟩))
  (fun os started H enc _ => lifted os started H enc)
theorem proved : Rows.GroupThreeSaid := over
end Go.Proofs.Yteopgafbamipeaa.groupThree
namespace Go.Proofs.Yteopgafbamipeaa
/-- The row, under a short name, for the claim. -/
theorem groupThree_holds : Rows.GroupThreeSaid := groupThree.proved
end Go.Proofs.Yteopgafbamipeaa
