/- Proved: what each function of the program that the statements of this seat reach comes to, for whatever memory and arguments it is called with (on condition that its plain text tells a result). -/
import Derived.Test.YtpbcigilipdedaaZ1
namespace Go.Proofs.Ytpbcigilipdedaa.P
open Go.RowKit Go.Proofs.YtpbcigilipdedaaW.PrintWords Go.Proofs.YtpbcigilipdedaaW.PrintLast Go.Proofs.YtpbcigilipdedaaW.PrintMore
attribute [local go_sem] Zcg Zci Zcr Zcs Zb7 Zb8 Zch Zcj
set_option linter.unusedVariables false
set_option linter.unusedSimpArgs false
def Za8.l0 : Nat → List (List (S41)) → List (List (S41)) → Int → Option (Bool)
 | 0, _, _, _ => none
 | k + 1, x0, x1, x5 => if x5 < (x0.length : Int) then (if 0 ≤ x5 then (if x5 < (x1.length : Int) then ((Zbb.f k (Zcb x0 x5) (Zcb x1 x5)).bind fun t350 => (if t350 = true then (Za8.l0 k x0 x1 (wrap64 (x5 + 1))) else (some false))) else (none)) else (none)) else (some true)
def Za8.f (k : Nat) (l0 : List (List (S41))) (l1 : List (List (S41))) : Option (Bool) := if (l0.length : Int) = (l1.length : Int) then (Za8.l0 k l0 l1 0) else (some false)
set_option maxHeartbeats 8000000 in
set_option maxRecDepth 100000 in
theorem Za8.calls (k : Nat) (A0 : Option Addr) (c0 : Nat) (l0 : List (List (S41))) (A1 : Option Addr) (c1 : Nat) (l1 : List (List (S41))) (r : Bool) (w : World) (hr0 : Kd.C (Kd.slice 41 k41) w A0 l0.length l0) (hc0 : l0.length ≤ c0) (hr1 : Kd.C (Kd.slice 41 k41) w A1 l1.length l1) (hc1 : l1.length ≤ c1) (h : Za8.f k l0 l1 = some r) :
  Calls Try.prog 21 #[.slice A0 l0.length c0, .slice A1 l1.length c1] w fun e w' => e = .returned (.bool r) ∧ Zb w w' := by
 have HR0 := Za.mk hr0
 have HC0 := Za.mk hc0
 clear hr0 hc0
 have HR1 := Za.mk hr1
 have HC1 := Za.mk hc1
 clear hr1 hc1
 have H : (if (l0.length : Int) = (l1.length : Int) then (Za8.l0 k l0 l1 0) else (some false)) = some r := h
 clear h
 by_cases c3 : (l0.length : Int) = (l1.length : Int)
 rotate_left
 ·rw [if_neg c3] at H
  have c3b0 : ((l0.length : Int) == (l1.length : Int)) = false := beq_eq_false_iff_ne.mpr c3
  have c3b1 : ((l0.length : Int) != (l1.length : Int)) = true := bne_iff_ne.mpr c3
  have c3b2 : (l0.length == l1.length) = false := by first | simpa using c3 | (simp at c3 ⊢; omega)
  obtain rfl := Option.some.inj H
  go_enter Try.func21, Try.ntmps21
  go_wp2
  repeat (go_quiet (fail); try go_wp2)
  go_ret
  exact ⟨by first | rfl | (simp; done) | (simp [*]; done), by repeat (first | exact Zb.refl _ | apply Zb.step)⟩
 rw [if_pos c3] at H
 have c3b0 : ((l0.length : Int) == (l1.length : Int)) = true := beq_iff_eq.mpr c3
 have c3b1 : ((l0.length : Int) != (l1.length : Int)) = false := bne_eq_false_iff_eq.mpr c3
 have c3b2 : (l0.length == l1.length) = true := by first | simpa using c3 | (simp at c3 ⊢; omega)
 clear c3
 have H' := Za.mk H
 clear H
 go_enter Try.func21, Try.ntmps21
 go_wp2
 repeat (go_quiet (fail); try go_wp2)
 go_loopg [5] k (fun kq v5 w' => ∃ (x5_1 : Int), v5 = .int .i64 x5_1 ∧ Za (Za8.l0 kq l0 l1 x5_1 = some r) ∧ Za (kq ≤ k) ∧ Zb w w')
 case atStart => exact ⟨(0), (by first | rfl | (simp; done) | (simp [*]; done)), H', ⟨Nat.le_refl _⟩, by repeat (first | exact Zb.refl _ | apply Zb.step)⟩
 case round =>
  clear H'
  try clear c1
  try clear c2
  try clear p2
  try clear c3
  try clear c3b0
  try clear c3b1
  try clear c3b2
  obtain ⟨x5_1, rfl, HA, HK1, ⟨m1, rfl⟩⟩ := hrel
  cases gk with
  | zero => exact absurd HA.out (by simp [Za8.l0])
  | succ k1 =>
   have H := HA.out
   clear HA
   simp only [Za8.l0] at H
   by_cases c4 : x5_1 < (l0.length : Int)
   rotate_left
   ·rw [if_neg c4] at H
    have c4b0 : decide (x5_1 < (l0.length : Int)) = false := decide_eq_false c4
    clear c4
    obtain rfl := Option.some.inj H
    go_wp2
    repeat (go_quiet (fail); try go_wp2)
    go_ret
    exact ⟨by first | rfl | (simp; done) | (simp [*]; done), by repeat (first | exact Zb.refl _ | apply Zb.step)⟩
   rw [if_pos c4] at H
   have c4b0 : decide (x5_1 < (l0.length : Int)) = true := decide_eq_true c4
   clear c4
   by_cases c5 : 0 ≤ x5_1
   rotate_left
   ·rw [if_neg c5] at H
    exact absurd H (by simp)
   rw [if_pos c5] at H
   have c5b0 : decide (0 ≤ x5_1) = true := decide_eq_true c5
   clear c5
   by_cases c6 : x5_1 < (l1.length : Int)
   rotate_left
   ·rw [if_neg c6] at H
    exact absurd H (by simp)
   rw [if_pos c6] at H
   have c6b0 : decide (x5_1 < (l1.length : Int)) = true := decide_eq_true c6
   clear c6
   replace H := Option.bind_eq_some_iff.mp H
   obtain ⟨t350, A70, H⟩ := H
   replace H : (if t350 = true then (Za8.l0 k1 l0 l1 (wrap64 (x5_1 + 1))) else (some false)) = some r := H
   have A7 := Za.mk A70
   clear A70
   by_cases c8 : t350 = true
   rotate_left
   ·replace c8 := Bool.eq_false_iff.mpr c8
    subst c8
    have H1 : (some false) = some r := by rw [if_neg (show ¬ (false = true) by decide)] at H; exact H
    clear H
    have H := H1
    clear H1
    obtain rfl := Option.some.inj H
    have p348 : 0 ≤ (x5_1 : Int) := of_decide_eq_true (by first | (with_reducible assumption) | assumption)
    have q348 : x5_1 < (l0.length : Int) := of_decide_eq_true (by first | (with_reducible assumption) | assumption)
    obtain ⟨ad348, A348_0, c348_0, e348, hx348_0, hl348_0, hi348_0⟩ := Zfn HR0.out x5_1 p348 q348
    cases e348
    have HR348_0 := Za.mk hi348_0
    have HC348_0 := Za.mk hl348_0
    clear hi348_0 hl348_0
    replace p348 := eq_true p348
    replace q348 := eq_true q348
    have p349 : 0 ≤ (x5_1 : Int) := of_decide_eq_true (by first | (with_reducible assumption) | assumption)
    have q349 : x5_1 < (l1.length : Int) := of_decide_eq_true (by first | (with_reducible assumption) | assumption)
    obtain ⟨ad349, A349_0, c349_0, e349, hx349_0, hl349_0, hi349_0⟩ := Zfn HR1.out x5_1 p349 q349
    cases e349
    have HR349_0 := Za.mk hi349_0
    have HC349_0 := Za.mk hl349_0
    clear hi349_0 hl349_0
    replace p349 := eq_true p349
    replace q349 := eq_true q349
    go_wp2_with (first | (go_at_call 39; (with_reducible refine (Zbb.calls k1 _ _ (Zcb l0 x5_1) _ _ (Zcb l1 x5_1) false _ ?side1 ?side2 ?side3 ?side4 A7.out).mono ?_); (case side1 => repeat (first | exact HR348_0.out | (with_reducible refine Kd.C_alloc ?_ _) | (with_reducible refine Kd.Za0 ?_ _) | (with_reducible refine Kd.C_drew ?_))); (case side2 => exact HC348_0.out); (case side3 => repeat (first | exact HR349_0.out | (with_reducible refine Kd.C_alloc ?_ _) | (with_reducible refine Kd.Za0 ?_ _) | (with_reducible refine Kd.C_drew ?_))); (case side4 => exact HC349_0.out); rintro e w' ⟨rfl, ⟨nd, rfl⟩⟩; (try first | exact ⟨rfl, _, World.drewN_drewN _ _ _⟩ | exact ⟨rfl, _, Eq.trans (World.drewN_drewN _ _ _) (congrArg (World.drewN _) (Nat.add_assoc _ _ _))⟩)))
    repeat (go_quiet (first | (go_at_call 39; (with_reducible refine (Zbb.calls k1 _ _ (Zcb l0 x5_1) _ _ (Zcb l1 x5_1) false _ ?side1 ?side2 ?side3 ?side4 A7.out).mono ?_); (case side1 => repeat (first | exact HR348_0.out | (with_reducible refine Kd.C_alloc ?_ _) | (with_reducible refine Kd.Za0 ?_ _) | (with_reducible refine Kd.C_drew ?_))); (case side2 => exact HC348_0.out); (case side3 => repeat (first | exact HR349_0.out | (with_reducible refine Kd.C_alloc ?_ _) | (with_reducible refine Kd.Za0 ?_ _) | (with_reducible refine Kd.C_drew ?_))); (case side4 => exact HC349_0.out); rintro e w' ⟨rfl, ⟨nd, rfl⟩⟩; (try first | exact ⟨rfl, _, World.drewN_drewN _ _ _⟩ | exact ⟨rfl, _, Eq.trans (World.drewN_drewN _ _ _) (congrArg (World.drewN _) (Nat.add_assoc _ _ _))⟩))); try go_wp2_with (first | (go_at_call 39; (with_reducible refine (Zbb.calls k1 _ _ (Zcb l0 x5_1) _ _ (Zcb l1 x5_1) false _ ?side1 ?side2 ?side3 ?side4 A7.out).mono ?_); (case side1 => repeat (first | exact HR348_0.out | (with_reducible refine Kd.C_alloc ?_ _) | (with_reducible refine Kd.Za0 ?_ _) | (with_reducible refine Kd.C_drew ?_))); (case side2 => exact HC348_0.out); (case side3 => repeat (first | exact HR349_0.out | (with_reducible refine Kd.C_alloc ?_ _) | (with_reducible refine Kd.Za0 ?_ _) | (with_reducible refine Kd.C_drew ?_))); (case side4 => exact HC349_0.out); rintro e w' ⟨rfl, ⟨nd, rfl⟩⟩; (try first | exact ⟨rfl, _, World.drewN_drewN _ _ _⟩ | exact ⟨rfl, _, Eq.trans (World.drewN_drewN _ _ _) (congrArg (World.drewN _) (Nat.add_assoc _ _ _))⟩))))
    go_ret
    exact ⟨by first | rfl | (simp; done) | (simp [*]; done), by repeat (first | exact Zb.refl _ | apply Zb.step)⟩
   subst c8
   have H1 : (Za8.l0 k1 l0 l1 (wrap64 (x5_1 + 1))) = some r := by rw [if_pos rfl] at H; exact H
   clear H
   have H := H1
   clear H1
   have H' := Za.mk H
   clear H
   have p348 : 0 ≤ (x5_1 : Int) := of_decide_eq_true (by first | (with_reducible assumption) | assumption)
   have q348 : x5_1 < (l0.length : Int) := of_decide_eq_true (by first | (with_reducible assumption) | assumption)
   obtain ⟨ad348, A348_0, c348_0, e348, hx348_0, hl348_0, hi348_0⟩ := Zfn HR0.out x5_1 p348 q348
   cases e348
   have HR348_0 := Za.mk hi348_0
   have HC348_0 := Za.mk hl348_0
   clear hi348_0 hl348_0
   replace p348 := eq_true p348
   replace q348 := eq_true q348
   have p349 : 0 ≤ (x5_1 : Int) := of_decide_eq_true (by first | (with_reducible assumption) | assumption)
   have q349 : x5_1 < (l1.length : Int) := of_decide_eq_true (by first | (with_reducible assumption) | assumption)
   obtain ⟨ad349, A349_0, c349_0, e349, hx349_0, hl349_0, hi349_0⟩ := Zfn HR1.out x5_1 p349 q349
   cases e349
   have HR349_0 := Za.mk hi349_0
   have HC349_0 := Za.mk hl349_0
   clear hi349_0 hl349_0
   replace p349 := eq_true p349
   replace q349 := eq_true q349
   go_wp2_with (first | (go_at_call 39; (with_reducible refine (Zbb.calls k1 _ _ (Zcb l0 x5_1) _ _ (Zcb l1 x5_1) true _ ?side1 ?side2 ?side3 ?side4 A7.out).mono ?_); (case side1 => repeat (first | exact HR348_0.out | (with_reducible refine Kd.C_alloc ?_ _) | (with_reducible refine Kd.Za0 ?_ _) | (with_reducible refine Kd.C_drew ?_))); (case side2 => exact HC348_0.out); (case side3 => repeat (first | exact HR349_0.out | (with_reducible refine Kd.C_alloc ?_ _) | (with_reducible refine Kd.Za0 ?_ _) | (with_reducible refine Kd.C_drew ?_))); (case side4 => exact HC349_0.out); rintro e w' ⟨rfl, ⟨nd, rfl⟩⟩; (try first | exact ⟨rfl, _, World.drewN_drewN _ _ _⟩ | exact ⟨rfl, _, Eq.trans (World.drewN_drewN _ _ _) (congrArg (World.drewN _) (Nat.add_assoc _ _ _))⟩)))
   repeat (go_quiet (first | (go_at_call 39; (with_reducible refine (Zbb.calls k1 _ _ (Zcb l0 x5_1) _ _ (Zcb l1 x5_1) true _ ?side1 ?side2 ?side3 ?side4 A7.out).mono ?_); (case side1 => repeat (first | exact HR348_0.out | (with_reducible refine Kd.C_alloc ?_ _) | (with_reducible refine Kd.Za0 ?_ _) | (with_reducible refine Kd.C_drew ?_))); (case side2 => exact HC348_0.out); (case side3 => repeat (first | exact HR349_0.out | (with_reducible refine Kd.C_alloc ?_ _) | (with_reducible refine Kd.Za0 ?_ _) | (with_reducible refine Kd.C_drew ?_))); (case side4 => exact HC349_0.out); rintro e w' ⟨rfl, ⟨nd, rfl⟩⟩; (try first | exact ⟨rfl, _, World.drewN_drewN _ _ _⟩ | exact ⟨rfl, _, Eq.trans (World.drewN_drewN _ _ _) (congrArg (World.drewN _) (Nat.add_assoc _ _ _))⟩))); try go_wp2_with (first | (go_at_call 39; (with_reducible refine (Zbb.calls k1 _ _ (Zcb l0 x5_1) _ _ (Zcb l1 x5_1) true _ ?side1 ?side2 ?side3 ?side4 A7.out).mono ?_); (case side1 => repeat (first | exact HR348_0.out | (with_reducible refine Kd.C_alloc ?_ _) | (with_reducible refine Kd.Za0 ?_ _) | (with_reducible refine Kd.C_drew ?_))); (case side2 => exact HC348_0.out); (case side3 => repeat (first | exact HR349_0.out | (with_reducible refine Kd.C_alloc ?_ _) | (with_reducible refine Kd.Za0 ?_ _) | (with_reducible refine Kd.C_drew ?_))); (case side4 => exact HC349_0.out); rintro e w' ⟨rfl, ⟨nd, rfl⟩⟩; (try first | exact ⟨rfl, _, World.drewN_drewN _ _ _⟩ | exact ⟨rfl, _, Eq.trans (World.drewN_drewN _ _ _) (congrArg (World.drewN _) (Nat.add_assoc _ _ _))⟩))))
   go_roundg k1
   case measure => have := HK1.out; omega
   case rel => exact ⟨(wrap64 (x5_1 + 1)), (by first | rfl | (simp; done) | (simp [*]; done)), H', ⟨by have := HK1.out; omega⟩, by repeat (first | exact Zb.refl _ | apply Zb.step)⟩
def Zbp.l0 : Nat → List Int → List Int → Int → Option (Bool)
 | 0, _, _, _ => none
 | k + 1, x0, x1, x5 => if x5 < (x0.length : Int) then (if 0 ≤ x5 then (if x5 < (x1.length : Int) then (if (rd x0 x5) = (rd x1 x5) then (Zbp.l0 k x0 x1 (wrap64 (x5 + 1))) else (some false)) else (none)) else (none)) else (some true)
def Zbp.f (k : Nat) (l0 : List Int) (l1 : List Int) : Option (Bool) := if (l0.length : Int) = (l1.length : Int) then (Zbp.l0 k l0 l1 0) else (some false)
set_option maxHeartbeats 8000000 in
set_option maxRecDepth 100000 in
theorem Zbp.calls (k : Nat) (A0 : Option Addr) (c0 : Nat) (l0 : List Int) (A1 : Option Addr) (c1 : Nat) (l1 : List Int) (r : Bool) (w : World) (hr0 : Kd.C (Kd.int .i64) w A0 l0.length l0) (hc0 : l0.length ≤ c0) (hr1 : Kd.C (Kd.int .i64) w A1 l1.length l1) (hc1 : l1.length ≤ c1) (h : Zbp.f k l0 l1 = some r) :
  Calls Try.prog 28 #[.slice A0 l0.length c0, .slice A1 l1.length c1] w fun e w' => e = .returned (.bool r) ∧ Zb w w' := by
 have HR0 := Za.mk hr0
 have HC0 := Za.mk hc0
 clear hr0 hc0
 have HR1 := Za.mk hr1
 have HC1 := Za.mk hc1
 clear hr1 hc1
 have H : (if (l0.length : Int) = (l1.length : Int) then (Zbp.l0 k l0 l1 0) else (some false)) = some r := h
 clear h
 by_cases c3 : (l0.length : Int) = (l1.length : Int)
 rotate_left
 ·rw [if_neg c3] at H
  have c3b0 : ((l0.length : Int) == (l1.length : Int)) = false := beq_eq_false_iff_ne.mpr c3
  have c3b1 : ((l0.length : Int) != (l1.length : Int)) = true := bne_iff_ne.mpr c3
  have c3b2 : (l0.length == l1.length) = false := by first | simpa using c3 | (simp at c3 ⊢; omega)
  obtain rfl := Option.some.inj H
  go_enter Try.func28, Try.ntmps28
  go_wp2
  repeat (go_quiet (fail); try go_wp2)
  go_ret
  exact ⟨by first | rfl | (simp; done) | (simp [*]; done), by repeat (first | exact Zb.refl _ | apply Zb.step)⟩
 rw [if_pos c3] at H
 have c3b0 : ((l0.length : Int) == (l1.length : Int)) = true := beq_iff_eq.mpr c3
 have c3b1 : ((l0.length : Int) != (l1.length : Int)) = false := bne_eq_false_iff_eq.mpr c3
 have c3b2 : (l0.length == l1.length) = true := by first | simpa using c3 | (simp at c3 ⊢; omega)
 clear c3
 have H' := Za.mk H
 clear H
 go_enter Try.func28, Try.ntmps28
 go_wp2
 repeat (go_quiet (fail); try go_wp2)
 go_loopg [5] k (fun kq v5 w' => ∃ (x5_1 : Int), v5 = .int .i64 x5_1 ∧ Za (Zbp.l0 kq l0 l1 x5_1 = some r) ∧ Za (kq ≤ k) ∧ Zb w w')
 case atStart => exact ⟨(0), (by first | rfl | (simp; done) | (simp [*]; done)), H', ⟨Nat.le_refl _⟩, by repeat (first | exact Zb.refl _ | apply Zb.step)⟩
 case round =>
  clear H'
  try clear c1
  try clear c2
  try clear p2
  try clear c3
  try clear c3b0
  try clear c3b1
  try clear c3b2
  obtain ⟨x5_1, rfl, HA, HK1, ⟨m1, rfl⟩⟩ := hrel
  cases gk with
  | zero => exact absurd HA.out (by simp [Zbp.l0])
  | succ k1 =>
   have H := HA.out
   clear HA
   simp only [Zbp.l0] at H
   by_cases c4 : x5_1 < (l0.length : Int)
   rotate_left
   ·rw [if_neg c4] at H
    have c4b0 : decide (x5_1 < (l0.length : Int)) = false := decide_eq_false c4
    clear c4
    obtain rfl := Option.some.inj H
    go_wp2
    repeat (go_quiet (fail); try go_wp2)
    go_ret
    exact ⟨by first | rfl | (simp; done) | (simp [*]; done), by repeat (first | exact Zb.refl _ | apply Zb.step)⟩
   rw [if_pos c4] at H
   have c4b0 : decide (x5_1 < (l0.length : Int)) = true := decide_eq_true c4
   clear c4
   by_cases c5 : 0 ≤ x5_1
   rotate_left
   ·rw [if_neg c5] at H
    exact absurd H (by simp)
   rw [if_pos c5] at H
   have c5b0 : decide (0 ≤ x5_1) = true := decide_eq_true c5
   clear c5
   by_cases c6 : x5_1 < (l1.length : Int)
   rotate_left
   ·rw [if_neg c6] at H
    exact absurd H (by simp)
   rw [if_pos c6] at H
   have c6b0 : decide (x5_1 < (l1.length : Int)) = true := decide_eq_true c6
   clear c6
   by_cases c7 : (rd l0 x5_1) = (rd l1 x5_1)
   rotate_left
   ·rw [if_neg c7] at H
    have c7b0 : ((rd l0 x5_1) == (rd l1 x5_1)) = false := beq_eq_false_iff_ne.mpr c7
    have c7b1 : ((rd l0 x5_1) != (rd l1 x5_1)) = true := bne_iff_ne.mpr c7
    obtain rfl := Option.some.inj H
    have p351 : 0 ≤ (x5_1 : Int) := of_decide_eq_true (by first | (with_reducible assumption) | assumption)
    have q351 : x5_1 < (l0.length : Int) := of_decide_eq_true (by first | (with_reducible assumption) | assumption)
    obtain ⟨ad351, e351, hx351_0⟩ := Kd.Zby HR0.out x5_1 p351 q351
    cases e351
    replace p351 := eq_true p351
    replace q351 := eq_true q351
    have p352 : 0 ≤ (x5_1 : Int) := of_decide_eq_true (by first | (with_reducible assumption) | assumption)
    have q352 : x5_1 < (l1.length : Int) := of_decide_eq_true (by first | (with_reducible assumption) | assumption)
    obtain ⟨ad352, e352, hx352_0⟩ := Kd.Zby HR1.out x5_1 p352 q352
    cases e352
    replace p352 := eq_true p352
    replace q352 := eq_true q352
    go_wp2
    repeat (go_quiet (fail); try go_wp2)
    go_ret
    exact ⟨by first | rfl | (simp; done) | (simp [*]; done), by repeat (first | exact Zb.refl _ | apply Zb.step)⟩
   rw [if_pos c7] at H
   have c7b0 : ((rd l0 x5_1) == (rd l1 x5_1)) = true := beq_iff_eq.mpr c7
   have c7b1 : ((rd l0 x5_1) != (rd l1 x5_1)) = false := bne_eq_false_iff_eq.mpr c7
   clear c7
   have H' := Za.mk H
   clear H
   have p351 : 0 ≤ (x5_1 : Int) := of_decide_eq_true (by first | (with_reducible assumption) | assumption)
   have q351 : x5_1 < (l0.length : Int) := of_decide_eq_true (by first | (with_reducible assumption) | assumption)
   obtain ⟨ad351, e351, hx351_0⟩ := Kd.Zby HR0.out x5_1 p351 q351
   cases e351
   replace p351 := eq_true p351
   replace q351 := eq_true q351
   have p352 : 0 ≤ (x5_1 : Int) := of_decide_eq_true (by first | (with_reducible assumption) | assumption)
   have q352 : x5_1 < (l1.length : Int) := of_decide_eq_true (by first | (with_reducible assumption) | assumption)
   obtain ⟨ad352, e352, hx352_0⟩ := Kd.Zby HR1.out x5_1 p352 q352
   cases e352
   replace p352 := eq_true p352
   replace q352 := eq_true q352
   go_wp2
   repeat (go_quiet (fail); try go_wp2)
   go_roundg k1
   case measure => have := HK1.out; omega
   case rel => exact ⟨(wrap64 (x5_1 + 1)), (by first | rfl | (simp; done) | (simp [*]; done)), H', ⟨by have := HK1.out; omega⟩, by repeat (first | exact Zb.refl _ | apply Zb.step)⟩
def Zbo.l0 : Nat → List (List Int) → List (List Int) → Int → Option (Bool)
 | 0, _, _, _ => none
 | k + 1, x0, x1, x5 => if x5 < (x0.length : Int) then (if 0 ≤ x5 then (if x5 < (x1.length : Int) then ((Zbp.f k (Zbt x0 x5) (Zbt x1 x5)).bind fun t355 => (if t355 = true then (Zbo.l0 k x0 x1 (wrap64 (x5 + 1))) else (some false))) else (none)) else (none)) else (some true)
def Zbo.f (k : Nat) (l0 : List (List Int)) (l1 : List (List Int)) : Option (Bool) := if (l0.length : Int) = (l1.length : Int) then (Zbo.l0 k l0 l1 0) else (some false)
set_option maxHeartbeats 8000000 in
set_option maxRecDepth 100000 in
theorem Zbo.calls (k : Nat) (A0 : Option Addr) (c0 : Nat) (l0 : List (List Int)) (A1 : Option Addr) (c1 : Nat) (l1 : List (List Int)) (r : Bool) (w : World) (hr0 : Kd.C (Kd.slice 3 (Kd.int .i64)) w A0 l0.length l0) (hc0 : l0.length ≤ c0) (hr1 : Kd.C (Kd.slice 3 (Kd.int .i64)) w A1 l1.length l1) (hc1 : l1.length ≤ c1) (h : Zbo.f k l0 l1 = some r) :
  Calls Try.prog 22 #[.slice A0 l0.length c0, .slice A1 l1.length c1] w fun e w' => e = .returned (.bool r) ∧ Zb w w' := by
 have HR0 := Za.mk hr0
 have HC0 := Za.mk hc0
 clear hr0 hc0
 have HR1 := Za.mk hr1
 have HC1 := Za.mk hc1
 clear hr1 hc1
 have H : (if (l0.length : Int) = (l1.length : Int) then (Zbo.l0 k l0 l1 0) else (some false)) = some r := h
 clear h
 by_cases c3 : (l0.length : Int) = (l1.length : Int)
 rotate_left
 ·rw [if_neg c3] at H
  have c3b0 : ((l0.length : Int) == (l1.length : Int)) = false := beq_eq_false_iff_ne.mpr c3
  have c3b1 : ((l0.length : Int) != (l1.length : Int)) = true := bne_iff_ne.mpr c3
  have c3b2 : (l0.length == l1.length) = false := by first | simpa using c3 | (simp at c3 ⊢; omega)
  obtain rfl := Option.some.inj H
  go_enter Try.func22, Try.ntmps22
  go_wp2
  repeat (go_quiet (fail); try go_wp2)
  go_ret
  exact ⟨by first | rfl | (simp; done) | (simp [*]; done), by repeat (first | exact Zb.refl _ | apply Zb.step)⟩
 rw [if_pos c3] at H
 have c3b0 : ((l0.length : Int) == (l1.length : Int)) = true := beq_iff_eq.mpr c3
 have c3b1 : ((l0.length : Int) != (l1.length : Int)) = false := bne_eq_false_iff_eq.mpr c3
 have c3b2 : (l0.length == l1.length) = true := by first | simpa using c3 | (simp at c3 ⊢; omega)
 clear c3
 have H' := Za.mk H
 clear H
 go_enter Try.func22, Try.ntmps22
 go_wp2
 repeat (go_quiet (fail); try go_wp2)
 go_loopg [5] k (fun kq v5 w' => ∃ (x5_1 : Int), v5 = .int .i64 x5_1 ∧ Za (Zbo.l0 kq l0 l1 x5_1 = some r) ∧ Za (kq ≤ k) ∧ Zb w w')
 case atStart => exact ⟨(0), (by first | rfl | (simp; done) | (simp [*]; done)), H', ⟨Nat.le_refl _⟩, by repeat (first | exact Zb.refl _ | apply Zb.step)⟩
 case round =>
  clear H'
  try clear c1
  try clear c2
  try clear p2
  try clear c3
  try clear c3b0
  try clear c3b1
  try clear c3b2
  obtain ⟨x5_1, rfl, HA, HK1, ⟨m1, rfl⟩⟩ := hrel
  cases gk with
  | zero => exact absurd HA.out (by simp [Zbo.l0])
  | succ k1 =>
   have H := HA.out
   clear HA
   simp only [Zbo.l0] at H
   by_cases c4 : x5_1 < (l0.length : Int)
   rotate_left
   ·rw [if_neg c4] at H
    have c4b0 : decide (x5_1 < (l0.length : Int)) = false := decide_eq_false c4
    clear c4
    obtain rfl := Option.some.inj H
    go_wp2
    repeat (go_quiet (fail); try go_wp2)
    go_ret
    exact ⟨by first | rfl | (simp; done) | (simp [*]; done), by repeat (first | exact Zb.refl _ | apply Zb.step)⟩
   rw [if_pos c4] at H
   have c4b0 : decide (x5_1 < (l0.length : Int)) = true := decide_eq_true c4
   clear c4
   by_cases c5 : 0 ≤ x5_1
   rotate_left
   ·rw [if_neg c5] at H
    exact absurd H (by simp)
   rw [if_pos c5] at H
   have c5b0 : decide (0 ≤ x5_1) = true := decide_eq_true c5
   clear c5
   by_cases c6 : x5_1 < (l1.length : Int)
   rotate_left
   ·rw [if_neg c6] at H
    exact absurd H (by simp)
   rw [if_pos c6] at H
   have c6b0 : decide (x5_1 < (l1.length : Int)) = true := decide_eq_true c6
   clear c6
   replace H := Option.bind_eq_some_iff.mp H
   obtain ⟨t355, A70, H⟩ := H
   replace H : (if t355 = true then (Zbo.l0 k1 l0 l1 (wrap64 (x5_1 + 1))) else (some false)) = some r := H
   have A7 := Za.mk A70
   clear A70
   by_cases c8 : t355 = true
   rotate_left
   ·replace c8 := Bool.eq_false_iff.mpr c8
    subst c8
    have H1 : (some false) = some r := by rw [if_neg (show ¬ (false = true) by decide)] at H; exact H
    clear H
    have H := H1
    clear H1
    obtain rfl := Option.some.inj H
    have p353 : 0 ≤ (x5_1 : Int) := of_decide_eq_true (by first | (with_reducible assumption) | assumption)
    have q353 : x5_1 < (l0.length : Int) := of_decide_eq_true (by first | (with_reducible assumption) | assumption)
    obtain ⟨ad353, A353_0, c353_0, e353, hx353_0, hl353_0, hi353_0⟩ := Zd2 HR0.out x5_1 p353 q353
    cases e353
    have HR353_0 := Za.mk hi353_0
    have HC353_0 := Za.mk hl353_0
    clear hi353_0 hl353_0
    replace p353 := eq_true p353
    replace q353 := eq_true q353
    have p354 : 0 ≤ (x5_1 : Int) := of_decide_eq_true (by first | (with_reducible assumption) | assumption)
    have q354 : x5_1 < (l1.length : Int) := of_decide_eq_true (by first | (with_reducible assumption) | assumption)
    obtain ⟨ad354, A354_0, c354_0, e354, hx354_0, hl354_0, hi354_0⟩ := Zd2 HR1.out x5_1 p354 q354
    cases e354
    have HR354_0 := Za.mk hi354_0
    have HC354_0 := Za.mk hl354_0
    clear hi354_0 hl354_0
    replace p354 := eq_true p354
    replace q354 := eq_true q354
    go_wp2_with (first | (go_at_call 28; (with_reducible refine (Zbp.calls k1 _ _ (Zbt l0 x5_1) _ _ (Zbt l1 x5_1) false _ ?side1 ?side2 ?side3 ?side4 A7.out).mono ?_); (case side1 => repeat (first | exact HR353_0.out | (with_reducible refine Kd.C_alloc ?_ _) | (with_reducible refine Kd.Za0 ?_ _) | (with_reducible refine Kd.C_drew ?_))); (case side2 => exact HC353_0.out); (case side3 => repeat (first | exact HR354_0.out | (with_reducible refine Kd.C_alloc ?_ _) | (with_reducible refine Kd.Za0 ?_ _) | (with_reducible refine Kd.C_drew ?_))); (case side4 => exact HC354_0.out); rintro e w' ⟨rfl, ⟨nd, rfl⟩⟩; (try first | exact ⟨rfl, _, World.drewN_drewN _ _ _⟩ | exact ⟨rfl, _, Eq.trans (World.drewN_drewN _ _ _) (congrArg (World.drewN _) (Nat.add_assoc _ _ _))⟩)))
    repeat (go_quiet (first | (go_at_call 28; (with_reducible refine (Zbp.calls k1 _ _ (Zbt l0 x5_1) _ _ (Zbt l1 x5_1) false _ ?side1 ?side2 ?side3 ?side4 A7.out).mono ?_); (case side1 => repeat (first | exact HR353_0.out | (with_reducible refine Kd.C_alloc ?_ _) | (with_reducible refine Kd.Za0 ?_ _) | (with_reducible refine Kd.C_drew ?_))); (case side2 => exact HC353_0.out); (case side3 => repeat (first | exact HR354_0.out | (with_reducible refine Kd.C_alloc ?_ _) | (with_reducible refine Kd.Za0 ?_ _) | (with_reducible refine Kd.C_drew ?_))); (case side4 => exact HC354_0.out); rintro e w' ⟨rfl, ⟨nd, rfl⟩⟩; (try first | exact ⟨rfl, _, World.drewN_drewN _ _ _⟩ | exact ⟨rfl, _, Eq.trans (World.drewN_drewN _ _ _) (congrArg (World.drewN _) (Nat.add_assoc _ _ _))⟩))); try go_wp2_with (first | (go_at_call 28; (with_reducible refine (Zbp.calls k1 _ _ (Zbt l0 x5_1) _ _ (Zbt l1 x5_1) false _ ?side1 ?side2 ?side3 ?side4 A7.out).mono ?_); (case side1 => repeat (first | exact HR353_0.out | (with_reducible refine Kd.C_alloc ?_ _) | (with_reducible refine Kd.Za0 ?_ _) | (with_reducible refine Kd.C_drew ?_))); (case side2 => exact HC353_0.out); (case side3 => repeat (first | exact HR354_0.out | (with_reducible refine Kd.C_alloc ?_ _) | (with_reducible refine Kd.Za0 ?_ _) | (with_reducible refine Kd.C_drew ?_))); (case side4 => exact HC354_0.out); rintro e w' ⟨rfl, ⟨nd, rfl⟩⟩; (try first | exact ⟨rfl, _, World.drewN_drewN _ _ _⟩ | exact ⟨rfl, _, Eq.trans (World.drewN_drewN _ _ _) (congrArg (World.drewN _) (Nat.add_assoc _ _ _))⟩))))
    go_ret
    exact ⟨by first | rfl | (simp; done) | (simp [*]; done), by repeat (first | exact Zb.refl _ | apply Zb.step)⟩
   subst c8
   have H1 : (Zbo.l0 k1 l0 l1 (wrap64 (x5_1 + 1))) = some r := by rw [if_pos rfl] at H; exact H
   clear H
   have H := H1
   clear H1
   have H' := Za.mk H
   clear H
   have p353 : 0 ≤ (x5_1 : Int) := of_decide_eq_true (by first | (with_reducible assumption) | assumption)
   have q353 : x5_1 < (l0.length : Int) := of_decide_eq_true (by first | (with_reducible assumption) | assumption)
   obtain ⟨ad353, A353_0, c353_0, e353, hx353_0, hl353_0, hi353_0⟩ := Zd2 HR0.out x5_1 p353 q353
   cases e353
   have HR353_0 := Za.mk hi353_0
   have HC353_0 := Za.mk hl353_0
   clear hi353_0 hl353_0
   replace p353 := eq_true p353
   replace q353 := eq_true q353
   have p354 : 0 ≤ (x5_1 : Int) := of_decide_eq_true (by first | (with_reducible assumption) | assumption)
   have q354 : x5_1 < (l1.length : Int) := of_decide_eq_true (by first | (with_reducible assumption) | assumption)
   obtain ⟨ad354, A354_0, c354_0, e354, hx354_0, hl354_0, hi354_0⟩ := Zd2 HR1.out x5_1 p354 q354
   cases e354
   have HR354_0 := Za.mk hi354_0
   have HC354_0 := Za.mk hl354_0
   clear hi354_0 hl354_0
   replace p354 := eq_true p354
   replace q354 := eq_true q354
   go_wp2_with (first | (go_at_call 28; (with_reducible refine (Zbp.calls k1 _ _ (Zbt l0 x5_1) _ _ (Zbt l1 x5_1) true _ ?side1 ?side2 ?side3 ?side4 A7.out).mono ?_); (case side1 => repeat (first | exact HR353_0.out | (with_reducible refine Kd.C_alloc ?_ _) | (with_reducible refine Kd.Za0 ?_ _) | (with_reducible refine Kd.C_drew ?_))); (case side2 => exact HC353_0.out); (case side3 => repeat (first | exact HR354_0.out | (with_reducible refine Kd.C_alloc ?_ _) | (with_reducible refine Kd.Za0 ?_ _) | (with_reducible refine Kd.C_drew ?_))); (case side4 => exact HC354_0.out); rintro e w' ⟨rfl, ⟨nd, rfl⟩⟩; (try first | exact ⟨rfl, _, World.drewN_drewN _ _ _⟩ | exact ⟨rfl, _, Eq.trans (World.drewN_drewN _ _ _) (congrArg (World.drewN _) (Nat.add_assoc _ _ _))⟩)))
   repeat (go_quiet (first | (go_at_call 28; (with_reducible refine (Zbp.calls k1 _ _ (Zbt l0 x5_1) _ _ (Zbt l1 x5_1) true _ ?side1 ?side2 ?side3 ?side4 A7.out).mono ?_); (case side1 => repeat (first | exact HR353_0.out | (with_reducible refine Kd.C_alloc ?_ _) | (with_reducible refine Kd.Za0 ?_ _) | (with_reducible refine Kd.C_drew ?_))); (case side2 => exact HC353_0.out); (case side3 => repeat (first | exact HR354_0.out | (with_reducible refine Kd.C_alloc ?_ _) | (with_reducible refine Kd.Za0 ?_ _) | (with_reducible refine Kd.C_drew ?_))); (case side4 => exact HC354_0.out); rintro e w' ⟨rfl, ⟨nd, rfl⟩⟩; (try first | exact ⟨rfl, _, World.drewN_drewN _ _ _⟩ | exact ⟨rfl, _, Eq.trans (World.drewN_drewN _ _ _) (congrArg (World.drewN _) (Nat.add_assoc _ _ _))⟩))); try go_wp2_with (first | (go_at_call 28; (with_reducible refine (Zbp.calls k1 _ _ (Zbt l0 x5_1) _ _ (Zbt l1 x5_1) true _ ?side1 ?side2 ?side3 ?side4 A7.out).mono ?_); (case side1 => repeat (first | exact HR353_0.out | (with_reducible refine Kd.C_alloc ?_ _) | (with_reducible refine Kd.Za0 ?_ _) | (with_reducible refine Kd.C_drew ?_))); (case side2 => exact HC353_0.out); (case side3 => repeat (first | exact HR354_0.out | (with_reducible refine Kd.C_alloc ?_ _) | (with_reducible refine Kd.Za0 ?_ _) | (with_reducible refine Kd.C_drew ?_))); (case side4 => exact HC354_0.out); rintro e w' ⟨rfl, ⟨nd, rfl⟩⟩; (try first | exact ⟨rfl, _, World.drewN_drewN _ _ _⟩ | exact ⟨rfl, _, Eq.trans (World.drewN_drewN _ _ _) (congrArg (World.drewN _) (Nat.add_assoc _ _ _))⟩))))
   go_roundg k1
   case measure => have := HK1.out; omega
   case rel => exact ⟨(wrap64 (x5_1 + 1)), (by first | rfl | (simp; done) | (simp [*]; done)), H', ⟨by have := HK1.out; omega⟩, by repeat (first | exact Zb.refl _ | apply Zb.step)⟩
end Go.Proofs.Ytpbcigilipdedaa.P
/- secateurlaw09.fixed: the calls whose answers are fixed. -/
namespace Go.Proofs.Ytpbcigilipdedaa.P
open Go.RowKit Go.Proofs.YtpbcigilipdedaaW.PrintWords Go.Proofs.YtpbcigilipdedaaW.PrintLast Go.Proofs.YtpbcigilipdedaaW.PrintMore
set_option linter.unusedVariables false
set_option linter.unusedSimpArgs false
abbrev Rg9 := S41
def x9 : List Rg9 := [⟨0, 3⟩]
def rows9 : List (List Int) := [[0, 1], [2, 5], [3, 3]]
def d9 : List (List Rg9) := [[⟨0, 0⟩, ⟨3, 3⟩], [⟨1, 1⟩, ⟨3, 3⟩]]
set_option maxRecDepth 100000 in
theorem prune9 : Zau.f 40 [x9, x9] 2 [0, 1] [] 0 0 rows9 0 = some (d9, true) := by decide +kernel
set_option maxRecDepth 100000 in
theorem prune9' : Zau.f 40 [[⟨1, 1⟩], x9] 2 [0, 1] [] 0 0 rows9 0 = some ([], false) := by decide +kernel
set_option maxRecDepth 100000 in
theorem rows9_f : Zbe.f 40 [x9, x9] 2 [0, 1] [] 0 0 rows9 0 = some [[0, 1], [3, 3]] := by decide +kernel
set_option maxRecDepth 100000 in
theorem sorted9 : Zdd.f [[2], [1, 5], [1], [2]] = some [[1], [1, 5], [2]] := by decide +kernel
set_option maxRecDepth 100000 in
theorem same9 : Za8.f 40 d9 d9 = some true := by decide +kernel
set_option maxRecDepth 100000 in
theorem lists9 : Zbo.f 40 [[0, 1], [3, 3]] [[0, 1], [3, 3]] = some true := by decide +kernel
set_option maxRecDepth 100000 in
theorem lists9' : Zbo.f 40 [[1], [1, 5], [2]] [[1], [1, 5], [2]] = some true := by decide +kernel
def Lit9 (w : World) (b gc : Nat) (W : World) : Prop :=
  Below w.heap.size w W ∧ W.heap[b]? = some (.cells #[.int .i64 0, .int .i64 3] 41 (0, 0)) ∧
  W.heap[b + 1]? = some (.cells #[.int .i64 0, .int .i64 1] 3 (0, 0)) ∧ W.heap[b + 1 + 1]? = some (.cells #[.int .i64 0, .int .i64 1] 3 (0, 0)) ∧
  W.heap[b + 1 + 1 + 1]? = some (.cells #[.int .i64 2, .int .i64 5] 3 (0, 0)) ∧ W.heap[b + 1 + 1 + 1 + 1]? = some (.cells #[.int .i64 3, .int .i64 3] 3 (0, 0)) ∧
  W.heap[b + 1 + 1 + 1 + 1 + 1]? = some (.cells #[.slice (some ⟨b + 1 + 1, 0, none⟩) 2 2, .slice (some ⟨b + 1 + 1 + 1, 0, none⟩) 2 2, .slice (some ⟨b + 1 + 1 + 1 + 1, 0, none⟩) 2 2] 23 (0, 0)) ∧
  W.heap[gc]? = some (.cells #[.int .i64 2, .slice (some ⟨b + 1, 0, none⟩) 2 2, .slice none 0 0, .int .i64 0, .int .i64 0, .slice (some ⟨b + 1 + 1 + 1 + 1 + 1, 0, none⟩) 3 3, .int .i64 0] 25 (0, 0))
theorem Lit9.below {w : World} {b gc : Nat} {W W' : World} (h : Lit9 w b gc W) (hb : Below W.heap.size W W') : Lit9 w b gc W' := by
  obtain ⟨h0, h1, h2, h3, h4, h5, h6, h7⟩ := h
  exact ⟨h0.trans (hb.mono h0.size), Za6 h1 hb, Za6 h2 hb, Za6 h3 hb, Za6 h4 hb, Za6 h5 hb, Za6 h6 hb, Za6 h7 hb⟩
theorem Lit9.x {w : World} {b gc : Nat} {W : World} (h : Lit9 w b gc W) : (Kd.slice 41 k41).K W x9 [.slice (some ⟨b, 0, none⟩) 1 1] :=
  Zeh rfl (Nat.le_refl _) (Zfq x9 [.int .i64 0, .int .i64 3] (by decide) h.2.1 rfl)
theorem Lit9.vars {w : World} {b gc : Nat} {W : World} (h : Lit9 w b gc W) : (Kd.int .i64).C W (some ⟨b + 1, 0, none⟩) 2 [0, 1] := Zds [0, 1] (by decide) h.2.2.1
theorem Lit9.rows {w : World} {b gc : Nat} {W : World} (h : Lit9 w b gc W) : kInts.C W (some ⟨b + 1 + 1 + 1 + 1 + 1, 0, none⟩) 3 rows9 :=
  Zfe rows9 _ (by decide) h.2.2.2.2.2.2.1 ⟨Zeh rfl (Nat.le_refl _) (Zds [0, 1] (by decide) h.2.2.2.1), Zeh rfl (Nat.le_refl _) (Zds [2, 5] (by decide) h.2.2.2.2.1), Zeh rfl (Nat.le_refl _) (Zds [3, 3] (by decide) h.2.2.2.2.2.1), trivial⟩
theorem Lit9.c {w : World} {b gc : Nat} {W : World} (h : Lit9 w b gc W) (i : Nat) : W.cell? ⟨gc, i, none⟩ = #[Value.int .i64 2, .slice (some ⟨b + 1, 0, none⟩) 2 2, .slice none 0 0, .int .i64 0, .int .i64 0, .slice (some ⟨b + 1 + 1 + 1 + 1 + 1, 0, none⟩) 3 3, .int .i64 0][i]? := Zae h.2.2.2.2.2.2.2 i
theorem Lit9.lt {w : World} {b gc : Nat} {W : World} (h : Lit9 w b gc W) : gc < W.heap.size := (Array.getElem?_eq_some_iff.1 h.2.2.2.2.2.2.2).1
set_option maxRecDepth 100000 in
set_option maxHeartbeats 4000000 in
theorem fixed9 (w : World) : Calls Try.prog 15 #[] w fun e w' => e = .returned (.bool true) ∧ Below w.heap.size w w' := by
  go_enter Try.func15, Try.ntmps15
  try simp only [List.append]
  go_wp2_with (first | (go_at_call 18; go_loud (refine Zc5 (F := fun W => Lit9 w w.heap.size (w.heap.size + 1 + 1 + 1 + 1 + 1 + 1) W ∧ W.heap[w.heap.size + 1 + 1 + 1 + 1 + 1 + 1 + 1]? = some (.cells #[.slice (some ⟨w.heap.size, 0, none⟩) 1 1, .slice (some ⟨w.heap.size, 0, none⟩) 1 1] 39 (0, 0))) ?hF0 ?hG0; (case hF0 => refine ⟨⟨?_, ?_, ?_, ?_, ?_, ?_, ?_, ?_⟩, ?_⟩ <;> (first | ((repeat (first | exact Below.refl _ _ | apply Zac | apply Zaa)); done) | ((repeat (first | (apply Zfz; simp; done) | apply Zaf)); done))); intro W0 hF; generalize w.heap.size + 1 + 1 + 1 + 1 + 1 + 1 = gc at *; generalize w.heap.size = b at *; obtain ⟨hL, hd⟩ := hF; refine (Zau.calls 40 _ _ [x9, x9] 2 _ _ [0, 1] none 0 [] 0 0 _ _ rows9 0 d9 true W0 (Zfe [x9, x9] [_, _] (by decide) hd ⟨hL.x, hL.x, trivial⟩) (Nat.le_refl _) hL.vars (Nat.le_refl _) (Kd.C_nil _ _) (Nat.le_refl _) hL.rows (Nat.le_refl _) prune9).mono ?_; rintro e W1 ⟨v1, rfl, hS1, hb1⟩; have HL1 := Za.mk (hL.below hb1); clear hL hd hb1; obtain ⟨A1, c1, rfl, hcl1, hC1⟩ := Kd.S_reads hS1; have HC1 := Za.mk hC1; clear hS1 hC1; have hgc := HL1.out.lt; have hc0 := (HL1.out.c 0).trans rfl; have hc1 := (HL1.out.c 1).trans rfl; have hc2 := (HL1.out.c 2).trans rfl; have hc3 := (HL1.out.c 3).trans rfl; have hc4 := (HL1.out.c 4).trans rfl; have hc5 := (HL1.out.c 5).trans rfl; have hc6 := (HL1.out.c 6).trans rfl)) | (go_at_call 18; go_loud (refine Zc5 (F := fun W => Below W1.heap.size W1 W ∧ W.heap[W1.heap.size]? = some (.cells #[.int .i64 1, .int .i64 1] 41 (0, 0)) ∧ W.heap[W1.heap.size + 1]? = some (.cells #[.slice (some ⟨W1.heap.size, 0, none⟩) 1 1, .slice (some ⟨b, 0, none⟩) 1 1] 39 (0, 0))) ?hF1 ?hG1; (case hF1 => refine ⟨?_, ?_, ?_⟩ <;> (first | ((repeat (first | exact Below.refl _ _ | apply Zac | apply Zaa)); done) | ((repeat (first | (apply Zfz; simp; done) | apply Zaf)); done))); intro W_ hF_; obtain ⟨hB_, h0_, h1_⟩ := hF_; refine (have hL_ := HL1.out.below hB_; Zau.calls 40 _ _ [[⟨1, 1⟩], x9] 2 _ _ [0, 1] none 0 [] 0 0 _ _ rows9 0 [] false W_ (Zfe [[⟨1, 1⟩], x9] [_, _] (by decide) h1_ ⟨Zeh rfl (Nat.le_refl _) (Zfq [⟨1, 1⟩] [.int .i64 1, .int .i64 1] (by decide) h0_ rfl), hL_.x, trivial⟩) (Nat.le_refl _) hL_.vars (Nat.le_refl _) (Kd.C_nil _ _) (Nat.le_refl _) hL_.rows (Nat.le_refl _) prune9').mono ?_; rintro e W2 ⟨v2, rfl, hS2, hb2⟩; have HB2 := Za.mk (Zan hB_ hb2); have HL2 := Za.mk (HL1.out.below HB2.out); have HC2 := Za.mk (Kd.Zaw HC1.out HB2.out); clear hgc hc0 hc1 hc2 hc3 hc4 hc5 hc6 hB_ h0_ h1_ hb2; obtain ⟨A2, c2, rfl, hcl2, hC2⟩ := Kd.S_reads hS2; clear hS2 hC2; have hgd := HL2.out.lt; have hd0 := (HL2.out.c 0).trans rfl; have hd1 := (HL2.out.c 1).trans rfl; have hd2 := (HL2.out.c 2).trans rfl; have hd3 := (HL2.out.c 3).trans rfl; have hd4 := (HL2.out.c 4).trans rfl; have hd5 := (HL2.out.c 5).trans rfl; have hd6 := (HL2.out.c 6).trans rfl)) | (go_at_call 21; go_loud (refine Zc5 (F := fun W => Below W2.heap.size W2 W ∧ W.heap[W2.heap.size]? = some (.cells #[.int .i64 0, .int .i64 0, .int .i64 3, .int .i64 3] 41 (0, 0)) ∧ W.heap[W2.heap.size + 1]? = some (.cells #[.int .i64 1, .int .i64 1, .int .i64 3, .int .i64 3] 41 (0, 0)) ∧ W.heap[W2.heap.size + 1 + 1]? = some (.cells #[.slice (some ⟨W2.heap.size, 0, none⟩) 2 2, .slice (some ⟨W2.heap.size + 1, 0, none⟩) 2 2] 39 (0, 0))) ?hF2 ?hG2; (case hF2 => refine ⟨?_, ?_, ?_, ?_⟩ <;> (first | ((repeat (first | exact Below.refl _ _ | apply Zac | apply Zaa)); done) | ((repeat (first | (apply Zfz; simp; done) | apply Zaf)); done))); intro W_ hF_; obtain ⟨hB_, h0_, h1_, h2_⟩ := hF_; refine (Za8.calls 40 _ _ d9 _ _ d9 true W_ (Kd.Zaw HC2.out hB_) hcl1 (Zfe d9 [_, _] (by decide) h2_ ⟨Zeh rfl (Nat.le_refl _) (Zfq [⟨0, 0⟩, ⟨3, 3⟩] [.int .i64 0, .int .i64 0, .int .i64 3, .int .i64 3] (by decide) h0_ rfl), Zeh rfl (Nat.le_refl _) (Zfq [⟨1, 1⟩, ⟨3, 3⟩] [.int .i64 1, .int .i64 1, .int .i64 3, .int .i64 3] (by decide) h1_ rfl), trivial⟩) (Nat.le_refl _) same9).mono ?_; rintro e W3 ⟨rfl, hdr⟩; have HL3 := Za.mk ((HL2.out.below hB_).below hdr.below); clear hdr h0_ h1_ h2_ hB_ hgd hd0 hd1 hd2 hd3 hd4 hd5 hd6; have hge := HL3.out.lt; have he0 := (HL3.out.c 0).trans rfl; have he1 := (HL3.out.c 1).trans rfl; have he2 := (HL3.out.c 2).trans rfl; have he3 := (HL3.out.c 3).trans rfl; have he4 := (HL3.out.c 4).trans rfl; have he5 := (HL3.out.c 5).trans rfl; have he6 := (HL3.out.c 6).trans rfl)) | (go_at_call 20; go_loud (refine Zc5 (F := fun W => Below W3.heap.size W3 W ∧ W.heap[W3.heap.size]? = some (.cells #[.slice (some ⟨b, 0, none⟩) 1 1, .slice (some ⟨b, 0, none⟩) 1 1] 39 (0, 0))) ?hF3 ?hG3; (case hF3 => refine ⟨?_, ?_⟩ <;> (first | ((repeat (first | exact Below.refl _ _ | apply Zac | apply Zaa)); done) | ((repeat (first | (apply Zfz; simp; done) | apply Zaf)); done))); intro W_ hF_; obtain ⟨hB_, h0_⟩ := hF_; refine (have hL_ := HL3.out.below hB_; Zbe.calls 40 _ _ [x9, x9] 2 _ _ [0, 1] none 0 [] 0 0 _ _ rows9 0 [[0, 1], [3, 3]] W_ (Zfe [x9, x9] [_, _] (by decide) h0_ ⟨hL_.x, hL_.x, trivial⟩) (Nat.le_refl _) hL_.vars (Nat.le_refl _) (Kd.C_nil _ _) (Nat.le_refl _) hL_.rows (Nat.le_refl _) rows9_f).mono ?_; rintro e W4 ⟨v4, rfl, hS4, hb4⟩; have HL4 := Za.mk ((HL3.out.below hB_).below hb4); clear hge he0 he1 he2 he3 he4 he5 he6 hB_ h0_ hb4; obtain ⟨A4, c4, rfl, hcl4, hC4⟩ := Kd.S_reads hS4; have HC4 := Za.mk hC4; clear hS4 hC4)) | (go_at_call 22; go_loud (refine Zc5 (F := fun W => Below W4.heap.size W4 W ∧ W.heap[W4.heap.size]? = some (.cells #[.int .i64 0, .int .i64 1] 3 (0, 0)) ∧ W.heap[W4.heap.size + 1]? = some (.cells #[.int .i64 3, .int .i64 3] 3 (0, 0)) ∧ W.heap[W4.heap.size + 1 + 1]? = some (.cells #[.slice (some ⟨W4.heap.size, 0, none⟩) 2 2, .slice (some ⟨W4.heap.size + 1, 0, none⟩) 2 2] 23 (0, 0))) ?hF4 ?hG4; (case hF4 => refine ⟨?_, ?_, ?_, ?_⟩ <;> (first | ((repeat (first | exact Below.refl _ _ | apply Zac | apply Zaa)); done) | ((repeat (first | (apply Zfz; simp; done) | apply Zaf)); done))); intro W_ hF_; obtain ⟨hB_, h0_, h1_, h2_⟩ := hF_; refine (Zbo.calls 40 _ _ [[0, 1], [3, 3]] _ _ [[0, 1], [3, 3]] true W_ (Kd.Zaw HC4.out hB_) hcl4 (Zfe [[0, 1], [3, 3]] [_, _] (by decide) h2_ ⟨Zeh rfl (Nat.le_refl _) (Zds [0, 1] (by decide) h0_), Zeh rfl (Nat.le_refl _) (Zds [3, 3] (by decide) h1_), trivial⟩) (Nat.le_refl _) lists9).mono ?_; rintro e W5 ⟨rfl, hdr⟩; have HL5 := Za.mk ((HL4.out.below hB_).below hdr.below); clear hdr h0_ h1_ h2_ hB_)) | (go_at_call 24; go_loud (refine Zc5 (F := fun W => Below W5.heap.size W5 W ∧ W.heap[W5.heap.size]? = some (.cells #[.int .i64 2] 3 (0, 0)) ∧ W.heap[W5.heap.size + 1]? = some (.cells #[.int .i64 1, .int .i64 5] 3 (0, 0)) ∧ W.heap[W5.heap.size + 1 + 1]? = some (.cells #[.int .i64 1] 3 (0, 0)) ∧ W.heap[W5.heap.size + 1 + 1 + 1]? = some (.cells #[.int .i64 2] 3 (0, 0)) ∧ W.heap[W5.heap.size + 1 + 1 + 1 + 1]? = some (.cells #[.slice (some ⟨W5.heap.size, 0, none⟩) 1 1, .slice (some ⟨W5.heap.size + 1, 0, none⟩) 2 2, .slice (some ⟨W5.heap.size + 1 + 1, 0, none⟩) 1 1, .slice (some ⟨W5.heap.size + 1 + 1 + 1, 0, none⟩) 1 1] 23 (0, 0))) ?hF5 ?hG5; (case hF5 => refine ⟨?_, ?_, ?_, ?_, ?_, ?_⟩ <;> (first | ((repeat (first | exact Below.refl _ _ | apply Zac | apply Zaa)); done) | ((repeat (first | (apply Zfz; simp; done) | apply Zaf)); done))); intro W_ hF_; obtain ⟨hB_, h0_, h1_, h2_, h3_, h4_⟩ := hF_; refine (Zdd.calls _ _ [[2], [1, 5], [1], [2]] [[1], [1, 5], [2]] W_ (Zfe [[2], [1, 5], [1], [2]] [_, _, _, _] (by decide) h4_ ⟨Zeh rfl (Nat.le_refl _) (Zds [2] (by decide) h0_), Zeh rfl (Nat.le_refl _) (Zds [1, 5] (by decide) h1_), Zeh rfl (Nat.le_refl _) (Zds [1] (by decide) h2_), Zeh rfl (Nat.le_refl _) (Zds [2] (by decide) h3_), trivial⟩) (Nat.le_refl _) sorted9).mono ?_; rintro e W6 ⟨v6, rfl, hS6, hb6⟩; have HL6 := Za.mk ((HL5.out.below hB_).below hb6); clear h0_ h1_ h2_ h3_ h4_ hB_ hb6; obtain ⟨A6, c6, rfl, hcl6, hC6⟩ := Kd.S_reads hS6; have HC6 := Za.mk hC6; clear hS6 hC6)) | (go_at_call 22; go_loud (refine Zc5 (F := fun W => Below W6.heap.size W6 W ∧ W.heap[W6.heap.size]? = some (.cells #[.int .i64 1] 3 (0, 0)) ∧ W.heap[W6.heap.size + 1]? = some (.cells #[.int .i64 1, .int .i64 5] 3 (0, 0)) ∧ W.heap[W6.heap.size + 1 + 1]? = some (.cells #[.int .i64 2] 3 (0, 0)) ∧ W.heap[W6.heap.size + 1 + 1 + 1]? = some (.cells #[.slice (some ⟨W6.heap.size, 0, none⟩) 1 1, .slice (some ⟨W6.heap.size + 1, 0, none⟩) 2 2, .slice (some ⟨W6.heap.size + 1 + 1, 0, none⟩) 1 1] 23 (0, 0))) ?hF6 ?hG6; (case hF6 => refine ⟨?_, ?_, ?_, ?_, ?_⟩ <;> (first | ((repeat (first | exact Below.refl _ _ | apply Zac | apply Zaa)); done) | ((repeat (first | (apply Zfz; simp; done) | apply Zaf)); done))); intro W_ hF_; obtain ⟨hB_, h0_, h1_, h2_, h3_⟩ := hF_; refine (Zbo.calls 40 _ _ [[1], [1, 5], [2]] _ _ [[1], [1, 5], [2]] true W_ (Kd.Zaw HC6.out hB_) hcl6 (Zfe [[1], [1, 5], [2]] [_, _, _] (by decide) h3_ ⟨Zeh rfl (Nat.le_refl _) (Zds [1] (by decide) h0_), Zeh rfl (Nat.le_refl _) (Zds [1, 5] (by decide) h1_), Zeh rfl (Nat.le_refl _) (Zds [2] (by decide) h2_), trivial⟩) (Nat.le_refl _) lists9').mono ?_; rintro e W7 ⟨rfl, hdr⟩; have HL7 := Za.mk ((HL6.out.below hB_).below hdr.below); clear hdr h0_ h1_ h2_ h3_ hB_)))
  go_ret
  exact ⟨rfl, by repeat (first | exact HL7.out.1 | apply Zaa)⟩
def Zaz.f (_ : Nat) : Option Bool := some true
theorem Zaz.calls (k : Nat) (r : Bool) (w : World) (h : Zaz.f k = some r) : Calls Try.prog 15 #[] w fun e w' => e = .returned (.bool r) ∧ Below w.heap.size w w' := by
  obtain rfl := Option.some.inj h
  exact fixed9 w
end Go.Proofs.Ytpbcigilipdedaa.P
/- Plain: the values of ranges, at most so many of them (what dom.all goes over). -/
namespace Go.Proofs.Ytpbcigilipdedaa.P
open Go.RowKit Go.Proofs.YtpbcigilipdedaaW.PrintWords Go.Proofs.YtpbcigilipdedaaW.PrintLast Go.Proofs.YtpbcigilipdedaaW.PrintMore
set_option linter.unusedVariables false
set_option linter.unusedSimpArgs false
def upTo : Nat → Int → Int → List Int
  | 0, _, _ => []
  | r + 1, v, hi => if v ≤ hi then v :: upTo r (v + 1) hi else []
def allV : Nat → List S41 → List Int
  | _, [] => []
  | r, x :: ds => upTo r x.f0 x.f1 ++ allV (r - (upTo r x.f0 x.f1).length) ds
theorem upTo_yes {r : Nat} {v hi : Int} (hr : 0 < r) (h : v ≤ hi) : upTo r v hi = v :: upTo (r - 1) (v + 1) hi := by
  obtain ⟨r, rfl⟩ : ∃ m, r = m + 1 := ⟨r - 1, by omega⟩
  simp [upTo, h]
theorem upTo_no {r : Nat} {v hi : Int} (h : r = 0 ∨ ¬ v ≤ hi) : upTo r v hi = [] := by
  rcases h with rfl | h
  · rfl
  cases r with
  | zero => rfl
  | succ r => simp [upTo, h]
def niceD (d : List S41) : Bool := d.all fun x => decide (-1048576 ≤ x.f0 ∧ x.f0 ≤ 1048576 ∧ -1048576 ≤ x.f1 ∧ x.f1 ≤ 1048576)
theorem niceD_at {d : List S41} (h : niceD d = true) {k : Nat} (hk : k < d.length) : -1048576 ≤ (Zbu d k).f0 ∧ (Zbu d k).f0 ≤ 1048576 ∧ -1048576 ≤ (Zbu d k).f1 ∧ (Zbu d k).f1 ≤ 1048576 := by
  have := (List.all_eq_true.1 h) (d[k]) (List.getElem_mem hk)
  simp [Zbu, List.getD_eq_getElem?_getD, List.getElem?_eq_getElem hk]
  simpa using this
theorem drop_at {d : List S41} {k : Nat} (hk : k < d.length) : d.drop k = Zbu d k :: d.drop (k + 1) := by
  rw [List.drop_eq_getElem_cons hk]
  simp [Zbu, List.getD_eq_getElem?_getD, List.getElem?_eq_getElem hk]
end Go.Proofs.Ytpbcigilipdedaa.P
/- Plain: domains as lists of ranges. A domain is told by its values: two good lists of ranges with the same values are one. -/
namespace Go.Proofs.Ytpbcigilipdedaa.P
open Go.RowKit Go.Proofs.YtpbcigilipdedaaW.PrintWords Go.Proofs.YtpbcigilipdedaaW.PrintLast Go.Proofs.YtpbcigilipdedaaW.PrintMore
set_option linter.unusedVariables false
set_option linter.unusedSimpArgs false
abbrev Rg := S41
abbrev rg (d : List Rg) (i : Int) : Rg := Zbu d i
theorem Rg.ext' {x y : Rg} (h0 : x.f0 = y.f0) (h1 : x.f1 = y.f1) : x = y := by cases x; cases y; simp at *; exact ⟨h0, h1⟩
theorem rg_nat (d : List Rg) (n : Nat) (h : n < d.length) : rg d (n : Int) = d[n] := by simp [rg, Zbu, List.getD_eq_getElem?_getD, List.getElem?_eq_getElem h]
def Gd (V : Int) : Int → List Rg → Prop
  | _, [] => True
  | b, x :: d => b ≤ x.f0 ∧ x.f0 ≤ x.f1 ∧ x.f1 ≤ V ∧ Gd V (x.f1 + 2) d
def Va (d : List Rg) (v : Int) : Prop := ∃ x ∈ d, x.f0 ≤ v ∧ v ≤ x.f1
@[simp] theorem Va_nil (v : Int) : Va [] v ↔ False := by simp [Va]
@[simp] theorem Zcc (x : Rg) (d : List Rg) (v : Int) : Va (x :: d) v ↔ (x.f0 ≤ v ∧ v ≤ x.f1) ∨ Va d v := by simp [Va]
theorem Zdu (d e : List Rg) (v : Int) : Va (d ++ e) v ↔ Va d v ∨ Va e v := by
  induction d with
  | nil => simp
  | cons x d ih => simp [ih, or_assoc]
theorem Gd.mono {V b c : Int} {d : List Rg} (h : Gd V b d) (hc : c ≤ b) : Gd V c d := by
  cases d with
  | nil => trivial
  | cons x d => obtain ⟨h1, h2, h3, h4⟩ := h; exact ⟨by omega, h2, h3, h4⟩
theorem Gd.ge {V : Int} : ∀ {b : Int} {d : List Rg} {v : Int}, Gd V b d → Va d v → b ≤ v
  | _, [], _, _, h => absurd h (by simp)
  | b, x :: d, v, ⟨h1, h2, h3, h4⟩, h => by
    rcases (Zcc x d v).1 h with h | h
    · omega
    have := Gd.ge h4 h; omega
theorem Gd.le {V : Int} : ∀ {b : Int} {d : List Rg} {v : Int}, Gd V b d → Va d v → v ≤ V
  | _, [], _, _, h => absurd h (by simp)
  | b, x :: d, v, ⟨h1, h2, h3, h4⟩, h => by
    rcases (Zcc x d v).1 h with h | h
    · omega
    exact Gd.le h4 h
theorem Gd.ext {V : Int} : ∀ {b c : Int} {d e : List Rg}, Gd V b d → Gd V c e → (∀ v, Va d v ↔ Va e v) → d = e
  | _, _, [], [], _, _, _ => rfl
  | _, _, [], y :: e, _, ⟨_, h2, _, _⟩, h => absurd ((h y.f0).2 ((Zcc _ _ _).2 (.inl ⟨Int.le_refl _, h2⟩))) (by simp)
  | _, _, x :: d, [], ⟨_, h2, _, _⟩, _, h => absurd ((h x.f0).1 ((Zcc _ _ _).2 (.inl ⟨Int.le_refl _, h2⟩))) (by simp)
  | b, c, x :: d, y :: e, ⟨h1, h2, h3, h4⟩, ⟨k1, k2, k3, k4⟩, h => by
    have gx : ∀ v, Va (x :: d) v → x.f0 ≤ v := fun v hv => Gd.ge (V := V) (b := x.f0) (d := x :: d) ⟨Int.le_refl _, h2, h3, h4⟩ hv
    have gy : ∀ v, Va (y :: e) v → y.f0 ≤ v := fun v hv => Gd.ge (V := V) (b := y.f0) (d := y :: e) ⟨Int.le_refl _, k2, k3, k4⟩ hv
    have a1 := gy _ ((h x.f0).1 ((Zcc _ _ _).2 (.inl ⟨Int.le_refl _, h2⟩)))
    have a2 := gx _ ((h y.f0).2 ((Zcc _ _ _).2 (.inl ⟨Int.le_refl _, k2⟩)))
    have e0 : x.f0 = y.f0 := by omega
    have no1 : ¬ x.f1 < y.f1 := fun hlt => by
      have := (h (x.f1 + 1)).2 ((Zcc _ _ _).2 (.inl ⟨by omega, by omega⟩))
      rcases (Zcc _ _ _).1 this with h | h
      · omega
      have := Gd.ge h4 h; omega
    have no2 : ¬ y.f1 < x.f1 := fun hlt => by
      have := (h (y.f1 + 1)).1 ((Zcc _ _ _).2 (.inl ⟨by omega, by omega⟩))
      rcases (Zcc _ _ _).1 this with h | h
      · omega
      have := Gd.ge k4 h; omega
    have e1 : x.f1 = y.f1 := by omega
    obtain rfl := Rg.ext' e0 e1
    congr 1
    refine Gd.ext h4 k4 (fun v => ⟨fun hv => ?_, fun hv => ?_⟩)
    · have hg := Gd.ge h4 hv
      rcases (Zcc _ _ _).1 ((h v).1 ((Zcc _ _ _).2 (.inr hv))) with h | h
      · omega
      exact h
    have hg := Gd.ge k4 hv
    rcases (Zcc _ _ _).1 ((h v).2 ((Zcc _ _ _).2 (.inr hv))) with h | h
    · omega
    exact h
def endB (b : Int) (d : List Rg) : Int := (d.getLast?.map fun x => x.f1 + 2).getD b
theorem endB_snoc (b : Int) (d : List Rg) (x : Rg) : endB b (d ++ [x]) = x.f1 + 2 := by simp [endB]
theorem endB_cons (b : Int) (x : Rg) (d : List Rg) : endB b (x :: d) = endB (x.f1 + 2) d := by
  cases d with
  | nil => simp [endB]
  | cons y d => simp [endB, List.getLast?_cons]
theorem Gd_append (V : Int) : ∀ (b : Int) (d e : List Rg), Gd V b (d ++ e) ↔ Gd V b d ∧ Gd V (endB b d) e
  | b, [], e => by simp [Gd, endB]
  | b, x :: d, e => by
    rw [List.cons_append, Gd, Gd, Gd_append V (x.f1 + 2) d e, endB_cons]
    simp [and_assoc]
theorem Zfv {V b : Int} {d : List Rg} {x : Rg} : Gd V b (d ++ [x]) ↔ Gd V b d ∧ endB b d ≤ x.f0 ∧ x.f0 ≤ x.f1 ∧ x.f1 ≤ V := by
  rw [Gd_append]
  simp [Gd]
theorem Gd.lt_end {V : Int} : ∀ {b : Int} {d : List Rg} {v : Int}, Gd V b d → Va d v → v + 2 ≤ endB b d
  | _, [], _, _, h => absurd h (by simp)
  | b, x :: d, v, ⟨h1, h2, h3, h4⟩, h => by
    rw [endB_cons]
    have h5 : x.f1 + 2 ≤ endB (x.f1 + 2) d := by
      cases d with
      | nil => simp [endB]
      | cons y d =>
        obtain ⟨k1, k2, k3, k4⟩ := h4
        have := Gd.lt_end (V := V) (b := x.f1 + 2) (d := y :: d) (v := y.f1) ⟨k1, k2, k3, k4⟩ ((Zcc _ _ _).2 (.inl ⟨k2, Int.le_refl _⟩))
        omega
    rcases (Zcc _ _ _).1 h with h | h
    · omega
    exact Gd.lt_end h4 h
def vals : List Rg → List Int
  | [] => []
  | x :: d => upTo (x.f1 + 1 - x.f0).toNat x.f0 x.f1 ++ vals d
theorem Zeg : ∀ (r : Nat) (v hi z : Int), z ∈ upTo r v hi ↔ v ≤ z ∧ z ≤ hi ∧ z < v + r
  | 0, v, hi, z => by simp [upTo]; omega
  | r + 1, v, hi, z => by
    unfold upTo
    split
    · rw [List.mem_cons, Zeg r (v + 1) hi z]
      omega
    simp
    omega
theorem upTo_ss : ∀ (r : Nat) (v hi : Int), SS (upTo r v hi)
  | 0, v, hi => by simp [upTo]
  | r + 1, v, hi => by
    unfold upTo
    split
    · refine List.pairwise_cons.2 ⟨fun z hz => ?_, upTo_ss r (v + 1) hi⟩
      have := (Zeg r (v + 1) hi z).1 hz
      omega
    exact List.Pairwise.nil
theorem Zft : ∀ (r : Nat) (v hi : Int), ((upTo r v hi).length : Int) = min (r : Int) (max 0 (hi + 1 - v))
  | 0, v, hi => by simp [upTo]; omega
  | r + 1, v, hi => by
    unfold upTo
    split
    · have := Zft r (v + 1) hi
      simp
      omega
    simp
    omega
theorem Zdf (z : Int) : ∀ d, z ∈ vals d ↔ Va d z
  | [] => by simp [vals]
  | x :: d => by
    rw [vals, List.mem_append, Zdf z d, Zcc, Zeg]
    have : (x.f0 ≤ z ∧ z ≤ x.f1 ∧ z < x.f0 + ((x.f1 + 1 - x.f0).toNat : Int)) ↔ (x.f0 ≤ z ∧ z ≤ x.f1) := by omega
    rw [this]
theorem vals_ss {V : Int} : ∀ {b : Int} {d : List Rg}, Gd V b d → SS (vals d)
  | _, [], _ => List.Pairwise.nil
  | b, x :: d, ⟨h1, h2, h3, h4⟩ => by
    rw [vals]
    refine List.pairwise_append.2 ⟨upTo_ss _ _ _, vals_ss h4, fun y hy z hz => ?_⟩
    have := (Zeg _ _ _ _).1 hy
    have := Gd.ge h4 ((Zdf z d).1 hz)
    omega
theorem Zdc {V b : Int} {d : List Rg} (h : Gd V b d) : ((vals d).length : Int) ≤ max 0 (V + 1 - b) :=
  ss_length (vals_ss h) (fun x hx => ⟨Gd.ge h ((Zdf x d).1 hx), Gd.le h ((Zdf x d).1 hx)⟩)
theorem Zcu {V : Int} : ∀ {b : Int} {d : List Rg}, Gd V b d → d.length ≤ (vals d).length
  | _, [], _ => by simp
  | b, x :: d, ⟨h1, h2, h3, h4⟩ => by
    have h5 := Zcu h4
    have h6 := Zft (x.f1 + 1 - x.f0).toNat x.f0 x.f1
    rw [vals]
    simp
    omega
def pack : List Int → List Rg
  | [] => []
  | x :: l => match pack l with
    | [] => [⟨x, x⟩]
    | r :: rs => if r.f0 = x + 1 then ⟨x, r.f1⟩ :: rs else ⟨x, x⟩ :: r :: rs
theorem Zc8 {V : Int} : ∀ {b : Int} {l : List Int}, SS l → (∀ x ∈ l, b ≤ x ∧ x ≤ V) → Gd V b (pack l) ∧ ∀ v, Va (pack l) v ↔ v ∈ l
  | b, [], _, _ => ⟨trivial, fun v => by simp [pack]⟩
  | b, x :: l, h, hb => by
    obtain ⟨hx, hl⟩ := List.pairwise_cons.1 h
    obtain ⟨g, m⟩ := Zc8 (V := V) (b := x + 1) hl (fun y hy => ⟨by have := hx y hy; omega, (hb y (List.mem_cons_of_mem _ hy)).2⟩)
    obtain ⟨b1, b2⟩ := hb x List.mem_cons_self
    unfold pack
    cases hp : pack l with
    | nil =>
      rw [hp] at m
      refine ⟨⟨b1, Int.le_refl _, b2, trivial⟩, fun v => ?_⟩
      have := m v
      simp at this
      simp [this]
      omega
    | cons r rs =>
      rw [hp] at g m
      obtain ⟨g1, g2, g3, g4⟩ := g
      dsimp only
      split
      · rename_i e
        refine ⟨⟨b1, by show x ≤ r.f1; omega, g3, g4⟩, fun v => ?_⟩
        have := m v
        rw [List.mem_cons, ← this, Zcc, Zcc]
        dsimp only
        constructor
        · rintro (h | h)
          · by_cases e2 : v = x
            · exact .inl e2
            exact .inr (.inl ⟨by omega, h.2⟩)
          exact .inr (.inr h)
        rintro (h | h | h)
        · exact .inl ⟨by omega, by omega⟩
        · exact .inl ⟨by omega, h.2⟩
        exact .inr h
      rename_i e
      refine ⟨⟨b1, Int.le_refl _, b2, by show x + 2 ≤ r.f0; omega, g2, g3, g4⟩, fun v => ?_⟩
      have := m v
      rw [List.mem_cons, ← this, Zcc]
      dsimp only
      constructor
      · rintro (h | h)
        · exact .inl (by omega)
        exact .inr h
      rintro (h | h)
      · exact .inl ⟨by omega, by omega⟩
      exact .inr h
theorem pack_eq {V b : Int} {d : List Rg} {l : List Int} (hd : Gd V b d) (hl : SS l) (h : ∀ v, Va d v ↔ v ∈ l) : d = pack l := by
  obtain ⟨g, m⟩ := Zc8 (V := V) (b := b) hl (fun x hx => ⟨Gd.ge hd ((h x).2 hx), Gd.le hd ((h x).2 hx)⟩)
  exact Gd.ext hd g (fun v => (h v).trans (m v).symm)
theorem vals_pack {l : List Int} (hl : SS l) : vals (pack l) = l := by
  have hb : ∃ b V : Int, ∀ x ∈ l, b ≤ x ∧ x ≤ V := by
    clear hl
    induction l with
    | nil => exact ⟨0, 0, fun x hx => by simp at hx⟩
    | cons y l ih =>
      obtain ⟨b, V, ih⟩ := ih
      refine ⟨min b y, max V y, fun x hx => ?_⟩
      rcases List.mem_cons.1 hx with rfl | hx
      · omega
      have := ih x hx; omega
  obtain ⟨b, V, hb⟩ := hb
  obtain ⟨g, m⟩ := Zc8 (V := V) (b := b) hl hb
  exact SS.ext (vals_ss g) hl (fun x => (Zdf x _).trans (m x))
theorem upTo_enough {r : Nat} {v hi : Int} (h : hi + 1 - v ≤ r) : upTo r v hi = upTo (hi + 1 - v).toNat v hi :=
  SS.ext (upTo_ss _ _ _) (upTo_ss _ _ _) (fun z => by rw [Zeg, Zeg]; omega)
end Go.Proofs.Ytpbcigilipdedaa.P
namespace Go.Proofs.Ytpbcigilipdedaa.P
open Go.RowKit Go.Proofs.YtpbcigilipdedaaW.PrintWords Go.Proofs.YtpbcigilipdedaaW.PrintLast Go.Proofs.YtpbcigilipdedaaW.PrintMore
attribute [local go_sem] Zcg Zci Zcr Zcs Zb7 Zb8 Zch Zcj
set_option linter.unusedVariables false
set_option linter.unusedSimpArgs false
def Zbc.l0 : Nat → List Int → Int → Int → Option (Bool)
 | 0, _, _, _ => none
 | k + 1, x0, x1, x5 => if x5 < (x0.length : Int) then (if 0 ≤ x5 then (if (rd x0 x5) = x1 then (some true) else (Zbc.l0 k x0 x1 (wrap64 (x5 + 1)))) else (none)) else (some false)
def Zbc.f (k : Nat) (l0 : List Int) (a1 : Int) : Option (Bool) := Zbc.l0 k l0 a1 0
set_option maxHeartbeats 8000000 in
set_option maxRecDepth 100000 in
theorem Zbc.calls (k : Nat) (A0 : Option Addr) (c0 : Nat) (l0 : List Int) (a1 : Int) (r : Bool) (w : World) (hr0 : Kd.C (Kd.int .i64) w A0 l0.length l0) (hc0 : l0.length ≤ c0) (h : Zbc.f k l0 a1 = some r) :
  Calls Try.prog 31 #[.slice A0 l0.length c0, .int .i64 a1] w fun e w' => e = .returned (.bool r) ∧ Zb w w' := by
 have HR0 := Za.mk hr0
 have HC0 := Za.mk hc0
 clear hr0 hc0
 have H : (Zbc.l0 k l0 a1 0) = some r := h
 clear h
 have H' := Za.mk H
 clear H
 go_enter Try.func31, Try.ntmps31
 go_wp2
 go_loopg [5] k (fun kq v5 w' => ∃ (x5_1 : Int), v5 = .int .i64 x5_1 ∧ Za (Zbc.l0 kq l0 a1 x5_1 = some r) ∧ Za (kq ≤ k) ∧ Zb w w')
 case atStart => exact ⟨(0), (by first | rfl | (simp; done) | (simp [*]; done)), H', ⟨Nat.le_refl _⟩, by repeat (first | exact Zb.refl _ | apply Zb.step)⟩
 case round =>
  clear H'
  try clear p2
  obtain ⟨x5_1, rfl, HA, HK1, ⟨m1, rfl⟩⟩ := hrel
  cases gk with
  | zero => exact absurd HA.out (by simp [Zbc.l0])
  | succ k1 =>
   have H := HA.out
   clear HA
   simp only [Zbc.l0] at H
   by_cases c3 : x5_1 < (l0.length : Int)
   rotate_left
   ·rw [if_neg c3] at H
    have c3b0 : decide (x5_1 < (l0.length : Int)) = false := decide_eq_false c3
    clear c3
    obtain rfl := Option.some.inj H
    go_wp2
    go_ret
    exact ⟨by first | rfl | (simp; done) | (simp [*]; done), by repeat (first | exact Zb.refl _ | apply Zb.step)⟩
   rw [if_pos c3] at H
   have c3b0 : decide (x5_1 < (l0.length : Int)) = true := decide_eq_true c3
   clear c3
   by_cases c4 : 0 ≤ x5_1
   rotate_left
   ·rw [if_neg c4] at H
    exact absurd H (by simp)
   rw [if_pos c4] at H
   have c4b0 : decide (0 ≤ x5_1) = true := decide_eq_true c4
   clear c4
   by_cases c5 : (rd l0 x5_1) = a1
   ·rw [if_pos c5] at H
    have c5b0 : ((rd l0 x5_1) == a1) = true := beq_iff_eq.mpr c5
    have c5b1 : ((rd l0 x5_1) != a1) = false := bne_eq_false_iff_eq.mpr c5
    clear c5
    obtain rfl := Option.some.inj H
    have p131 : 0 ≤ (x5_1 : Int) := of_decide_eq_true (by first | (with_reducible assumption) | assumption)
    have q131 : x5_1 < (l0.length : Int) := of_decide_eq_true (by first | (with_reducible assumption) | assumption)
    obtain ⟨ad131, e131, hx131_0⟩ := Kd.Zby HR0.out x5_1 p131 q131
    cases e131
    replace p131 := eq_true p131
    replace q131 := eq_true q131
    go_wp2
    go_ret
    exact ⟨by first | rfl | (simp; done) | (simp [*]; done), by repeat (first | exact Zb.refl _ | apply Zb.step)⟩
   rw [if_neg c5] at H
   have c5b0 : ((rd l0 x5_1) == a1) = false := beq_eq_false_iff_ne.mpr c5
   have c5b1 : ((rd l0 x5_1) != a1) = true := bne_iff_ne.mpr c5
   have H' := Za.mk H
   clear H
   have p131 : 0 ≤ (x5_1 : Int) := of_decide_eq_true (by first | (with_reducible assumption) | assumption)
   have q131 : x5_1 < (l0.length : Int) := of_decide_eq_true (by first | (with_reducible assumption) | assumption)
   obtain ⟨ad131, e131, hx131_0⟩ := Kd.Zby HR0.out x5_1 p131 q131
   cases e131
   replace p131 := eq_true p131
   replace q131 := eq_true q131
   go_wp2
   go_roundg k1
   case measure => have := HK1.out; omega
   case rel => exact ⟨(wrap64 (x5_1 + 1)), (by first | rfl | (simp; done) | (simp [*]; done)), H', ⟨by have := HK1.out; omega⟩, by repeat (first | exact Zb.refl _ | apply Zb.step)⟩
end Go.Proofs.Ytpbcigilipdedaa.P
/- The document's comparisons of lists of numbers. -/
namespace Go.Proofs.Ytpbcigilipdedaa.P
open Go.RowKit Go.Proofs.YtpbcigilipdedaaW.PrintWords Go.Proofs.YtpbcigilipdedaaW.PrintLast Go.Proofs.YtpbcigilipdedaaW.PrintMore
set_option linter.unusedVariables false
set_option linter.unusedSimpArgs false
theorem drop_nil' {α : Type} {l : List α} {n : Nat} (h : n + 0 = l.length) : l.drop n = [] := List.drop_eq_nil_iff.2 (by omega)
theorem ref_Has_l (l : List Int) (v : Int) (hl : l.length < 4611686018427387904) : ∀ (m n : Nat), n + m = l.length → Ev (fun k => Zbc.l0 k l v (n : Int)) (decide (v ∈ l.drop n)) := by
  intro m
  induction m with
  | zero =>
    intro n h
    rw [drop_nil' h]
    exact Ev.step (G := fun _ => some false) (fun k => by rw [Zbc.l0, if_neg (by omega)]) (Ev.const (by simp))
  | succ m ih =>
    intro n h
    have hn : n < l.length := by omega
    have hm : v ∈ l.drop n ↔ v = l[n] ∨ v ∈ l.drop (n + 1) := by rw [List.drop_eq_getElem_cons hn, List.mem_cons]
    by_cases e : l[n] = v
    · exact Ev.step (G := fun _ => some true) (fun k => by rw [Zbc.l0, if_pos (by omega), if_pos (by omega), Zcd l n hn, if_pos e]) (Ev.const (by rw [decide_eq_true (hm.2 (.inl e.symm))]))
    have e2 : decide (v ∈ l.drop n) = decide (v ∈ l.drop (n + 1)) := decide_eq_decide.2 (hm.trans ⟨fun h => h.elim (fun h => absurd h.symm e) id, .inr⟩)
    rw [e2]
    exact Ev.step (fun k => by rw [Zbc.l0, if_pos (by omega), if_pos (by omega), Zcd l n hn, if_neg e, w1 (by omega)]) (ih (n + 1) (by omega))
theorem ref_Has (l : List Int) (v : Int) (hl : l.length < 4611686018427387904) : Ev (fun k => Zbc.f k l v) (decide (v ∈ l)) := ref_Has_l l v hl l.length 0 (by omega)
end Go.Proofs.Ytpbcigilipdedaa.P
namespace Go.Proofs.Ytpbcigilipdedaa.P
open Go.RowKit Go.Proofs.YtpbcigilipdedaaW.PrintWords Go.Proofs.YtpbcigilipdedaaW.PrintLast Go.Proofs.YtpbcigilipdedaaW.PrintMore
attribute [local go_sem] Zcg Zci Zcr Zcs Zb7 Zb8 Zch Zcj
set_option linter.unusedVariables false
set_option linter.unusedSimpArgs false
mutual
def Zas.l0 : Nat → List (S41) → List Int → Int → Option (List Int)
 | 0, _, _, _ => none
 | k + 1, x0, x3, x4 => if x4 < (x0.length : Int) then (if 0 ≤ x4 then (Zas.l1 k x0 x3 x4 ((Zbu x0 x4).f0)) else (none)) else (some x3)
def Zas.l1 : Nat → List (S41) → List Int → Int → Int → Option (List Int)
 | 0, _, _, _, _ => none
 | k + 1, x0, x3, x4, x5 => if 0 ≤ x4 then (if x4 < (x0.length : Int) then (if x5 ≤ ((Zbu x0 x4).f1) then (if x3.length < 17592186044416 then (Zas.l1 k x0 (x3 ++ [x5]) x4 (wrap64 (x5 + 1))) else (none)) else (Zas.l0 k x0 x3 (wrap64 (x4 + 1)))) else (none)) else (none)
end
def Zas.f (k : Nat) (l0 : List (S41)) : Option (List Int) := Zas.l0 k l0 (([] : List Int)) 0
set_option maxHeartbeats 8000000 in
set_option maxRecDepth 100000 in
theorem Zas.calls (k : Nat) (A0 : Option Addr) (c0 : Nat) (l0 : List (S41)) (r : List Int) (w : World) (hr0 : Kd.C k41 w A0 l0.length l0) (hc0 : l0.length ≤ c0) (h : Zas.f k l0 = some r) :
  Calls Try.prog 29 #[.slice A0 l0.length c0] w fun e w' => ∃ v0_ : Value, e = .returned (v0_) ∧ Kd.R (Kd.int .i64) 3 w' w.heap.size (fun _ => True) v0_ r ∧ Below w.heap.size w w' := by
 have HR0 := Za.mk hr0
 have HC0 := Za.mk hc0
 clear hr0 hc0
 have HB := Za.mk (Below.refl w.heap.size w)
 have H : (Zas.l0 k l0 (([] : List Int)) 0) = some r := h
 clear h
 obtain ⟨y399, hy399⟩ : ∃ y_ : List Int, y_ = (([] : List Int)) := ⟨_, rfl⟩
 replace H : (Zas.l0 k l0 y399 0) = some r := by first | (rw [hy399]; with_reducible exact H) | (have H2_ := (Option.bind_some _ _).symm.trans H; rw [hy399]; with_reducible exact H2_) | (have H2_ := (Option.bind_some _ _).symm.trans H; with_reducible exact H2_) | with_reducible exact H | (rw [hy399]; exact H) | exact H
 have Ny399 := Za.mk hy399
 clear hy399
 have H' := Za.mk H
 clear H
 go_enter Try.func29, Try.ntmps29
 go_wp2_with (first | ((with_reducible refine Zbv (N := 6) rfl ?_); refine Kd.Zdt (Kd.int .i64) _ 3 ?hg (N := 6) ?hd (xs := ([] : List Int)) (inner := []) (ok := fun _ => True) (okp := fun _ => True) ?hr ?hp (fun _ hk => hk) trivial (Below.refl _ _) (Nat.le_refl _) (by simp) ?_; (case hd => rfl); (case hg => rfl); (case hr => first | (go_simp; done) | (go_simp; rfl)); (case hp => exact (Reps.none _ _)); intro v400 w2 ho3 hb hg_ hnew_; clear hg_ hnew_; (first | rw [← Ny399.out] at ho3 | (simp only [Int.reduceToNat] at ho3; rw [← Ny399.out] at ho3)); have n0_ := Za.mk (Kd.Zbz ho3 (Zam (by repeat (first | (with_reducible first | exact HB.out | apply Zac | apply Zaa | apply Zab) | exact HB.out)))); have n1_ := Za.mk (Zan (by repeat (first | (with_reducible first | exact HB.out | apply Zac | apply Zaa | apply Zab) | exact HB.out)) hb); clear HB; have HO401 := n0_; have HB := n1_; clear n0_ n1_; clear hb ho3))
 go_loopg [3, 4] k (fun kq v3 v4 w' => ∃ (x3_1 : List Int) (x4_1 : Int), v4 = .int .i64 x4_1 ∧ Za (Zas.l0 kq l0 x3_1 x4_1 = some r) ∧ Za (kq ≤ k) ∧ Za (Kd.R (Kd.int .i64) 3 w' w.heap.size (fun _ => True) v3 x3_1) ∧ Za (Below w.heap.size w w'))
 case atStart => exact ⟨(y399), (0), (by first | rfl | (simp; done) | (simp [*]; done)), H', ⟨Nat.le_refl _⟩, ⟨by (with_reducible repeat (first | apply Kd.R_alloc | apply Kd.Zbh | apply Kd.Zbl)); exact HO401.out⟩, ⟨by repeat (first | (with_reducible first | exact HB.out | apply Zac | apply Zaa | apply Zab) | exact HB.out)⟩⟩
 case round =>
  clear H'
  try clear c2
  try clear p2
  obtain ⟨x3_1, x4_1, rfl, HA, HK1, HO_3, HB⟩ := hrel
  cases gk with
  | zero => exact absurd HA.out (by simp [Zas.l0])
  | succ k1 =>
   have H := HA.out
   clear HA
   simp only [Zas.l0] at H
   by_cases c4 : x4_1 < (l0.length : Int)
   rotate_left
   ·rw [if_neg c4] at H
    have c4b0 : decide (x4_1 < (l0.length : Int)) = false := decide_eq_false c4
    clear c4
    obtain rfl := Option.some.inj H
    go_wp2
    go_ret
    exact ⟨_, by first | rfl | (simp [Zaq, Zar] <;> rfl) | (simp [*, Zaq, Zar] <;> rfl), by (with_reducible repeat (first | apply Kd.R_alloc | apply Kd.Zbh | apply Kd.Zbl)); exact HO_3.out, by repeat (first | (with_reducible first | exact HB.out | apply Zac | apply Zaa | apply Zab) | exact HB.out)⟩
   rw [if_pos c4] at H
   have c4b0 : decide (x4_1 < (l0.length : Int)) = true := decide_eq_true c4
   clear c4
   by_cases c5 : 0 ≤ x4_1
   rotate_left
   ·rw [if_neg c5] at H
    exact absurd H (by simp)
   rw [if_pos c5] at H
   have c5b0 : decide (0 ≤ x4_1) = true := decide_eq_true c5
   clear c5
   have H' := Za.mk H
   clear H
   have p402 : 0 ≤ (x4_1 : Int) := of_decide_eq_true (by first | (with_reducible assumption) | assumption)
   have q402 : x4_1 < (l0.length : Int) := of_decide_eq_true (by first | (with_reducible assumption) | assumption)
   obtain ⟨ad402, e402, hx402_0, hx402_1⟩ := Zdv HR0.out x4_1 p402 q402
   cases e402
   replace hx402_0 := (HB.out.cell (World.block_lt_of_cell? w _ hx402_0)).trans hx402_0
   replace hx402_1 := (HB.out.cell (World.block_lt_of_cell? w _ hx402_1)).trans hx402_1
   replace p402 := eq_true p402
   replace q402 := eq_true q402
   go_wp2
   go_loopg [3, 5] k1 (fun kq v3 v5 w' => ∃ (x3_2 : List Int) (x5_2 : Int), v5 = .int .i64 x5_2 ∧ Za (Zas.l1 kq l0 x3_2 x4_1 x5_2 = some r) ∧ Za (kq ≤ k1) ∧ Za (Kd.R (Kd.int .i64) 3 w' w.heap.size (fun _ => True) v3 x3_2) ∧ Za (Below w.heap.size w w'))
   case atStart => exact ⟨(x3_1), ((Zbu l0 x4_1).f0), (by first | rfl | (simp; done) | (simp [*]; done)), H', ⟨Nat.le_refl _⟩, ⟨by (with_reducible repeat (first | apply Kd.R_alloc | apply Kd.Zbh | apply Kd.Zbl)); exact HO_3.out⟩, ⟨by repeat (first | (with_reducible first | exact HB.out | apply Zac | apply Zaa | apply Zab) | exact HB.out)⟩⟩
   case round =>
    clear H'
    try clear c2
    try clear p2
    try clear c4
    try clear c4b0
    try clear p4
    try clear q4
    try clear hx4
    try clear c5
    try clear c5b0
    try clear hx402_0
    try clear hx402_1
    try clear p2
    try clear p402
    try clear q402
    obtain ⟨x3_2, x5_2, rfl, HA, HK2, HO_3, HB⟩ := hrel
    cases gk with
    | zero => exact absurd HA.out (by simp [Zas.l1])
    | succ k2 =>
     have H := HA.out
     clear HA
     simp only [Zas.l1] at H
     by_cases c6 : 0 ≤ x4_1
     rotate_left
     ·rw [if_neg c6] at H
      exact absurd H (by simp)
     rw [if_pos c6] at H
     have c6b0 : decide (0 ≤ x4_1) = true := decide_eq_true c6
     clear c6
     by_cases c7 : x4_1 < (l0.length : Int)
     rotate_left
     ·rw [if_neg c7] at H
      exact absurd H (by simp)
     rw [if_pos c7] at H
     have c7b0 : decide (x4_1 < (l0.length : Int)) = true := decide_eq_true c7
     clear c7
     by_cases c8 : x5_2 ≤ ((Zbu l0 x4_1).f1)
     rotate_left
     ·rw [if_neg c8] at H
      have c8b0 : decide (x5_2 ≤ ((Zbu l0 x4_1).f1)) = false := decide_eq_false c8
      clear c8
      have H' := Za.mk H
      clear H
      have p403 : 0 ≤ (x4_1 : Int) := of_decide_eq_true (by first | (with_reducible assumption) | assumption)
      have q403 : x4_1 < (l0.length : Int) := of_decide_eq_true (by first | (with_reducible assumption) | assumption)
      obtain ⟨ad403, e403, hx403_0, hx403_1⟩ := Zdv HR0.out x4_1 p403 q403
      obtain rfl : ad402 = ad403 := (by injection e403)
      replace hx403_0 := (HB.out.cell (World.block_lt_of_cell? w _ hx403_0)).trans hx403_0
      replace hx403_1 := (HB.out.cell (World.block_lt_of_cell? w _ hx403_1)).trans hx403_1
      replace p403 := eq_true p403
      replace q403 := eq_true q403
      go_wp2
      go_roundg k2
      case measure => have := HK1.out; have := HK2.out; omega
      case rel => exact ⟨(x3_2), (wrap64 (x4_1 + 1)), (by first | rfl | (simp; done) | (simp [*]; done)), H', ⟨by have := HK1.out; have := HK2.out; omega⟩, ⟨by (with_reducible repeat (first | apply Kd.R_alloc | apply Kd.Zbh | apply Kd.Zbl)); exact HO_3.out⟩, ⟨by repeat (first | (with_reducible first | exact HB.out | apply Zac | apply Zaa | apply Zab) | exact HB.out)⟩⟩
     rw [if_pos c8] at H
     have c8b0 : decide (x5_2 ≤ ((Zbu l0 x4_1).f1)) = true := decide_eq_true c8
     clear c8
     by_cases c9 : x3_2.length < 17592186044416
     rotate_left
     ·rw [if_neg c9] at H
      exact absurd H (by simp)
     rw [if_pos c9] at H
     have LMc9 := Za.mk c9
     clear c9
     obtain ⟨y404, hy404⟩ : ∃ y_ : List Int, y_ = (x3_2 ++ [x5_2]) := ⟨_, rfl⟩
     replace H : (Zas.l1 k2 l0 y404 x4_1 (wrap64 (x5_2 + 1))) = some r := by first | (rw [hy404]; with_reducible exact H) | (have H2_ := (Option.bind_some _ _).symm.trans H; rw [hy404]; with_reducible exact H2_) | (have H2_ := (Option.bind_some _ _).symm.trans H; with_reducible exact H2_) | with_reducible exact H | (rw [hy404]; exact H) | exact H
     have Ny404 := Za.mk hy404
     clear hy404
     have H' := Za.mk H
     clear H
     have p403 : 0 ≤ (x4_1 : Int) := of_decide_eq_true (by first | (with_reducible assumption) | assumption)
     have q403 : x4_1 < (l0.length : Int) := of_decide_eq_true (by first | (with_reducible assumption) | assumption)
     obtain ⟨ad403, e403, hx403_0, hx403_1⟩ := Zdv HR0.out x4_1 p403 q403
     obtain rfl : ad402 = ad403 := (by injection e403)
     replace hx403_0 := (HB.out.cell (World.block_lt_of_cell? w _ hx403_0)).trans hx403_0
     replace hx403_1 := (HB.out.cell (World.block_lt_of_cell? w _ hx403_1)).trans hx403_1
     replace p403 := eq_true p403
     replace q403 := eq_true q403
     go_wp2_with (first | ((with_reducible refine Zbg (b := .append) (xs := #[.tmp 27, .tmp 29]) rfl ?_); at_builtin; refine Kd.Zb9 (Kd.int .i64) (w0 := w) w.heap.size rfl (.tmp 27) (.tmp 29) 23 3 (.int .i64 0) 8 rfl Try.underlying23 info3 rfl (by decide) (by omega) u3 x3_2 x5_2 [.int .i64 x5_2] (fun _ => True) (fun _ => False) rfl rfl ?aP (fun _ hk => hk.elim) ?aF ?aO ?aB ?aS ?aL ?_; (case aP => exact rfl); (case aB => exact (by repeat (first | (with_reducible first | exact HB.out | apply Zac | apply Zaa | apply Zab) | exact HB.out))); (case aF => exact (fun _ _ => trivial)); (case aO => exact (by (with_reducible repeat (first | apply Kd.R_alloc | apply Kd.Zbh | apply Kd.Zbl)); exact HO_3.out)); (case aS => exact (Zam (by repeat (first | (with_reducible first | exact HB.out | apply Zac | apply Zaa | apply Zab) | exact HB.out)))); (case aL => have := LMc9.out; omega); intro v405 w10 ho hb hg hat; rw [← Ny404.out] at ho; have n0_ := Za.mk (hb); have n1_ := Za.mk (ho); clear HB; clear HO_3; have HB := n0_; have HO406 := n1_; clear n0_ n1_; clear ho hb hg hat))
     go_roundg k2
     case measure => have := HK1.out; have := HK2.out; omega
     case rel => exact ⟨(y404), (wrap64 (x5_2 + 1)), (by first | rfl | (simp; done) | (simp [*]; done)), H', ⟨by have := HK1.out; have := HK2.out; omega⟩, ⟨by (with_reducible repeat (first | apply Kd.R_alloc | apply Kd.Zbh | apply Kd.Zbl)); exact HO406.out⟩, ⟨by repeat (first | (with_reducible first | exact HB.out | apply Zac | apply Zaa | apply Zab) | exact HB.out)⟩⟩
mutual
def Zai.l0 : Nat → List Int → List Int → Int → Option (List Int)
 | 0, _, _, _ => none
 | k + 1, x0, x3, x4 => if x4 < (x0.length : Int) then (if 0 ≤ x4 then ((Zbc.f k x3 (rd x0 x4)).bind fun t139 => (Zai.l1 k x0 x3 x4 (([] : List Int)) t139 0)) else (none)) else (some x3)
def Zai.l1 : Nat → List Int → List Int → Int → List Int → Bool → Int → Option (List Int)
 | 0, _, _, _, _, _, _ => none
 | k + 1, x0, x3, x4, x5, x6, x7 => if x7 < (x3.length : Int) then (if x6 = true then (if 0 ≤ x7 then (if x5.length < 17592186044416 then (Zai.l1 k x0 x3 x4 (x5 ++ [rd x3 x7]) x6 (wrap64 (x7 + 1))) else (none)) else (none)) else (if 0 ≤ x4 then (if x4 < (x0.length : Int) then (if 0 ≤ x7 then (if (rd x0 x4) < (rd x3 x7) then (if x5.length < 17592186044416 then ((some (x5 ++ [rd x0 x4] : List Int)).bind fun y147 => (if y147.length < 17592186044416 then (Zai.l1 k x0 x3 x4 (y147 ++ [rd x3 x7]) true (wrap64 (x7 + 1))) else (none))) else (none)) else (if x5.length < 17592186044416 then (Zai.l1 k x0 x3 x4 (x5 ++ [rd x3 x7]) x6 (wrap64 (x7 + 1))) else (none))) else (none)) else (none)) else (none))) else (if x6 = true then (Zai.l0 k x0 x5 (wrap64 (x4 + 1))) else (if 0 ≤ x4 then (if x4 < (x0.length : Int) then (if x5.length < 17592186044416 then (Zai.l0 k x0 (x5 ++ [rd x0 x4]) (wrap64 (x4 + 1))) else (none)) else (none)) else (none)))
end
def Zai.f (k : Nat) (l0 : List Int) : Option (List Int) := Zai.l0 k l0 (([] : List Int)) 0
set_option maxHeartbeats 8000000 in
set_option maxRecDepth 100000 in
theorem Zai.calls (k : Nat) (A0 : Option Addr) (c0 : Nat) (l0 : List Int) (r : List Int) (w : World) (hr0 : Kd.C (Kd.int .i64) w A0 l0.length l0) (hc0 : l0.length ≤ c0) (h : Zai.f k l0 = some r) :
  Calls Try.prog 38 #[.slice A0 l0.length c0] w fun e w' => ∃ v0_ : Value, e = .returned (v0_) ∧ Kd.R (Kd.int .i64) 3 w' w.heap.size (fun _ => True) v0_ r ∧ Below w.heap.size w w' := by
 have HR0 := Za.mk hr0
 have HC0 := Za.mk hc0
 clear hr0 hc0
 have HB := Za.mk (Below.refl w.heap.size w)
 have H : (Zai.l0 k l0 (([] : List Int)) 0) = some r := h
 clear h
 obtain ⟨y132, hy132⟩ : ∃ y_ : List Int, y_ = (([] : List Int)) := ⟨_, rfl⟩
 replace H : (Zai.l0 k l0 y132 0) = some r := by first | (rw [hy132]; with_reducible exact H) | (have H2_ := (Option.bind_some _ _).symm.trans H; rw [hy132]; with_reducible exact H2_) | (have H2_ := (Option.bind_some _ _).symm.trans H; with_reducible exact H2_) | with_reducible exact H | (rw [hy132]; exact H) | exact H
 have Ny132 := Za.mk hy132
 clear hy132
 have H' := Za.mk H
 clear H
 go_enter Try.func38, Try.ntmps38
 go_wp2_with (first | ((with_reducible refine Zbv (N := 8) rfl ?_); refine Kd.Zdt (Kd.int .i64) _ 3 ?hg (N := 8) ?hd (xs := ([] : List Int)) (inner := []) (ok := fun _ => True) (okp := fun _ => True) ?hr ?hp (fun _ hk => hk) trivial (Below.refl _ _) (Nat.le_refl _) (by simp) ?_; (case hd => rfl); (case hg => rfl); (case hr => first | (go_simp; done) | (go_simp; rfl)); (case hp => exact (Reps.none _ _)); intro v133 w2 ho3 hb hg_ hnew_; clear hg_ hnew_; (first | rw [← Ny132.out] at ho3 | (simp only [Int.reduceToNat] at ho3; rw [← Ny132.out] at ho3)); have n0_ := Za.mk (Kd.Zbz ho3 (Zam (by repeat (first | (with_reducible first | exact HB.out | apply Zac | apply Zaa | apply Zab) | exact HB.out)))); have n1_ := Za.mk (Zan (by repeat (first | (with_reducible first | exact HB.out | apply Zac | apply Zaa | apply Zab) | exact HB.out)) hb); clear HB; have HO134 := n0_; have HB := n1_; clear n0_ n1_; clear hb ho3))
 repeat (go_quiet (first | ((with_reducible refine Zbv (N := 8) rfl ?_); refine Kd.Zdt (Kd.int .i64) _ 3 ?hg (N := 8) ?hd (xs := ([] : List Int)) (inner := []) (ok := fun _ => True) (okp := fun _ => True) ?hr ?hp (fun _ hk => hk) trivial (Below.refl _ _) (Nat.le_refl _) (by simp) ?_; (case hd => rfl); (case hg => rfl); (case hr => first | (go_simp; done) | (go_simp; rfl)); (case hp => exact (Reps.none _ _)); intro v133 w2 ho3 hb hg_ hnew_; clear hg_ hnew_; (first | rw [← Ny132.out] at ho3 | (simp only [Int.reduceToNat] at ho3; rw [← Ny132.out] at ho3)); have n0_ := Za.mk (Kd.Zbz ho3 (Zam (by repeat (first | (with_reducible first | exact HB.out | apply Zac | apply Zaa | apply Zab) | exact HB.out)))); have n1_ := Za.mk (Zan (by repeat (first | (with_reducible first | exact HB.out | apply Zac | apply Zaa | apply Zab) | exact HB.out)) hb); clear HB; have HO134 := n0_; have HB := n1_; clear n0_ n1_; clear hb ho3)); try go_wp2_with (first | ((with_reducible refine Zbv (N := 8) rfl ?_); refine Kd.Zdt (Kd.int .i64) _ 3 ?hg (N := 8) ?hd (xs := ([] : List Int)) (inner := []) (ok := fun _ => True) (okp := fun _ => True) ?hr ?hp (fun _ hk => hk) trivial (Below.refl _ _) (Nat.le_refl _) (by simp) ?_; (case hd => rfl); (case hg => rfl); (case hr => first | (go_simp; done) | (go_simp; rfl)); (case hp => exact (Reps.none _ _)); intro v133 w2 ho3 hb hg_ hnew_; clear hg_ hnew_; (first | rw [← Ny132.out] at ho3 | (simp only [Int.reduceToNat] at ho3; rw [← Ny132.out] at ho3)); have n0_ := Za.mk (Kd.Zbz ho3 (Zam (by repeat (first | (with_reducible first | exact HB.out | apply Zac | apply Zaa | apply Zab) | exact HB.out)))); have n1_ := Za.mk (Zan (by repeat (first | (with_reducible first | exact HB.out | apply Zac | apply Zaa | apply Zab) | exact HB.out)) hb); clear HB; have HO134 := n0_; have HB := n1_; clear n0_ n1_; clear hb ho3)))
 go_loopg [3, 4] k (fun kq v3 v4 w' => ∃ (x3_1 : List Int) (x4_1 : Int), v4 = .int .i64 x4_1 ∧ Za (Zai.l0 kq l0 x3_1 x4_1 = some r) ∧ Za (kq ≤ k) ∧ Za (Kd.R (Kd.int .i64) 3 w' w.heap.size (fun _ => True) v3 x3_1) ∧ Za (Below w.heap.size w w'))
 case atStart => exact ⟨(y132), (0), (by first | rfl | (simp; done) | (simp [*]; done)), H', ⟨Nat.le_refl _⟩, ⟨by (with_reducible repeat (first | apply Kd.R_alloc | apply Kd.Zbh | apply Kd.Zbl)); exact HO134.out⟩, ⟨by repeat (first | (with_reducible first | exact HB.out | apply Zac | apply Zaa | apply Zab) | exact HB.out)⟩⟩
 case round =>
  clear H'
  try clear p2
  try clear c3
  obtain ⟨x3_1, x4_1, rfl, HA, HK1, HO_3, HB⟩ := hrel
  cases gk with
  | zero => exact absurd HA.out (by simp [Zai.l0])
  | succ k1 =>
   have H := HA.out
   clear HA
   simp only [Zai.l0] at H
   by_cases c4 : x4_1 < (l0.length : Int)
   rotate_left
   ·rw [if_neg c4] at H
    have c4b0 : decide (x4_1 < (l0.length : Int)) = false := decide_eq_false c4
    clear c4
    obtain rfl := Option.some.inj H
    go_wp2
    repeat (go_quiet (fail); try go_wp2)
    go_ret
    exact ⟨_, by first | rfl | (simp [Zaq, Zar] <;> rfl) | (simp [*, Zaq, Zar] <;> rfl), by (with_reducible repeat (first | apply Kd.R_alloc | apply Kd.Zbh | apply Kd.Zbl)); exact HO_3.out, by repeat (first | (with_reducible first | exact HB.out | apply Zac | apply Zaa | apply Zab) | exact HB.out)⟩
   rw [if_pos c4] at H
   have c4b0 : decide (x4_1 < (l0.length : Int)) = true := decide_eq_true c4
   clear c4
   obtain ⟨y135, hy135⟩ : ∃ y_ : List Int, y_ = (([] : List Int)) := ⟨_, rfl⟩
   replace H : (if 0 ≤ x4_1 then ((Zbc.f k1 x3_1 (rd l0 x4_1)).bind fun t139 => (Zai.l1 k1 l0 x3_1 x4_1 y135 t139 0)) else (none)) = some r := by first | (rw [hy135]; with_reducible exact H) | (have H2_ := (Option.bind_some _ _).symm.trans H; rw [hy135]; with_reducible exact H2_) | (have H2_ := (Option.bind_some _ _).symm.trans H; with_reducible exact H2_) | with_reducible exact H | (rw [hy135]; exact H) | exact H
   have Ny135 := Za.mk hy135
   clear hy135
   by_cases c5 : 0 ≤ x4_1
   rotate_left
   ·rw [if_neg c5] at H
    exact absurd H (by simp)
   rw [if_pos c5] at H
   have c5b0 : decide (0 ≤ x4_1) = true := decide_eq_true c5
   clear c5
   replace H := Option.bind_eq_some_iff.mp H
   obtain ⟨t139, A60, H⟩ := H
   replace H : (Zai.l1 k1 l0 x3_1 x4_1 y135 t139 0) = some r := H
   have A6 := Za.mk A60
   clear A60
   have H' := Za.mk H
   clear H
   go_wp2_with (first | ((with_reducible refine Zbv (N := 15) rfl ?_); refine Kd.Zdt (Kd.int .i64) _ 3 ?hg (N := 15) ?hd (xs := ([] : List Int)) (inner := []) (ok := fun _ => True) (okp := fun _ => True) ?hr ?hp (fun _ hk => hk) trivial (Below.refl _ _) (Nat.le_refl _) (by simp) ?_; (case hd => rfl); (case hg => rfl); (case hr => first | (go_simp; done) | (go_simp; rfl)); (case hp => exact (Reps.none _ _)); intro v136 w7 ho8 hb hg_ hnew_; clear hg_ hnew_; (first | rw [← Ny135.out] at ho8 | (simp only [Int.reduceToNat] at ho8; rw [← Ny135.out] at ho8)); have n0_ := Za.mk (Kd.Zdo (mvR HO_3.out) (Kd.Zdn ho8) hb); have n1_ := Za.mk (Kd.Zbz (Kd.Zej ho8 (Kd.R_lt (mvR HO_3.out))) (Zam (by repeat (first | (with_reducible first | exact HB.out | apply Zac | apply Zaa | apply Zab) | exact HB.out)))); have n2_ := Za.mk (Zan (by repeat (first | (with_reducible first | exact HB.out | apply Zac | apply Zaa | apply Zab) | exact HB.out)) hb); clear HO_3; clear HB; have HO_3 := n0_; have HO137 := n1_; have HB := n2_; clear n0_ n1_ n2_; clear hb ho8; have p138 : 0 ≤ (x4_1 : Int) := of_decide_eq_true (by first | (with_reducible assumption) | assumption); have q138 : x4_1 < (l0.length : Int) := of_decide_eq_true (by first | (with_reducible assumption) | assumption); obtain ⟨ad138, e138, hx138_0⟩ := Kd.Zby HR0.out x4_1 p138 q138; cases e138; replace hx138_0 := (HB.out.cell (World.block_lt_of_cell? w _ hx138_0)).trans hx138_0; replace p138 := eq_true p138; replace q138 := eq_true q138; obtain ⟨Ao9, co9, eo9⟩ := Kd.Zbw HO_3.out; subst eo9) | (go_at_call 31; (with_reducible refine (Zbc.calls k1 _ _ x3_1 (rd l0 x4_1) t139 _ ?side1 ?side2 A6.out).mono ?_); (case side1 => repeat (first | exact (Kd.Za3 HO_3.out).2.2 | (with_reducible refine Kd.C_alloc ?_ _) | (with_reducible refine Kd.Za0 ?_ _) | (with_reducible refine Kd.C_drew ?_))); (case side2 => exact (Kd.Za3 HO_3.out).2.1); rintro e w' ⟨rfl, ⟨nd, rfl⟩⟩; (try first | exact ⟨rfl, _, World.drewN_drewN _ _ _⟩ | exact ⟨rfl, _, Eq.trans (World.drewN_drewN _ _ _) (congrArg (World.drewN _) (Nat.add_assoc _ _ _))⟩)))
   repeat (go_quiet (first | ((with_reducible refine Zbv (N := 15) rfl ?_); refine Kd.Zdt (Kd.int .i64) _ 3 ?hg (N := 15) ?hd (xs := ([] : List Int)) (inner := []) (ok := fun _ => True) (okp := fun _ => True) ?hr ?hp (fun _ hk => hk) trivial (Below.refl _ _) (Nat.le_refl _) (by simp) ?_; (case hd => rfl); (case hg => rfl); (case hr => first | (go_simp; done) | (go_simp; rfl)); (case hp => exact (Reps.none _ _)); intro v136 w7 ho8 hb hg_ hnew_; clear hg_ hnew_; (first | rw [← Ny135.out] at ho8 | (simp only [Int.reduceToNat] at ho8; rw [← Ny135.out] at ho8)); have n0_ := Za.mk (Kd.Zdo (mvR HO_3.out) (Kd.Zdn ho8) hb); have n1_ := Za.mk (Kd.Zbz (Kd.Zej ho8 (Kd.R_lt (mvR HO_3.out))) (Zam (by repeat (first | (with_reducible first | exact HB.out | apply Zac | apply Zaa | apply Zab) | exact HB.out)))); have n2_ := Za.mk (Zan (by repeat (first | (with_reducible first | exact HB.out | apply Zac | apply Zaa | apply Zab) | exact HB.out)) hb); clear HO_3; clear HB; have HO_3 := n0_; have HO137 := n1_; have HB := n2_; clear n0_ n1_ n2_; clear hb ho8; have p138 : 0 ≤ (x4_1 : Int) := of_decide_eq_true (by first | (with_reducible assumption) | assumption); have q138 : x4_1 < (l0.length : Int) := of_decide_eq_true (by first | (with_reducible assumption) | assumption); obtain ⟨ad138, e138, hx138_0⟩ := Kd.Zby HR0.out x4_1 p138 q138; cases e138; replace hx138_0 := (HB.out.cell (World.block_lt_of_cell? w _ hx138_0)).trans hx138_0; replace p138 := eq_true p138; replace q138 := eq_true q138; obtain ⟨Ao9, co9, eo9⟩ := Kd.Zbw HO_3.out; subst eo9) | (go_at_call 31; (with_reducible refine (Zbc.calls k1 _ _ x3_1 (rd l0 x4_1) t139 _ ?side1 ?side2 A6.out).mono ?_); (case side1 => repeat (first | exact (Kd.Za3 HO_3.out).2.2 | (with_reducible refine Kd.C_alloc ?_ _) | (with_reducible refine Kd.Za0 ?_ _) | (with_reducible refine Kd.C_drew ?_))); (case side2 => exact (Kd.Za3 HO_3.out).2.1); rintro e w' ⟨rfl, ⟨nd, rfl⟩⟩; (try first | exact ⟨rfl, _, World.drewN_drewN _ _ _⟩ | exact ⟨rfl, _, Eq.trans (World.drewN_drewN _ _ _) (congrArg (World.drewN _) (Nat.add_assoc _ _ _))⟩))); try go_wp2_with (first | ((with_reducible refine Zbv (N := 15) rfl ?_); refine Kd.Zdt (Kd.int .i64) _ 3 ?hg (N := 15) ?hd (xs := ([] : List Int)) (inner := []) (ok := fun _ => True) (okp := fun _ => True) ?hr ?hp (fun _ hk => hk) trivial (Below.refl _ _) (Nat.le_refl _) (by simp) ?_; (case hd => rfl); (case hg => rfl); (case hr => first | (go_simp; done) | (go_simp; rfl)); (case hp => exact (Reps.none _ _)); intro v136 w7 ho8 hb hg_ hnew_; clear hg_ hnew_; (first | rw [← Ny135.out] at ho8 | (simp only [Int.reduceToNat] at ho8; rw [← Ny135.out] at ho8)); have n0_ := Za.mk (Kd.Zdo (mvR HO_3.out) (Kd.Zdn ho8) hb); have n1_ := Za.mk (Kd.Zbz (Kd.Zej ho8 (Kd.R_lt (mvR HO_3.out))) (Zam (by repeat (first | (with_reducible first | exact HB.out | apply Zac | apply Zaa | apply Zab) | exact HB.out)))); have n2_ := Za.mk (Zan (by repeat (first | (with_reducible first | exact HB.out | apply Zac | apply Zaa | apply Zab) | exact HB.out)) hb); clear HO_3; clear HB; have HO_3 := n0_; have HO137 := n1_; have HB := n2_; clear n0_ n1_ n2_; clear hb ho8; have p138 : 0 ≤ (x4_1 : Int) := of_decide_eq_true (by first | (with_reducible assumption) | assumption); have q138 : x4_1 < (l0.length : Int) := of_decide_eq_true (by first | (with_reducible assumption) | assumption); obtain ⟨ad138, e138, hx138_0⟩ := Kd.Zby HR0.out x4_1 p138 q138; cases e138; replace hx138_0 := (HB.out.cell (World.block_lt_of_cell? w _ hx138_0)).trans hx138_0; replace p138 := eq_true p138; replace q138 := eq_true q138; obtain ⟨Ao9, co9, eo9⟩ := Kd.Zbw HO_3.out; subst eo9) | (go_at_call 31; (with_reducible refine (Zbc.calls k1 _ _ x3_1 (rd l0 x4_1) t139 _ ?side1 ?side2 A6.out).mono ?_); (case side1 => repeat (first | exact (Kd.Za3 HO_3.out).2.2 | (with_reducible refine Kd.C_alloc ?_ _) | (with_reducible refine Kd.Za0 ?_ _) | (with_reducible refine Kd.C_drew ?_))); (case side2 => exact (Kd.Za3 HO_3.out).2.1); rintro e w' ⟨rfl, ⟨nd, rfl⟩⟩; (try first | exact ⟨rfl, _, World.drewN_drewN _ _ _⟩ | exact ⟨rfl, _, Eq.trans (World.drewN_drewN _ _ _) (congrArg (World.drewN _) (Nat.add_assoc _ _ _))⟩))))
   go_loopg [5, 6, 7] k1 (fun kq v5 v6 v7 w' => ∃ (x5_2 : List Int) (x6_2 : Bool) (x7_2 : Int), v6 = .bool x6_2 ∧ v7 = .int .i64 x7_2 ∧ Za (Zai.l1 kq l0 x3_1 x4_1 x5_2 x6_2 x7_2 = some r) ∧ Za (kq ≤ k1) ∧ Za (Kd.R (Kd.int .i64) 3 w' w.heap.size (fun k_ => some k_ ≠ (v5 : Value).ownBlock) (.slice Ao9 x3_1.length co9) x3_1) ∧ Za (Kd.R (Kd.int .i64) 3 w' w.heap.size (fun k_ => some k_ ≠ ((.slice Ao9 x3_1.length co9) : Value).ownBlock) v5 x5_2) ∧ Za (Below w.heap.size w w'))
   case atStart => exact ⟨(y135), (t139), (0), (by first | rfl | (simp; done) | (simp [*]; done)), (by first | rfl | (simp; done) | (simp [*]; done)), H', ⟨Nat.le_refl _⟩, ⟨by (with_reducible repeat (first | apply Kd.R_alloc | apply Kd.Zbh | apply Kd.Zbl)); exact Kd.Zbm HO_3.out (fun _ hk => hk.2)⟩, ⟨by (with_reducible repeat (first | apply Kd.R_alloc | apply Kd.Zbh | apply Kd.Zbl)); exact Kd.Zbm HO137.out (fun _ hk => hk.2)⟩, ⟨by repeat (first | (with_reducible first | exact HB.out | apply Zac | apply Zaa | apply Zab) | exact HB.out)⟩⟩
   case round =>
    clear H'
    try clear p1
    try clear q1
    try clear hx1
    try clear p2
    try clear c3
    try clear c4
    try clear c4b0
    try clear c5
    try clear c5b0
    try clear hx138_0
    try clear p138
    try clear p2
    try clear q138
    obtain ⟨x5_2, x6_2, x7_2, rfl, rfl, HA, HK2, HO_3, HO_5, HB⟩ := hrel
    cases gk with
    | zero => exact absurd HA.out (by simp [Zai.l1])
    | succ k2 =>
     have H := HA.out
     clear HA
     simp only [Zai.l1] at H
     by_cases c10 : x7_2 < (x3_1.length : Int)
     rotate_left
     ·rw [if_neg c10] at H
      have c10b0 : decide (x7_2 < (x3_1.length : Int)) = false := decide_eq_false c10
      clear c10
      by_cases c25 : x6_2 = true
      ·subst c25
       have H1 : (Zai.l0 k2 l0 x5_2 (wrap64 (x4_1 + 1))) = some r := by rw [if_pos rfl] at H; exact H
       clear H
       have H := H1
       clear H1
       have H' := Za.mk H
       clear H
       go_wp2
       repeat (go_quiet (fail); try go_wp2)
       go_roundg k2
       case measure => have := HK1.out; have := HK2.out; omega
       case rel => exact ⟨(x5_2), (wrap64 (x4_1 + 1)), (by first | rfl | (simp; done) | (simp [*]; done)), H', ⟨by have := HK1.out; have := HK2.out; omega⟩, ⟨by (with_reducible repeat (first | apply Kd.R_alloc | apply Kd.Zbh | apply Kd.Zbl)); exact Kd.Zbm HO_5.out (fun _ hk => trivial)⟩, ⟨by repeat (first | (with_reducible first | exact HB.out | apply Zac | apply Zaa | apply Zab) | exact HB.out)⟩⟩
      replace c25 := Bool.eq_false_iff.mpr c25
      subst c25
      have H1 : (if 0 ≤ x4_1 then (if x4_1 < (l0.length : Int) then (if x5_2.length < 17592186044416 then (Zai.l0 k2 l0 (x5_2 ++ [rd l0 x4_1]) (wrap64 (x4_1 + 1))) else (none)) else (none)) else (none)) = some r := by rw [if_neg (show ¬ (false = true) by decide)] at H; exact H
      clear H
      have H := H1
      clear H1
      by_cases c26 : 0 ≤ x4_1
      rotate_left
      ·rw [if_neg c26] at H
       exact absurd H (by simp)
      rw [if_pos c26] at H
      have c26b0 : decide (0 ≤ x4_1) = true := decide_eq_true c26
      clear c26
      by_cases c27 : x4_1 < (l0.length : Int)
      rotate_left
      ·rw [if_neg c27] at H
       exact absurd H (by simp)
      rw [if_pos c27] at H
      have c27b0 : decide (x4_1 < (l0.length : Int)) = true := decide_eq_true c27
      clear c27
      by_cases c28 : x5_2.length < 17592186044416
      rotate_left
      ·rw [if_neg c28] at H
       exact absurd H (by simp)
      rw [if_pos c28] at H
      have LMc28 := Za.mk c28
      clear c28
      obtain ⟨y159, hy159⟩ : ∃ y_ : List Int, y_ = (x5_2 ++ [rd l0 x4_1]) := ⟨_, rfl⟩
      replace H : (Zai.l0 k2 l0 y159 (wrap64 (x4_1 + 1))) = some r := by first | (rw [hy159]; with_reducible exact H) | (have H2_ := (Option.bind_some _ _).symm.trans H; rw [hy159]; with_reducible exact H2_) | (have H2_ := (Option.bind_some _ _).symm.trans H; with_reducible exact H2_) | with_reducible exact H | (rw [hy159]; exact H) | exact H
      have Ny159 := Za.mk hy159
      clear hy159
      have H' := Za.mk H
      clear H
      have p158 : 0 ≤ (x4_1 : Int) := of_decide_eq_true (by first | (with_reducible assumption) | assumption)
      have q158 : x4_1 < (l0.length : Int) := of_decide_eq_true (by first | (with_reducible assumption) | assumption)
      obtain ⟨ad158, e158, hx158_0⟩ := Kd.Zby HR0.out x4_1 p158 q158
      obtain rfl : ad138 = ad158 := (by injection e158)
      replace hx158_0 := (HB.out.cell (World.block_lt_of_cell? w _ hx158_0)).trans hx158_0
      replace p158 := eq_true p158
      replace q158 := eq_true q158
      go_wp2_with (first | ((with_reducible refine Zbg (b := .append) (xs := #[.tmp 57, .tmp 62]) rfl ?_); at_builtin; refine Kd.Zb9 (Kd.int .i64) (w0 := w) w.heap.size rfl (.tmp 57) (.tmp 62) 23 3 (.int .i64 0) 8 rfl Try.underlying23 info3 rfl (by decide) (by omega) u5 x5_2 (rd l0 x4_1) [.int .i64 (rd l0 x4_1)] (fun k_ => some k_ ≠ (.slice Ao9 x3_1.length co9 : Value).ownBlock) (fun _ => False) rfl rfl ?aP (fun _ hk => hk.elim) ?aF ?aO ?aB ?aS ?aL ?_; (case aP => exact rfl); (case aB => exact (by repeat (first | (with_reducible first | exact HB.out | apply Zac | apply Zaa | apply Zab) | exact HB.out))); (case aF => exact (fun k_ hk => Kd.fresh' (Kd.R_lt (mvR HO_3.out)) k_ hk)); (case aO => exact (mvR HO_5.out)); (case aS => exact (Zam (by repeat (first | (with_reducible first | exact HB.out | apply Zac | apply Zaa | apply Zab) | exact HB.out)))); (case aL => have := LMc28.out; omega); intro v160 w29 ho hb hg hat; rw [← Ny159.out] at ho; have n0_ := Za.mk (Kd.Zcv (ok := (fun _ => True)) (mvR (Kd.Zbm HO_3.out (fun _ hk => ⟨trivial, hk⟩))) hg hat); have n1_ := Za.mk (hb); have n2_ := Za.mk (ho); clear HO_3; clear HB; clear HO_5; have HO_3 := n0_; have HB := n1_; have HO161 := n2_; clear n0_ n1_ n2_; clear ho hb hg hat))
      repeat (go_quiet (first | ((with_reducible refine Zbg (b := .append) (xs := #[.tmp 57, .tmp 62]) rfl ?_); at_builtin; refine Kd.Zb9 (Kd.int .i64) (w0 := w) w.heap.size rfl (.tmp 57) (.tmp 62) 23 3 (.int .i64 0) 8 rfl Try.underlying23 info3 rfl (by decide) (by omega) u5 x5_2 (rd l0 x4_1) [.int .i64 (rd l0 x4_1)] (fun k_ => some k_ ≠ (.slice Ao9 x3_1.length co9 : Value).ownBlock) (fun _ => False) rfl rfl ?aP (fun _ hk => hk.elim) ?aF ?aO ?aB ?aS ?aL ?_; (case aP => exact rfl); (case aB => exact (by repeat (first | (with_reducible first | exact HB.out | apply Zac | apply Zaa | apply Zab) | exact HB.out))); (case aF => exact (fun k_ hk => Kd.fresh' (Kd.R_lt (mvR HO_3.out)) k_ hk)); (case aO => exact (mvR HO_5.out)); (case aS => exact (Zam (by repeat (first | (with_reducible first | exact HB.out | apply Zac | apply Zaa | apply Zab) | exact HB.out)))); (case aL => have := LMc28.out; omega); intro v160 w29 ho hb hg hat; rw [← Ny159.out] at ho; have n0_ := Za.mk (Kd.Zcv (ok := (fun _ => True)) (mvR (Kd.Zbm HO_3.out (fun _ hk => ⟨trivial, hk⟩))) hg hat); have n1_ := Za.mk (hb); have n2_ := Za.mk (ho); clear HO_3; clear HB; clear HO_5; have HO_3 := n0_; have HB := n1_; have HO161 := n2_; clear n0_ n1_ n2_; clear ho hb hg hat)); try go_wp2_with (first | ((with_reducible refine Zbg (b := .append) (xs := #[.tmp 57, .tmp 62]) rfl ?_); at_builtin; refine Kd.Zb9 (Kd.int .i64) (w0 := w) w.heap.size rfl (.tmp 57) (.tmp 62) 23 3 (.int .i64 0) 8 rfl Try.underlying23 info3 rfl (by decide) (by omega) u5 x5_2 (rd l0 x4_1) [.int .i64 (rd l0 x4_1)] (fun k_ => some k_ ≠ (.slice Ao9 x3_1.length co9 : Value).ownBlock) (fun _ => False) rfl rfl ?aP (fun _ hk => hk.elim) ?aF ?aO ?aB ?aS ?aL ?_; (case aP => exact rfl); (case aB => exact (by repeat (first | (with_reducible first | exact HB.out | apply Zac | apply Zaa | apply Zab) | exact HB.out))); (case aF => exact (fun k_ hk => Kd.fresh' (Kd.R_lt (mvR HO_3.out)) k_ hk)); (case aO => exact (mvR HO_5.out)); (case aS => exact (Zam (by repeat (first | (with_reducible first | exact HB.out | apply Zac | apply Zaa | apply Zab) | exact HB.out)))); (case aL => have := LMc28.out; omega); intro v160 w29 ho hb hg hat; rw [← Ny159.out] at ho; have n1_ := Za.mk (hb); have n2_ := Za.mk (ho); clear HO_3; clear HB; clear HO_5; have HB := n1_; have HO161 := n2_; clear n1_ n2_; clear ho hb hg hat)))
      go_roundg k2
      case measure => have := HK1.out; have := HK2.out; omega
      case rel => exact ⟨(y159), (wrap64 (x4_1 + 1)), (by first | rfl | (simp; done) | (simp [*]; done)), H', ⟨by have := HK1.out; have := HK2.out; omega⟩, ⟨by (with_reducible repeat (first | apply Kd.R_alloc | apply Kd.Zbh | apply Kd.Zbl)); exact Kd.Zbm HO161.out (fun _ hk => trivial)⟩, ⟨by repeat (first | (with_reducible first | exact HB.out | apply Zac | apply Zaa | apply Zab) | exact HB.out)⟩⟩
     rw [if_pos c10] at H
     have c10b0 : decide (x7_2 < (x3_1.length : Int)) = true := decide_eq_true c10
     clear c10
     by_cases c11 : x6_2 = true
     ·subst c11
      have H1 : (if 0 ≤ x7_2 then (if x5_2.length < 17592186044416 then (Zai.l1 k2 l0 x3_1 x4_1 (x5_2 ++ [rd x3_1 x7_2]) true (wrap64 (x7_2 + 1))) else (none)) else (none)) = some r := by rw [if_pos rfl] at H; exact H
      clear H
      have H := H1
      clear H1
      by_cases c12 : 0 ≤ x7_2
      rotate_left
      ·rw [if_neg c12] at H
       exact absurd H (by simp)
      rw [if_pos c12] at H
      have c12b0 : decide (0 ≤ x7_2) = true := decide_eq_true c12
      clear c12
      by_cases c13 : x5_2.length < 17592186044416
      rotate_left
      ·rw [if_neg c13] at H
       exact absurd H (by simp)
      rw [if_pos c13] at H
      have LMc13 := Za.mk c13
      clear c13
      obtain ⟨y141, hy141⟩ : ∃ y_ : List Int, y_ = (x5_2 ++ [rd x3_1 x7_2]) := ⟨_, rfl⟩
      replace H : (Zai.l1 k2 l0 x3_1 x4_1 y141 true (wrap64 (x7_2 + 1))) = some r := by first | (rw [hy141]; with_reducible exact H) | (have H2_ := (Option.bind_some _ _).symm.trans H; rw [hy141]; with_reducible exact H2_) | (have H2_ := (Option.bind_some _ _).symm.trans H; with_reducible exact H2_) | with_reducible exact H | (rw [hy141]; exact H) | exact H
      have Ny141 := Za.mk hy141
      clear hy141
      have H' := Za.mk H
      clear H
      have p140 : 0 ≤ (x7_2 : Int) := of_decide_eq_true (by first | (with_reducible assumption) | assumption)
      have q140 : x7_2 < (x3_1.length : Int) := of_decide_eq_true (by first | (with_reducible assumption) | assumption)
      obtain ⟨ad140, e140, hx140_0⟩ := Kd.Zby (Kd.Za3 HO_3.out).2.2 x7_2 p140 q140
      cases e140
      replace p140 := eq_true p140
      replace q140 := eq_true q140
      go_wp2_with (first | ((with_reducible refine Zbg (b := .append) (xs := #[.tmp 48, .tmp 53]) rfl ?_); at_builtin; refine Kd.Zb9 (Kd.int .i64) (w0 := w) w.heap.size rfl (.tmp 48) (.tmp 53) 23 3 (.int .i64 0) 8 rfl Try.underlying23 info3 rfl (by decide) (by omega) u5 x5_2 (rd x3_1 x7_2) [.int .i64 (rd x3_1 x7_2)] (fun k_ => some k_ ≠ (.slice (some ad140) x3_1.length co9 : Value).ownBlock) (fun _ => False) rfl rfl ?aP (fun _ hk => hk.elim) ?aF ?aO ?aB ?aS ?aL ?_; (case aP => exact rfl); (case aB => exact (by repeat (first | (with_reducible first | exact HB.out | apply Zac | apply Zaa | apply Zab) | exact HB.out))); (case aF => exact (fun k_ hk => Kd.fresh' (Kd.R_lt (mvR HO_3.out)) k_ hk)); (case aO => exact (mvR HO_5.out)); (case aS => exact (Zam (by repeat (first | (with_reducible first | exact HB.out | apply Zac | apply Zaa | apply Zab) | exact HB.out)))); (case aL => have := LMc13.out; omega); intro v142 w14 ho hb hg hat; rw [← Ny141.out] at ho; have n0_ := Za.mk (Kd.Zcv (ok := (fun _ => True)) (mvR (Kd.Zbm HO_3.out (fun _ hk => ⟨trivial, hk⟩))) hg hat); have n1_ := Za.mk (hb); have n2_ := Za.mk (ho); clear HO_3; clear HB; clear HO_5; have HO_3 := n0_; have HB := n1_; have HO143 := n2_; clear n0_ n1_ n2_; clear ho hb hg hat))
      repeat (go_quiet (first | ((with_reducible refine Zbg (b := .append) (xs := #[.tmp 48, .tmp 53]) rfl ?_); at_builtin; refine Kd.Zb9 (Kd.int .i64) (w0 := w) w.heap.size rfl (.tmp 48) (.tmp 53) 23 3 (.int .i64 0) 8 rfl Try.underlying23 info3 rfl (by decide) (by omega) u5 x5_2 (rd x3_1 x7_2) [.int .i64 (rd x3_1 x7_2)] (fun k_ => some k_ ≠ (.slice (some ad140) x3_1.length co9 : Value).ownBlock) (fun _ => False) rfl rfl ?aP (fun _ hk => hk.elim) ?aF ?aO ?aB ?aS ?aL ?_; (case aP => exact rfl); (case aB => exact (by repeat (first | (with_reducible first | exact HB.out | apply Zac | apply Zaa | apply Zab) | exact HB.out))); (case aF => exact (fun k_ hk => Kd.fresh' (Kd.R_lt (mvR HO_3.out)) k_ hk)); (case aO => exact (mvR HO_5.out)); (case aS => exact (Zam (by repeat (first | (with_reducible first | exact HB.out | apply Zac | apply Zaa | apply Zab) | exact HB.out)))); (case aL => have := LMc13.out; omega); intro v142 w14 ho hb hg hat; rw [← Ny141.out] at ho; have n0_ := Za.mk (Kd.Zcv (ok := (fun _ => True)) (mvR (Kd.Zbm HO_3.out (fun _ hk => ⟨trivial, hk⟩))) hg hat); have n1_ := Za.mk (hb); have n2_ := Za.mk (ho); clear HO_3; clear HB; clear HO_5; have HO_3 := n0_; have HB := n1_; have HO143 := n2_; clear n0_ n1_ n2_; clear ho hb hg hat)); try go_wp2_with (first | ((with_reducible refine Zbg (b := .append) (xs := #[.tmp 48, .tmp 53]) rfl ?_); at_builtin; refine Kd.Zb9 (Kd.int .i64) (w0 := w) w.heap.size rfl (.tmp 48) (.tmp 53) 23 3 (.int .i64 0) 8 rfl Try.underlying23 info3 rfl (by decide) (by omega) u5 x5_2 (rd x3_1 x7_2) [.int .i64 (rd x3_1 x7_2)] (fun k_ => some k_ ≠ (.slice (some ad140) x3_1.length co9 : Value).ownBlock) (fun _ => False) rfl rfl ?aP (fun _ hk => hk.elim) ?aF ?aO ?aB ?aS ?aL ?_; (case aP => exact rfl); (case aB => exact (by repeat (first | (with_reducible first | exact HB.out | apply Zac | apply Zaa | apply Zab) | exact HB.out))); (case aF => exact (fun k_ hk => Kd.fresh' (Kd.R_lt (mvR HO_3.out)) k_ hk)); (case aO => exact (mvR HO_5.out)); (case aS => exact (Zam (by repeat (first | (with_reducible first | exact HB.out | apply Zac | apply Zaa | apply Zab) | exact HB.out)))); (case aL => have := LMc13.out; omega); intro v142 w14 ho hb hg hat; rw [← Ny141.out] at ho; have n0_ := Za.mk (Kd.Zcv (ok := (fun _ => True)) (mvR (Kd.Zbm HO_3.out (fun _ hk => ⟨trivial, hk⟩))) hg hat); have n1_ := Za.mk (hb); have n2_ := Za.mk (ho); clear HO_3; clear HB; clear HO_5; have HO_3 := n0_; have HB := n1_; have HO143 := n2_; clear n0_ n1_ n2_; clear ho hb hg hat)))
      go_roundg k2
      case measure => have := HK1.out; have := HK2.out; omega
      case rel => exact ⟨(y141), (true), (wrap64 (x7_2 + 1)), (by first | rfl | (simp; done) | (simp [*]; done)), (by first | rfl | (simp; done) | (simp [*]; done)), H', ⟨by have := HK1.out; have := HK2.out; omega⟩, ⟨by (with_reducible repeat (first | apply Kd.R_alloc | apply Kd.Zbh | apply Kd.Zbl)); exact Kd.Zbm HO_3.out (fun _ hk => hk.2)⟩, ⟨by (with_reducible repeat (first | apply Kd.R_alloc | apply Kd.Zbh | apply Kd.Zbl)); exact HO143.out⟩, ⟨by repeat (first | (with_reducible first | exact HB.out | apply Zac | apply Zaa | apply Zab) | exact HB.out)⟩⟩
     replace c11 := Bool.eq_false_iff.mpr c11
     subst c11
     have H1 : (if 0 ≤ x4_1 then (if x4_1 < (l0.length : Int) then (if 0 ≤ x7_2 then (if (rd l0 x4_1) < (rd x3_1 x7_2) then (if x5_2.length < 17592186044416 then ((some (x5_2 ++ [rd l0 x4_1] : List Int)).bind fun y147 => (if y147.length < 17592186044416 then (Zai.l1 k2 l0 x3_1 x4_1 (y147 ++ [rd x3_1 x7_2]) true (wrap64 (x7_2 + 1))) else (none))) else (none)) else (if x5_2.length < 17592186044416 then (Zai.l1 k2 l0 x3_1 x4_1 (x5_2 ++ [rd x3_1 x7_2]) false (wrap64 (x7_2 + 1))) else (none))) else (none)) else (none)) else (none)) = some r := by rw [if_neg (show ¬ (false = true) by decide)] at H; exact H
     clear H
     have H := H1
     clear H1
     by_cases c15 : 0 ≤ x4_1
     rotate_left
     ·rw [if_neg c15] at H
      exact absurd H (by simp)
     rw [if_pos c15] at H
     have c15b0 : decide (0 ≤ x4_1) = true := decide_eq_true c15
     clear c15
     by_cases c16 : x4_1 < (l0.length : Int)
     rotate_left
     ·rw [if_neg c16] at H
      exact absurd H (by simp)
     rw [if_pos c16] at H
     have c16b0 : decide (x4_1 < (l0.length : Int)) = true := decide_eq_true c16
     clear c16
     by_cases c17 : 0 ≤ x7_2
     rotate_left
     ·rw [if_neg c17] at H
      exact absurd H (by simp)
     rw [if_pos c17] at H
     have c17b0 : decide (0 ≤ x7_2) = true := decide_eq_true c17
     clear c17
     by_cases c18 : (rd l0 x4_1) < (rd x3_1 x7_2)
     rotate_left
     ·rw [if_neg c18] at H
      have c18b0 : decide ((rd l0 x4_1) < (rd x3_1 x7_2)) = false := decide_eq_false c18
      clear c18
      by_cases c23 : x5_2.length < 17592186044416
      rotate_left
      ·rw [if_neg c23] at H
       exact absurd H (by simp)
      rw [if_pos c23] at H
      have LMc23 := Za.mk c23
      clear c23
      obtain ⟨y155, hy155⟩ : ∃ y_ : List Int, y_ = (x5_2 ++ [rd x3_1 x7_2]) := ⟨_, rfl⟩
      replace H : (Zai.l1 k2 l0 x3_1 x4_1 y155 false (wrap64 (x7_2 + 1))) = some r := by first | (rw [hy155]; with_reducible exact H) | (have H2_ := (Option.bind_some _ _).symm.trans H; rw [hy155]; with_reducible exact H2_) | (have H2_ := (Option.bind_some _ _).symm.trans H; with_reducible exact H2_) | with_reducible exact H | (rw [hy155]; exact H) | exact H
      have Ny155 := Za.mk hy155
      clear hy155
      have H' := Za.mk H
      clear H
      have p144 : 0 ≤ (x4_1 : Int) := of_decide_eq_true (by first | (with_reducible assumption) | assumption)
      have q144 : x4_1 < (l0.length : Int) := of_decide_eq_true (by first | (with_reducible assumption) | assumption)
      obtain ⟨ad144, e144, hx144_0⟩ := Kd.Zby HR0.out x4_1 p144 q144
      obtain rfl : ad138 = ad144 := (by injection e144)
      replace hx144_0 := (HB.out.cell (World.block_lt_of_cell? w _ hx144_0)).trans hx144_0
      replace p144 := eq_true p144
      replace q144 := eq_true q144
      have p145 : 0 ≤ (x7_2 : Int) := of_decide_eq_true (by first | (with_reducible assumption) | assumption)
      have q145 : x7_2 < (x3_1.length : Int) := of_decide_eq_true (by first | (with_reducible assumption) | assumption)
      obtain ⟨ad145, e145, hx145_0⟩ := Kd.Zby (Kd.Za3 HO_3.out).2.2 x7_2 p145 q145
      cases e145
      replace p145 := eq_true p145
      replace q145 := eq_true q145
      have p154 : 0 ≤ (x7_2 : Int) := of_decide_eq_true (by first | (with_reducible assumption) | assumption)
      have q154 : x7_2 < (x3_1.length : Int) := of_decide_eq_true (by first | (with_reducible assumption) | assumption)
      obtain ⟨ad154, e154, hx154_0⟩ := Kd.Zby (Kd.Za3 HO_3.out).2.2 x7_2 p154 q154
      obtain rfl : ad145 = ad154 := (by injection e154)
      replace p154 := eq_true p154
      replace q154 := eq_true q154
      go_wp2_with (first | ((with_reducible refine Zbg (b := .append) (xs := #[.tmp 48, .tmp 53]) rfl ?_); at_builtin; refine Kd.Zb9 (Kd.int .i64) (w0 := w) w.heap.size rfl (.tmp 48) (.tmp 53) 23 3 (.int .i64 0) 8 rfl Try.underlying23 info3 rfl (by decide) (by omega) u5 x5_2 (rd x3_1 x7_2) [.int .i64 (rd x3_1 x7_2)] (fun k_ => some k_ ≠ (.slice (some ad145) x3_1.length co9 : Value).ownBlock) (fun _ => False) rfl rfl ?aP (fun _ hk => hk.elim) ?aF ?aO ?aB ?aS ?aL ?_; (case aP => exact rfl); (case aB => exact (by repeat (first | (with_reducible first | exact HB.out | apply Zac | apply Zaa | apply Zab) | exact HB.out))); (case aF => exact (fun k_ hk => Kd.fresh' (Kd.R_lt (mvR HO_3.out)) k_ hk)); (case aO => exact (mvR HO_5.out)); (case aS => exact (Zam (by repeat (first | (with_reducible first | exact HB.out | apply Zac | apply Zaa | apply Zab) | exact HB.out)))); (case aL => have := LMc23.out; omega); intro v156 w24 ho hb hg hat; rw [← Ny155.out] at ho; have n0_ := Za.mk (Kd.Zcv (ok := (fun _ => True)) (mvR (Kd.Zbm HO_3.out (fun _ hk => ⟨trivial, hk⟩))) hg hat); have n1_ := Za.mk (hb); have n2_ := Za.mk (ho); clear HO_3; clear HB; clear HO_5; have HO_3 := n0_; have HB := n1_; have HO157 := n2_; clear n0_ n1_ n2_; clear ho hb hg hat))
      repeat (go_quiet (first | ((with_reducible refine Zbg (b := .append) (xs := #[.tmp 48, .tmp 53]) rfl ?_); at_builtin; refine Kd.Zb9 (Kd.int .i64) (w0 := w) w.heap.size rfl (.tmp 48) (.tmp 53) 23 3 (.int .i64 0) 8 rfl Try.underlying23 info3 rfl (by decide) (by omega) u5 x5_2 (rd x3_1 x7_2) [.int .i64 (rd x3_1 x7_2)] (fun k_ => some k_ ≠ (.slice (some ad145) x3_1.length co9 : Value).ownBlock) (fun _ => False) rfl rfl ?aP (fun _ hk => hk.elim) ?aF ?aO ?aB ?aS ?aL ?_; (case aP => exact rfl); (case aB => exact (by repeat (first | (with_reducible first | exact HB.out | apply Zac | apply Zaa | apply Zab) | exact HB.out))); (case aF => exact (fun k_ hk => Kd.fresh' (Kd.R_lt (mvR HO_3.out)) k_ hk)); (case aO => exact (mvR HO_5.out)); (case aS => exact (Zam (by repeat (first | (with_reducible first | exact HB.out | apply Zac | apply Zaa | apply Zab) | exact HB.out)))); (case aL => have := LMc23.out; omega); intro v156 w24 ho hb hg hat; rw [← Ny155.out] at ho; have n0_ := Za.mk (Kd.Zcv (ok := (fun _ => True)) (mvR (Kd.Zbm HO_3.out (fun _ hk => ⟨trivial, hk⟩))) hg hat); have n1_ := Za.mk (hb); have n2_ := Za.mk (ho); clear HO_3; clear HB; clear HO_5; have HO_3 := n0_; have HB := n1_; have HO157 := n2_; clear n0_ n1_ n2_; clear ho hb hg hat)); try go_wp2_with (first | ((with_reducible refine Zbg (b := .append) (xs := #[.tmp 48, .tmp 53]) rfl ?_); at_builtin; refine Kd.Zb9 (Kd.int .i64) (w0 := w) w.heap.size rfl (.tmp 48) (.tmp 53) 23 3 (.int .i64 0) 8 rfl Try.underlying23 info3 rfl (by decide) (by omega) u5 x5_2 (rd x3_1 x7_2) [.int .i64 (rd x3_1 x7_2)] (fun k_ => some k_ ≠ (.slice (some ad145) x3_1.length co9 : Value).ownBlock) (fun _ => False) rfl rfl ?aP (fun _ hk => hk.elim) ?aF ?aO ?aB ?aS ?aL ?_; (case aP => exact rfl); (case aB => exact (by repeat (first | (with_reducible first | exact HB.out | apply Zac | apply Zaa | apply Zab) | exact HB.out))); (case aF => exact (fun k_ hk => Kd.fresh' (Kd.R_lt (mvR HO_3.out)) k_ hk)); (case aO => exact (mvR HO_5.out)); (case aS => exact (Zam (by repeat (first | (with_reducible first | exact HB.out | apply Zac | apply Zaa | apply Zab) | exact HB.out)))); (case aL => have := LMc23.out; omega); intro v156 w24 ho hb hg hat; rw [← Ny155.out] at ho; have n0_ := Za.mk (Kd.Zcv (ok := (fun _ => True)) (mvR (Kd.Zbm HO_3.out (fun _ hk => ⟨trivial, hk⟩))) hg hat); have n1_ := Za.mk (hb); have n2_ := Za.mk (ho); clear HO_3; clear HB; clear HO_5; have HO_3 := n0_; have HB := n1_; have HO157 := n2_; clear n0_ n1_ n2_; clear ho hb hg hat)))
      go_roundg k2
      case measure => have := HK1.out; have := HK2.out; omega
      case rel => exact ⟨(y155), (false), (wrap64 (x7_2 + 1)), (by first | rfl | (simp; done) | (simp [*]; done)), (by first | rfl | (simp; done) | (simp [*]; done)), H', ⟨by have := HK1.out; have := HK2.out; omega⟩, ⟨by (with_reducible repeat (first | apply Kd.R_alloc | apply Kd.Zbh | apply Kd.Zbl)); exact Kd.Zbm HO_3.out (fun _ hk => hk.2)⟩, ⟨by (with_reducible repeat (first | apply Kd.R_alloc | apply Kd.Zbh | apply Kd.Zbl)); exact HO157.out⟩, ⟨by repeat (first | (with_reducible first | exact HB.out | apply Zac | apply Zaa | apply Zab) | exact HB.out)⟩⟩
     rw [if_pos c18] at H
     have c18b0 : decide ((rd l0 x4_1) < (rd x3_1 x7_2)) = true := decide_eq_true c18
     clear c18
     by_cases c19 : x5_2.length < 17592186044416
     rotate_left
     ·rw [if_neg c19] at H
      exact absurd H (by simp)
     rw [if_pos c19] at H
     have LMc19 := Za.mk c19
     clear c19
     obtain ⟨y147, hy147⟩ : ∃ y_ : List Int, y_ = (x5_2 ++ [rd l0 x4_1]) := ⟨_, rfl⟩
     replace H : (if y147.length < 17592186044416 then (Zai.l1 k2 l0 x3_1 x4_1 (y147 ++ [rd x3_1 x7_2]) true (wrap64 (x7_2 + 1))) else (none)) = some r := by first | (rw [hy147]; with_reducible exact H) | (have H2_ := (Option.bind_some _ _).symm.trans H; rw [hy147]; with_reducible exact H2_) | (have H2_ := (Option.bind_some _ _).symm.trans H; with_reducible exact H2_) | with_reducible exact H | (rw [hy147]; exact H) | exact H
     have Ny147 := Za.mk hy147
     clear hy147
     by_cases c20 : y147.length < 17592186044416
     rotate_left
     ·rw [if_neg c20] at H
      exact absurd H (by simp)
     rw [if_pos c20] at H
     have LMc20 := Za.mk c20
     clear c20
     obtain ⟨y151, hy151⟩ : ∃ y_ : List Int, y_ = (y147 ++ [rd x3_1 x7_2]) := ⟨_, rfl⟩
     replace H : (Zai.l1 k2 l0 x3_1 x4_1 y151 true (wrap64 (x7_2 + 1))) = some r := by first | (rw [hy151]; with_reducible exact H) | (have H2_ := (Option.bind_some _ _).symm.trans H; rw [hy151]; with_reducible exact H2_) | (have H2_ := (Option.bind_some _ _).symm.trans H; with_reducible exact H2_) | with_reducible exact H | (rw [hy151]; exact H) | exact H
     have Ny151 := Za.mk hy151
     clear hy151
     have H' := Za.mk H
     clear H
     have p144 : 0 ≤ (x4_1 : Int) := of_decide_eq_true (by first | (with_reducible assumption) | assumption)
     have q144 : x4_1 < (l0.length : Int) := of_decide_eq_true (by first | (with_reducible assumption) | assumption)
     obtain ⟨ad144, e144, hx144_0⟩ := Kd.Zby HR0.out x4_1 p144 q144
     obtain rfl : ad138 = ad144 := (by injection e144)
     replace hx144_0 := (HB.out.cell (World.block_lt_of_cell? w _ hx144_0)).trans hx144_0
     replace p144 := eq_true p144
     replace q144 := eq_true q144
     have p145 : 0 ≤ (x7_2 : Int) := of_decide_eq_true (by first | (with_reducible assumption) | assumption)
     have q145 : x7_2 < (x3_1.length : Int) := of_decide_eq_true (by first | (with_reducible assumption) | assumption)
     obtain ⟨ad145, e145, hx145_0⟩ := Kd.Zby (Kd.Za3 HO_3.out).2.2 x7_2 p145 q145
     cases e145
     replace p145 := eq_true p145
     replace q145 := eq_true q145
     have p146 : 0 ≤ (x4_1 : Int) := of_decide_eq_true (by first | (with_reducible assumption) | assumption)
     have q146 : x4_1 < (l0.length : Int) := of_decide_eq_true (by first | (with_reducible assumption) | assumption)
     obtain ⟨ad146, e146, hx146_0⟩ := Kd.Zby HR0.out x4_1 p146 q146
     obtain rfl : ad138 = ad146 := (by injection e146)
     replace hx146_0 := (HB.out.cell (World.block_lt_of_cell? w _ hx146_0)).trans hx146_0
     replace p146 := eq_true p146
     replace q146 := eq_true q146
     go_wp2_with (first | ((with_reducible refine Zbg (b := .append) (xs := #[.tmp 41, .tmp 46]) rfl ?_); at_builtin; refine Kd.Zb9 (Kd.int .i64) (w0 := w) w.heap.size rfl (.tmp 41) (.tmp 46) 23 3 (.int .i64 0) 8 rfl Try.underlying23 info3 rfl (by decide) (by omega) u5 x5_2 (rd l0 x4_1) [.int .i64 (rd l0 x4_1)] (fun k_ => some k_ ≠ (.slice (some ad145) x3_1.length co9 : Value).ownBlock) (fun _ => False) rfl rfl ?aP (fun _ hk => hk.elim) ?aF ?aO ?aB ?aS ?aL ?_; (case aP => exact rfl); (case aB => exact (by repeat (first | (with_reducible first | exact HB.out | apply Zac | apply Zaa | apply Zab) | exact HB.out))); (case aF => exact (fun k_ hk => Kd.fresh' (Kd.R_lt (mvR HO_3.out)) k_ hk)); (case aO => exact (mvR HO_5.out)); (case aS => exact (Zam (by repeat (first | (with_reducible first | exact HB.out | apply Zac | apply Zaa | apply Zab) | exact HB.out)))); (case aL => have := LMc19.out; omega); intro v148 w21 ho hb hg hat; rw [← Ny147.out] at ho; have n0_ := Za.mk (Kd.Zcv (ok := (fun _ => True)) (mvR (Kd.Zbm HO_3.out (fun _ hk => ⟨trivial, hk⟩))) hg hat); have n1_ := Za.mk (hb); have n2_ := Za.mk (ho); clear HO_3; clear HB; clear HO_5; have HO_3 := n0_; have HB := n1_; have HO149 := n2_; clear n0_ n1_ n2_; clear ho hb hg hat; have p150 : 0 ≤ (x7_2 : Int) := of_decide_eq_true (by first | (with_reducible assumption) | assumption); have q150 : x7_2 < (x3_1.length : Int) := of_decide_eq_true (by first | (with_reducible assumption) | assumption); obtain ⟨ad150, e150, hx150_0⟩ := Kd.Zby (Kd.Za3 HO_3.out).2.2 x7_2 p150 q150; obtain rfl : ad145 = ad150 := (by injection e150); replace p150 := eq_true p150; replace q150 := eq_true q150) | ((with_reducible refine Zbg (b := .append) (xs := #[.tmp 48, .tmp 53]) rfl ?_); at_builtin; refine Kd.Zb9 (Kd.int .i64) (w0 := w) w.heap.size rfl (.tmp 48) (.tmp 53) 23 3 (.int .i64 0) 8 rfl Try.underlying23 info3 rfl (by decide) (by omega) v148 y147 (rd x3_1 x7_2) [.int .i64 (rd x3_1 x7_2)] (fun k_ => some k_ ≠ (.slice (some ad145) x3_1.length co9 : Value).ownBlock) (fun _ => False) rfl rfl ?aP (fun _ hk => hk.elim) ?aF ?aO ?aB ?aS ?aL ?_; (case aP => exact rfl); (case aB => exact (by repeat (first | (with_reducible first | exact HB.out | apply Zac | apply Zaa | apply Zab) | exact HB.out))); (case aF => exact (fun k_ hk => Kd.fresh' (Kd.R_lt (mvR HO_3.out)) k_ hk)); (case aO => exact (mvR HO149.out)); (case aS => exact (Zam (by repeat (first | (with_reducible first | exact HB.out | apply Zac | apply Zaa | apply Zab) | exact HB.out)))); (case aL => have := LMc20.out; omega); intro v152 w22 ho hb hg hat; rw [← Ny151.out] at ho; have n0_ := Za.mk (Kd.Zcv (ok := (fun _ => True)) (mvR HO_3.out) hg hat); have n1_ := Za.mk (hb); have n2_ := Za.mk (ho); clear HO_3; clear HB; clear HO149; have HO_3 := n0_; have HB := n1_; have HO153 := n2_; clear n0_ n1_ n2_; clear ho hb hg hat))
     repeat (go_quiet (first | ((with_reducible refine Zbg (b := .append) (xs := #[.tmp 41, .tmp 46]) rfl ?_); at_builtin; refine Kd.Zb9 (Kd.int .i64) (w0 := w) w.heap.size rfl (.tmp 41) (.tmp 46) 23 3 (.int .i64 0) 8 rfl Try.underlying23 info3 rfl (by decide) (by omega) u5 x5_2 (rd l0 x4_1) [.int .i64 (rd l0 x4_1)] (fun k_ => some k_ ≠ (.slice (some ad145) x3_1.length co9 : Value).ownBlock) (fun _ => False) rfl rfl ?aP (fun _ hk => hk.elim) ?aF ?aO ?aB ?aS ?aL ?_; (case aP => exact rfl); (case aB => exact (by repeat (first | (with_reducible first | exact HB.out | apply Zac | apply Zaa | apply Zab) | exact HB.out))); (case aF => exact (fun k_ hk => Kd.fresh' (Kd.R_lt (mvR HO_3.out)) k_ hk)); (case aO => exact (mvR HO_5.out)); (case aS => exact (Zam (by repeat (first | (with_reducible first | exact HB.out | apply Zac | apply Zaa | apply Zab) | exact HB.out)))); (case aL => have := LMc19.out; omega); intro v148 w21 ho hb hg hat; rw [← Ny147.out] at ho; have n0_ := Za.mk (Kd.Zcv (ok := (fun _ => True)) (mvR (Kd.Zbm HO_3.out (fun _ hk => ⟨trivial, hk⟩))) hg hat); have n1_ := Za.mk (hb); have n2_ := Za.mk (ho); clear HO_3; clear HB; clear HO_5; have HO_3 := n0_; have HB := n1_; have HO149 := n2_; clear n0_ n1_ n2_; clear ho hb hg hat; have p150 : 0 ≤ (x7_2 : Int) := of_decide_eq_true (by first | (with_reducible assumption) | assumption); have q150 : x7_2 < (x3_1.length : Int) := of_decide_eq_true (by first | (with_reducible assumption) | assumption); obtain ⟨ad150, e150, hx150_0⟩ := Kd.Zby (Kd.Za3 HO_3.out).2.2 x7_2 p150 q150; obtain rfl : ad145 = ad150 := (by injection e150); replace p150 := eq_true p150; replace q150 := eq_true q150) | ((with_reducible refine Zbg (b := .append) (xs := #[.tmp 48, .tmp 53]) rfl ?_); at_builtin; refine Kd.Zb9 (Kd.int .i64) (w0 := w) w.heap.size rfl (.tmp 48) (.tmp 53) 23 3 (.int .i64 0) 8 rfl Try.underlying23 info3 rfl (by decide) (by omega) v148 y147 (rd x3_1 x7_2) [.int .i64 (rd x3_1 x7_2)] (fun k_ => some k_ ≠ (.slice (some ad145) x3_1.length co9 : Value).ownBlock) (fun _ => False) rfl rfl ?aP (fun _ hk => hk.elim) ?aF ?aO ?aB ?aS ?aL ?_; (case aP => exact rfl); (case aB => exact (by repeat (first | (with_reducible first | exact HB.out | apply Zac | apply Zaa | apply Zab) | exact HB.out))); (case aF => exact (fun k_ hk => Kd.fresh' (Kd.R_lt (mvR HO_3.out)) k_ hk)); (case aO => exact (mvR HO149.out)); (case aS => exact (Zam (by repeat (first | (with_reducible first | exact HB.out | apply Zac | apply Zaa | apply Zab) | exact HB.out)))); (case aL => have := LMc20.out; omega); intro v152 w22 ho hb hg hat; rw [← Ny151.out] at ho; have n0_ := Za.mk (Kd.Zcv (ok := (fun _ => True)) (mvR HO_3.out) hg hat); have n1_ := Za.mk (hb); have n2_ := Za.mk (ho); clear HO_3; clear HB; clear HO149; have HO_3 := n0_; have HB := n1_; have HO153 := n2_; clear n0_ n1_ n2_; clear ho hb hg hat)); try go_wp2_with (first | ((with_reducible refine Zbg (b := .append) (xs := #[.tmp 41, .tmp 46]) rfl ?_); at_builtin; refine Kd.Zb9 (Kd.int .i64) (w0 := w) w.heap.size rfl (.tmp 41) (.tmp 46) 23 3 (.int .i64 0) 8 rfl Try.underlying23 info3 rfl (by decide) (by omega) u5 x5_2 (rd l0 x4_1) [.int .i64 (rd l0 x4_1)] (fun k_ => some k_ ≠ (.slice (some ad145) x3_1.length co9 : Value).ownBlock) (fun _ => False) rfl rfl ?aP (fun _ hk => hk.elim) ?aF ?aO ?aB ?aS ?aL ?_; (case aP => exact rfl); (case aB => exact (by repeat (first | (with_reducible first | exact HB.out | apply Zac | apply Zaa | apply Zab) | exact HB.out))); (case aF => exact (fun k_ hk => Kd.fresh' (Kd.R_lt (mvR HO_3.out)) k_ hk)); (case aO => exact (mvR HO_5.out)); (case aS => exact (Zam (by repeat (first | (with_reducible first | exact HB.out | apply Zac | apply Zaa | apply Zab) | exact HB.out)))); (case aL => have := LMc19.out; omega); intro v148 w21 ho hb hg hat; rw [← Ny147.out] at ho; have n0_ := Za.mk (Kd.Zcv (ok := (fun _ => True)) (mvR (Kd.Zbm HO_3.out (fun _ hk => ⟨trivial, hk⟩))) hg hat); have n1_ := Za.mk (hb); have n2_ := Za.mk (ho); clear HO_3; clear HB; clear HO_5; have HO_3 := n0_; have HB := n1_; have HO149 := n2_; clear n0_ n1_ n2_; clear ho hb hg hat; have p150 : 0 ≤ (x7_2 : Int) := of_decide_eq_true (by first | (with_reducible assumption) | assumption); have q150 : x7_2 < (x3_1.length : Int) := of_decide_eq_true (by first | (with_reducible assumption) | assumption); obtain ⟨ad150, e150, hx150_0⟩ := Kd.Zby (Kd.Za3 HO_3.out).2.2 x7_2 p150 q150; obtain rfl : ad145 = ad150 := (by injection e150); replace p150 := eq_true p150; replace q150 := eq_true q150) | ((with_reducible refine Zbg (b := .append) (xs := #[.tmp 48, .tmp 53]) rfl ?_); at_builtin; refine Kd.Zb9 (Kd.int .i64) (w0 := w) w.heap.size rfl (.tmp 48) (.tmp 53) 23 3 (.int .i64 0) 8 rfl Try.underlying23 info3 rfl (by decide) (by omega) v148 y147 (rd x3_1 x7_2) [.int .i64 (rd x3_1 x7_2)] (fun k_ => some k_ ≠ (.slice (some ad145) x3_1.length co9 : Value).ownBlock) (fun _ => False) rfl rfl ?aP (fun _ hk => hk.elim) ?aF ?aO ?aB ?aS ?aL ?_; (case aP => exact rfl); (case aB => exact (by repeat (first | (with_reducible first | exact HB.out | apply Zac | apply Zaa | apply Zab) | exact HB.out))); (case aF => exact (fun k_ hk => Kd.fresh' (Kd.R_lt (mvR HO_3.out)) k_ hk)); (case aO => exact (mvR HO149.out)); (case aS => exact (Zam (by repeat (first | (with_reducible first | exact HB.out | apply Zac | apply Zaa | apply Zab) | exact HB.out)))); (case aL => have := LMc20.out; omega); intro v152 w22 ho hb hg hat; rw [← Ny151.out] at ho; have n0_ := Za.mk (Kd.Zcv (ok := (fun _ => True)) (mvR HO_3.out) hg hat); have n1_ := Za.mk (hb); have n2_ := Za.mk (ho); clear HO_3; clear HB; clear HO149; have HO_3 := n0_; have HB := n1_; have HO153 := n2_; clear n0_ n1_ n2_; clear ho hb hg hat)))
     go_roundg k2
     case measure => have := HK1.out; have := HK2.out; omega
     case rel => exact ⟨(y151), (true), (wrap64 (x7_2 + 1)), (by first | rfl | (simp; done) | (simp [*]; done)), (by first | rfl | (simp; done) | (simp [*]; done)), H', ⟨by have := HK1.out; have := HK2.out; omega⟩, ⟨by (with_reducible repeat (first | apply Kd.R_alloc | apply Kd.Zbh | apply Kd.Zbl)); exact Kd.Zbm HO_3.out (fun _ hk => hk.2)⟩, ⟨by (with_reducible repeat (first | apply Kd.R_alloc | apply Kd.Zbh | apply Kd.Zbl)); exact HO153.out⟩, ⟨by repeat (first | (with_reducible first | exact HB.out | apply Zac | apply Zaa | apply Zab) | exact HB.out)⟩⟩
def Zal.l0 : Nat → List Int → List (S41) → Int → Int → Option ((List (S41)))
 | 0, _, _, _, _ => none
 | k + 1, x0, x3, x4, x5 => if x5 < (x0.length : Int) then (if (wrap64 (x5 + 1)) = (x0.length : Int) then (if 0 ≤ x4 then (if x4 < (x0.length : Int) then (if 0 ≤ x5 then (if x3.length < 8796093022208 then (Zal.l0 k x0 (x3 ++ [(⟨rd x0 x4, rd x0 x5⟩ : S41)]) (wrap64 (x5 + 1)) (wrap64 (x5 + 1))) else (none)) else (none)) else (none)) else (none)) else (if 0 ≤ (wrap64 (x5 + 1)) then (if (wrap64 (x5 + 1)) < (x0.length : Int) then (if 0 ≤ x5 then (if (rd x0 (wrap64 (x5 + 1))) = (wrap64 ((rd x0 x5) + 1)) then (Zal.l0 k x0 x3 x4 (wrap64 (x5 + 1))) else (if 0 ≤ x4 then (if x4 < (x0.length : Int) then (if x3.length < 8796093022208 then (Zal.l0 k x0 (x3 ++ [(⟨rd x0 x4, rd x0 x5⟩ : S41)]) (wrap64 (x5 + 1)) (wrap64 (x5 + 1))) else (none)) else (none)) else (none))) else (none)) else (none)) else (none))) else (some x3)
def Zal.f (k : Nat) (l0 : List Int) : Option ((List (S41))) := Zal.l0 k l0 (([] : List (S41))) 0 0
def Zal.T5 : Bool × List (List Nat × List Nat) := (true, [([], []), ([0], [0]), ([], []), ([2], [2]), ([1, 3], [1, 3]), ([4], [4]), ([5], [5]), ([5], [5]), ([7, 5], [5, 7]), ([6, 8, 5], [5, 6, 8]), ([9, 5], [5, 9]), ([5], [5]), ([5], [5]), ([11, 12, 5], [5, 11, 12]), ([13, 5], [5, 13]), ([14, 5], [5, 14]), ([10, 15, 5], [5, 10, 15]), ([5, 16], [5, 16])])
def Zal.B5 : List Nat := [0, 1, 0, 4, 15, 31, 63, 63, 191, 511, 1023, 63, 63, 6207, 14399, 30783, 65535, 131071]
theorem Zal.tab5 : rtab .any (opsOf Try.f58 5) = Zal.T5 := by kernel_rfl
theorem Zal.bits5 : waitsOk Zal.T5.2 Zal.B5 = true := by kernel_rfl
def Zal.T6 : Bool × List (List Nat × List Nat) := (true, [([], []), ([], []), ([], []), ([1, 2], [1, 2]), ([3], [3]), ([], []), ([], []), ([5, 6], [5, 6]), ([7], [7]), ([4, 8], [4, 8]), ([9], [9]), ([0, 10], [0, 10]), ([11, 11, 0, 1, 2, 3, 4, 5, 6, 7, 8, 9, 10, 11], [0, 11])])
def Zal.B6 : List Nat := [0, 0, 0, 6, 14, 0, 0, 96, 224, 510, 1022, 2047, 4095]
theorem Zal.tab6 : rtab .any (opsOf Try.f58 6) = Zal.T6 := by kernel_rfl
theorem Zal.bits6 : waitsOk Zal.T6.2 Zal.B6 = true := by kernel_rfl
set_option maxHeartbeats 8000000 in
set_option maxRecDepth 100000 in
theorem Zal.calls (k : Nat) (A0 : Option Addr) (c0 : Nat) (l0 : List Int) (r : List (S41)) (w : World) (hr0 : Kd.C (Kd.int .i64) w A0 l0.length l0) (hc0 : l0.length ≤ c0) (h : Zal.f k l0 = some r) :
  Calls Try.prog 58 #[.slice A0 l0.length c0] w fun e w' => ∃ v0_ : Value, e = .returned (v0_) ∧ Kd.R k41 41 w' w.heap.size (fun _ => True) v0_ r ∧ Below w.heap.size w w' := by
 have hu41 := Try.underlying41
 have HR0 := Za.mk hr0
 have HC0 := Za.mk hc0
 clear hr0 hc0
 have HB := Za.mk (Below.refl w.heap.size w)
 have H : (Zal.l0 k l0 (([] : List (S41))) 0 0) = some r := h
 clear h
 obtain ⟨y162, hy162⟩ : ∃ y_ : List (S41), y_ = (([] : List (S41))) := ⟨_, rfl⟩
 replace H : (Zal.l0 k l0 y162 0 0) = some r := by first | (rw [hy162]; with_reducible exact H) | (have H2_ := (Option.bind_some _ _).symm.trans H; rw [hy162]; with_reducible exact H2_) | (have H2_ := (Option.bind_some _ _).symm.trans H; with_reducible exact H2_) | with_reducible exact H | (rw [hy162]; exact H) | exact H
 have Ny162 := Za.mk hy162
 clear hy162
 have H' := Za.mk H
 clear H
 go_enter Try.func58, Try.ntmps58
 go_wp2_with (first | ((with_reducible refine Zbv (N := 6) rfl ?_); refine Kd.Zdt k41 _ 41 ?hg (N := 6) ?hd (xs := ([] : List (S41))) (inner := []) (ok := fun _ => True) (okp := fun _ => True) ?hr ?hp (fun _ hk => hk) trivial (Below.refl _ _) (Nat.le_refl _) (by simp) ?_; (case hd => rfl); (case hg => rfl); (case hr => first | (go_simp; done) | (go_simp; rfl)); (case hp => exact (Reps.none _ _)); intro v163 w2 ho3 hb hg_ hnew_; clear hg_ hnew_; (first | rw [← Ny162.out] at ho3 | (simp only [Int.reduceToNat] at ho3; rw [← Ny162.out] at ho3)); have n0_ := Za.mk (Kd.Zbz ho3 (Zam (by repeat (first | (with_reducible first | exact HB.out | apply Zac | apply Zaa | apply Zab) | exact HB.out)))); have n1_ := Za.mk (Zan (by repeat (first | (with_reducible first | exact HB.out | apply Zac | apply Zaa | apply Zab) | exact HB.out)) hb); clear HB; have HO164 := n0_; have HB := n1_; clear n0_ n1_; clear hb ho3))
 go_loopg [3, 4, 5] k (fun kq v3 v4 v5 w' => ∃ (x3_1 : List (S41)) (x4_1 : Int) (x5_1 : Int), v4 = .int .i64 x4_1 ∧ v5 = .int .i64 x5_1 ∧ Za (Zal.l0 kq l0 x3_1 x4_1 x5_1 = some r) ∧ Za (kq ≤ k) ∧ Za (Kd.R k41 41 w' w.heap.size (fun _ => True) v3 x3_1) ∧ Za (Below w.heap.size w w'))
 case atStart => exact ⟨(y162), (0), (0), (by first | rfl | (simp; done) | (simp [*]; done)), (by first | rfl | (simp; done) | (simp [*]; done)), H', ⟨Nat.le_refl _⟩, ⟨by (with_reducible repeat (first | apply Kd.R_alloc | apply Kd.Zbh | apply Kd.Zbl)); exact HO164.out⟩, ⟨by repeat (first | (with_reducible first | exact HB.out | apply Zac | apply Zaa | apply Zab) | exact HB.out)⟩⟩
 case round =>
  clear H'
  try clear p2
  obtain ⟨x3_1, x4_1, x5_1, rfl, rfl, HA, HK1, HO_3, HB⟩ := hrel
  cases gk with
  | zero => exact absurd HA.out (by simp [Zal.l0])
  | succ k1 =>
   have H := HA.out
   clear HA
   simp only [Zal.l0] at H
   by_cases c4 : x5_1 < (l0.length : Int)
   rotate_left
   ·rw [if_neg c4] at H
    have c4b0 : decide (x5_1 < (l0.length : Int)) = false := decide_eq_false c4
    clear c4
    obtain rfl := Option.some.inj H
    go_wp2
    go_ret
    exact ⟨_, by first | rfl | (simp [Zaq, Zar] <;> rfl) | (simp [*, Zaq, Zar] <;> rfl), by (with_reducible repeat (first | apply Kd.R_alloc | apply Kd.Zbh | apply Kd.Zbl)); exact HO_3.out, by repeat (first | (with_reducible first | exact HB.out | apply Zac | apply Zaa | apply Zab) | exact HB.out)⟩
   rw [if_pos c4] at H
   have c4b0 : decide (x5_1 < (l0.length : Int)) = true := decide_eq_true c4
   clear c4
   by_cases c5 : (wrap64 (x5_1 + 1)) = (l0.length : Int)
   ·rw [if_pos c5] at H
    have c5b0 : ((wrap64 (x5_1 + 1)) == (l0.length : Int)) = true := beq_iff_eq.mpr c5
    have c5b1 : ((wrap64 (x5_1 + 1)) != (l0.length : Int)) = false := bne_eq_false_iff_eq.mpr c5
    clear c5
    by_cases c6 : 0 ≤ x4_1
    rotate_left
    ·rw [if_neg c6] at H
     exact absurd H (by simp)
    rw [if_pos c6] at H
    have c6b0 : decide (0 ≤ x4_1) = true := decide_eq_true c6
    clear c6
    by_cases c7 : x4_1 < (l0.length : Int)
    rotate_left
    ·rw [if_neg c7] at H
     exact absurd H (by simp)
    rw [if_pos c7] at H
    have c7b0 : decide (x4_1 < (l0.length : Int)) = true := decide_eq_true c7
    clear c7
    by_cases c8 : 0 ≤ x5_1
    rotate_left
    ·rw [if_neg c8] at H
     exact absurd H (by simp)
    rw [if_pos c8] at H
    have c8b0 : decide (0 ≤ x5_1) = true := decide_eq_true c8
    clear c8
    by_cases c9 : x3_1.length < 8796093022208
    rotate_left
    ·rw [if_neg c9] at H
     exact absurd H (by simp)
    rw [if_pos c9] at H
    have LMc9 := Za.mk c9
    clear c9
    obtain ⟨y167, hy167⟩ : ∃ y_ : List (S41), y_ = (x3_1 ++ [(⟨rd l0 x4_1, rd l0 x5_1⟩ : S41)]) := ⟨_, rfl⟩
    replace H : (Zal.l0 k1 l0 y167 (wrap64 (x5_1 + 1)) (wrap64 (x5_1 + 1))) = some r := by first | (rw [hy167]; with_reducible exact H) | (have H2_ := (Option.bind_some _ _).symm.trans H; rw [hy167]; with_reducible exact H2_) | (have H2_ := (Option.bind_some _ _).symm.trans H; with_reducible exact H2_) | with_reducible exact H | (rw [hy167]; exact H) | exact H
    have Ny167 := Za.mk hy167
    clear hy167
    have H' := Za.mk H
    clear H
    try go_wp2
    have n0_ := Za.mk (Kd.Zbl HO_3.out)
    have n1_ := Za.mk (Zab HB.out)
    clear HO_3
    clear HB
    have HO_3 := n0_
    have HB := n1_
    clear n0_ n1_
    refine Zdl (n := 18) (S := fun w' => True) (ds := []) #[false, false, false, false, false, false, false, false, false, false, false, false, false, false, false, false, false, false] (by kernel_rfl) rfl rfl trivial (fun hHeld => ?_); refine Zcl Zal.tab5 Zal.bits5 (fun HT_ HW_ => ?_)
    generalize wr.drew = w10 at HO_3 HB hHeld ⊢
    refine Zbn (i := 0) (N := some 13) (v := ?_) (a' := ?_) #[true, false, false, false, false, false, false, false, false, false, false, false, false, false, false, false, false, false] rfl rfl (Za5 HT_.out (by kernel_rfl)) (fun _ _ _ h => h) (Or.inl ⟨by rfl, ?_⟩) ?_ ?_
    rotate_left
    ·intro w'
     go_simp
     with_reducible rfl
    rotate_left
    ·simp only [Act.put, List.setIfInBounds_toArray, List.set_cons_zero, List.set_cons_succ, Za4, Za7]
     rfl
    refine Zbn (i := 1) (N := some 14) (v := ?_) (a' := ?_) #[true, true, false, false, false, false, false, false, false, false, false, false, false, false, false, false, false, false] rfl rfl (Za5 HT_.out (by kernel_rfl)) (fun _ _ _ h => h) (Or.inl ⟨by rfl, ?_⟩) ?_ ?_
    rotate_left
    ·intro w'
     go_simp
     with_reducible rfl
    rotate_left
    ·simp only [Act.put, List.setIfInBounds_toArray, List.set_cons_zero, List.set_cons_succ, Za4, Za7]
     rfl
    refine Zbn (i := 2) (N := some 15) (v := ?_) (a' := ?_) #[true, true, true, false, false, false, false, false, false, false, false, false, false, false, false, false, false, false] rfl rfl (Za5 HT_.out (by kernel_rfl)) (fun _ _ _ h => h) (Or.inl ⟨by rfl, ?_⟩) ?_ ?_
    rotate_left
    ·intro w'
     go_simp
     with_reducible rfl
    rotate_left
    ·simp only [Act.put, List.setIfInBounds_toArray, List.set_cons_zero, List.set_cons_succ, Za4, Za7]
     rfl
    refine Zbn (i := 3) (N := some 16) (v := ?_) (a' := ?_) #[true, true, true, true, false, false, false, false, false, false, false, false, false, false, false, false, false, false] rfl rfl (Za5 HT_.out (by kernel_rfl)) (fun _ _ _ h => h) (Or.inl ⟨by rfl, ?_⟩) ?_ ?_
    rotate_left
    ·intro w'
     go_simp
     with_reducible rfl
    rotate_left
    ·simp only [Act.put, List.setIfInBounds_toArray, List.set_cons_zero, List.set_cons_succ, Za4, Za7]
     rfl
    refine Zbn (i := 4) (N := some 17) (v := ?_) (a' := ?_) #[true, true, true, true, true, false, false, false, false, false, false, false, false, false, false, false, false, false] rfl rfl (Za5 HT_.out (by kernel_rfl)) (fun _ _ _ h => h) (Or.inl ⟨by rfl, ?_⟩) ?_ ?_
    rotate_left
    ·intro w'
     go_simp
     with_reducible rfl
    rotate_left
    ·simp only [Act.put, List.setIfInBounds_toArray, List.set_cons_zero, List.set_cons_succ, Za4, Za7]
     rfl
    refine Zbn (i := 5) (N := some 18) (v := ?_) (a' := ?_) #[true, true, true, true, true, true, false, false, false, false, false, false, false, false, false, false, false, false] rfl rfl (Za5 HT_.out (by kernel_rfl)) (fun _ _ _ h => h) (Or.inl ⟨by rfl, ?_⟩) ?_ ?_
    rotate_left
    ·intro w'
     go_simp
     with_reducible rfl
    rotate_left
    ·simp only [Act.put, List.setIfInBounds_toArray, List.set_cons_zero, List.set_cons_succ, Za4, Za7]
     rfl
    refine Zbn (i := 6) (N := some 19) (v := undef) (a' := ?_) #[true, true, true, true, true, true, true, false, false, false, false, false, false, false, false, false, false, false] rfl rfl (Za5 HT_.out (by kernel_rfl)) (fun _ _ _ h => h) (Or.inr ⟨by rfl, rfl⟩) ?_ ?_
    rotate_left
    ·simp only [Act.put, List.setIfInBounds_toArray, List.set_cons_zero, List.set_cons_succ, Za4, Za7]
     rfl
    refine Zbn (i := 7) (N := some 20) (v := undef) (a' := ?_) #[true, true, true, true, true, true, true, true, false, false, false, false, false, false, false, false, false, false] rfl rfl (Za5 HT_.out (by kernel_rfl)) (fun _ _ _ h => h) (Or.inr ⟨by rfl, rfl⟩) ?_ ?_
    rotate_left
    ·simp only [Act.put, List.setIfInBounds_toArray, List.set_cons_zero, List.set_cons_succ, Za4, Za7]
     rfl
    refine Zbn (i := 8) (N := some 21) (v := undef) (a' := ?_) #[true, true, true, true, true, true, true, true, true, false, false, false, false, false, false, false, false, false] rfl rfl (Za5 HT_.out (by kernel_rfl)) (fun _ _ _ h => h) (Or.inr ⟨by rfl, rfl⟩) ?_ ?_
    rotate_left
    ·simp only [Act.put, List.setIfInBounds_toArray, List.set_cons_zero, List.set_cons_succ, Za4, Za7]
     rfl
    refine Zbn (i := 9) (N := some 22) (v := undef) (a' := ?_) #[true, true, true, true, true, true, true, true, true, true, false, false, false, false, false, false, false, false] rfl rfl (Za5 HT_.out (by kernel_rfl)) (fun _ _ _ h => h) (Or.inr ⟨by rfl, rfl⟩) ?_ ?_
    rotate_left
    ·simp only [Act.put, List.setIfInBounds_toArray, List.set_cons_zero, List.set_cons_succ, Za4, Za7]
     rfl
    refine Zbn (i := 10) (N := some 23) (v := undef) (a' := ?_) #[true, true, true, true, true, true, true, true, true, true, true, false, false, false, false, false, false, false] rfl rfl (Za5 HT_.out (by kernel_rfl)) (fun _ _ _ h => h) (Or.inr ⟨by rfl, rfl⟩) ?_ ?_
    rotate_left
    ·simp only [Act.put, List.setIfInBounds_toArray, List.set_cons_zero, List.set_cons_succ, Za4, Za7]
     rfl
    refine Zbn (i := 11) (N := some 24) (v := undef) (a' := ?_) #[true, true, true, true, true, true, true, true, true, true, true, true, false, false, false, false, false, false] rfl rfl (Za5 HT_.out (by kernel_rfl)) (fun _ _ _ h => h) (Or.inr ⟨by rfl, rfl⟩) ?_ ?_
    rotate_left
    ·simp only [Act.put, List.setIfInBounds_toArray, List.set_cons_zero, List.set_cons_succ, Za4, Za7]
     rfl
    refine Zbn (i := 12) (N := some 25) (v := undef) (a' := ?_) #[true, true, true, true, true, true, true, true, true, true, true, true, true, false, false, false, false, false] rfl rfl (Za5 HT_.out (by kernel_rfl)) (fun _ _ _ h => h) (Or.inr ⟨by rfl, rfl⟩) ?_ ?_
    rotate_left
    ·simp only [Act.put, List.setIfInBounds_toArray, List.set_cons_zero, List.set_cons_succ, Za4, Za7]
     rfl
    refine Zbn (i := 13) (N := some 26) (v := undef) (a' := ?_) #[true, true, true, true, true, true, true, true, true, true, true, true, true, true, false, false, false, false] rfl rfl (Za5 HT_.out (by kernel_rfl)) (fun _ _ _ h => h) (Or.inr ⟨by rfl, rfl⟩) ?_ ?_
    rotate_left
    ·simp only [Act.put, List.setIfInBounds_toArray, List.set_cons_zero, List.set_cons_succ, Za4, Za7]
     rfl
    refine Zbn (i := 14) (N := some 27) (v := undef) (a' := ?_) #[true, true, true, true, true, true, true, true, true, true, true, true, true, true, true, false, false, false] rfl rfl (Za5 HT_.out (by kernel_rfl)) (fun _ _ _ h => h) (Or.inr ⟨by rfl, rfl⟩) ?_ ?_
    rotate_left
    ·simp only [Act.put, List.setIfInBounds_toArray, List.set_cons_zero, List.set_cons_succ, Za4, Za7]
     rfl
    refine Zbn (i := 15) (N := some 28) (v := undef) (a' := ?_) #[true, true, true, true, true, true, true, true, true, true, true, true, true, true, true, true, false, false] rfl rfl (Za5 HT_.out (by kernel_rfl)) (fun _ _ _ h => h) (Or.inr ⟨by rfl, rfl⟩) ?_ ?_
    rotate_left
    ·simp only [Act.put, List.setIfInBounds_toArray, List.set_cons_zero, List.set_cons_succ, Za4, Za7]
     rfl
    refine Zbn (i := 16) (N := some 29) (v := undef) (a' := ?_) #[true, true, true, true, true, true, true, true, true, true, true, true, true, true, true, true, true, false] rfl rfl (Za5 HT_.out (by kernel_rfl)) (fun _ _ _ h => h) (Or.inr ⟨by rfl, rfl⟩) ?_ ?_
    rotate_left
    ·simp only [Act.put, List.setIfInBounds_toArray, List.set_cons_zero, List.set_cons_succ, Za4, Za7]
     rfl
    refine Zbn (i := 17) (N := some 30) (v := ?_) (a' := ?_) #[true, true, true, true, true, true, true, true, true, true, true, true, true, true, true, true, true, true] rfl rfl (Za5 HT_.out (by kernel_rfl)) (fun _ _ _ h => h) (Or.inl ⟨by rfl, ?_⟩) ?_ ?_
    rotate_left
    ·intro w'
     go_simp
     with_reducible rfl
    rotate_left
    ·simp only [Act.put, List.setIfInBounds_toArray, List.set_cons_zero, List.set_cons_succ, Za4, Za7]
     rfl
    refine Zew (Zc7 HT_.out (by kernel_rfl)) ?_
    try go_wp2
    have n0_ := Za.mk (Kd.Zbl HO_3.out)
    have n1_ := Za.mk (Zab HB.out)
    clear HO_3
    clear HB
    have HO_3 := n0_
    have HB := n1_
    clear n0_ n1_
    have p165 : 0 ≤ (x4_1 : Int) := of_decide_eq_true (by first | (with_reducible assumption) | assumption)
    have q165 : x4_1 < (l0.length : Int) := of_decide_eq_true (by first | (with_reducible assumption) | assumption)
    obtain ⟨ad165, e165, hx165_0⟩ := Kd.Zby HR0.out x4_1 p165 q165
    have hw165_0 := hx165_0
    cases e165
    replace hx165_0 := (HB.out.cell (World.block_lt_of_cell? w _ hx165_0)).trans hx165_0
    replace p165 := eq_true p165
    replace q165 := eq_true q165
    have p166 : 0 ≤ (x5_1 : Int) := of_decide_eq_true (by first | (with_reducible assumption) | assumption)
    have q166 : x5_1 < (l0.length : Int) := of_decide_eq_true (by first | (with_reducible assumption) | assumption)
    obtain ⟨ad166, e166, hx166_0⟩ := Kd.Zby HR0.out x5_1 p166 q166
    have hw166_0 := hx166_0
    obtain rfl : ad165 = ad166 := (by injection e166)
    replace hx166_0 := (HB.out.cell (World.block_lt_of_cell? w _ hx166_0)).trans hx166_0
    replace p166 := eq_true p166
    replace q166 := eq_true q166
    refine Zdl (n := 13) (S := fun w' => w'.cell? (ad165.add (x4_1).toNat) = some (.int .i64 (rd l0 x4_1)) ∧ w'.cell? (ad165.add (x5_1).toNat) = some (.int .i64 (rd l0 x5_1))) (ds := []) #[false, false, false, false, false, false, false, false, false, false, false, false, false] (by kernel_rfl) rfl rfl ⟨((HB.out.cell (World.block_lt_of_cell? w _ hw165_0)).trans hw165_0), ((HB.out.cell (World.block_lt_of_cell? w _ hw166_0)).trans hw166_0)⟩ (fun hHeld => ?_); refine Zcl Zal.tab6 Zal.bits6 (fun HT_ HW_ => ?_)
    generalize w10.drew = w11 at HO_3 HB hx165_0 hx166_0 hHeld ⊢
    refine Zbn (i := 0) (N := some 31) (v := ?_) (a' := ?_) #[true, false, false, false, false, false, false, false, false, false, false, false, false] rfl rfl (Za5 HT_.out (by kernel_rfl)) (fun _ _ _ h => h) (Or.inl ⟨by rfl, ?_⟩) ?_ ?_
    rotate_left
    ·intro w'
     go_simp
     with_reducible rfl
    rotate_left
    ·simp only [Act.put, List.setIfInBounds_toArray, List.set_cons_zero, List.set_cons_succ, Za4, Za7]
     rfl
    refine Zbn (i := 1) (N := some 32) (v := ?_) (a' := ?_) #[true, true, false, false, false, false, false, false, false, false, false, false, false] rfl rfl (Za5 HT_.out (by kernel_rfl)) (fun _ _ _ h => h) (Or.inl ⟨by rfl, ?_⟩) ?_ ?_
    rotate_left
    ·intro w'
     go_simp
     with_reducible rfl
    rotate_left
    ·simp only [Act.put, List.setIfInBounds_toArray, List.set_cons_zero, List.set_cons_succ, Za4, Za7]
     rfl
    refine Zbn (i := 2) (N := some 33) (v := ?_) (a' := ?_) #[true, true, true, false, false, false, false, false, false, false, false, false, false] rfl rfl (Za5 HT_.out (by kernel_rfl)) (fun _ _ _ h => h) (Or.inl ⟨by rfl, ?_⟩) ?_ ?_
    rotate_left
    ·intro w'
     go_simp
     with_reducible rfl
    rotate_left
    ·simp only [Act.put, List.setIfInBounds_toArray, List.set_cons_zero, List.set_cons_succ, Za4, Za7]
     rfl
    refine Zbn (i := 3) (N := some 34) (v := ?_) (a' := ?_) #[true, true, true, true, false, false, false, false, false, false, false, false, false] rfl rfl (Za5 HT_.out (by kernel_rfl)) (fun _ _ _ h => h) (Or.inl ⟨by rfl, ?_⟩) ?_ ?_
    rotate_left
    ·intro w'
     go_simp
     with_reducible rfl
    rotate_left
    ·simp only [Act.put, List.setIfInBounds_toArray, List.set_cons_zero, List.set_cons_succ, Za4, Za7]
     rfl
    refine Zbn (i := 5) (N := some 36) (v := ?_) (a' := ?_) #[true, true, true, true, false, true, false, false, false, false, false, false, false] rfl rfl (Za5 HT_.out (by kernel_rfl)) (fun _ _ _ h => h) (Or.inl ⟨by rfl, ?_⟩) ?_ ?_
    rotate_left
    ·intro w'
     go_simp
     with_reducible rfl
    rotate_left
    ·simp only [Act.put, List.setIfInBounds_toArray, List.set_cons_zero, List.set_cons_succ, Za4, Za7]
     rfl
    refine Zbn (i := 6) (N := some 37) (v := ?_) (a' := ?_) #[true, true, true, true, false, true, true, false, false, false, false, false, false] rfl rfl (Za5 HT_.out (by kernel_rfl)) (fun _ _ _ h => h) (Or.inl ⟨by rfl, ?_⟩) ?_ ?_
    rotate_left
    ·intro w'
     go_simp
     with_reducible rfl
    rotate_left
    ·simp only [Act.put, List.setIfInBounds_toArray, List.set_cons_zero, List.set_cons_succ, Za4, Za7]
     rfl
    refine Zbn (i := 7) (N := some 38) (v := ?_) (a' := ?_) #[true, true, true, true, false, true, true, true, false, false, false, false, false] rfl rfl (Za5 HT_.out (by kernel_rfl)) (fun _ _ _ h => h) (Or.inl ⟨by rfl, ?_⟩) ?_ ?_
    rotate_left
    ·intro w'
     go_simp
     with_reducible rfl
    rotate_left
    ·simp only [Act.put, List.setIfInBounds_toArray, List.set_cons_zero, List.set_cons_succ, Za4, Za7]
     rfl
    refine Zc3 (i := 4) (N := some 35) (v := ?_) (a' := ?_) #[true, true, true, true, true, true, true, true, false, false, false, false, false] rfl rfl (Zb1 HT_.out HW_.out (by kernel_rfl)) (fun _ _ _ h => h) (Or.inl ⟨by rfl, ?_⟩) hHeld ?_ ?_
    rotate_left
    ·rintro w' ⟨s0, s1⟩
     go_simp
     with_reducible rfl
    rotate_left
    ·simp only [Act.put, List.setIfInBounds_toArray, List.set_cons_zero, List.set_cons_succ, Za4, Za7]
     rfl
    refine Zc3 (i := 8) (N := some 39) (v := ?_) (a' := ?_) #[true, true, true, true, true, true, true, true, true, false, false, false, false] rfl rfl (Zb1 HT_.out HW_.out (by kernel_rfl)) (fun _ _ _ h => h) (Or.inl ⟨by rfl, ?_⟩) hHeld ?_ ?_
    rotate_left
    ·rintro w' ⟨s0, s1⟩
     go_simp
     with_reducible rfl
    rotate_left
    ·simp only [Act.put, List.setIfInBounds_toArray, List.set_cons_zero, List.set_cons_succ, Za4, Za7]
     rfl
    refine Zbn (i := 9) (N := some 40) (v := ?_) (a' := ?_) #[true, true, true, true, true, true, true, true, true, true, false, false, false] rfl rfl (Za5 HT_.out (by kernel_rfl)) (fun _ _ _ h => h) (Or.inl ⟨by rfl, ?_⟩) ?_ ?_
    rotate_left
    ·intro w'
     go_simp
     with_reducible rfl
    rotate_left
    ·simp only [Act.put, List.setIfInBounds_toArray, List.set_cons_zero, List.set_cons_succ, Za4, Za7]
     rfl
    refine one_ (i := 10) (N := some 41) #[true, true, true, true, true, true, true, true, true, true, true, false, false] rfl rfl (Zc4 HT_.out (by kernel_rfl)) (by decide) (fun K hK => ?_)
    refine Zgg (w1 := ?_) (v := ?_) (by rfl) rfl ?_ ?_
    rotate_left 2
    ·go_simp
     constructor
     ·rfl
     rfl
    refine hK.out _ _ ⟨(World.cell?_alloc_lt _ _ _ (World.block_lt_of_cell? _ _ (((HB.out.cell (World.block_lt_of_cell? w _ hw165_0)).trans hw165_0)))).trans (((HB.out.cell (World.block_lt_of_cell? w _ hw165_0)).trans hw165_0)), (World.cell?_alloc_lt _ _ _ (World.block_lt_of_cell? _ _ (((HB.out.cell (World.block_lt_of_cell? w _ hw166_0)).trans hw166_0)))).trans (((HB.out.cell (World.block_lt_of_cell? w _ hw166_0)).trans hw166_0))⟩ (fun hHeld => ?_)
    clear hK K
    refine Zea (a' := ?_) ?_ ?_
    rotate_left
    ·show Act.put _ (some 41) _ = _
     simp only [Act.put, List.setIfInBounds_toArray, List.set_cons_zero, List.set_cons_succ, Za4, Za7]
     rfl
    refine one_ (i := 11) (N := some 42) #[true, true, true, true, true, true, true, true, true, true, true, true, false] rfl rfl (Zc4 HT_.out (by kernel_rfl)) (by decide) (fun K hK => ?_)
    refine Kd.Zde k41 (w0 := w) w.heap.size (by rfl) (.tmp 31) (.tmp 41) 39 41 (.agg #[(.int .i64 0), (.int .i64 0)]) 16 rfl Try.underlying39 info41 rfl (by decide) (by omega) u3 x3_1 (⟨rd l0 x4_1, rd l0 x5_1⟩ : S41) [.int .i64 (rd l0 x4_1), .int .i64 (rd l0 x5_1)] (fun _ => True) (fun _ => False) rfl rfl ?aP (fun _ hk => hk.elim) ?aF ?aO ?aB ?aS ?aL ?_
    (case aP => exact Ze _ _ _ (⟨rd l0 x4_1, rd l0 x5_1⟩ : S41))
    (case aB => exact (by repeat (first | (with_reducible first | exact HB.out | apply Zac | apply Zaa | apply Zab) | exact HB.out)))
    (case aF => exact (fun _ _ => trivial))
    (case aO => exact (mvR HO_3.out))
    (case aS => exact (Zam (by repeat (first | (with_reducible first | exact HB.out | apply Zac | apply Zaa | apply Zab) | exact HB.out))))
    (case aL => have := LMc9.out; omega)
    intro v168 w12 ho hb hg hat
    rw [← Ny167.out] at ho
    have n0_ := Za.mk (hb)
    have n1_ := Za.mk (ho)
    clear HB
    clear HO_3
    have HB := n0_
    have HO169 := n1_
    clear n0_ n1_
    clear ho hb hg hat
    refine hK.out _ _ ⟨((HB.out.cell (World.block_lt_of_cell? w _ hw165_0)).trans hw165_0), ((HB.out.cell (World.block_lt_of_cell? w _ hw166_0)).trans hw166_0)⟩ (fun hHeld => ?_)
    clear hK K
    refine Zea (a' := ?_) ?_ ?_
    rotate_left
    ·show Act.put _ (some 42) _ = _
     simp only [Act.put, List.setIfInBounds_toArray, List.set_cons_zero, List.set_cons_succ, Za4, Za7]
     rfl
    refine Zbn (i := 12) (N := some 3) (v := ?_) (a' := ?_) #[true, true, true, true, true, true, true, true, true, true, true, true, true] rfl rfl (Za5 HT_.out (by kernel_rfl)) (fun _ _ _ h => h) (Or.inl ⟨by rfl, ?_⟩) ?_ ?_
    rotate_left
    ·intro w'
     go_simp
     with_reducible rfl
    rotate_left
    ·simp only [Act.put, List.setIfInBounds_toArray, List.set_cons_zero, List.set_cons_succ, Za4, Za7]
     rfl
    refine Zew (Zc7 HT_.out (by kernel_rfl)) ?_
    try go_wp2
    go_roundg k1
    case measure => have := HK1.out; omega
    case rel => exact ⟨(y167), (wrap64 (x5_1 + 1)), (wrap64 (x5_1 + 1)), (by first | rfl | (simp; done) | (simp [*]; done)), (by first | rfl | (simp; done) | (simp [*]; done)), H', ⟨by have := HK1.out; omega⟩, ⟨by (with_reducible repeat (first | apply Kd.R_alloc | apply Kd.Zbh | apply Kd.Zbl)); exact HO169.out⟩, ⟨by repeat (first | (with_reducible first | exact HB.out | apply Zac | apply Zaa | apply Zab) | exact HB.out)⟩⟩
   rw [if_neg c5] at H
   have c5b0 : ((wrap64 (x5_1 + 1)) == (l0.length : Int)) = false := beq_eq_false_iff_ne.mpr c5
   have c5b1 : ((wrap64 (x5_1 + 1)) != (l0.length : Int)) = true := bne_iff_ne.mpr c5
   obtain ⟨ji13, hji13⟩ : ∃ j_ : Int, (wrap64 (x5_1 + 1)) = j_ := ⟨_, rfl⟩
   replace H : (if 0 ≤ (ji13) then (if (ji13) < (l0.length : Int) then (if 0 ≤ x5_1 then (if (rd l0 (ji13)) = (wrap64 ((rd l0 x5_1) + 1)) then (Zal.l0 k1 l0 x3_1 x4_1 ji13) else (if 0 ≤ x4_1 then (if x4_1 < (l0.length : Int) then (if x3_1.length < 8796093022208 then (Zal.l0 k1 l0 (x3_1 ++ [(⟨rd l0 x4_1, rd l0 x5_1⟩ : S41)]) ji13 ji13) else (none)) else (none)) else (none))) else (none)) else (none)) else (none)) = some r := by first | (rw [hji13] at H; exact H) | (simp only [hji13] at H ⊢; exact H)
   (try rw [hji13] at c5b0)
   (try rw [hji13] at c5b1)
   have hji13w : (IntKind.i64.wrap (x5_1 + 1)) = ji13 := (Za4 _).trans hji13
   by_cases c14 : 0 ≤ (ji13)
   rotate_left
   ·rw [if_neg c14] at H
    exact absurd H (by simp)
   rw [if_pos c14] at H
   have c14b0 : decide (0 ≤ (ji13)) = true := decide_eq_true c14
   clear c14
   by_cases c15 : (ji13) < (l0.length : Int)
   rotate_left
   ·rw [if_neg c15] at H
    exact absurd H (by simp)
   rw [if_pos c15] at H
   have c15b0 : decide ((ji13) < (l0.length : Int)) = true := decide_eq_true c15
   clear c15
   by_cases c16 : 0 ≤ x5_1
   rotate_left
   ·rw [if_neg c16] at H
    exact absurd H (by simp)
   rw [if_pos c16] at H
   have c16b0 : decide (0 ≤ x5_1) = true := decide_eq_true c16
   clear c16
   by_cases c17 : (rd l0 (ji13)) = (wrap64 ((rd l0 x5_1) + 1))
   ·rw [if_pos c17] at H
    have c17b0 : ((rd l0 (ji13)) == (wrap64 ((rd l0 x5_1) + 1))) = true := beq_iff_eq.mpr c17
    have c17b1 : ((rd l0 (ji13)) != (wrap64 ((rd l0 x5_1) + 1))) = false := bne_eq_false_iff_eq.mpr c17
    clear c17
    have H' := Za.mk H
    clear H
    try go_wp2
    have n0_ := Za.mk (Kd.Zbl HO_3.out)
    have n1_ := Za.mk (Zab HB.out)
    clear HO_3
    clear HB
    have HO_3 := n0_
    have HB := n1_
    clear n0_ n1_
    have p170 : 0 ≤ ((ji13) : Int) := of_decide_eq_true (by first | (with_reducible assumption) | assumption)
    have q170 : (ji13) < (l0.length : Int) := of_decide_eq_true (by first | (with_reducible assumption) | assumption)
    obtain ⟨ad170, e170, hx170_0⟩ := Kd.Zby HR0.out (ji13) p170 q170
    have hw170_0 := hx170_0
    cases e170
    replace hx170_0 := (HB.out.cell (World.block_lt_of_cell? w _ hx170_0)).trans hx170_0
    replace p170 := eq_true p170
    replace q170 := eq_true q170
    have p171 : 0 ≤ (x5_1 : Int) := of_decide_eq_true (by first | (with_reducible assumption) | assumption)
    have q171 : x5_1 < (l0.length : Int) := of_decide_eq_true (by first | (with_reducible assumption) | assumption)
    obtain ⟨ad171, e171, hx171_0⟩ := Kd.Zby HR0.out x5_1 p171 q171
    have hw171_0 := hx171_0
    obtain rfl : ad170 = ad171 := (by injection e171)
    replace hx171_0 := (HB.out.cell (World.block_lt_of_cell? w _ hx171_0)).trans hx171_0
    replace p171 := eq_true p171
    replace q171 := eq_true q171
    refine Zdl (n := 18) (S := fun w' => w'.cell? (ad170.add ((ji13)).toNat) = some (.int .i64 (rd l0 (ji13))) ∧ w'.cell? (ad170.add (x5_1).toNat) = some (.int .i64 (rd l0 x5_1))) (ds := []) #[false, false, false, false, false, false, false, false, false, false, false, false, false, false, false, false, false, false] (by kernel_rfl) rfl rfl ⟨((HB.out.cell (World.block_lt_of_cell? w _ hw170_0)).trans hw170_0), ((HB.out.cell (World.block_lt_of_cell? w _ hw171_0)).trans hw171_0)⟩ (fun hHeld => ?_); refine Zcl Zal.tab5 Zal.bits5 (fun HT_ HW_ => ?_)
    generalize wr.drew = w18 at HO_3 HB hx170_0 hx171_0 hHeld ⊢
    refine Zbn (i := 0) (N := some 13) (v := ?_) (a' := ?_) #[true, false, false, false, false, false, false, false, false, false, false, false, false, false, false, false, false, false] rfl rfl (Za5 HT_.out (by kernel_rfl)) (fun _ _ _ h => h) (Or.inl ⟨by rfl, ?_⟩) ?_ ?_
    rotate_left
    ·intro w'
     go_simp
     with_reducible rfl
    rotate_left
    ·simp only [Act.put, List.setIfInBounds_toArray, List.set_cons_zero, List.set_cons_succ, Za4, Za7]
     rfl
    refine Zbn (i := 1) (N := some 14) (v := ?_) (a' := ?_) #[true, true, false, false, false, false, false, false, false, false, false, false, false, false, false, false, false, false] rfl rfl (Za5 HT_.out (by kernel_rfl)) (fun _ _ _ h => h) (Or.inl ⟨by rfl, ?_⟩) ?_ ?_
    rotate_left
    ·intro w'
     go_simp
     with_reducible rfl
    rotate_left
    ·simp only [Act.put, List.setIfInBounds_toArray, List.set_cons_zero, List.set_cons_succ, Za4, Za7]
     rfl
    refine Zbn (i := 2) (N := some 15) (v := ?_) (a' := ?_) #[true, true, true, false, false, false, false, false, false, false, false, false, false, false, false, false, false, false] rfl rfl (Za5 HT_.out (by kernel_rfl)) (fun _ _ _ h => h) (Or.inl ⟨by rfl, ?_⟩) ?_ ?_
    rotate_left
    ·intro w'
     go_simp
     with_reducible rfl
    rotate_left
    ·simp only [Act.put, List.setIfInBounds_toArray, List.set_cons_zero, List.set_cons_succ, Za4, Za7]
     rfl
    refine Zbn (i := 3) (N := some 16) (v := ?_) (a' := ?_) #[true, true, true, true, false, false, false, false, false, false, false, false, false, false, false, false, false, false] rfl rfl (Za5 HT_.out (by kernel_rfl)) (fun _ _ _ h => h) (Or.inl ⟨by rfl, ?_⟩) ?_ ?_
    rotate_left
    ·intro w'
     go_simp
     with_reducible rfl
    rotate_left
    ·simp only [Act.put, List.setIfInBounds_toArray, List.set_cons_zero, List.set_cons_succ, Za4, Za7]
     rfl
    refine Zbn (i := 4) (N := some 17) (v := ?_) (a' := ?_) #[true, true, true, true, true, false, false, false, false, false, false, false, false, false, false, false, false, false] rfl rfl (Za5 HT_.out (by kernel_rfl)) (fun _ _ _ h => h) (Or.inl ⟨by rfl, ?_⟩) ?_ ?_
    rotate_left
    ·intro w'
     go_simp
     with_reducible rfl
    rotate_left
    ·simp only [Act.put, List.setIfInBounds_toArray, List.set_cons_zero, List.set_cons_succ, Za4, Za7]
     rfl
    refine Zbn (i := 5) (N := some 18) (v := ?_) (a' := ?_) #[true, true, true, true, true, true, false, false, false, false, false, false, false, false, false, false, false, false] rfl rfl (Za5 HT_.out (by kernel_rfl)) (fun _ _ _ h => h) (Or.inl ⟨by rfl, ?_⟩) ?_ ?_
    rotate_left
    ·intro w'
     go_simp
     with_reducible rfl
    rotate_left
    ·simp only [Act.put, List.setIfInBounds_toArray, List.set_cons_zero, List.set_cons_succ, Za4, Za7]
     rfl
    refine Zbn (i := 6) (N := some 19) (v := ?_) (a' := ?_) #[true, true, true, true, true, true, true, false, false, false, false, false, false, false, false, false, false, false] rfl rfl (Za5 HT_.out (by kernel_rfl)) (fun _ _ _ h => h) (Or.inl ⟨by rfl, ?_⟩) ?_ ?_
    rotate_left
    ·intro w'
     go_simp
     with_reducible rfl
    rotate_left
    ·simp only [Act.put, List.setIfInBounds_toArray, List.set_cons_zero, List.set_cons_succ, Za4, Za7]
     rfl
    refine Zbn (i := 7) (N := some 20) (v := ?_) (a' := ?_) #[true, true, true, true, true, true, true, true, false, false, false, false, false, false, false, false, false, false] rfl rfl (Za5 HT_.out (by kernel_rfl)) (fun _ _ _ h => h) (Or.inl ⟨by rfl, ?_⟩) ?_ ?_
    rotate_left
    ·intro w'
     go_simp
     with_reducible rfl
    rotate_left
    ·simp only [Act.put, List.setIfInBounds_toArray, List.set_cons_zero, List.set_cons_succ, Za4, Za7]
     rfl
    refine Zbn (i := 8) (N := some 21) (v := ?_) (a' := ?_) #[true, true, true, true, true, true, true, true, true, false, false, false, false, false, false, false, false, false] rfl rfl (Za5 HT_.out (by kernel_rfl)) (fun _ _ _ h => h) (Or.inl ⟨by rfl, ?_⟩) ?_ ?_
    rotate_left
    ·intro w'
     go_simp
     with_reducible rfl
    rotate_left
    ·simp only [Act.put, List.setIfInBounds_toArray, List.set_cons_zero, List.set_cons_succ, Za4, Za7]
     rfl
    refine Zbn (i := 9) (N := some 22) (v := ?_) (a' := ?_) #[true, true, true, true, true, true, true, true, true, true, false, false, false, false, false, false, false, false] rfl rfl (Za5 HT_.out (by kernel_rfl)) (fun _ _ _ h => h) (Or.inl ⟨by rfl, ?_⟩) ?_ ?_
    rotate_left
    ·intro w'
     go_simp
     with_reducible rfl
    rotate_left
    ·simp only [Act.put, List.setIfInBounds_toArray, List.set_cons_zero, List.set_cons_succ, Za4, Za7]
     rfl
    refine Zbn (i := 11) (N := some 24) (v := ?_) (a' := ?_) #[true, true, true, true, true, true, true, true, true, true, false, true, false, false, false, false, false, false] rfl rfl (Za5 HT_.out (by kernel_rfl)) (fun _ _ _ h => h) (Or.inl ⟨by rfl, ?_⟩) ?_ ?_
    rotate_left
    ·intro w'
     go_simp
     with_reducible rfl
    rotate_left
    ·simp only [Act.put, List.setIfInBounds_toArray, List.set_cons_zero, List.set_cons_succ, Za4, Za7]
     rfl
    refine Zbn (i := 12) (N := some 25) (v := ?_) (a' := ?_) #[true, true, true, true, true, true, true, true, true, true, false, true, true, false, false, false, false, false] rfl rfl (Za5 HT_.out (by kernel_rfl)) (fun _ _ _ h => h) (Or.inl ⟨by rfl, ?_⟩) ?_ ?_
    rotate_left
    ·intro w'
     go_simp
     with_reducible rfl
    rotate_left
    ·simp only [Act.put, List.setIfInBounds_toArray, List.set_cons_zero, List.set_cons_succ, Za4, Za7]
     rfl
    refine Zbn (i := 13) (N := some 26) (v := ?_) (a' := ?_) #[true, true, true, true, true, true, true, true, true, true, false, true, true, true, false, false, false, false] rfl rfl (Za5 HT_.out (by kernel_rfl)) (fun _ _ _ h => h) (Or.inl ⟨by rfl, ?_⟩) ?_ ?_
    rotate_left
    ·intro w'
     go_simp
     with_reducible rfl
    rotate_left
    ·simp only [Act.put, List.setIfInBounds_toArray, List.set_cons_zero, List.set_cons_succ, Za4, Za7]
     rfl
    refine Zc3 (i := 10) (N := some 23) (v := ?_) (a' := ?_) #[true, true, true, true, true, true, true, true, true, true, true, true, true, true, false, false, false, false] rfl rfl (Zb1 HT_.out HW_.out (by kernel_rfl)) (fun _ _ _ h => h) (Or.inl ⟨by rfl, ?_⟩) hHeld ?_ ?_
    rotate_left
    ·rintro w' ⟨s0, s1⟩
     go_simp
     with_reducible rfl
    rotate_left
    ·simp only [Act.put, List.setIfInBounds_toArray, List.set_cons_zero, List.set_cons_succ, Za4, Za7]
     rfl
    refine Zc3 (i := 14) (N := some 27) (v := ?_) (a' := ?_) #[true, true, true, true, true, true, true, true, true, true, true, true, true, true, true, false, false, false] rfl rfl (Zb1 HT_.out HW_.out (by kernel_rfl)) (fun _ _ _ h => h) (Or.inl ⟨by rfl, ?_⟩) hHeld ?_ ?_
    rotate_left
    ·rintro w' ⟨s0, s1⟩
     go_simp
     with_reducible rfl
    rotate_left
    ·simp only [Act.put, List.setIfInBounds_toArray, List.set_cons_zero, List.set_cons_succ, Za4, Za7]
     rfl
    refine Zbn (i := 15) (N := some 28) (v := ?_) (a' := ?_) #[true, true, true, true, true, true, true, true, true, true, true, true, true, true, true, true, false, false] rfl rfl (Za5 HT_.out (by kernel_rfl)) (fun _ _ _ h => h) (Or.inl ⟨by rfl, ?_⟩) ?_ ?_
    rotate_left
    ·intro w'
     go_simp
     with_reducible rfl
    rotate_left
    ·simp only [Act.put, List.setIfInBounds_toArray, List.set_cons_zero, List.set_cons_succ, Za4, Za7]
     rfl
    refine Zbn (i := 16) (N := some 29) (v := ?_) (a' := ?_) #[true, true, true, true, true, true, true, true, true, true, true, true, true, true, true, true, true, false] rfl rfl (Za5 HT_.out (by kernel_rfl)) (fun _ _ _ h => h) (Or.inl ⟨by rfl, ?_⟩) ?_ ?_
    rotate_left
    ·intro w'
     go_simp
     with_reducible rfl
    rotate_left
    ·simp only [Act.put, List.setIfInBounds_toArray, List.set_cons_zero, List.set_cons_succ, Za4, Za7]
     rfl
    refine Zbn (i := 17) (N := some 30) (v := ?_) (a' := ?_) #[true, true, true, true, true, true, true, true, true, true, true, true, true, true, true, true, true, true] rfl rfl (Za5 HT_.out (by kernel_rfl)) (fun _ _ _ h => h) (Or.inl ⟨by rfl, ?_⟩) ?_ ?_
    rotate_left
    ·intro w'
     go_simp
     with_reducible rfl
    rotate_left
    ·simp only [Act.put, List.setIfInBounds_toArray, List.set_cons_zero, List.set_cons_succ, Za4, Za7]
     rfl
    refine Zew (Zc7 HT_.out (by kernel_rfl)) ?_
    try go_wp2
    go_roundg k1
    case measure => have := HK1.out; omega
    case rel => exact ⟨(x3_1), (x4_1), (ji13), (by first | rfl | (simp; done) | (simp [*]; done)), (by first | rfl | (simp; done) | (simp only [← hji13] <;> (first | rfl | simp)) | (simp [*]; done)), H', ⟨by have := HK1.out; omega⟩, ⟨by (with_reducible repeat (first | apply Kd.R_alloc | apply Kd.Zbh | apply Kd.Zbl)); exact HO_3.out⟩, ⟨by repeat (first | (with_reducible first | exact HB.out | apply Zac | apply Zaa | apply Zab) | exact HB.out)⟩⟩
   rw [if_neg c17] at H
   have c17b0 : ((rd l0 (ji13)) == (wrap64 ((rd l0 x5_1) + 1))) = false := beq_eq_false_iff_ne.mpr c17
   have c17b1 : ((rd l0 (ji13)) != (wrap64 ((rd l0 x5_1) + 1))) = true := bne_iff_ne.mpr c17
   by_cases c19 : 0 ≤ x4_1
   rotate_left
   ·rw [if_neg c19] at H
    exact absurd H (by simp)
   rw [if_pos c19] at H
   have c19b0 : decide (0 ≤ x4_1) = true := decide_eq_true c19
   clear c19
   by_cases c20 : x4_1 < (l0.length : Int)
   rotate_left
   ·rw [if_neg c20] at H
    exact absurd H (by simp)
   rw [if_pos c20] at H
   have c20b0 : decide (x4_1 < (l0.length : Int)) = true := decide_eq_true c20
   clear c20
   by_cases c21 : x3_1.length < 8796093022208
   rotate_left
   ·rw [if_neg c21] at H
    exact absurd H (by simp)
   rw [if_pos c21] at H
   have LMc21 := Za.mk c21
   clear c21
   obtain ⟨y174, hy174⟩ : ∃ y_ : List (S41), y_ = (x3_1 ++ [(⟨rd l0 x4_1, rd l0 x5_1⟩ : S41)]) := ⟨_, rfl⟩
   replace H : (Zal.l0 k1 l0 y174 ji13 ji13) = some r := by first | (rw [hy174]; with_reducible exact H) | (have H2_ := (Option.bind_some _ _).symm.trans H; rw [hy174]; with_reducible exact H2_) | (have H2_ := (Option.bind_some _ _).symm.trans H; with_reducible exact H2_) | with_reducible exact H | (rw [hy174]; exact H) | exact H
   have Ny174 := Za.mk hy174
   clear hy174
   have H' := Za.mk H
   clear H
   try go_wp2
   have n0_ := Za.mk (Kd.Zbl HO_3.out)
   have n1_ := Za.mk (Zab HB.out)
   clear HO_3
   clear HB
   have HO_3 := n0_
   have HB := n1_
   clear n0_ n1_
   have p170 : 0 ≤ ((ji13) : Int) := of_decide_eq_true (by first | (with_reducible assumption) | assumption)
   have q170 : (ji13) < (l0.length : Int) := of_decide_eq_true (by first | (with_reducible assumption) | assumption)
   obtain ⟨ad170, e170, hx170_0⟩ := Kd.Zby HR0.out (ji13) p170 q170
   have hw170_0 := hx170_0
   cases e170
   replace hx170_0 := (HB.out.cell (World.block_lt_of_cell? w _ hx170_0)).trans hx170_0
   replace p170 := eq_true p170
   replace q170 := eq_true q170
   have p171 : 0 ≤ (x5_1 : Int) := of_decide_eq_true (by first | (with_reducible assumption) | assumption)
   have q171 : x5_1 < (l0.length : Int) := of_decide_eq_true (by first | (with_reducible assumption) | assumption)
   obtain ⟨ad171, e171, hx171_0⟩ := Kd.Zby HR0.out x5_1 p171 q171
   have hw171_0 := hx171_0
   obtain rfl : ad170 = ad171 := (by injection e171)
   replace hx171_0 := (HB.out.cell (World.block_lt_of_cell? w _ hx171_0)).trans hx171_0
   replace p171 := eq_true p171
   replace q171 := eq_true q171
   refine Zdl (n := 18) (S := fun w' => w'.cell? (ad170.add ((ji13)).toNat) = some (.int .i64 (rd l0 (ji13))) ∧ w'.cell? (ad170.add (x5_1).toNat) = some (.int .i64 (rd l0 x5_1))) (ds := []) #[false, false, false, false, false, false, false, false, false, false, false, false, false, false, false, false, false, false] (by kernel_rfl) rfl rfl ⟨((HB.out.cell (World.block_lt_of_cell? w _ hw170_0)).trans hw170_0), ((HB.out.cell (World.block_lt_of_cell? w _ hw171_0)).trans hw171_0)⟩ (fun hHeld => ?_); refine Zcl Zal.tab5 Zal.bits5 (fun HT_ HW_ => ?_)
   generalize wr.drew = w22 at HO_3 HB hx170_0 hx171_0 hHeld ⊢
   refine Zbn (i := 0) (N := some 13) (v := ?_) (a' := ?_) #[true, false, false, false, false, false, false, false, false, false, false, false, false, false, false, false, false, false] rfl rfl (Za5 HT_.out (by kernel_rfl)) (fun _ _ _ h => h) (Or.inl ⟨by rfl, ?_⟩) ?_ ?_
   rotate_left
   ·intro w'
    go_simp
    with_reducible rfl
   rotate_left
   ·simp only [Act.put, List.setIfInBounds_toArray, List.set_cons_zero, List.set_cons_succ, Za4, Za7]
    rfl
   refine Zbn (i := 1) (N := some 14) (v := ?_) (a' := ?_) #[true, true, false, false, false, false, false, false, false, false, false, false, false, false, false, false, false, false] rfl rfl (Za5 HT_.out (by kernel_rfl)) (fun _ _ _ h => h) (Or.inl ⟨by rfl, ?_⟩) ?_ ?_
   rotate_left
   ·intro w'
    go_simp
    with_reducible rfl
   rotate_left
   ·simp only [Act.put, List.setIfInBounds_toArray, List.set_cons_zero, List.set_cons_succ, Za4, Za7]
    rfl
   refine Zbn (i := 2) (N := some 15) (v := ?_) (a' := ?_) #[true, true, true, false, false, false, false, false, false, false, false, false, false, false, false, false, false, false] rfl rfl (Za5 HT_.out (by kernel_rfl)) (fun _ _ _ h => h) (Or.inl ⟨by rfl, ?_⟩) ?_ ?_
   rotate_left
   ·intro w'
    go_simp
    with_reducible rfl
   rotate_left
   ·simp only [Act.put, List.setIfInBounds_toArray, List.set_cons_zero, List.set_cons_succ, Za4, Za7]
    rfl
   refine Zbn (i := 3) (N := some 16) (v := ?_) (a' := ?_) #[true, true, true, true, false, false, false, false, false, false, false, false, false, false, false, false, false, false] rfl rfl (Za5 HT_.out (by kernel_rfl)) (fun _ _ _ h => h) (Or.inl ⟨by rfl, ?_⟩) ?_ ?_
   rotate_left
   ·intro w'
    go_simp
    with_reducible rfl
   rotate_left
   ·simp only [Act.put, List.setIfInBounds_toArray, List.set_cons_zero, List.set_cons_succ, Za4, Za7]
    rfl
   refine Zbn (i := 4) (N := some 17) (v := ?_) (a' := ?_) #[true, true, true, true, true, false, false, false, false, false, false, false, false, false, false, false, false, false] rfl rfl (Za5 HT_.out (by kernel_rfl)) (fun _ _ _ h => h) (Or.inl ⟨by rfl, ?_⟩) ?_ ?_
   rotate_left
   ·intro w'
    go_simp
    with_reducible rfl
   rotate_left
   ·simp only [Act.put, List.setIfInBounds_toArray, List.set_cons_zero, List.set_cons_succ, Za4, Za7]
    rfl
   refine Zbn (i := 5) (N := some 18) (v := ?_) (a' := ?_) #[true, true, true, true, true, true, false, false, false, false, false, false, false, false, false, false, false, false] rfl rfl (Za5 HT_.out (by kernel_rfl)) (fun _ _ _ h => h) (Or.inl ⟨by rfl, ?_⟩) ?_ ?_
   rotate_left
   ·intro w'
    go_simp
    with_reducible rfl
   rotate_left
   ·simp only [Act.put, List.setIfInBounds_toArray, List.set_cons_zero, List.set_cons_succ, Za4, Za7]
    rfl
   refine Zbn (i := 6) (N := some 19) (v := ?_) (a' := ?_) #[true, true, true, true, true, true, true, false, false, false, false, false, false, false, false, false, false, false] rfl rfl (Za5 HT_.out (by kernel_rfl)) (fun _ _ _ h => h) (Or.inl ⟨by rfl, ?_⟩) ?_ ?_
   rotate_left
   ·intro w'
    go_simp
    with_reducible rfl
   rotate_left
   ·simp only [Act.put, List.setIfInBounds_toArray, List.set_cons_zero, List.set_cons_succ, Za4, Za7]
    rfl
   refine Zbn (i := 7) (N := some 20) (v := ?_) (a' := ?_) #[true, true, true, true, true, true, true, true, false, false, false, false, false, false, false, false, false, false] rfl rfl (Za5 HT_.out (by kernel_rfl)) (fun _ _ _ h => h) (Or.inl ⟨by rfl, ?_⟩) ?_ ?_
   rotate_left
   ·intro w'
    go_simp
    with_reducible rfl
   rotate_left
   ·simp only [Act.put, List.setIfInBounds_toArray, List.set_cons_zero, List.set_cons_succ, Za4, Za7]
    rfl
   refine Zbn (i := 8) (N := some 21) (v := ?_) (a' := ?_) #[true, true, true, true, true, true, true, true, true, false, false, false, false, false, false, false, false, false] rfl rfl (Za5 HT_.out (by kernel_rfl)) (fun _ _ _ h => h) (Or.inl ⟨by rfl, ?_⟩) ?_ ?_
   rotate_left
   ·intro w'
    go_simp
    with_reducible rfl
   rotate_left
   ·simp only [Act.put, List.setIfInBounds_toArray, List.set_cons_zero, List.set_cons_succ, Za4, Za7]
    rfl
   refine Zbn (i := 9) (N := some 22) (v := ?_) (a' := ?_) #[true, true, true, true, true, true, true, true, true, true, false, false, false, false, false, false, false, false] rfl rfl (Za5 HT_.out (by kernel_rfl)) (fun _ _ _ h => h) (Or.inl ⟨by rfl, ?_⟩) ?_ ?_
   rotate_left
   ·intro w'
    go_simp
    with_reducible rfl
   rotate_left
   ·simp only [Act.put, List.setIfInBounds_toArray, List.set_cons_zero, List.set_cons_succ, Za4, Za7]
    rfl
   refine Zbn (i := 11) (N := some 24) (v := ?_) (a' := ?_) #[true, true, true, true, true, true, true, true, true, true, false, true, false, false, false, false, false, false] rfl rfl (Za5 HT_.out (by kernel_rfl)) (fun _ _ _ h => h) (Or.inl ⟨by rfl, ?_⟩) ?_ ?_
   rotate_left
   ·intro w'
    go_simp
    with_reducible rfl
   rotate_left
   ·simp only [Act.put, List.setIfInBounds_toArray, List.set_cons_zero, List.set_cons_succ, Za4, Za7]
    rfl
   refine Zbn (i := 12) (N := some 25) (v := ?_) (a' := ?_) #[true, true, true, true, true, true, true, true, true, true, false, true, true, false, false, false, false, false] rfl rfl (Za5 HT_.out (by kernel_rfl)) (fun _ _ _ h => h) (Or.inl ⟨by rfl, ?_⟩) ?_ ?_
   rotate_left
   ·intro w'
    go_simp
    with_reducible rfl
   rotate_left
   ·simp only [Act.put, List.setIfInBounds_toArray, List.set_cons_zero, List.set_cons_succ, Za4, Za7]
    rfl
   refine Zbn (i := 13) (N := some 26) (v := ?_) (a' := ?_) #[true, true, true, true, true, true, true, true, true, true, false, true, true, true, false, false, false, false] rfl rfl (Za5 HT_.out (by kernel_rfl)) (fun _ _ _ h => h) (Or.inl ⟨by rfl, ?_⟩) ?_ ?_
   rotate_left
   ·intro w'
    go_simp
    with_reducible rfl
   rotate_left
   ·simp only [Act.put, List.setIfInBounds_toArray, List.set_cons_zero, List.set_cons_succ, Za4, Za7]
    rfl
   refine Zc3 (i := 10) (N := some 23) (v := ?_) (a' := ?_) #[true, true, true, true, true, true, true, true, true, true, true, true, true, true, false, false, false, false] rfl rfl (Zb1 HT_.out HW_.out (by kernel_rfl)) (fun _ _ _ h => h) (Or.inl ⟨by rfl, ?_⟩) hHeld ?_ ?_
   rotate_left
   ·rintro w' ⟨s0, s1⟩
    go_simp
    with_reducible rfl
   rotate_left
   ·simp only [Act.put, List.setIfInBounds_toArray, List.set_cons_zero, List.set_cons_succ, Za4, Za7]
    rfl
   refine Zc3 (i := 14) (N := some 27) (v := ?_) (a' := ?_) #[true, true, true, true, true, true, true, true, true, true, true, true, true, true, true, false, false, false] rfl rfl (Zb1 HT_.out HW_.out (by kernel_rfl)) (fun _ _ _ h => h) (Or.inl ⟨by rfl, ?_⟩) hHeld ?_ ?_
   rotate_left
   ·rintro w' ⟨s0, s1⟩
    go_simp
    with_reducible rfl
   rotate_left
   ·simp only [Act.put, List.setIfInBounds_toArray, List.set_cons_zero, List.set_cons_succ, Za4, Za7]
    rfl
   refine Zbn (i := 15) (N := some 28) (v := ?_) (a' := ?_) #[true, true, true, true, true, true, true, true, true, true, true, true, true, true, true, true, false, false] rfl rfl (Za5 HT_.out (by kernel_rfl)) (fun _ _ _ h => h) (Or.inl ⟨by rfl, ?_⟩) ?_ ?_
   rotate_left
   ·intro w'
    go_simp
    with_reducible rfl
   rotate_left
   ·simp only [Act.put, List.setIfInBounds_toArray, List.set_cons_zero, List.set_cons_succ, Za4, Za7]
    rfl
   refine Zbn (i := 16) (N := some 29) (v := ?_) (a' := ?_) #[true, true, true, true, true, true, true, true, true, true, true, true, true, true, true, true, true, false] rfl rfl (Za5 HT_.out (by kernel_rfl)) (fun _ _ _ h => h) (Or.inl ⟨by rfl, ?_⟩) ?_ ?_
   rotate_left
   ·intro w'
    go_simp
    with_reducible rfl
   rotate_left
   ·simp only [Act.put, List.setIfInBounds_toArray, List.set_cons_zero, List.set_cons_succ, Za4, Za7]
    rfl
   refine Zbn (i := 17) (N := some 30) (v := ?_) (a' := ?_) #[true, true, true, true, true, true, true, true, true, true, true, true, true, true, true, true, true, true] rfl rfl (Za5 HT_.out (by kernel_rfl)) (fun _ _ _ h => h) (Or.inl ⟨by rfl, ?_⟩) ?_ ?_
   rotate_left
   ·intro w'
    go_simp
    with_reducible rfl
   rotate_left
   ·simp only [Act.put, List.setIfInBounds_toArray, List.set_cons_zero, List.set_cons_succ, Za4, Za7]
    rfl
   refine Zew (Zc7 HT_.out (by kernel_rfl)) ?_
   try go_wp2
   have n0_ := Za.mk (Kd.Zbl HO_3.out)
   have n1_ := Za.mk (Zab HB.out)
   clear HO_3
   clear HB
   have HO_3 := n0_
   have HB := n1_
   clear n0_ n1_
   have p172 : 0 ≤ (x4_1 : Int) := of_decide_eq_true (by first | (with_reducible assumption) | assumption)
   have q172 : x4_1 < (l0.length : Int) := of_decide_eq_true (by first | (with_reducible assumption) | assumption)
   obtain ⟨ad172, e172, hx172_0⟩ := Kd.Zby HR0.out x4_1 p172 q172
   have hw172_0 := hx172_0
   obtain rfl : ad170 = ad172 := (by injection e172)
   replace hx172_0 := (HB.out.cell (World.block_lt_of_cell? w _ hx172_0)).trans hx172_0
   replace p172 := eq_true p172
   replace q172 := eq_true q172
   have p173 : 0 ≤ (x5_1 : Int) := of_decide_eq_true (by first | (with_reducible assumption) | assumption)
   have q173 : x5_1 < (l0.length : Int) := of_decide_eq_true (by first | (with_reducible assumption) | assumption)
   obtain ⟨ad173, e173, hx173_0⟩ := Kd.Zby HR0.out x5_1 p173 q173
   have hw173_0 := hx173_0
   obtain rfl : ad170 = ad173 := (by injection e173)
   replace hx173_0 := (HB.out.cell (World.block_lt_of_cell? w _ hx173_0)).trans hx173_0
   replace p173 := eq_true p173
   replace q173 := eq_true q173
   refine Zdl (n := 13) (S := fun w' => w'.cell? (ad170.add (x4_1).toNat) = some (.int .i64 (rd l0 x4_1)) ∧ w'.cell? (ad170.add (x5_1).toNat) = some (.int .i64 (rd l0 x5_1))) (ds := []) #[false, false, false, false, false, false, false, false, false, false, false, false, false] (by kernel_rfl) rfl rfl ⟨((HB.out.cell (World.block_lt_of_cell? w _ hw172_0)).trans hw172_0), ((HB.out.cell (World.block_lt_of_cell? w _ hw173_0)).trans hw173_0)⟩ (fun hHeld => ?_); refine Zcl Zal.tab6 Zal.bits6 (fun HT_ HW_ => ?_)
   generalize w22.drew = w23 at HO_3 HB hx172_0 hx173_0 hHeld ⊢
   refine Zbn (i := 0) (N := some 31) (v := ?_) (a' := ?_) #[true, false, false, false, false, false, false, false, false, false, false, false, false] rfl rfl (Za5 HT_.out (by kernel_rfl)) (fun _ _ _ h => h) (Or.inl ⟨by rfl, ?_⟩) ?_ ?_
   rotate_left
   ·intro w'
    go_simp
    with_reducible rfl
   rotate_left
   ·simp only [Act.put, List.setIfInBounds_toArray, List.set_cons_zero, List.set_cons_succ, Za4, Za7]
    rfl
   refine Zbn (i := 1) (N := some 32) (v := ?_) (a' := ?_) #[true, true, false, false, false, false, false, false, false, false, false, false, false] rfl rfl (Za5 HT_.out (by kernel_rfl)) (fun _ _ _ h => h) (Or.inl ⟨by rfl, ?_⟩) ?_ ?_
   rotate_left
   ·intro w'
    go_simp
    with_reducible rfl
   rotate_left
   ·simp only [Act.put, List.setIfInBounds_toArray, List.set_cons_zero, List.set_cons_succ, Za4, Za7]
    rfl
   refine Zbn (i := 2) (N := some 33) (v := ?_) (a' := ?_) #[true, true, true, false, false, false, false, false, false, false, false, false, false] rfl rfl (Za5 HT_.out (by kernel_rfl)) (fun _ _ _ h => h) (Or.inl ⟨by rfl, ?_⟩) ?_ ?_
   rotate_left
   ·intro w'
    go_simp
    with_reducible rfl
   rotate_left
   ·simp only [Act.put, List.setIfInBounds_toArray, List.set_cons_zero, List.set_cons_succ, Za4, Za7]
    rfl
   refine Zbn (i := 3) (N := some 34) (v := ?_) (a' := ?_) #[true, true, true, true, false, false, false, false, false, false, false, false, false] rfl rfl (Za5 HT_.out (by kernel_rfl)) (fun _ _ _ h => h) (Or.inl ⟨by rfl, ?_⟩) ?_ ?_
   rotate_left
   ·intro w'
    go_simp
    with_reducible rfl
   rotate_left
   ·simp only [Act.put, List.setIfInBounds_toArray, List.set_cons_zero, List.set_cons_succ, Za4, Za7]
    rfl
   refine Zbn (i := 5) (N := some 36) (v := ?_) (a' := ?_) #[true, true, true, true, false, true, false, false, false, false, false, false, false] rfl rfl (Za5 HT_.out (by kernel_rfl)) (fun _ _ _ h => h) (Or.inl ⟨by rfl, ?_⟩) ?_ ?_
   rotate_left
   ·intro w'
    go_simp
    with_reducible rfl
   rotate_left
   ·simp only [Act.put, List.setIfInBounds_toArray, List.set_cons_zero, List.set_cons_succ, Za4, Za7]
    rfl
   refine Zbn (i := 6) (N := some 37) (v := ?_) (a' := ?_) #[true, true, true, true, false, true, true, false, false, false, false, false, false] rfl rfl (Za5 HT_.out (by kernel_rfl)) (fun _ _ _ h => h) (Or.inl ⟨by rfl, ?_⟩) ?_ ?_
   rotate_left
   ·intro w'
    go_simp
    with_reducible rfl
   rotate_left
   ·simp only [Act.put, List.setIfInBounds_toArray, List.set_cons_zero, List.set_cons_succ, Za4, Za7]
    rfl
   refine Zbn (i := 7) (N := some 38) (v := ?_) (a' := ?_) #[true, true, true, true, false, true, true, true, false, false, false, false, false] rfl rfl (Za5 HT_.out (by kernel_rfl)) (fun _ _ _ h => h) (Or.inl ⟨by rfl, ?_⟩) ?_ ?_
   rotate_left
   ·intro w'
    go_simp
    with_reducible rfl
   rotate_left
   ·simp only [Act.put, List.setIfInBounds_toArray, List.set_cons_zero, List.set_cons_succ, Za4, Za7]
    rfl
   refine Zc3 (i := 4) (N := some 35) (v := ?_) (a' := ?_) #[true, true, true, true, true, true, true, true, false, false, false, false, false] rfl rfl (Zb1 HT_.out HW_.out (by kernel_rfl)) (fun _ _ _ h => h) (Or.inl ⟨by rfl, ?_⟩) hHeld ?_ ?_
   rotate_left
   ·rintro w' ⟨s0, s1⟩
    go_simp
    with_reducible rfl
   rotate_left
   ·simp only [Act.put, List.setIfInBounds_toArray, List.set_cons_zero, List.set_cons_succ, Za4, Za7]
    rfl
   refine Zc3 (i := 8) (N := some 39) (v := ?_) (a' := ?_) #[true, true, true, true, true, true, true, true, true, false, false, false, false] rfl rfl (Zb1 HT_.out HW_.out (by kernel_rfl)) (fun _ _ _ h => h) (Or.inl ⟨by rfl, ?_⟩) hHeld ?_ ?_
   rotate_left
   ·rintro w' ⟨s0, s1⟩
    go_simp
    with_reducible rfl
   rotate_left
   ·simp only [Act.put, List.setIfInBounds_toArray, List.set_cons_zero, List.set_cons_succ, Za4, Za7]
    rfl
   refine Zbn (i := 9) (N := some 40) (v := ?_) (a' := ?_) #[true, true, true, true, true, true, true, true, true, true, false, false, false] rfl rfl (Za5 HT_.out (by kernel_rfl)) (fun _ _ _ h => h) (Or.inl ⟨by rfl, ?_⟩) ?_ ?_
   rotate_left
   ·intro w'
    go_simp
    with_reducible rfl
   rotate_left
   ·simp only [Act.put, List.setIfInBounds_toArray, List.set_cons_zero, List.set_cons_succ, Za4, Za7]
    rfl
   refine one_ (i := 10) (N := some 41) #[true, true, true, true, true, true, true, true, true, true, true, false, false] rfl rfl (Zc4 HT_.out (by kernel_rfl)) (by decide) (fun K hK => ?_)
   refine Zgg (w1 := ?_) (v := ?_) (by rfl) rfl ?_ ?_
   rotate_left 2
   ·go_simp
    constructor
    ·rfl
    rfl
   refine hK.out _ _ ⟨(World.cell?_alloc_lt _ _ _ (World.block_lt_of_cell? _ _ (((HB.out.cell (World.block_lt_of_cell? w _ hw172_0)).trans hw172_0)))).trans (((HB.out.cell (World.block_lt_of_cell? w _ hw172_0)).trans hw172_0)), (World.cell?_alloc_lt _ _ _ (World.block_lt_of_cell? _ _ (((HB.out.cell (World.block_lt_of_cell? w _ hw173_0)).trans hw173_0)))).trans (((HB.out.cell (World.block_lt_of_cell? w _ hw173_0)).trans hw173_0))⟩ (fun hHeld => ?_)
   clear hK K
   refine Zea (a' := ?_) ?_ ?_
   rotate_left
   ·show Act.put _ (some 41) _ = _
    simp only [Act.put, List.setIfInBounds_toArray, List.set_cons_zero, List.set_cons_succ, Za4, Za7]
    rfl
   refine one_ (i := 11) (N := some 42) #[true, true, true, true, true, true, true, true, true, true, true, true, false] rfl rfl (Zc4 HT_.out (by kernel_rfl)) (by decide) (fun K hK => ?_)
   refine Kd.Zde k41 (w0 := w) w.heap.size (by rfl) (.tmp 31) (.tmp 41) 39 41 (.agg #[(.int .i64 0), (.int .i64 0)]) 16 rfl Try.underlying39 info41 rfl (by decide) (by omega) u3 x3_1 (⟨rd l0 x4_1, rd l0 x5_1⟩ : S41) [.int .i64 (rd l0 x4_1), .int .i64 (rd l0 x5_1)] (fun _ => True) (fun _ => False) rfl rfl ?aP (fun _ hk => hk.elim) ?aF ?aO ?aB ?aS ?aL ?_
   (case aP => exact Ze _ _ _ (⟨rd l0 x4_1, rd l0 x5_1⟩ : S41))
   (case aB => exact (by repeat (first | (with_reducible first | exact HB.out | apply Zac | apply Zaa | apply Zab) | exact HB.out)))
   (case aF => exact (fun _ _ => trivial))
   (case aO => exact (mvR HO_3.out))
   (case aS => exact (Zam (by repeat (first | (with_reducible first | exact HB.out | apply Zac | apply Zaa | apply Zab) | exact HB.out))))
   (case aL => have := LMc21.out; omega)
   intro v175 w24 ho hb hg hat
   rw [← Ny174.out] at ho
   have n0_ := Za.mk (hb)
   have n1_ := Za.mk (ho)
   clear HB
   clear HO_3
   have HB := n0_
   have HO176 := n1_
   clear n0_ n1_
   clear ho hb hg hat
   refine hK.out _ _ ⟨((HB.out.cell (World.block_lt_of_cell? w _ hw172_0)).trans hw172_0), ((HB.out.cell (World.block_lt_of_cell? w _ hw173_0)).trans hw173_0)⟩ (fun hHeld => ?_)
   clear hK K
   refine Zea (a' := ?_) ?_ ?_
   rotate_left
   ·show Act.put _ (some 42) _ = _
    simp only [Act.put, List.setIfInBounds_toArray, List.set_cons_zero, List.set_cons_succ, Za4, Za7]
    rfl
   refine Zbn (i := 12) (N := some 3) (v := ?_) (a' := ?_) #[true, true, true, true, true, true, true, true, true, true, true, true, true] rfl rfl (Za5 HT_.out (by kernel_rfl)) (fun _ _ _ h => h) (Or.inl ⟨by rfl, ?_⟩) ?_ ?_
   rotate_left
   ·intro w'
    go_simp
    with_reducible rfl
   rotate_left
   ·simp only [Act.put, List.setIfInBounds_toArray, List.set_cons_zero, List.set_cons_succ, Za4, Za7]
    rfl
   refine Zew (Zc7 HT_.out (by kernel_rfl)) ?_
   try go_wp2
   go_roundg k1
   case measure => have := HK1.out; omega
   case rel => exact ⟨(y174), (ji13), (ji13), (by first | rfl | (simp; done) | (simp only [← hji13] <;> (first | rfl | simp)) | (simp [*]; done)), (by first | rfl | (simp; done) | (simp only [← hji13] <;> (first | rfl | simp)) | (simp [*]; done)), H', ⟨by have := HK1.out; omega⟩, ⟨by (with_reducible repeat (first | apply Kd.R_alloc | apply Kd.Zbh | apply Kd.Zbl)); exact HO176.out⟩, ⟨by repeat (first | (with_reducible first | exact HB.out | apply Zac | apply Zaa | apply Zab) | exact HB.out)⟩⟩
def Zbq.f (a0 : Int) : Option (Bool) := if a0 ≥ (-1048576) then (some (decide (a0 ≤ 1048576))) else (some false)
set_option maxHeartbeats 8000000 in
set_option maxRecDepth 100000 in
theorem Zbq.calls (a0 : Int) (r : Bool) (w : World) (h : Zbq.f a0 = some r) :
  Calls Try.prog 85 #[.int .i64 a0] w fun e w' => e = .returned (.bool r) ∧ Zb w w' := by
 have H : (if a0 ≥ (-1048576) then (some (decide (a0 ≤ 1048576))) else (some false)) = some r := h
 clear h
 by_cases c2 : a0 ≥ (-1048576)
 ·rw [if_pos c2] at H
  have c2b0 : decide ((-1048576) ≤ a0) = true := decide_eq_true c2
  clear c2
  obtain rfl := Option.some.inj H
  go_enter Try.func85, Try.ntmps85
  go_wp2
  go_ret
  exact ⟨by first | rfl | (simp; done) | (simp [*]; done), by repeat (first | exact Zb.refl _ | apply Zb.step)⟩
 rw [if_neg c2] at H
 have c2b0 : decide ((-1048576) ≤ a0) = false := decide_eq_false c2
 clear c2
 obtain rfl := Option.some.inj H
 go_enter Try.func85, Try.ntmps85
 go_wp2
 go_ret
 exact ⟨by first | rfl | (simp; done) | (simp [*]; done), by repeat (first | exact Zb.refl _ | apply Zb.step)⟩
def Zbj.l0 : Nat → List Int → Int → Option ((List (S41)) × Int)
 | 0, _, _ => none
 | k + 1, x0, x4 => if x4 < (x0.length : Int) then (if 0 ≤ x4 then ((Zbq.f (rd x0 x4)).bind fun t178 => (if t178 = true then (Zbj.l0 k x0 (wrap64 (x4 + 1))) else (some (([] : List (S41)), 20)))) else (none)) else ((Zai.f k x0).bind fun t179 => (if (t179.length : Int) > 4096 then (some (([] : List (S41)), 2)) else ((Zal.f k t179).bind fun t182 => (some (t182, 0)))))
def Zbj.f (k : Nat) (l0 : List Int) : Option ((List (S41)) × Int) := Zbj.l0 k l0 0
set_option maxHeartbeats 8000000 in
set_option maxRecDepth 100000 in
theorem Zbj.calls (k : Nat) (A0 : Option Addr) (c0 : Nat) (l0 : List Int) (r1 : List (S41)) (r2 : Int) (w : World) (hr0 : Kd.C (Kd.int .i64) w A0 l0.length l0) (hc0 : l0.length ≤ c0) (h : Zbj.f k l0 = some (r1, r2)) :
  Calls Try.prog 59 #[.slice A0 l0.length c0] w fun e w' => ∃ v0_ : Value, e = .returned (.tuple #[v0_, .int .i64 r2]) ∧ Kd.R k41 41 w' w.heap.size (fun _ => True) v0_ r1 ∧ Below w.heap.size w w' := by
 have HR0 := Za.mk hr0
 have HC0 := Za.mk hc0
 clear hr0 hc0
 have HB := Za.mk (Below.refl w.heap.size w)
 have H : (Zbj.l0 k l0 0) = some (r1, r2) := h
 clear h
 have H' := Za.mk H
 clear H
 go_enter Try.func59, Try.ntmps59
 go_wp2
 go_loopg [4] k (fun kq v4 w' => ∃ (x4_1 : Int), v4 = .int .i64 x4_1 ∧ Za (Zbj.l0 kq l0 x4_1 = some (r1, r2)) ∧ Za (kq ≤ k) ∧ Za (Below w.heap.size w w'))
 case atStart => exact ⟨(0), (by first | rfl | (simp; done) | (simp [*]; done)), H', ⟨Nat.le_refl _⟩, ⟨by repeat (first | (with_reducible first | exact HB.out | apply Zac | apply Zaa | apply Zab) | exact HB.out)⟩⟩
 case round =>
  clear H'
  obtain ⟨x4_1, rfl, HA, HK1, HB⟩ := hrel
  cases gk with
  | zero => exact absurd HA.out (by simp [Zbj.l0])
  | succ k1 =>
   have H := HA.out
   clear HA
   simp only [Zbj.l0] at H
   by_cases c2 : x4_1 < (l0.length : Int)
   ·rw [if_pos c2] at H
    have c2b0 : decide (x4_1 < (l0.length : Int)) = true := decide_eq_true c2
    clear c2
    by_cases c3 : 0 ≤ x4_1
    rotate_left
    ·rw [if_neg c3] at H
     exact absurd H (by simp)
    rw [if_pos c3] at H
    have c3b0 : decide (0 ≤ x4_1) = true := decide_eq_true c3
    clear c3
    replace H := Option.bind_eq_some_iff.mp H
    obtain ⟨t178, A40, H⟩ := H
    replace H : (if t178 = true then (Zbj.l0 k1 l0 (wrap64 (x4_1 + 1))) else (some (([] : List (S41)), 20))) = some (r1, r2) := H
    have A4 := Za.mk A40
    clear A40
    by_cases c5 : t178 = true
    ·subst c5
     have H1 : (Zbj.l0 k1 l0 (wrap64 (x4_1 + 1))) = some (r1, r2) := by rw [if_pos rfl] at H; exact H
     clear H
     have H := H1
     clear H1
     have H' := Za.mk H
     clear H
     have p177 : 0 ≤ (x4_1 : Int) := of_decide_eq_true (by first | (with_reducible assumption) | assumption)
     have q177 : x4_1 < (l0.length : Int) := of_decide_eq_true (by first | (with_reducible assumption) | assumption)
     obtain ⟨ad177, e177, hx177_0⟩ := Kd.Zby HR0.out x4_1 p177 q177
     cases e177
     replace hx177_0 := (HB.out.cell (World.block_lt_of_cell? w _ hx177_0)).trans hx177_0
     replace p177 := eq_true p177
     replace q177 := eq_true q177
     go_wp2_with (first | ((with_reducible refine Za2 (f := 85) rfl ?_); refine Zb0 (some 16) rfl rfl Try.func85 (by kernel_rfl) rfl #[.int .i64 (rd l0 x4_1)] rfl (by (try simp only [List.map_toArray, List.map_cons, List.map_nil]); first | done | rfl | (simp only [List.length_drop, List.length_take]; rfl)) ?_; (with_reducible refine (Zbq.calls (rd l0 x4_1) true _ A4.out).mono ?_); rintro e w' ⟨rfl, ⟨nd, rfl⟩⟩; refine ⟨_, rfl, ?_⟩))
     go_roundg k1
     case measure => have := HK1.out; omega
     case rel => exact ⟨(wrap64 (x4_1 + 1)), (by first | rfl | (simp; done) | (simp [*]; done)), H', ⟨by have := HK1.out; omega⟩, ⟨by repeat (first | (with_reducible first | exact HB.out | apply Zac | apply Zaa | apply Zab) | exact HB.out)⟩⟩
    replace c5 := Bool.eq_false_iff.mpr c5
    subst c5
    have H1 : (some (([] : List (S41)), 20)) = some (r1, r2) := by rw [if_neg (show ¬ (false = true) by decide)] at H; exact H
    clear H
    have H := H1
    clear H1
    simp only [Option.some.injEq, Prod.mk.injEq] at H
    obtain ⟨rfl, rfl⟩ := H
    have p177 : 0 ≤ (x4_1 : Int) := of_decide_eq_true (by first | (with_reducible assumption) | assumption)
    have q177 : x4_1 < (l0.length : Int) := of_decide_eq_true (by first | (with_reducible assumption) | assumption)
    obtain ⟨ad177, e177, hx177_0⟩ := Kd.Zby HR0.out x4_1 p177 q177
    cases e177
    replace hx177_0 := (HB.out.cell (World.block_lt_of_cell? w _ hx177_0)).trans hx177_0
    replace p177 := eq_true p177
    replace q177 := eq_true q177
    go_wp2_with (first | ((with_reducible refine Za2 (f := 85) rfl ?_); refine Zb0 (some 16) rfl rfl Try.func85 (by kernel_rfl) rfl #[.int .i64 (rd l0 x4_1)] rfl (by (try simp only [List.map_toArray, List.map_cons, List.map_nil]); first | done | rfl | (simp only [List.length_drop, List.length_take]; rfl)) ?_; (with_reducible refine (Zbq.calls (rd l0 x4_1) false _ A4.out).mono ?_); rintro e w' ⟨rfl, ⟨nd, rfl⟩⟩; refine ⟨_, rfl, ?_⟩))
    go_ret2
    exact ⟨_, by first | rfl | (simp [Zaq, Zar] <;> rfl) | (simp [*, Zaq, Zar] <;> rfl), by first | exact Kd.Zem _ _ _ _ _ | exact Kd.N_nil _ _ _ _ _ | exact Kd.V_nil _ _ _ _ _ | exact Kd.Q_nil _ _ _ _ _ | exact Kd.S_nil _ _ _ _ _, by repeat (first | (with_reducible first | exact HB.out | apply Zac | apply Zaa | apply Zab) | exact HB.out)⟩
   rw [if_neg c2] at H
   have c2b0 : decide (x4_1 < (l0.length : Int)) = false := decide_eq_false c2
   clear c2
   replace H := Option.bind_eq_some_iff.mp H
   obtain ⟨t179, A60, H⟩ := H
   replace H : (if (t179.length : Int) > 4096 then (some (([] : List (S41)), 2)) else ((Zal.f k1 t179).bind fun t182 => (some (t182, 0)))) = some (r1, r2) := H
   have A6 := Za.mk A60
   clear A60
   by_cases c7 : (t179.length : Int) > 4096
   ·rw [if_pos c7] at H
    have c7b0 : decide (4096 < (t179.length : Int)) = true := decide_eq_true c7
    have c7b1 : decide (4096 < t179.length) = true := decide_eq_true (by omega)
    clear c7
    simp only [Option.some.injEq, Prod.mk.injEq] at H
    obtain ⟨rfl, rfl⟩ := H
    go_wp2_with (first | ((with_reducible refine Za2 (f := 38) rfl ?_); refine Zb0 (some 19) rfl rfl Try.func38 (by kernel_rfl) rfl #[.slice A0 l0.length c0] rfl (by (try simp only [List.map_toArray, List.map_cons, List.map_nil]); first | done | rfl | (simp only [List.length_drop, List.length_take]; rfl)) ?_; (with_reducible refine (Zai.calls k1 _ _ l0 t179 _ ?side1 ?side2 A6.out).mono ?_); (case side1 => repeat (first | exact (Kd.Zaw HR0.out HB.out) | (with_reducible refine Kd.C_alloc ?_ _) | (with_reducible refine Kd.Za0 ?_ _) | (with_reducible refine Kd.C_drew ?_))); (case side2 => exact HC0.out); rintro e w8 ⟨v180, rfl, ho0, hb⟩; refine ⟨_, rfl, ?_⟩; have n0_ := Za.mk (Kd.Zbz ho0 (Zam (by repeat (first | (with_reducible first | exact HB.out | apply Zac | apply Zaa | apply Zab) | exact HB.out)))); have n1_ := Za.mk (Zan (by repeat (first | (with_reducible first | exact HB.out | apply Zac | apply Zaa | apply Zab) | exact HB.out)) hb); clear HB; have HO181 := n0_; have HB := n1_; clear n0_ n1_; (try clear hb); (try clear hb2); (try clear hk); (try clear hi); (try clear ho0); obtain ⟨Ao9, co9, eo9⟩ := Kd.Zbw HO181.out; subst eo9))
    go_ret2
    exact ⟨_, by first | rfl | (simp [Zaq, Zar] <;> rfl) | (simp [*, Zaq, Zar] <;> rfl), by first | exact Kd.Zem _ _ _ _ _ | exact Kd.N_nil _ _ _ _ _ | exact Kd.V_nil _ _ _ _ _ | exact Kd.Q_nil _ _ _ _ _ | exact Kd.S_nil _ _ _ _ _, by repeat (first | (with_reducible first | exact HB.out | apply Zac | apply Zaa | apply Zab) | exact HB.out)⟩
   rw [if_neg c7] at H
   have c7b0 : decide (4096 < (t179.length : Int)) = false := decide_eq_false c7
   have c7b1 : decide (4096 < t179.length) = false := decide_eq_false (by omega)
   clear c7
   replace H := Option.bind_eq_some_iff.mp H
   obtain ⟨t182, A100, H⟩ := H
   replace H : (some (t182, 0)) = some (r1, r2) := H
   have A10 := Za.mk A100
   clear A100
   simp only [Option.some.injEq, Prod.mk.injEq] at H
   obtain ⟨rfl, rfl⟩ := H
   go_wp2_with (first | ((with_reducible refine Za2 (f := 38) rfl ?_); refine Zb0 (some 19) rfl rfl Try.func38 (by kernel_rfl) rfl #[.slice A0 l0.length c0] rfl (by (try simp only [List.map_toArray, List.map_cons, List.map_nil]); first | done | rfl | (simp only [List.length_drop, List.length_take]; rfl)) ?_; (with_reducible refine (Zai.calls k1 _ _ l0 t179 _ ?side1 ?side2 A6.out).mono ?_); (case side1 => repeat (first | exact (Kd.Zaw HR0.out HB.out) | (with_reducible refine Kd.C_alloc ?_ _) | (with_reducible refine Kd.Za0 ?_ _) | (with_reducible refine Kd.C_drew ?_))); (case side2 => exact HC0.out); rintro e w11 ⟨v180, rfl, ho0, hb⟩; refine ⟨_, rfl, ?_⟩; have n0_ := Za.mk (Kd.Zbz ho0 (Zam (by repeat (first | (with_reducible first | exact HB.out | apply Zac | apply Zaa | apply Zab) | exact HB.out)))); have n1_ := Za.mk (Zan (by repeat (first | (with_reducible first | exact HB.out | apply Zac | apply Zaa | apply Zab) | exact HB.out)) hb); clear HB; have HO181 := n0_; have HB := n1_; clear n0_ n1_; (try clear hb); (try clear hb2); (try clear hk); (try clear hi); (try clear ho0); obtain ⟨Ao12, co12, eo12⟩ := Kd.Zbw HO181.out; subst eo12) | ((with_reducible refine Za2 (f := 58) rfl ?_); refine Zb0 (some 24) rfl rfl Try.func58 (by kernel_rfl) rfl #[.slice Ao12 t179.length co12] rfl (by (try simp only [List.map_toArray, List.map_cons, List.map_nil]); first | done | rfl | (simp only [List.length_drop, List.length_take]; rfl)) ?_; (with_reducible refine (Zal.calls k1 _ _ t179 t182 _ ?side1 ?side2 A10.out).mono ?_); (case side1 => repeat (first | exact (Kd.Za3 HO181.out).2.2 | (with_reducible refine Kd.C_alloc ?_ _) | (with_reducible refine Kd.Za0 ?_ _) | (with_reducible refine Kd.C_drew ?_))); (case side2 => exact (Kd.Za3 HO181.out).2.1); rintro e w13 ⟨v183, rfl, ho0, hb⟩; refine ⟨_, rfl, ?_⟩; have n0_ := Za.mk (Kd.Zb3 (by (with_reducible repeat (first | apply Kd.R_alloc | apply Kd.Zbh | apply Kd.Zbl)); exact HO181.out) hb); have n1_ := Za.mk (Kd.Zbz ho0 (Zam (by repeat (first | (with_reducible first | exact HB.out | apply Zac | apply Zaa | apply Zab) | exact HB.out)))); have n2_ := Za.mk (Zan (by repeat (first | (with_reducible first | exact HB.out | apply Zac | apply Zaa | apply Zab) | exact HB.out)) hb); clear HO181; clear HB; have HO181 := n0_; have HO184 := n1_; have HB := n2_; clear n0_ n1_ n2_; (try clear hb); (try clear hb2); (try clear hk); (try clear hi); (try clear ho0)))
   go_ret2
   exact ⟨_, by first | rfl | (simp [Zaq, Zar] <;> rfl) | (simp [*, Zaq, Zar] <;> rfl), by (with_reducible repeat (first | apply Kd.R_alloc | apply Kd.Zbh | apply Kd.Zbl)); exact HO184.out, by repeat (first | (with_reducible first | exact HB.out | apply Zac | apply Zaa | apply Zab) | exact HB.out)⟩
end Go.Proofs.Ytpbcigilipdedaa.P
/- The document's answers for domains: what each comes to. -/
namespace Go.Proofs.Ytpbcigilipdedaa.P
open Go.RowKit Go.Proofs.YtpbcigilipdedaaW.PrintWords Go.Proofs.YtpbcigilipdedaaW.PrintLast Go.Proofs.YtpbcigilipdedaaW.PrintMore
set_option linter.unusedVariables false
set_option linter.unusedSimpArgs false
theorem ref_Same_l (l : List Rg) (hl : l.length < 4611686018427387904) : ∀ (r n : Nat), n + r = l.length → Ev (fun k => Zbb.l0 k l l (n : Int)) true := by
  intro r
  induction r with
  | zero =>
    intro n h
    exact Ev.step (G := fun _ => some true) (fun k => by rw [Zbb.l0, if_neg (by omega)]) (Ev.const (by simp))
  | succ r ih =>
    intro n h
    exact Ev.step (fun k => by rw [Zbb.l0, if_pos (by omega), if_pos (by omega), if_pos (by omega), if_neg (by simp), w1 (by omega)]) (ih (n + 1) (by omega))
theorem ref_Same_self (l : List Rg) (hl : l.length < 4611686018427387904) : Ev (fun k => Zbb.f k l l) true :=
  Ev.eq (fun k => by rw [Zbb.f, if_pos (by omega)]; rfl) (ref_Same_l l hl l.length 0 (by omega))
theorem ref_Values_l1 (d : List Rg) (i : Nat) (hi : i < d.length) (h1 : d[i].f1 ≤ 1048576) {b : List Int} : ∀ (r : Nat) (v : Int) (acc : List Int), -1048576 ≤ v → r = (d[i].f1 + 1 - v).toNat → acc.length + r < 17592186044416 →
    Ev (fun k => Zas.l0 k d (acc ++ upTo r v d[i].f1) (wrap64 ((i : Int) + 1))) b → Ev (fun k => Zas.l1 k d acc (i : Int) v) b := by
  intro r
  induction r with
  | zero =>
    intro v acc hv hr hb h
    simp only [upTo, List.append_nil] at h
    exact Ev.step (fun k => by rw [Zas.l1, if_pos (by omega), if_pos (by omega), show Zbu d (i : Int) = d[i] from rg_nat d i hi, if_neg (by omega)]) h
  | succ r ih =>
    intro v acc hv hr hb h
    have hle : v ≤ d[i].f1 := by omega
    rw [upTo, if_pos hle] at h
    exact Ev.step (fun k => by rw [Zas.l1, if_pos (by omega), if_pos (by omega), show Zbu d (i : Int) = d[i] from rg_nat d i hi, if_pos hle, if_pos (by omega), w64 (n := v + 1) (by omega) (by omega)])
      (ih (v + 1) (acc ++ [v]) (by omega) (by omega) (by simp; omega) (by simpa using h))
theorem Gd.drop {V : Int} : ∀ {b : Int} {d : List Rg} (n : Nat), Gd V b d → Gd V b (d.drop n)
  | _, [], n, h => by simp [Gd]
  | b, x :: d, 0, h => h
  | b, x :: d, n + 1, ⟨h1, h2, h3, h4⟩ => (Gd.drop n h4).mono (by omega)
theorem ref_Values_l0 (d : List Rg) (hl : d.length < 4611686018427387904) {b : Int} (hd : Gd 1048576 b d) (hb : -1048576 ≤ b) : ∀ (m n : Nat) (acc : List Int), n + m = d.length → acc.length + (vals (d.drop n)).length < 17592186044416 →
    Ev (fun k => Zas.l0 k d acc (n : Int)) (acc ++ vals (d.drop n)) := by
  intro m
  induction m with
  | zero =>
    intro n acc h _
    rw [drop_nil' h]
    exact Ev.step (G := fun _ => some acc) (fun k => by rw [Zas.l0, if_neg (by omega)]) (Ev.const (by simp [vals]))
  | succ m ih =>
    intro n acc h hs
    have hn : n < d.length := by omega
    have hg := hd.drop n
    rw [List.drop_eq_getElem_cons hn] at hs hg ⊢
    obtain ⟨g1, g2, g3, g4⟩ := hg
    rw [vals] at hs ⊢
    rw [List.length_append] at hs
    have hu := Zft (d[n].f1 + 1 - d[n].f0).toNat d[n].f0 d[n].f1
    refine Ev.step (fun k => by rw [Zas.l0, if_pos (by omega), if_pos (by omega), show Zbu d (n : Int) = d[n] from rg_nat d n hn]) (ref_Values_l1 d n hn g3 (d[n].f1 + 1 - d[n].f0).toNat d[n].f0 acc (by omega) rfl (by omega) ?_)
    rw [w1 (by omega), ← List.append_assoc]
    exact ih (n + 1) _ (by omega) (by rw [List.length_append]; omega)
theorem Zgv (d : List Rg) {b : Int} (hd : Gd 1048576 b d) (hb : -1048576 ≤ b) : Ev (fun k => Zas.f k d) (vals d) := by
  have h1 := Zdc hd
  have h2 := Zcu hd
  exact ref_Values_l0 d (by omega) hd hb d.length 0 [] (by omega) (by simp; omega)
def ins2 (x : Int) : Bool → List Int → List Int
  | p, [] => if p then [] else [x]
  | p, y :: l => if p = false ∧ x < y then x :: y :: ins2 x true l else y :: ins2 x p l
theorem Zf4 (x : Int) : ∀ l, ins2 x true l = l
  | [] => by simp [ins2]
  | y :: l => by simp [ins2, Zf4 x l]
theorem Zgr (x : Int) : ∀ l, x ∉ l → ins2 x false l = insU x l
  | [], _ => by simp [ins2, insU]
  | y :: l, h => by
    have h1 : x ≠ y := fun e => h (by simp [e])
    have h2 : x ∉ l := fun e => h (List.mem_cons_of_mem _ e)
    unfold ins2 insU
    by_cases hlt : x < y
    · simp [hlt, Zf4]
    simp [hlt, h1, Zgr x l h2]
theorem insU_mem (x : Int) : ∀ l, SS l → x ∈ l → insU x l = l
  | y :: l, h, hx => by
    obtain ⟨hy, hl⟩ := List.pairwise_cons.1 h
    unfold insU
    rcases List.mem_cons.1 hx with rfl | hx
    · simp
    have := hy x hx
    rw [if_neg (by omega), if_neg (by omega), insU_mem x l hl hx]
theorem ref_Sorted_l1 (x0 out : List Int) (i : Nat) (hi : i < x0.length) (ho : out.length < 17592186044000) {b : List Int} : ∀ (m n : Nat) (next : List Int) (p : Bool), n + m = out.length → next.length ≤ n + p.toNat →
    Ev (fun k => Zai.l0 k x0 (next ++ ins2 x0[i] p (out.drop n)) (wrap64 ((i : Int) + 1))) b → Ev (fun k => Zai.l1 k x0 out (i : Int) next p (n : Int)) b := by
  intro m
  induction m with
  | zero =>
    intro n next p h hn hE
    rw [drop_nil' h] at hE
    cases p with
    | true =>
      simp only [ins2, if_true, List.append_nil] at hE
      exact Ev.step (fun k => by rw [Zai.l1, if_neg (by omega), if_pos rfl]) hE
    | false =>
      simp only [Bool.toNat_false, Nat.add_zero] at hn
      simp only [ins2, Bool.false_eq_true, if_false] at hE
      exact Ev.step (fun k => by rw [Zai.l1, if_neg (by omega), if_neg (by simp), if_pos (by omega), if_pos (by omega), if_pos (by omega), Zcd x0 i hi]) hE
  | succ m ih =>
    intro n next p h hn hE
    have hlt : n < out.length := by omega
    rw [List.drop_eq_getElem_cons hlt] at hE
    cases p with
    | true =>
      simp only [Bool.toNat_true] at hn
      have e : ins2 x0[i] true (out[n] :: out.drop (n + 1)) = out[n] :: ins2 x0[i] true (out.drop (n + 1)) := by simp [ins2]
      rw [e] at hE
      exact Ev.step (fun k => by rw [Zai.l1, if_pos (by omega), if_pos rfl, if_pos (by omega), if_pos (by omega), Zcd out n hlt, w1 (by omega)])
        (ih (n + 1) (next ++ [out[n]]) true (by omega) (by simp; omega) (by simpa using hE))
    | false =>
      simp only [Bool.toNat_false, Nat.add_zero] at hn
      by_cases hx : x0[i] < out[n]
      rotate_left
      · have e : ins2 x0[i] false (out[n] :: out.drop (n + 1)) = out[n] :: ins2 x0[i] false (out.drop (n + 1)) := by simp [ins2, hx]
        rw [e] at hE
        exact Ev.step (fun k => by rw [Zai.l1, if_pos (by omega), if_neg (by simp), if_pos (by omega), if_pos (by omega), if_pos (by omega), Zcd x0 i hi, Zcd out n hlt, if_neg hx, if_pos (by omega), w1 (by omega)])
          (ih (n + 1) (next ++ [out[n]]) false (by omega) (by simp; omega) (by simpa using hE))
      have e : ins2 x0[i] false (out[n] :: out.drop (n + 1)) = x0[i] :: out[n] :: ins2 x0[i] true (out.drop (n + 1)) := by simp [ins2, hx]
      rw [e] at hE
      exact Ev.step (fun k => by rw [Zai.l1, if_pos (by omega), if_neg (by simp), if_pos (by omega), if_pos (by omega), if_pos (by omega), Zcd x0 i hi, Zcd out n hlt, if_pos hx, if_pos (by omega), Option.bind_some, if_pos (by simp; omega), w1 (by omega)])
        (ih (n + 1) ((next ++ [x0[i]]) ++ [out[n]]) true (by omega) (by simp; omega) (by simpa using hE))
end Go.Proofs.Ytpbcigilipdedaa.P
/- The document's answers for domains: Sorted, Pack, Of; and dom.Of, which is the same. -/
namespace Go.Proofs.Ytpbcigilipdedaa.P
open Go.RowKit Go.Proofs.YtpbcigilipdedaaW.PrintWords Go.Proofs.YtpbcigilipdedaaW.PrintLast Go.Proofs.YtpbcigilipdedaaW.PrintMore
set_option linter.unusedVariables false
set_option linter.unusedSimpArgs false
theorem foldl_ins : ∀ (l acc : List Int), SS acc → SS (l.foldl (fun a x => insU x a) acc) ∧ ∀ z, z ∈ l.foldl (fun a x => insU x a) acc ↔ z ∈ acc ∨ z ∈ l
  | [], acc, h => ⟨h, fun z => by simp⟩
  | x :: l, acc, h => by
    obtain ⟨h1, h2⟩ := foldl_ins l (insU x acc) (insU_ss x acc h)
    refine ⟨h1, fun z => ?_⟩
    rw [List.foldl_cons, h2 z, Zfs, List.mem_cons]
    constructor
    · rintro ((h | h) | h)
      · exact .inr (.inl h)
      · exact .inl h
      exact .inr (.inr h)
    rintro (h | h | h)
    · exact .inl (.inr h)
    · exact .inl (.inl h)
    exact .inr h
theorem foldl_sd (l : List Int) : l.foldl (fun a x => insU x a) [] = sd l := by
  obtain ⟨h1, h2⟩ := foldl_ins l [] List.Pairwise.nil
  exact (sd_eq h1 (fun z => by rw [h2 z]; simp)).symm
theorem ref_Sorted_l0 (l : List Int) (hl : l.length < 17592186044000) : ∀ (m n : Nat) (acc : List Int), n + m = l.length → acc.length ≤ n → SS acc →
    Ev (fun k => Zai.l0 k l acc (n : Int)) ((l.drop n).foldl (fun a x => insU x a) acc) := by
  intro m
  induction m with
  | zero =>
    intro n acc h _ _
    rw [drop_nil' h]
    exact Ev.step (G := fun _ => some acc) (fun k => by rw [Zai.l0, if_neg (by omega)]) (Ev.const rfl)
  | succ m ih =>
    intro n acc h ha hs
    have hn : n < l.length := by omega
    have e : (l.drop n).foldl (fun a x => insU x a) acc = (l.drop (n + 1)).foldl (fun a x => insU x a) (insU l[n] acc) := by rw [List.drop_eq_getElem_cons hn, List.foldl_cons]
    rw [e]
    have hi := Zeo l[n] acc
    have e2 : ins2 l[n] (decide (l[n] ∈ acc)) acc = insU l[n] acc := by
      by_cases hx : l[n] ∈ acc
      rotate_left
      · rw [decide_eq_false hx, Zgr _ _ hx]
      rw [decide_eq_true hx, Zf4, insU_mem _ _ hs hx]
    refine Ev.step (fun k => by rw [Zai.l0, if_pos (by omega), if_pos (by omega), Zcd l n hn]) (Ev.bind (ref_Has acc l[n] (by omega)) ?_)
    refine ref_Sorted_l1 l acc n hn (by omega) acc.length 0 [] (decide (l[n] ∈ acc)) (by omega) (by simp) ?_
    rw [List.nil_append, List.drop_zero, e2, w1 (by omega)]
    exact ih (n + 1) _ (by omega) (by omega) (insU_ss _ _ hs)
theorem Zgu (l : List Int) (hl : l.length < 17592186044000) : Ev (fun k => Zai.f k l) (sd l) := by
  rw [← foldl_sd]
  exact ref_Sorted_l0 l hl l.length 0 [] (by omega) (by simp) List.Pairwise.nil
theorem pack_run {l : List Int} {B : Int} (hs : SS l) (hB : ∀ x ∈ l, x ≤ B) {p n : Nat} (hn : n < l.length) (hp : p ≤ n) (run : ∀ j (hj : j < l.length), p ≤ j → j ≤ n → l[j] = l[p] + ((j : Int) - p)) (gap : ∀ h : n + 1 < l.length, l[n + 1] ≠ l[n] + 1) :
    pack (l.drop p) = ⟨l[p], l[n]⟩ :: pack (l.drop (n + 1)) := by
  have hr := run n hn hp (Nat.le_refl _)
  have hge : ∀ x ∈ l.drop (n + 1), l[n] + 2 ≤ x := by
    intro x hx
    obtain ⟨j, hj, rfl⟩ := List.mem_drop_iff_getElem.1 hx
    have h1 : n + 1 < l.length := by omega
    have h2 := gap h1
    have h3 := Zfh hs hn h1 (by omega)
    rcases Nat.eq_zero_or_pos j with rfl | hj0
    · simp only [Nat.add_zero] at *; omega
    have h4 := Zfh hs h1 (show n + 1 + j < l.length by omega) (by omega); omega
  obtain ⟨g, m⟩ := Zc8 (V := B) (b := l[n] + 2) (l := l.drop (n + 1)) (List.Pairwise.drop hs) (fun x hx => ⟨hge x hx, hB x (List.mem_of_mem_drop hx)⟩)
  refine (pack_eq (V := B) (b := l[p]) (d := ⟨l[p], l[n]⟩ :: pack (l.drop (n + 1))) ⟨Int.le_refl _, by show l[p] ≤ l[n]; omega, hB _ (List.getElem_mem hn), g⟩ (List.Pairwise.drop hs) (fun v => ?_)).symm
  rw [Zcc, m, List.mem_drop_iff_getElem, List.mem_drop_iff_getElem]
  dsimp only
  constructor
  · rintro (⟨h1, h2⟩ | ⟨j, hj, rfl⟩)
    · have hj : p + (v - l[p]).toNat < l.length := by omega
      refine ⟨(v - l[p]).toNat, by omega, ?_⟩
      rw [run _ hj (by omega) (by omega)]
      omega
    refine ⟨n + 1 + j - p, by omega, ?_⟩
    congr 1
    omega
  rintro ⟨j, hj, rfl⟩
  by_cases hjn : p + j ≤ n
  rotate_left
  · refine .inr ⟨p + j - (n + 1), by omega, ?_⟩
    congr 1
    omega
  have h1 := run (p + j) (by omega) (by omega) hjn
  exact .inl (by omega)
theorem ref_Pack_l0 (l : List Int) (hl : l.length < 8000000000000) (hs : SS l) (hB : ∀ x ∈ l, -4611686018427387904 ≤ x ∧ x ≤ 4611686018427387904) : ∀ (m n p : Nat) (out : List Rg), n + m = l.length → p ≤ n → (n = l.length → p = n) → out.length ≤ p →
    (∀ hp : p < l.length, ∀ j (hj : j < l.length), p ≤ j → j ≤ n → l[j] = l[p] + ((j : Int) - p)) →
    Ev (fun k => Zal.l0 k l out (p : Int) (n : Int)) (out ++ pack (l.drop p)) := by
  intro m
  induction m with
  | zero =>
    intro n p out h hp hpe _ _
    obtain rfl := hpe (by omega)
    rw [drop_nil' h]
    exact Ev.step (G := fun _ => some out) (fun k => by rw [Zal.l0, if_neg (by omega)]) (Ev.const (by simp [pack]))
  | succ m ih =>
    intro n p out h hp hpe ho run
    have hn : n < l.length := by omega
    have hpl : p < l.length := by omega
    have hb := hB _ (List.getElem_mem hn)
    have run' := run hpl
    by_cases hlast : n + 1 = l.length
    · rw [pack_run hs (fun x hx => (hB x hx).2) hn hp run' (fun hh => by omega)]
      refine Ev.step (fun k => by rw [Zal.l0, if_pos (by omega), w1 (by omega), if_pos (by omega), if_pos (by omega), if_pos (by omega), if_pos (by omega), if_pos (by omega), Zcd l p hpl, Zcd l n hn]) ?_
      have := ih (n + 1) (n + 1) (out ++ [⟨l[p], l[n]⟩]) (by omega) (Nat.le_refl _) (fun _ => rfl) (by simp; omega) (fun hh => by omega)
      simpa using this
    have hn1 : n + 1 < l.length := by omega
    by_cases hgap : l[n + 1] = l[n] + 1
    · refine Ev.step (fun k => by rw [Zal.l0, if_pos (by omega), w1 (by omega), if_neg (by omega), if_pos (by omega), if_pos (by omega), if_pos (by omega), Zcd l (n + 1) hn1, Zcd l n hn, w64 (n := l[n] + 1) (by omega) (by omega), if_pos hgap]) ?_
      refine ih (n + 1) p out (by omega) (by omega) (fun hh => by omega) ho (fun _ j hj h1 h2 => ?_)
      rcases Nat.lt_or_ge j (n + 1) with h3 | h3
      · exact run' j hj h1 (by omega)
      obtain rfl : j = n + 1 := by omega
      rw [hgap, run' n hn hp (Nat.le_refl _)]
      omega
    rw [pack_run hs (fun x hx => (hB x hx).2) hn hp run' (fun _ => hgap)]
    refine Ev.step (fun k => by rw [Zal.l0, if_pos (by omega), w1 (by omega), if_neg (by omega), if_pos (by omega), if_pos (by omega), if_pos (by omega), Zcd l (n + 1) hn1, Zcd l n hn, w64 (n := l[n] + 1) (by omega) (by omega), if_neg hgap, if_pos (by omega), if_pos (by omega), if_pos (by omega), Zcd l p hpl]) ?_
    have := ih (n + 1) (n + 1) (out ++ [⟨l[p], l[n]⟩]) (by omega) (Nat.le_refl _) (fun _ => rfl) (by simp; omega) (fun hh j hj h1 h2 => by obtain rfl : j = n + 1 := (by omega); omega)
    simpa using this
theorem ref_Pack (l : List Int) (hl : l.length < 8000000000000) (hs : SS l) (hB : ∀ x ∈ l, -4611686018427387904 ≤ x ∧ x ≤ 4611686018427387904) : Ev (fun k => Zal.f k l) (pack l) := by
  have := ref_Pack_l0 l hl hs hB l.length 0 0 [] (by omega) (Nat.le_refl _) (fun h => by omega) (by simp) (fun hp j hj h1 h2 => by obtain rfl : j = 0 := (by omega); omega)
  exact this
def ofSpec (l : List Int) : List Rg × Int := if (l.any fun v => !isVal v) = true then ([], 20) else (pack (sd l), 0)
theorem Zfb (x : Int) : Zbq.f x = some (isVal x) := by
  unfold Zbq.f isVal
  by_cases h : x ≥ -1048576
  · rw [if_pos h]; simp [decide_eq_true h]
  rw [if_neg h]; have : decide (-1048576 ≤ x) = false := decide_eq_false h; simp [this]
theorem Zd9 (x : Int) : isVal x = true ↔ -1048576 ≤ x ∧ x ≤ 1048576 := by simp [isVal]
theorem ref_Of_l0 (l : List Int) (hl : l.length ≤ 4096) : ∀ (m n : Nat), n + m = l.length → (∀ x ∈ l.take n, isVal x = true) → Ev (fun k => Zbj.l0 k l (n : Int)) (ofSpec l) := by
  intro m
  induction m with
  | zero =>
    intro n h ha
    rw [List.take_of_length_le (by omega)] at ha
    have hall : (l.any fun v => !isVal v) = false := by rw [List.any_eq_false]; intro x hx; simp [ha x hx]
    have hsl := Zeb l
    have e : ofSpec l = (pack (sd l), 0) := by unfold ofSpec; rw [hall]; rfl
    rw [e]
    refine Ev.step (fun k => by rw [Zbj.l0, if_neg (by omega)]) (Ev.bind (Zgu l (by omega)) ?_)
    refine Ev.Zd (by omega) (Ev.bind (ref_Pack (sd l) (by omega) (Zfp l) (fun x hx => ?_)) (Ev.pure _))
    have := (Zd9 x).1 (ha x ((Zdp x l).1 hx))
    omega
  | succ m ih =>
    intro n h ha
    have hn : n < l.length := by omega
    cases hv : isVal l[n] with
    | true =>
      refine Ev.step (fun k => by rw [Zbj.l0, if_pos (by omega), if_pos (by omega), Zcd l n hn, Zfb, Option.bind_some, if_pos hv, w1 (by omega)]) (ih (n + 1) (by omega) (fun x hx => ?_))
      rw [List.take_succ_eq_append_getElem hn, List.mem_append] at hx
      rcases hx with hx | hx
      · exact ha x hx
      rw [List.mem_singleton] at hx; rw [hx]; exact hv
    | false =>
      have hall : (l.any fun v => !isVal v) = true := List.any_eq_true.2 ⟨l[n], List.getElem_mem hn, by simp [hv]⟩
      have e : ofSpec l = ([], 20) := by unfold ofSpec; rw [hall]; rfl
      rw [e]
      exact Ev.step (G := fun _ => some (([] : List Rg), (20 : Int))) (fun k => by rw [Zbj.l0, if_pos (by omega), if_pos (by omega), Zcd l n hn, Zfb, Option.bind_some, if_neg (by rw [hv]; simp)]) (Ev.const rfl)
theorem ref_Of (l : List Int) (hl : l.length ≤ 4096) : Ev (fun k => Zbj.f k l) (ofSpec l) := ref_Of_l0 l hl l.length 0 (by omega) (by simp)
end Go.Proofs.Ytpbcigilipdedaa.P
/- dom.all: the iterator over a domain's values. -/
namespace Go.Proofs.Ytpbcigilipdedaa.P
open Go.RowKit Go.Shelf Go.Proofs.YtpbcigilipdedaaW.PrintWords Go.Proofs.YtpbcigilipdedaaW.PrintLast Go.Proofs.YtpbcigilipdedaaW.PrintMore
set_option linter.unusedVariables false
set_option linter.unusedSimpArgs false
attribute [local go_sem] Oper.semAt_some
set_option maxRecDepth 100000 in
set_option maxHeartbeats 4000000 in
theorem all1_in (F : Fence) (n : Nat) (h1 : F.fn 98) (hro : F.round = none) (hn : 1 ≤ n) (l Bs : Nat) (w : World) (A : Option Addr) (c : Nat) (zs : List S41) (hr : Kd.C k41 w A zs.length zs) (hN : niceD zs = true) (J Jx : List Int → World → Prop)
    (hY : ∀ pre x W, J pre W → pre.length < 4097 → YieldAt F (n - 1) Try.prog l #[.int .i64 x] W fun e W' =>
      (e = .returned (.bool true) ∧ J (pre ++ [x]) W' ∧ Kp w.heap.size W W') ∨ (e = .returned (.bool false) ∧ Jx (pre ++ [x]) W'))
    (W : World) (hJ : AbidesFrom W.heap.size J) (hW : Below w.heap.size w W) (hBs : W.cell? ⟨Bs, 0, none⟩ = some (.slice A zs.length c)) (h0 : J [] W) :
    CallsIn F n Try.prog 98 #[.func (.yield l) #[] #[], .pointer (some ⟨Bs, 0, none⟩)] W fun e W' => (∃ v, e = .returned v) ∧
      ((∃ ys, ys = allV 4097 zs ∧ J ys W') ∨ (∃ pre, pre <+: allV 4097 zs ∧ Jx pre W')) := by
  refine callsIn_of_wp Try.func98 rfl h1 ?_ hro
  simp only [Try.ntmps98, List.size_toArray, List.length_cons, List.length_nil, Nat.reduceAdd, Nat.reduceSub, Array.replicate_succ, Array.replicate_zero, List.push_toArray, List.append_toArray, List.nil_append, List.cons_append]
  have hlen : zs.length ≤ 9223372036854775807 := hr.2.1
  gi_wp2
  gi_loopw [3, 9] (fun n3 i9 wr => ∃ (k m : Nat) (pre : List Int), k ≤ zs.length ∧ i9 = .int .i64 k ∧ n3 = .int .i64 m ∧ Za (m = pre.length) ∧ m ≤ 4097 ∧ Za (pre ++ allV (4097 - m) (zs.drop k) = allV 4097 zs) ∧ J pre wr ∧ Below w.heap.size w wr ∧ W.heap.size ≤ wr.heap.size)
    (fun _ i _ => zs.length - (intOf i).toNat)
  case atStart => exact ⟨0, 0, [], Nat.zero_le _, rfl, rfl, ⟨rfl⟩, by omega, ⟨rfl⟩, h0, hW, Nat.le_refl _⟩
  case round =>
    obtain ⟨k, m, pre, hk, rfl, rfl, hm, hm2, hpre, hJs, hb, hsz⟩ := hrel
    obtain ⟨wo, rfl⟩ : ∃ wo : World, wo = wr := ⟨_, rfl⟩
    by_cases hlt : k < zs.length
    rotate_left
    · obtain rfl : k = zs.length := by omega
      have hg := hpre.out
      simp [allV] at hg
      have HG := Za.mk hg
      clear hg
      gi_wp2
      go_end0
      exact ⟨⟨_, rfl⟩, .inl ⟨pre, HG.out, hJs⟩⟩
    obtain ⟨ad, rfl, hx0, hx1⟩ := Zdv hr (k : Int) (by omega) (by omega)
    have hx0 := (hb.cell (World.block_lt_of_cell? w _ hx0)).trans hx0
    have hx1 := (hb.cell (World.block_lt_of_cell? w _ hx1)).trans hx1
    obtain ⟨b1, b2, b3, b4⟩ := niceD_at hN hlt
    have hd := Za.mk (drop_at hlt)
    simp only [Int.toNat_natCast] at hx0 hx1
    have er : Zbu zs (k : Int) = Zbu zs k := rfl
    generalize hx : Zbu zs (k : Int) = x at *
    clear er
    gi_wp2
    have hJ1 : J pre (wo.alloc (.cells #[.int .i64 x.f0, .int .i64 x.f1] 41)) := hJ pre wo _ none hJs (World.grownBy_alloc _ _ _) (fun r e => by cases e)
    have hb1 : Below w.heap.size w (wo.alloc (.cells #[.int .i64 x.f0, .int .i64 x.f1] 41)) := hb.alloc hb.size _
    have hz1 : (wo.alloc (.cells #[.int .i64 x.f0, .int .i64 x.f1] 41)).heap[wo.heap.size]? = some (.cells #[.int .i64 x.f0, .int .i64 x.f1] 41 (0, 0)) := World.alloc_heap_new wo _
    have hg := hpre.out
    rw [hd.out, allV] at hg
    clear hx0 hx1
    gi_loopw [3, 6] (fun n3 v6 wr => ∃ (m : Nat) (v : Int) (pre : List Int), n3 = .int .i64 m ∧ v6 = .int .i64 v ∧ Za (m = pre.length) ∧ m ≤ 4097 ∧ x.f0 ≤ v ∧ v ≤ 1048577 ∧ Za (pre ++ upTo (4097 - m) v x.f1 ++ allV (4097 - m - (upTo (4097 - m) v x.f1).length) (zs.drop (k + 1)) = allV 4097 zs) ∧ J pre wr ∧ Below w.heap.size w wr ∧ W.heap.size ≤ wr.heap.size ∧ Za (wr.heap[wo.heap.size]? = some (.cells #[.int .i64 x.f0, .int .i64 x.f1] 41 (0, 0))))
      (fun _ v _ => (1048577 - intOf v).toNat)
    case atStart => exact ⟨m, x.f0, pre, rfl, rfl, hm, hm2, by omega, by omega, ⟨by rw [List.append_assoc]; exact hg⟩, hJ1, hb1, by simp; omega, ⟨hz1⟩⟩
    case round =>
      clear hg hJ1 hb1 hz1 hpre
      obtain ⟨m, v, pre, rfl, rfl, hm, hm2, hv1, hv2, hpre, hJs, hb, hsz, hz⟩ := hrel
      have hcell : wr.cell? ⟨wo.heap.size, 1, none⟩ = some (.int .i64 x.f1) := by simp [World.cell?, hz.out]
      by_cases hlt1 : v ≤ x.f1
      rotate_left
      · have hup := upTo_no (r := 4097 - m) (v := v) (hi := x.f1) (.inr hlt1)
        have hg := hpre.out
        rw [hup] at hg
        have HG := Za.mk hg
        clear hg hup hpre
        gi_wp2
        go_roundw
        case rel => exact ⟨k + 1, m, pre, by omega, by first | rfl | go_num, rfl, hm, hm2, ⟨by have h := HG.out; simpa using h⟩, hJs, hb, hsz⟩
        case measure => simp [intOf]; omega
      by_cases hlt2 : m ≤ 4096
      rotate_left
      · have hup := upTo_no (r := 4097 - m) (v := v) (hi := x.f1) (.inl (by omega))
        have hg := hpre.out
        rw [hup] at hg
        have HG := Za.mk hg
        clear hg hup hpre
        gi_wp2
        go_roundw
        case rel => exact ⟨k + 1, m, pre, by omega, by first | rfl | go_num, rfl, hm, hm2, ⟨by have h := HG.out; simpa using h⟩, hJs, hb, hsz⟩
        case measure => simp [intOf]; omega
      have hup := upTo_yes (r := 4097 - m) (v := v) (hi := x.f1) (by omega) hlt1
      have hg := hpre.out
      rw [hup] at hg
      have HG := Za.mk hg
      clear hg hup hpre
      obtain ⟨fn, tmps, assign, body, hy, hR⟩ := hY pre v wr hJs (by have := hm.out; omega)
      gi_wp2
      refine hR.mono ?_
      rintro e W3 (⟨rfl, hJ3, hk3⟩ | ⟨rfl, hJx3⟩)
      · have hz3 := hk3.2 _ _ _ hz.out
        have hb3 := hb.trans hk3.1
        have hs3 := hk3.1.size
        clear hR hy hcell
        gi_wp2
        go_roundw
        case rel => exact ⟨m + 1, v + 1, pre ++ [v], by simp, by first | rfl | go_num, ⟨by have := hm.out; simp; omega⟩, by omega, by omega, by omega, ⟨by have h := HG.out; simp only [List.append_assoc, List.cons_append, List.nil_append, List.length_cons] at h ⊢; rw [show 4097 - (m + 1) = 4097 - m - 1 by omega]; rw [show 4097 - m - 1 - (upTo (4097 - m - 1) (v + 1) x.f1).length = 4097 - m - ((upTo (4097 - m - 1) (v + 1) x.f1).length + 1) by omega]; exact h⟩, hJ3, hb3, by omega, ⟨hz3⟩⟩
        case measure => simp [intOf]; omega
      gi_wp2
      refine bodyPost_ret (results_none rfl _ _ _) rfl ?_
      exact ⟨⟨_, rfl⟩, .inr ⟨pre ++ [v], ⟨_, by have h := HG.out; simp only [List.append_assoc, List.cons_append, List.nil_append] at h ⊢; exact h⟩, hJx3⟩⟩
theorem all_in (F : Fence) (n : Nat) (h : F.fn 82) (hro : F.round = none) (A : Option Addr) (len cap : Nat) (w : World) :
    CallsIn F n Try.prog 82 #[.slice A len cap] w fun e w' => e = .returned (.func (.func 98) #[] #[.pointer (some ⟨w.heap.size, 0, none⟩)]) ∧ w' = w.alloc (.cells #[.slice A len cap] 39) := by
  refine callsIn_of_wp Try.func82 rfl h ?_ hro
  simp only [Try.ntmps82, List.size_toArray, List.length_cons, List.length_nil, Nat.reduceAdd, Nat.reduceSub, Array.replicate_succ, Array.replicate_zero, List.push_toArray, List.append_toArray, List.nil_append, List.cons_append]
  gi_wp2
  go_ret
  exact ⟨rfl, rfl⟩
theorem all_stops (F : Fence) (n : Nat) (h1 : F.fn 98) (hro : F.round = none) (hn : 1 ≤ n) (Bs : Nat) (w0 w : World) (A : Option Addr) (c : Nat) (zs : List S41) (hr : Kd.C k41 w0 A zs.length zs) (hN : niceD zs = true) (hBs : Bs < w.heap.size) (hw : Below w0.heap.size w0 w)
    (hc : w.cell? ⟨Bs, 0, none⟩ = some (.slice A zs.length c)) :
    SeqStopsK F n Try.prog 98 #[.pointer (some ⟨Bs, 0, none⟩)] (fun x : Int => #[Value.int .i64 x]) (Kp w0.heap.size) (fun ys => ys = allV 4097 zs) (fun pre => pre <+: allV 4097 zs) 4097 w := fun l J Jx W hW hJ _ hY h0 =>
  all1_in F n h1 hro hn l Bs w0 A c zs hr hN J Jx hY W hJ (hw.trans (hW.mono hw.size)) ((hW.cell (p := ⟨Bs, 0, none⟩) hBs).trans hc) h0
end Go.Proofs.Ytpbcigilipdedaa.P
/- dom.Values: all values of a domain, in order; of ranges whose ends are no larger than values can be. -/
namespace Go.Proofs.Ytpbcigilipdedaa.P
open Go.RowKit Go.Shelf Go.Proofs.YtpbcigilipdedaaW.PrintWords Go.Proofs.YtpbcigilipdedaaW.PrintLast Go.Proofs.YtpbcigilipdedaaW.PrintMore
set_option linter.unusedVariables false
end Go.Proofs.Ytpbcigilipdedaa.P
/- The program's dom: what packed, Size, Of, Values, Has come to. -/
namespace Go.Proofs.Ytpbcigilipdedaa.P
open Go.RowKit Go.Proofs.YtpbcigilipdedaaW.PrintWords Go.Proofs.YtpbcigilipdedaaW.PrintLast Go.Proofs.YtpbcigilipdedaaW.PrintMore
set_option linter.unusedVariables false
set_option linter.unusedSimpArgs false
theorem Gd.up {V V' : Int} (h : V ≤ V') : ∀ {b : Int} {d : List Rg}, Gd V b d → Gd V' b d
  | _, [], _ => trivial
  | _, x :: d, ⟨h1, h2, h3, h4⟩ => ⟨h1, h2, by omega, Gd.up h h4⟩
theorem rg_last (o : List Rg) (y : Rg) : rg (o ++ [y]) (((o ++ [y]).length : Int) - 1) = y := by
  have h : (((o ++ [y]).length : Int) - 1) = (o.length : Int) := by simp
  rw [h, rg_nat _ _ (by simp)]
  simp
theorem packed_l0 (l : List Int) (hl : l.length ≤ 1000000) (hs : List.Pairwise (fun a b : Int => a ≤ b) l) (hB : ∀ x ∈ l, -1048576 ≤ x ∧ x ≤ 1048576) : ∀ (m n : Nat) (out : List Rg), n + m = l.length → out.length ≤ n →
    Gd 1048576 (-1048576) out → (∀ v, Va out v ↔ v ∈ l.take n) → Ev (fun k => Zbi.l0 k out l (l.length : Int) (n : Int)) (pack (sd l)) := by
  intro m
  induction m with
  | zero =>
    intro n out h ho hg hm
    rw [List.take_of_length_le (by omega)] at hm
    rw [← pack_eq hg (Zfp l) (fun v => (hm v).trans (Zdp v l).symm)]
    exact Ev.step (G := fun _ => some out) (fun k => by rw [Zbi.l0, if_neg (by omega)]) (Ev.const rfl)
  | succ m ih =>
    intro n out h ho hg hm
    have hn : n < l.length := by omega
    have hv := hB _ (List.getElem_mem hn)
    have hmax : ∀ v, Va out v → v ≤ l[n] := fun v hv => by
      obtain ⟨j, hj, rfl⟩ := List.mem_take_iff_getElem.1 ((hm v).1 hv)
      exact List.pairwise_iff_getElem.1 hs j n (by omega) hn (by omega)
    have htk : l.take (n + 1) = l.take n ++ [l[n]] := List.take_succ_eq_append_getElem hn
    have app : (∀ v, Va out v → v + 2 ≤ l[n]) → Ev (fun k => Zbi.l0 k (out ++ [⟨l[n], l[n]⟩]) l (l.length : Int) ((n + 1 : Nat) : Int)) (pack (sd l)) := fun hgap => by
      refine ih (n + 1) (out ++ [⟨l[n], l[n]⟩]) (by omega) (by simp; omega) (Zfv.2 ⟨hg, ?_, Int.le_refl _, hv.2⟩) (fun v => ?_)
      · rcases List.eq_nil_or_concat out with rfl | ⟨o, y, rfl⟩
        · simp [endB]; omega
        rw [List.concat_eq_append] at *
        rw [endB_snoc]
        have hy := (Zfv.1 hg).2
        exact hgap y.f1 ((Zdu _ _ _).2 (.inr ((Zcc _ _ _).2 (.inl ⟨hy.2.1, Int.le_refl _⟩))))
      have e1 : (l[n] ≤ v ∧ v ≤ l[n]) ↔ v = l[n] := by omega
      rw [Zdu, hm v, htk, List.mem_append, List.mem_singleton, Zcc]
      simp only [Va_nil, or_false, e1]
    rcases List.eq_nil_or_concat out with rfl | ⟨o, y, rfl⟩
    · refine Ev.step (fun k => by rw [Zbi.l0, if_pos (by omega), if_pos (by omega), if_pos (by omega), if_neg (by simp), Zcd l n hn]) ?_
      refine Ev.step (fun k => by rw [Zbi.j1, if_neg (by simp), if_neg (by simp), if_pos (by simp), w1 (by omega)]) (app (fun v hv => by simp at hv))
    rw [List.concat_eq_append] at *
    have hy := (Zfv.1 hg).2
    have hlen : (o ++ [y]).length = o.length + 1 := by simp
    have hlast : wrap64 (((o ++ [y]).length : Int) - 1) = ((o ++ [y]).length : Int) - 1 := w64 (by omega) (by omega)
    have hyv : y.f1 ≤ l[n] := hmax y.f1 ((Zdu _ _ _).2 (.inr ((Zcc _ _ _).2 (.inl ⟨hy.2.1, Int.le_refl _⟩))))
    refine Ev.step (fun k => by rw [Zbi.l0, if_pos (by omega), if_pos (by omega), if_pos (by omega), if_pos (by omega), hlast, if_pos (by omega), if_pos (by omega), Zcd l n hn, show Zbu (o ++ [y]) (((o ++ [y]).length : Int) - 1) = y from rg_last o y]) ?_
    by_cases h1 : y.f1 ≥ l[n]
    · have he : y.f1 = l[n] := by omega
      refine Ev.step (fun k => by rw [Zbi.j1, if_pos (decide_eq_true h1), w1 (by omega)]) (ih (n + 1) (o ++ [y]) (by omega) (by omega) hg (fun v => ?_))
      rw [hm v, htk, List.mem_append, List.mem_singleton]
      constructor
      · exact .inl
      rintro (h | rfl)
      · exact h
      rw [← hm, ← he]
      exact (Zdu _ _ _).2 (.inr ((Zcc _ _ _).2 (.inl ⟨hy.2.1, Int.le_refl _⟩)))
    by_cases h2 : y.f1 = l[n] - 1
    rotate_left
    · refine Ev.step (fun k => by rw [Zbi.j1, if_neg (by simpa using h1), if_pos (by omega), hlast, if_pos (by omega), if_pos (by omega), show Zbu (o ++ [y]) (((o ++ [y]).length : Int) - 1) = y from rg_last o y, w64 (n := l[n] - 1) (by omega) (by omega), if_neg h2, if_pos (by omega), w1 (by omega)]) (app (fun v hv => ?_))
      have := hg.lt_end hv
      rw [endB_snoc] at this
      omega
    refine Ev.step (fun k => by rw [Zbi.j1, if_neg (by simpa using h1), if_pos (by omega), hlast, if_pos (by omega), if_pos (by omega), show Zbu (o ++ [y]) (((o ++ [y]).length : Int) - 1) = y from rg_last o y, w64 (n := l[n] - 1) (by omega) (by omega), if_pos h2, w1 (by omega)]) ?_
    have hset : (o ++ [y]).set ((((o ++ [y]).length : Int) - 1)).toNat (⟨y.f0, l[n]⟩ : Rg) = o ++ [⟨y.f0, l[n]⟩] := by
      have : ((((o ++ [y]).length : Int) - 1)).toNat = o.length := by rw [hlen]; omega
      rw [this]
      simp
    rw [hset]
    refine ih (n + 1) (o ++ [⟨y.f0, l[n]⟩]) (by omega) (by simp at *; omega) (Zfv.2 ⟨(Zfv.1 hg).1, hy.1, by show y.f0 ≤ l[n]; omega, hv.2⟩) (fun v => ?_)
    rw [htk, List.mem_append, List.mem_singleton, ← hm v, Zdu, Zdu, Zcc, Zcc]
    simp
    constructor
    · rintro (h | h)
      · exact .inl (.inl h)
      by_cases e : v = l[n]
      · exact .inr e
      exact .inl (.inr ⟨h.1, by omega⟩)
    rintro ((h | h) | rfl)
    · exact .inl h
    · exact .inr ⟨h.1, by omega⟩
    exact .inr ⟨by omega, Int.le_refl _⟩
theorem packed_ev (l : List Int) (hl : l.length ≤ 1000000) (hs : List.Pairwise (fun a b : Int => a ≤ b) l) (hB : ∀ x ∈ l, -1048576 ≤ x ∧ x ≤ 1048576) : Ev (fun k => Zbi.f k l) (pack (sd l)) :=
  packed_l0 l hl hs hB l.length 0 [] (by omega) (by simp) trivial (fun v => by simp)
theorem Size_l0 (d : List Rg) (hl : d.length ≤ 3000000) {b : Int} (hd : Gd 1048576 b d) (hb : -1048576 ≤ b) : ∀ (m n : Nat) (s : Int), n + m = d.length → 0 ≤ s → s + (vals (d.drop n)).length ≤ 3000000 →
    Ev (fun k => Zct.l0 k s d (d.length : Int) (n : Int)) (s + (vals (d.drop n)).length) := by
  intro m
  induction m with
  | zero =>
    intro n s h h0 h1
    rw [drop_nil' h]
    exact Ev.step (G := fun _ => some s) (fun k => by rw [Zct.l0, if_neg (by omega)]) (Ev.const (by simp [vals]))
  | succ m ih =>
    intro n s h h0 h1
    have hn : n < d.length := by omega
    have hg := hd.drop n
    rw [List.drop_eq_getElem_cons hn] at hg
    obtain ⟨g1, g2, g3, g4⟩ := hg
    have e : (vals (d.drop n)).length = (d[n].f1 + 1 - d[n].f0).toNat + (vals (d.drop (n + 1))).length := by
      rw [List.drop_eq_getElem_cons hn, vals, List.length_append]
      have := Zft (d[n].f1 + 1 - d[n].f0).toNat d[n].f0 d[n].f1
      omega
    rw [e] at h1 ⊢
    refine Ev.step (fun k => by rw [Zct.l0, if_pos (by omega), if_pos (by omega), if_pos (by omega), show Zbu d (n : Int) = d[n] from rg_nat d n hn, w64 (n := d[n].f1 - d[n].f0) (by omega) (by omega), w64 (n := d[n].f1 - d[n].f0 + 1) (by omega) (by omega), w64 (n := s + (d[n].f1 - d[n].f0 + 1)) (by omega) (by omega), w1 (by omega)]) ?_
    have := ih (n + 1) (s + (d[n].f1 - d[n].f0 + 1)) (by omega) (by omega) (by omega)
    rwa [show s + (d[n].f1 - d[n].f0 + 1) + ((vals (d.drop (n + 1))).length : Int) = s + (((d[n].f1 + 1 - d[n].f0).toNat + (vals (d.drop (n + 1))).length : Nat) : Int) by omega] at this
theorem Size_ev (d : List Rg) {b : Int} (hd : Gd 1048576 b d) (hb : -1048576 ≤ b) : Ev (fun k => Zct.f k d) (vals d).length := by
  have h1 := Zdc hd
  have h2 := Zcu hd
  have := Size_l0 d (by omega) hd hb d.length 0 0 (by omega) (by omega) (by simp; omega)
  simp only [Int.zero_add, List.drop_zero] at this
  exact this
theorem Of_ev (l : List Int) (hl : l.length ≤ 4096) : Ev (fun k => Zfg.f k l) (ofSpec l) := by
  cases ha : (l.any fun v => !isVal v) with
  | true =>
    have e : ofSpec l = ([], 20) := by unfold ofSpec; rw [ha]; rfl
    rw [e]
    exact Ev.eq (G := fun _ => some (([] : List Rg), (20 : Int))) (fun k => by rw [Zfg.f, if_pos ha]) (Ev.pure _)
  | false =>
    have e : ofSpec l = (pack (sd l), 0) := by unfold ofSpec; rw [ha]; rfl
    have hv : ∀ x ∈ l, -1048576 ≤ x ∧ x ≤ 1048576 := fun x hx => (Zd9 x).1 (by have := List.any_eq_false.1 ha x hx; simpa using this)
    have hb : ∀ x ∈ sd l, -1048576 ≤ x ∧ x ≤ 1048576 := fun x hx => hv x ((Zdp x l).1 hx)
    obtain ⟨g, hm⟩ := Zc8 (V := 1048576) (b := -1048576) (Zfp l) hb
    have hsl := Zeb l
    have hs := Zec l
    have hsd : sd (sortI l) = sd l := sd_congr (fun x => (Zdy l).mem_iff)
    have hp := packed_ev (sortI l) (by omega) (sortI_le l) (fun x hx => hv x ((Zdy l).mem_iff.1 hx))
    rw [hsd] at hp
    have hz := Size_ev _ g (by omega)
    rw [vals_pack (Zfp l)] at hz
    rw [e]
    refine Ev.eq (fun k => by rw [Zfg.f, if_neg (by rw [ha]; simp), if_neg (by omega)]) (Ev.bind hp (Ev.bind hz (Ev.Zd (c := ((sd l).length : Int) > 4096) (by omega) (Ev.pure _))))
instance (d : List Rg) (v : Int) : Decidable (Va d v) := inferInstanceAs (Decidable (∃ x ∈ d, x.f0 ≤ v ∧ v ≤ x.f1))
theorem Va_any (d : List Rg) (v : Int) : d.any (inR v) = decide (Va d v) := by
  rw [Bool.eq_iff_iff, List.any_eq_true, decide_eq_true_iff]
  unfold Va inR
  simp
theorem Has_ev (d : List Rg) (v : Int) : Zd6.f d v = some (decide (Va d v)) := by rw [Zd6.f, Va_any]
end Go.Proofs.Ytpbcigilipdedaa.P
namespace Go.Proofs.Ytpbcigilipdedaa.P
open Go.RowKit Go.Proofs.YtpbcigilipdedaaW.PrintWords Go.Proofs.YtpbcigilipdedaaW.PrintLast Go.Proofs.YtpbcigilipdedaaW.PrintMore
attribute [local go_sem] Zcg Zci Zcr Zcs Zb7 Zb8 Zch Zcj
set_option linter.unusedVariables false
set_option linter.unusedSimpArgs false
def Zbf.l0 : Nat → List Int → List Int → Int → Option ((List (S41)))
 | 0, _, _, _ => none
 | k + 1, x0, x3, x4 => if x4 < (x0.length : Int) then (if x4 < 30 then (if 0 ≤ x4 then (if x3.length < 17592186044416 then (Zbf.l0 k x0 (x3 ++ [Int.tmod (rd x0 x4) 201]) (wrap64 (x4 + 1))) else (none)) else (none)) else ((Zbj.f k x3).bind fun bt192 => (some bt192.1))) else ((Zbj.f k x3).bind fun bt196 => (some bt196.1))
def Zbf.f (k : Nat) (l0 : List Int) : Option ((List (S41))) := Zbf.l0 k l0 (([] : List Int)) 0
set_option maxHeartbeats 8000000 in
set_option maxRecDepth 100000 in
theorem Zbf.calls (k : Nat) (A0 : Option Addr) (c0 : Nat) (l0 : List Int) (r : List (S41)) (w : World) (hr0 : Kd.C (Kd.int .i64) w A0 l0.length l0) (hc0 : l0.length ≤ c0) (h : Zbf.f k l0 = some r) :
  Calls Try.prog 40 #[.slice A0 l0.length c0] w fun e w' => ∃ v0_ : Value, e = .returned (v0_) ∧ Kd.R k41 41 w' w.heap.size (fun _ => True) v0_ r ∧ Below w.heap.size w w' := by
 have HR0 := Za.mk hr0
 have HC0 := Za.mk hc0
 clear hr0 hc0
 have HB := Za.mk (Below.refl w.heap.size w)
 have H : (Zbf.l0 k l0 (([] : List Int)) 0) = some r := h
 clear h
 obtain ⟨y185, hy185⟩ : ∃ y_ : List Int, y_ = (([] : List Int)) := ⟨_, rfl⟩
 replace H : (Zbf.l0 k l0 y185 0) = some r := by first | (rw [hy185]; with_reducible exact H) | (have H2_ := (Option.bind_some _ _).symm.trans H; rw [hy185]; with_reducible exact H2_) | (have H2_ := (Option.bind_some _ _).symm.trans H; with_reducible exact H2_) | with_reducible exact H | (rw [hy185]; exact H) | exact H
 have Ny185 := Za.mk hy185
 clear hy185
 have H' := Za.mk H
 clear H
 go_enter Try.func40, Try.ntmps40
 go_wp2_with (first | ((with_reducible refine Zbv (N := 7) rfl ?_); refine Kd.Zdt (Kd.int .i64) _ 3 ?hg (N := 7) ?hd (xs := ([] : List Int)) (inner := []) (ok := fun _ => True) (okp := fun _ => True) ?hr ?hp (fun _ hk => hk) trivial (Below.refl _ _) (Nat.le_refl _) (by simp) ?_; (case hd => rfl); (case hg => rfl); (case hr => first | (go_simp; done) | (go_simp; rfl)); (case hp => exact (Reps.none _ _)); intro v186 w2 ho3 hb hg_ hnew_; clear hg_ hnew_; (first | rw [← Ny185.out] at ho3 | (simp only [Int.reduceToNat] at ho3; rw [← Ny185.out] at ho3)); have n0_ := Za.mk (Kd.Zbz ho3 (Zam (by repeat (first | (with_reducible first | exact HB.out | apply Zac | apply Zaa | apply Zab) | exact HB.out)))); have n1_ := Za.mk (Zan (by repeat (first | (with_reducible first | exact HB.out | apply Zac | apply Zaa | apply Zab) | exact HB.out)) hb); clear HB; have HO187 := n0_; have HB := n1_; clear n0_ n1_; clear hb ho3))
 go_loopg [3, 4] k (fun kq v3 v4 w' => ∃ (x3_1 : List Int) (x4_1 : Int), v4 = .int .i64 x4_1 ∧ Za (Zbf.l0 kq l0 x3_1 x4_1 = some r) ∧ Za (kq ≤ k) ∧ Za (Kd.R (Kd.int .i64) 3 w' w.heap.size (fun _ => True) v3 x3_1) ∧ Za (Below w.heap.size w w'))
 case atStart => exact ⟨(y185), (0), (by first | rfl | (simp; done) | (simp [*]; done)), H', ⟨Nat.le_refl _⟩, ⟨by (with_reducible repeat (first | apply Kd.R_alloc | apply Kd.Zbh | apply Kd.Zbl)); exact HO187.out⟩, ⟨by repeat (first | (with_reducible first | exact HB.out | apply Zac | apply Zaa | apply Zab) | exact HB.out)⟩⟩
 case round =>
  clear H'
  try clear p2
  obtain ⟨x3_1, x4_1, rfl, HA, HK1, HO_3, HB⟩ := hrel
  cases gk with
  | zero => exact absurd HA.out (by simp [Zbf.l0])
  | succ k1 =>
   have H := HA.out
   clear HA
   simp only [Zbf.l0] at H
   by_cases c4 : x4_1 < (l0.length : Int)
   rotate_left
   ·rw [if_neg c4] at H
    have c4b0 : decide (x4_1 < (l0.length : Int)) = false := decide_eq_false c4
    clear c4
    replace H := Option.bind_eq_some_iff.mp H
    obtain ⟨⟨t196, t197⟩, A120, H⟩ := H
    replace H : (some t196) = some r := H
    have A12 := Za.mk A120
    clear A120
    obtain rfl := Option.some.inj H
    obtain ⟨Ao13, co13, eo13⟩ := Kd.Zbw HO_3.out
    subst eo13
    go_wp2_with (first | ((with_reducible refine Za2 (f := 59) rfl ?_); refine Zb0 (some 28) rfl rfl Try.func59 (by kernel_rfl) rfl #[.slice Ao13 x3_1.length co13] rfl (by (try simp only [List.map_toArray, List.map_cons, List.map_nil]); first | done | rfl | (simp only [List.length_drop, List.length_take]; rfl)) ?_; (with_reducible refine (Zbj.calls k1 _ _ x3_1 t196 t197 _ ?side1 ?side2 A12.out).mono ?_); (case side1 => repeat (first | exact (Kd.Za3 HO_3.out).2.2 | (with_reducible refine Kd.C_alloc ?_ _) | (with_reducible refine Kd.Za0 ?_ _) | (with_reducible refine Kd.C_drew ?_))); (case side2 => exact (Kd.Za3 HO_3.out).2.1); rintro e w14 ⟨v198, rfl, ho0, hb⟩; refine ⟨_, rfl, ?_⟩; have n0_ := Za.mk (Kd.Zb3 (by (with_reducible repeat (first | apply Kd.R_alloc | apply Kd.Zbh | apply Kd.Zbl)); exact HO_3.out) hb); have n1_ := Za.mk (Kd.Zbz ho0 (Zam (by repeat (first | (with_reducible first | exact HB.out | apply Zac | apply Zaa | apply Zab) | exact HB.out)))); have n2_ := Za.mk (Zan (by repeat (first | (with_reducible first | exact HB.out | apply Zac | apply Zaa | apply Zab) | exact HB.out)) hb); clear HO_3; clear HB; have HO_3 := n0_; have HO199 := n1_; have HB := n2_; clear n0_ n1_ n2_; (try clear hb); (try clear hb2); (try clear hk); (try clear hi); (try clear ho0)))
    go_ret
    exact ⟨_, by first | rfl | (simp [Zaq, Zar] <;> rfl) | (simp [*, Zaq, Zar] <;> rfl), by (with_reducible repeat (first | apply Kd.R_alloc | apply Kd.Zbh | apply Kd.Zbl)); exact HO199.out, by repeat (first | (with_reducible first | exact HB.out | apply Zac | apply Zaa | apply Zab) | exact HB.out)⟩
   rw [if_pos c4] at H
   have c4b0 : decide (x4_1 < (l0.length : Int)) = true := decide_eq_true c4
   clear c4
   by_cases c5 : x4_1 < 30
   rotate_left
   ·rw [if_neg c5] at H
    have c5b0 : decide (x4_1 < 30) = false := decide_eq_false c5
    clear c5
    replace H := Option.bind_eq_some_iff.mp H
    obtain ⟨⟨t192, t193⟩, A90, H⟩ := H
    replace H : (some t192) = some r := H
    have A9 := Za.mk A90
    clear A90
    obtain rfl := Option.some.inj H
    obtain ⟨Ao10, co10, eo10⟩ := Kd.Zbw HO_3.out
    subst eo10
    go_wp2_with (first | ((with_reducible refine Za2 (f := 59) rfl ?_); refine Zb0 (some 28) rfl rfl Try.func59 (by kernel_rfl) rfl #[.slice Ao10 x3_1.length co10] rfl (by (try simp only [List.map_toArray, List.map_cons, List.map_nil]); first | done | rfl | (simp only [List.length_drop, List.length_take]; rfl)) ?_; (with_reducible refine (Zbj.calls k1 _ _ x3_1 t192 t193 _ ?side1 ?side2 A9.out).mono ?_); (case side1 => repeat (first | exact (Kd.Za3 HO_3.out).2.2 | (with_reducible refine Kd.C_alloc ?_ _) | (with_reducible refine Kd.Za0 ?_ _) | (with_reducible refine Kd.C_drew ?_))); (case side2 => exact (Kd.Za3 HO_3.out).2.1); rintro e w11 ⟨v194, rfl, ho0, hb⟩; refine ⟨_, rfl, ?_⟩; have n0_ := Za.mk (Kd.Zb3 (by (with_reducible repeat (first | apply Kd.R_alloc | apply Kd.Zbh | apply Kd.Zbl)); exact HO_3.out) hb); have n1_ := Za.mk (Kd.Zbz ho0 (Zam (by repeat (first | (with_reducible first | exact HB.out | apply Zac | apply Zaa | apply Zab) | exact HB.out)))); have n2_ := Za.mk (Zan (by repeat (first | (with_reducible first | exact HB.out | apply Zac | apply Zaa | apply Zab) | exact HB.out)) hb); clear HO_3; clear HB; have HO_3 := n0_; have HO195 := n1_; have HB := n2_; clear n0_ n1_ n2_; (try clear hb); (try clear hb2); (try clear hk); (try clear hi); (try clear ho0)))
    go_ret
    exact ⟨_, by first | rfl | (simp [Zaq, Zar] <;> rfl) | (simp [*, Zaq, Zar] <;> rfl), by (with_reducible repeat (first | apply Kd.R_alloc | apply Kd.Zbh | apply Kd.Zbl)); exact HO195.out, by repeat (first | (with_reducible first | exact HB.out | apply Zac | apply Zaa | apply Zab) | exact HB.out)⟩
   rw [if_pos c5] at H
   have c5b0 : decide (x4_1 < 30) = true := decide_eq_true c5
   clear c5
   by_cases c6 : 0 ≤ x4_1
   rotate_left
   ·rw [if_neg c6] at H
    exact absurd H (by simp)
   rw [if_pos c6] at H
   have c6b0 : decide (0 ≤ x4_1) = true := decide_eq_true c6
   clear c6
   by_cases c7 : x3_1.length < 17592186044416
   rotate_left
   ·rw [if_neg c7] at H
    exact absurd H (by simp)
   rw [if_pos c7] at H
   have LMc7 := Za.mk c7
   clear c7
   obtain ⟨y189, hy189⟩ : ∃ y_ : List Int, y_ = (x3_1 ++ [Int.tmod (rd l0 x4_1) 201]) := ⟨_, rfl⟩
   replace H : (Zbf.l0 k1 l0 y189 (wrap64 (x4_1 + 1))) = some r := by first | (rw [hy189]; with_reducible exact H) | (have H2_ := (Option.bind_some _ _).symm.trans H; rw [hy189]; with_reducible exact H2_) | (have H2_ := (Option.bind_some _ _).symm.trans H; with_reducible exact H2_) | with_reducible exact H | (rw [hy189]; exact H) | exact H
   have Ny189 := Za.mk hy189
   clear hy189
   have H' := Za.mk H
   clear H
   have p188 : 0 ≤ (x4_1 : Int) := of_decide_eq_true (by first | (with_reducible assumption) | assumption)
   have q188 : x4_1 < (l0.length : Int) := of_decide_eq_true (by first | (with_reducible assumption) | assumption)
   obtain ⟨ad188, e188, hx188_0⟩ := Kd.Zby HR0.out x4_1 p188 q188
   cases e188
   replace hx188_0 := (HB.out.cell (World.block_lt_of_cell? w _ hx188_0)).trans hx188_0
   replace p188 := eq_true p188
   replace q188 := eq_true q188
   go_wp2_with (first | ((with_reducible refine Zbg (b := .append) (xs := #[.tmp 18, .tmp 24]) rfl ?_); at_builtin; refine Kd.Zb9 (Kd.int .i64) (w0 := w) w.heap.size rfl (.tmp 18) (.tmp 24) 23 3 (.int .i64 0) 8 rfl Try.underlying23 info3 rfl (by decide) (by omega) u3 x3_1 (Int.tmod (rd l0 x4_1) 201) [.int .i64 (Int.tmod (rd l0 x4_1) 201)] (fun _ => True) (fun _ => False) rfl rfl ?aP (fun _ hk => hk.elim) ?aF ?aO ?aB ?aS ?aL ?_; (case aP => exact rfl); (case aB => exact (by repeat (first | (with_reducible first | exact HB.out | apply Zac | apply Zaa | apply Zab) | exact HB.out))); (case aF => exact (fun _ _ => trivial)); (case aO => exact (by (with_reducible repeat (first | apply Kd.R_alloc | apply Kd.Zbh | apply Kd.Zbl)); exact HO_3.out)); (case aS => exact (Zam (by repeat (first | (with_reducible first | exact HB.out | apply Zac | apply Zaa | apply Zab) | exact HB.out)))); (case aL => have := LMc7.out; omega); intro v190 w8 ho hb hg hat; rw [← Ny189.out] at ho; have n0_ := Za.mk (hb); have n1_ := Za.mk (ho); clear HB; clear HO_3; have HB := n0_; have HO191 := n1_; clear n0_ n1_; clear ho hb hg hat))
   go_roundg k1
   case measure => have := HK1.out; omega
   case rel => exact ⟨(y189), (wrap64 (x4_1 + 1)), (by first | rfl | (simp; done) | (simp [*]; done)), H', ⟨by have := HK1.out; omega⟩, ⟨by (with_reducible repeat (first | apply Kd.R_alloc | apply Kd.Zbh | apply Kd.Zbl)); exact HO191.out⟩, ⟨by repeat (first | (with_reducible first | exact HB.out | apply Zac | apply Zaa | apply Zab) | exact HB.out)⟩⟩
end Go.Proofs.Ytpbcigilipdedaa.P
/- Small: the domain of at most 30 values from -200 to 200. -/
namespace Go.Proofs.Ytpbcigilipdedaa.P
open Go.RowKit Go.Proofs.YtpbcigilipdedaaW.PrintWords Go.Proofs.YtpbcigilipdedaaW.PrintLast Go.Proofs.YtpbcigilipdedaaW.PrintMore
set_option linter.unusedVariables false
set_option linter.unusedSimpArgs false
def smallL (l : List Int) : List Int := (l.take 30).map fun v => Int.tmod v 201
def dsm (l : List Int) : List Rg := pack (sd (smallL l))
theorem Ze2 (l : List Int) : (smallL l).length ≤ 30 := by simp [smallL]; omega
theorem tmod_small (v : Int) (n : Nat) (h : 0 < n) : -(n : Int) < Int.tmod v n ∧ Int.tmod v n < n := by
  have h1 := Int.natAbs_tmod v n
  have h2 := Nat.mod_lt v.natAbs (show 0 < (n : Int).natAbs by omega)
  omega
theorem Zgy {l : List Int} {x : Int} (h : x ∈ smallL l) : -200 ≤ x ∧ x ≤ 200 := by
  obtain ⟨v, _, rfl⟩ := List.mem_map.1 h
  have := tmod_small v 201 (by omega)
  have e : ((201 : Nat) : Int) = 201 := rfl
  rw [e] at this
  omega
theorem dsm_good (l : List Int) : Gd 200 (-200) (dsm l) ∧ ∀ v, Va (dsm l) v ↔ v ∈ sd (smallL l) := Zc8 (Zfp _) (fun x hx => Zgy ((Zdp x _).1 hx))
theorem dsm_gd (l : List Int) : Gd 1048576 (-1048576) (dsm l) := ((dsm_good l).1.mono (by omega)).up (by omega)
theorem dsm_vals (l : List Int) : vals (dsm l) = sd (smallL l) := vals_pack (Zfp _)
theorem dsm_vlen (l : List Int) : (vals (dsm l)).length ≤ 30 := by rw [dsm_vals]; exact Nat.le_trans (Zeb _) (Ze2 l)
theorem Zgs {l : List Int} (h : ∀ x ∈ l, isVal x = true) : ofSpec l = (pack (sd l), 0) := by
  have : (l.any fun v => !isVal v) = false := List.any_eq_false.2 (fun x hx => by simp [h x hx])
  unfold ofSpec
  rw [this]
  rfl
theorem Small_l0 (l : List Int) (hl : l.length ≤ 17592186044416) : ∀ (m n : Nat) (acc : List Int), n + m = min l.length 30 → acc = (l.take n).map (fun v => Int.tmod v 201) → Ev (fun k => Zbf.l0 k l acc (n : Int)) (dsm l) := by
  have last : ∀ acc, acc = smallL l → Ev (fun k => (Zbj.f k acc).bind fun b => some b.1) (dsm l) := fun acc e => by
    have h1 := Ze2 l
    rw [← e] at h1
    have h := ref_Of acc (by omega)
    rw [Zgs (fun x hx => (Zd9 x).2 (by have := Zgy (l := l) (x := x) (by rw [← e]; exact hx); omega))] at h
    refine Ev.bind h (Ev.const ?_)
    rw [e]
    rfl
  intro m
  induction m with
  | zero =>
    intro n acc h e
    by_cases hlt : n < l.length
    · obtain rfl : n = 30 := by omega
      exact Ev.step (fun k => by rw [Zbf.l0, if_pos (by omega), if_neg (by omega)]) (last acc e)
    refine Ev.step (fun k => by rw [Zbf.l0, if_neg (by omega)]) (last acc ?_)
    rw [e, smallL, List.take_of_length_le (by omega), List.take_of_length_le (by omega)]
  | succ m ih =>
    intro n acc h e
    have hn : n < l.length := by omega
    have hal : acc.length = n := by rw [e]; simp; omega
    refine Ev.step (fun k => by rw [Zbf.l0, if_pos (by omega), if_pos (by omega), if_pos (by omega), if_pos (by omega), Zcd l n hn, w1 (by omega)]) (ih (n + 1) _ (by omega) ?_)
    rw [e, List.take_succ_eq_append_getElem hn, List.map_append]
    rfl
theorem Small_ev (l : List Int) (hl : l.length * 8 ≤ 140737488351232) : Ev (fun k => Zbf.f k l) (dsm l) := Small_l0 l (by omega) (min l.length 30) 0 [] (by omega) rfl
end Go.Proofs.Ytpbcigilipdedaa.P
namespace Go.Proofs.Ytpbcigilipdedaa.P
open Go.RowKit Go.Proofs.YtpbcigilipdedaaW.PrintWords Go.Proofs.YtpbcigilipdedaaW.PrintLast Go.Proofs.YtpbcigilipdedaaW.PrintMore
attribute [local go_sem] Zcg Zci Zcr Zcs Zb7 Zb8 Zch Zcj
set_option linter.unusedVariables false
set_option linter.unusedSimpArgs false
def Za9.l0 : Nat → List (List Int) → List (List Int) → Int → Option ((List (List Int)))
 | 0, _, _, _ => none
 | k + 1, x0, x3, x4 => if x4 < (x0.length : Int) then ((some (([] : List Int) : List Int)).bind fun y104 => (if 0 ≤ x4 then (if y104.length + (Zbt x0 x4).length < 17592186044416 then (if x3.length < 5864062014805 then (Za9.l0 k x0 (x3 ++ [(y104 ++ (Zbt x0 x4))]) (wrap64 (x4 + 1))) else (none)) else (none)) else (none))) else (some x3)
def Za9.f (k : Nat) (l0 : List (List Int)) : Option ((List (List Int))) := Za9.l0 k l0 (([] : List (List Int))) 0
set_option maxHeartbeats 8000000 in
set_option maxRecDepth 100000 in
theorem Za9.calls (k : Nat) (A0 : Option Addr) (c0 : Nat) (l0 : List (List Int)) (r : List (List Int)) (w : World) (hr0 : Kd.C (Kd.slice 3 (Kd.int .i64)) w A0 l0.length l0) (hc0 : l0.length ≤ c0) (h : Za9.f k l0 = some r) :
  Calls Try.prog 17 #[.slice A0 l0.length c0] w fun e w' => ∃ v0_ : Value, e = .returned (v0_) ∧ Kd.S (Kd.slice 3 (Kd.int .i64)) 23 w' w.heap.size (fun _ => True) v0_ r ∧ Below w.heap.size w w' := by
 have HR0 := Za.mk hr0
 have HC0 := Za.mk hc0
 clear hr0 hc0
 have HB := Za.mk (Below.refl w.heap.size w)
 have H : (Za9.l0 k l0 (([] : List (List Int))) 0) = some r := h
 clear h
 obtain ⟨y101, hy101⟩ : ∃ y_ : List (List Int), y_ = (([] : List (List Int))) := ⟨_, rfl⟩
 replace H : (Za9.l0 k l0 y101 0) = some r := by first | (rw [hy101]; with_reducible exact H) | (have H2_ := (Option.bind_some _ _).symm.trans H; rw [hy101]; with_reducible exact H2_) | (have H2_ := (Option.bind_some _ _).symm.trans H; with_reducible exact H2_) | with_reducible exact H | (rw [hy101]; exact H) | exact H
 have Ny101 := Za.mk hy101
 clear hy101
 have H' := Za.mk H
 clear H
 go_enter Try.func17, Try.ntmps17
 go_wp2_with (first | ((with_reducible refine Zbv (N := 5) rfl ?_); refine Kd.S_lit (Kd.slice 3 (Kd.int .i64)) _ 23 ?hg (N := 5) ?hd (xs := ([] : List (List Int))) (inner := []) (ok := fun _ => True) (okp := fun _ => True) ?hr ?hp (fun _ hk => hk) trivial (Below.refl _ _) (Nat.le_refl _) (by simp) ?_; (case hd => rfl); (case hg => rfl); (case hr => first | (go_simp; done) | (go_simp; rfl)); (case hp => exact (Reps.none _ _)); intro v102 w2 ho3 hb hg_ hnew_; clear hg_ hnew_; (first | rw [← Ny101.out] at ho3 | (simp only [Int.reduceToNat] at ho3; rw [← Ny101.out] at ho3)); have n0_ := Za.mk (Kd.Zd5 ho3 (Zam (by repeat (first | (with_reducible first | exact HB.out | apply Zac | apply Zaa | apply Zab) | exact HB.out)))); have n1_ := Za.mk (Zan (by repeat (first | (with_reducible first | exact HB.out | apply Zac | apply Zaa | apply Zab) | exact HB.out)) hb); clear HB; have HO103 := n0_; have HB := n1_; clear n0_ n1_; clear hb ho3))
 go_loopg [3, 4] k (fun kq v3 v4 w' => ∃ (x3_1 : List (List Int)) (x4_1 : Int), v4 = .int .i64 x4_1 ∧ Za (Za9.l0 kq l0 x3_1 x4_1 = some r) ∧ Za (kq ≤ k) ∧ Za (Kd.S (Kd.slice 3 (Kd.int .i64)) 23 w' w.heap.size (fun _ => True) v3 x3_1) ∧ Za (Below w.heap.size w w'))
 case atStart => exact ⟨(y101), (0), (by first | rfl | (simp; done) | (simp [*]; done)), H', ⟨Nat.le_refl _⟩, ⟨by (with_reducible repeat (first | apply Kd.S_alloc | apply Kd.S_drewN | apply Kd.Zb6)); exact HO103.out⟩, ⟨by repeat (first | (with_reducible first | exact HB.out | apply Zac | apply Zaa | apply Zab) | exact HB.out)⟩⟩
 case round =>
  clear H'
  try clear c1
  try clear p2
  obtain ⟨x3_1, x4_1, rfl, HA, HK1, HO_3, HB⟩ := hrel
  cases gk with
  | zero => exact absurd HA.out (by simp [Za9.l0])
  | succ k1 =>
   have H := HA.out
   clear HA
   simp only [Za9.l0] at H
   by_cases c4 : x4_1 < (l0.length : Int)
   rotate_left
   ·rw [if_neg c4] at H
    have c4b0 : decide (x4_1 < (l0.length : Int)) = false := decide_eq_false c4
    clear c4
    obtain rfl := Option.some.inj H
    go_wp2
    go_ret
    exact ⟨_, by first | rfl | (simp [Zaq, Zar] <;> rfl) | (simp [*, Zaq, Zar] <;> rfl), by (with_reducible repeat (first | apply Kd.S_alloc | apply Kd.S_drewN | apply Kd.Zb6)); exact HO_3.out, by repeat (first | (with_reducible first | exact HB.out | apply Zac | apply Zaa | apply Zab) | exact HB.out)⟩
   rw [if_pos c4] at H
   have c4b0 : decide (x4_1 < (l0.length : Int)) = true := decide_eq_true c4
   clear c4
   obtain ⟨y104, hy104⟩ : ∃ y_ : List Int, y_ = (([] : List Int)) := ⟨_, rfl⟩
   replace H : (if 0 ≤ x4_1 then (if y104.length + (Zbt l0 x4_1).length < 17592186044416 then (if x3_1.length < 5864062014805 then (Za9.l0 k1 l0 (x3_1 ++ [(y104 ++ (Zbt l0 x4_1))]) (wrap64 (x4_1 + 1))) else (none)) else (none)) else (none)) = some r := by first | (rw [hy104]; with_reducible exact H) | (have H2_ := (Option.bind_some _ _).symm.trans H; rw [hy104]; with_reducible exact H2_) | (have H2_ := (Option.bind_some _ _).symm.trans H; with_reducible exact H2_) | with_reducible exact H | (rw [hy104]; exact H) | exact H
   have Ny104 := Za.mk hy104
   clear hy104
   by_cases c5 : 0 ≤ x4_1
   rotate_left
   ·rw [if_neg c5] at H
    exact absurd H (by simp)
   rw [if_pos c5] at H
   have c5b0 : decide (0 ≤ x4_1) = true := decide_eq_true c5
   clear c5
   by_cases c6 : y104.length + (Zbt l0 x4_1).length < 17592186044416
   rotate_left
   ·rw [if_neg c6] at H
    exact absurd H (by simp)
   rw [if_pos c6] at H
   have LMc6 := Za.mk c6
   clear c6
   obtain ⟨y108, hy108⟩ : ∃ y_ : List Int, y_ = (y104 ++ (Zbt l0 x4_1)) := ⟨_, rfl⟩
   replace H : (if x3_1.length < 5864062014805 then (Za9.l0 k1 l0 (x3_1 ++ [y108]) (wrap64 (x4_1 + 1))) else (none)) = some r := by first | (rw [hy108]; with_reducible exact H) | (have H2_ := (Option.bind_some _ _).symm.trans H; rw [hy108]; with_reducible exact H2_) | (have H2_ := (Option.bind_some _ _).symm.trans H; with_reducible exact H2_) | with_reducible exact H | (rw [hy108]; exact H) | exact H
   have Ny108 := Za.mk hy108
   clear hy108
   by_cases c7 : x3_1.length < 5864062014805
   rotate_left
   ·rw [if_neg c7] at H
    exact absurd H (by simp)
   rw [if_pos c7] at H
   have LMc7 := Za.mk c7
   clear c7
   obtain ⟨y111, hy111⟩ : ∃ y_ : List (List Int), y_ = (x3_1 ++ [y108]) := ⟨_, rfl⟩
   replace H : (Za9.l0 k1 l0 y111 (wrap64 (x4_1 + 1))) = some r := by first | (rw [hy111]; with_reducible exact H) | (have H2_ := (Option.bind_some _ _).symm.trans H; rw [hy111]; with_reducible exact H2_) | (have H2_ := (Option.bind_some _ _).symm.trans H; with_reducible exact H2_) | with_reducible exact H | (rw [hy111]; exact H) | exact H
   have Ny111 := Za.mk hy111
   clear hy111
   have H' := Za.mk H
   clear H
   go_wp2_with (first | ((with_reducible refine Zbv (N := 13) rfl ?_); refine Kd.Zdt (Kd.int .i64) _ 3 ?hg (N := 13) ?hd (xs := ([] : List Int)) (inner := []) (ok := fun _ => True) (okp := fun _ => True) ?hr ?hp (fun _ hk => hk) trivial (Below.refl _ _) (Nat.le_refl _) (by simp) ?_; (case hd => rfl); (case hg => rfl); (case hr => first | (go_simp; done) | (go_simp; rfl)); (case hp => exact (Reps.none _ _)); intro v105 w8 ho9 hb hg_ hnew_; clear hg_ hnew_; (first | rw [← Ny104.out] at ho9 | (simp only [Int.reduceToNat] at ho9; rw [← Ny104.out] at ho9)); have n0_ := Za.mk (Kd.Zee (by (with_reducible repeat (first | apply Kd.S_alloc | apply Kd.S_drewN | apply Kd.Zb6)); exact HO_3.out) (Kd.Zdn ho9) hb); have n1_ := Za.mk (Kd.Zbz ho9 (Zam (by repeat (first | (with_reducible first | exact HB.out | apply Zac | apply Zaa | apply Zab) | exact HB.out)))); have n2_ := Za.mk (Zan (by repeat (first | (with_reducible first | exact HB.out | apply Zac | apply Zaa | apply Zab) | exact HB.out)) hb); clear HO_3; clear HB; have HO_3 := n0_; have HO106 := n1_; have HB := n2_; clear n0_ n1_ n2_; clear hb ho9; have p107 : 0 ≤ (x4_1 : Int) := of_decide_eq_true (by first | (with_reducible assumption) | assumption); have q107 : x4_1 < (l0.length : Int) := of_decide_eq_true (by first | (with_reducible assumption) | assumption); obtain ⟨ad107, A107_0, c107_0, e107, hx107_0, hl107_0, hi107_0⟩ := Zd2 HR0.out x4_1 p107 q107; cases e107; replace hx107_0 := (HB.out.cell (World.block_lt_of_cell? w _ hx107_0)).trans hx107_0; have HR107_0 := Za.mk hi107_0; have HC107_0 := Za.mk hl107_0; clear hi107_0 hl107_0; replace p107 := eq_true p107; replace q107 := eq_true q107) | ((with_reducible refine Zbg (b := .append) (xs := #[.tmp 13, .tmp 17]) rfl ?_); at_builtin; refine Kd.Zcm (Kd.int .i64) (w0 := w) w.heap.size rfl (.tmp 13) (.tmp 17) 23 3 (.int .i64 0) 8 rfl Try.underlying23 info3 rfl (by decide) (by omega) v105 y104 (Zbt l0 x4_1) _ _ _ (fun _ => True) (fun _ => False) rfl rfl ?aO ?aR (fun _ _ h => h) (fun _ h => h.elim) ?aF ?aB ?aS ?aL ?_; (case aR => repeat (first | exact (Kd.Zaw HR107_0.out HB.out) | (with_reducible refine Kd.C_alloc ?_ _) | (with_reducible refine Kd.Za0 ?_ _) | (with_reducible refine Kd.C_drew ?_))); (case aB => exact (by repeat (first | (with_reducible first | exact HB.out | apply Zac | apply Zaa | apply Zab) | exact HB.out))); (case aF => exact (fun _ _ => trivial)); (case aO => exact (by (with_reducible repeat (first | apply Kd.R_alloc | apply Kd.Zbh | apply Kd.Zbl)); exact HO106.out)); (case aS => exact (Zam (by repeat (first | (with_reducible first | exact HB.out | apply Zac | apply Zaa | apply Zab) | exact HB.out)))); (case aL => have := LMc6.out; omega); intro v109 w10 ho hb hg hat; rw [← Ny108.out] at ho; have n0_ := Za.mk (Kd.S_after (ok := (fun _ => True)) (by (with_reducible repeat (first | apply Kd.S_alloc | apply Kd.S_drewN | apply Kd.Zb6)); exact HO_3.out) hg hat); have n1_ := Za.mk (hb); have n2_ := Za.mk (ho); clear HO_3; clear HB; clear HO106; have HO_3 := n0_; have HB := n1_; have HO110 := n2_; clear n0_ n1_ n2_; clear ho hb hg hat; obtain ⟨Ao12, co12, eo12⟩ := Kd.Zbw HO110.out; subst eo12) | ((with_reducible refine Zbg (b := .append) (xs := #[.tmp 12, .tmp 19]) rfl ?_); at_builtin; refine Kd.Zfr (Kd.slice 3 (Kd.int .i64)) (w0 := w) w.heap.size rfl (.tmp 12) (.tmp 19) 22 23 (.slice none 0 0) 24 rfl Try.underlying22 Zex rfl (by decide) (by omega) u3 x3_1 y108 [.slice Ao12 y108.length co12] (fun _ => True) (fun k_ => some k_ = (.slice Ao12 y108.length co12 : Value).ownBlock) rfl rfl ?aP (fun k_ hk_ => ((Kd.Zbm (ok' := fun k_ => ((fun _ => True)) k_ ∧ some k_ ≠ (u3 : Value).ownBlock) (Kd.Zc0 (HO110.out) (Kd.Zc2 HO_3.out) (by decide)) (fun k_ hk => ⟨trivial, hk.2⟩))).1 k_ hk_.symm) ?aF ?aO ?aB ?aS ?aL ?_; (case aP => exact Kd.M_row (Kd.Zbm (Kd.Zd4 rfl (Kd.Zbm (ok' := fun k_ => ((fun _ => True)) k_ ∧ some k_ ≠ (u3 : Value).ownBlock) (Kd.Zc0 (HO110.out) (Kd.Zc2 HO_3.out) (by decide)) (fun k_ hk => ⟨trivial, hk.2⟩))) (fun _ h_ => h_))); (case aB => exact (by repeat (first | (with_reducible first | exact HB.out | apply Zac | apply Zaa | apply Zab) | exact HB.out))); (case aF => exact (fun _ _ => trivial)); (case aO => exact (by (with_reducible repeat (first | apply Kd.S_alloc | apply Kd.S_drewN | apply Kd.Zb6)); exact Kd.Zck HO_3.out (fun k_ hk => ⟨trivial, fun e_ => hk.2 e_⟩))); (case aS => exact (Zam (by repeat (first | (with_reducible first | exact HB.out | apply Zac | apply Zaa | apply Zab) | exact HB.out)))); (case aL => have := LMc7.out; omega); intro v112 w11 ho hb hg hat; rw [← Ny111.out] at ho; have n0_ := Za.mk (hb); have n1_ := Za.mk (ho); clear HB; clear HO_3; clear HO110; have HB := n0_; have HO113 := n1_; clear n0_ n1_; clear ho hb hg hat))
   go_roundg k1
   case measure => have := HK1.out; omega
   case rel => exact ⟨(y111), (wrap64 (x4_1 + 1)), (by first | rfl | (simp; done) | (simp [*]; done)), H', ⟨by have := HK1.out; omega⟩, ⟨by (with_reducible repeat (first | apply Kd.S_alloc | apply Kd.S_drewN | apply Kd.Zb6)); exact HO113.out⟩, ⟨by repeat (first | (with_reducible first | exact HB.out | apply Zac | apply Zaa | apply Zab) | exact HB.out)⟩⟩
end Go.Proofs.Ytpbcigilipdedaa.P
/- Plain: a copy of a list of lists (secateurref04.Nums). -/
namespace Go.Proofs.Ytpbcigilipdedaa.P
open Go.RowKit Go.Proofs.YtpbcigilipdedaaW.PrintWords Go.Proofs.YtpbcigilipdedaaW.PrintLast Go.Proofs.YtpbcigilipdedaaW.PrintMore
set_option linter.unusedVariables false
set_option linter.unusedSimpArgs false
theorem Zdr (xs : List (List Int)) (n : Nat) (h : n < xs.length) : Zbt xs (n : Int) = xs[n] := by simp [Zbt, List.getD_eq_getElem?_getD, List.getElem?_eq_getElem h]
theorem ref_Copy_l (l : List (List Int)) (hl : l.length < 5864062014805) (hin : ∀ x ∈ l, x.length < 17592186044416) : ∀ (m n : Nat), n + m = l.length → Ev (fun k => Za9.l0 k l (l.take n) (n : Int)) l := by
  intro m
  induction m with
  | zero =>
    intro n h
    rw [List.take_of_length_le (by omega)]
    exact Ev.step (fun k => by rw [Za9.l0, if_neg (by omega)]) (Ev.pure _)
  | succ m ih =>
    intro n h
    have hn : n < l.length := by omega
    have hx := hin _ (List.getElem_mem hn)
    have hstep := ih (n + 1) (by omega)
    rw [List.take_succ_eq_append_getElem hn] at hstep
    exact Ev.step (fun k => by rw [Za9.l0, if_pos (by omega), Option.bind_some, if_pos (by omega), Zdr l n hn, if_pos (by simp; omega), if_pos (by rw [List.length_take]; omega), w1 (by omega), List.nil_append]) hstep
theorem ref_Copy (l : List (List Int)) (hl : l.length < 5864062014805) (hin : ∀ x ∈ l, x.length < 17592186044416) : Ev (fun k => Za9.f k l) l := ref_Copy_l l hl hin l.length 0 (by omega)
end Go.Proofs.Ytpbcigilipdedaa.P
