/- Proved: what each function of the program that the statements of this seat reach comes to, for whatever memory and arguments it is called with (on condition that its plain text tells a result). -/
import Derived.Test.YteopgafbamipeaaZ1

namespace Go.Proofs.Yteopgafbamipeaa.P
open Go.RowKit Go.Proofs.YteopgafbamipeaaW.PrintWords Go.Proofs.YteopgafbamipeaaW.PrintLast Go.Proofs.YteopgafbamipeaaW.PrintMore
attribute [local go_sem] Zb4 Zb6 Zcg Zch Zbs Zbt Zb5 Zb7
set_option linter.unusedVariables false
set_option linter.unusedSimpArgs false
/-! ### Zah: function 14 -/
def Zah.l0 : Nat → List Int → List Int → Int → Option (Bool)
 | 0, _, _, _ => none
 | k + 1, x0, x1, x5 => if x5 < (x0.length : Int) then (if 0 ≤ x5 then (if x5 < (x1.length : Int) then (if (rd x0 x5) = (rd x1 x5) then (Zah.l0 k x0 x1 (wrap64 (x5 + 1))) else (some false)) else (none)) else (none)) else (some true)
def Zah.f (k : Nat) (l0 : List Int) (l1 : List Int) : Option (Bool) := if (l0.length : Int) = (l1.length : Int) then (Zah.l0 k l0 l1 0) else (some false)
theorem Zah.Za6 : ∀ k, (∀ y0 y1 y2, LeO (Zah.l0 k y0 y1 y2) (Zah.l0 (k + 1) y0 y1 y2))
 | 0 => fun _ _ _ r h => by simp [Zah.l0] at h
 | k + 1 => by
  have ih0 := Zah.Za6 k
  intro y0 y1 y2
  unfold Zah.l0
  repeat' first
  | (with_reducible exact ih0 _ _ _)
  | (with_reducible exact LeO.refl _)
  | (with_reducible exact LeO.none _)
  | (with_reducible refine LeO.ite ?_ ?_)
  | (with_reducible refine LeO.bind ?_ (fun _ => ?_))
  | exact ih0 _ _ _
  | exact LeO.none _
  | refine LeO.ite ?_ ?_
  | refine LeO.bind ?_ (fun _ => ?_)
theorem Zah.mono : ∀ a0 a1 k, LeO (Zah.f k a0 a1) (Zah.f (k + 1) a0 a1) := by
 intro a0 a1 k
 have ih0 := Zah.Za6 k
 unfold Zah.f
 repeat' first
   | (with_reducible exact ih0 _ _ _)
   | (with_reducible exact LeO.refl _)
   | (with_reducible exact LeO.none _)
   | (with_reducible refine LeO.ite ?_ ?_)
   | (with_reducible refine LeO.bind ?_ (fun _ => ?_))
   | exact ih0 _ _ _
   | exact LeO.none _
   | refine LeO.ite ?_ ?_
   | refine LeO.bind ?_ (fun _ => ?_)
set_option maxHeartbeats 8000000 in
set_option maxRecDepth 100000 in
theorem Zah.calls (k : Nat) (A0 : Option Addr) (c0 : Nat) (l0 : List Int) (A1 : Option Addr) (c1 : Nat) (l1 : List Int) (r : Bool) (w : World) (hr0 : Kd.C (Kd.int .i64) w A0 l0.length l0) (hc0 : l0.length ≤ c0) (hr1 : Kd.C (Kd.int .i64) w A1 l1.length l1) (hc1 : l1.length ≤ c1) (h : Zah.f k l0 l1 = some r) :
  Calls Try.prog 14 #[.slice A0 l0.length c0, .slice A1 l1.length c1] w fun e w' => e = .returned (.bool r) ∧ Zat w w' := by
 have HR0 := Zaa.mk hr0
 have HC0 := Zaa.mk hc0
 clear hr0 hc0
 have HR1 := Zaa.mk hr1
 have HC1 := Zaa.mk hc1
 clear hr1 hc1
 have H : (if (l0.length : Int) = (l1.length : Int) then (Zah.l0 k l0 l1 0) else (some false)) = some r := h
 clear h
 by_cases c3 : (l0.length : Int) = (l1.length : Int)
 rotate_left
 ·rw [if_neg c3] at H
  have c3b0 : ((l0.length : Int) == (l1.length : Int)) = false := beq_eq_false_iff_ne.mpr c3
  have c3b1 : ((l0.length : Int) != (l1.length : Int)) = true := bne_iff_ne.mpr c3
  have c3b2 : (l0.length == l1.length) = false := by first | simpa using c3 | (simp at c3 ⊢; omega)
  obtain rfl := Option.some.inj H
  go_enter Try.func14, Try.ntmps14
  go_wp2
  repeat (go_quiet (fail); try go_wp2)
  go_ret
  exact ⟨by first | rfl | (simp; done) | (simp [*]; done), by repeat (first | exact Zat.refl _ | apply Zat.step)⟩

 rw [if_pos c3] at H
 have c3b0 : ((l0.length : Int) == (l1.length : Int)) = true := beq_iff_eq.mpr c3
 have c3b1 : ((l0.length : Int) != (l1.length : Int)) = false := bne_eq_false_iff_eq.mpr c3
 have c3b2 : (l0.length == l1.length) = true := by first | simpa using c3 | (simp at c3 ⊢; omega)
 clear c3
 have H' := Zaa.mk H
 clear H
 go_enter Try.func14, Try.ntmps14
 go_wp2
 repeat (go_quiet (fail); try go_wp2)
 go_loopg [5] k (fun kq v5 w' => ∃ (x5_1 : Int), v5 = .int .i64 x5_1 ∧ Zaa (Zah.l0 kq l0 l1 x5_1 = some r) ∧ Zaa (kq ≤ k) ∧ Zat w w')
 case atStart => exact ⟨(0), (by first | rfl | (simp; done) | (simp [*]; done)), H', ⟨Nat.le_refl _⟩, by repeat (first | exact Zat.refl _ | apply Zat.step)⟩
 case round =>
  clear H'
  try clear c1
  try clear p2
  try clear c3
  try clear c3b0
  try clear c3b1
  try clear c3b2
  obtain ⟨x5_1, rfl, HA, HK1, ⟨m1, rfl⟩⟩ := hrel
  cases gk with
  | zero => exact absurd HA.out (by simp [Zah.l0])
  | succ k1 =>
   have H := HA.out
   clear HA
   simp only [Zah.l0] at H
   by_cases c4 : x5_1 < (l0.length : Int)
   rotate_left
   ·rw [if_neg c4] at H
    have c4b0 : decide (x5_1 < (l0.length : Int)) = false := decide_eq_false c4
    clear c4
    obtain rfl := Option.some.inj H
    go_wp2
    repeat (go_quiet (fail); try go_wp2)
    go_ret
    exact ⟨by first | rfl | (simp; done) | (simp [*]; done), by repeat (first | exact Zat.refl _ | apply Zat.step)⟩
   rw [if_pos c4] at H
   have c4b0 : decide (x5_1 < (l0.length : Int)) = true := decide_eq_true c4
   clear c4
   by_cases c5 : 0 ≤ x5_1
   rotate_left
   ·rw [if_neg c5] at H
    exact absurd H (by simp)
   rw [if_pos c5] at H
   have c5b0 : decide (0 ≤ x5_1) = true := decide_eq_true c5
   clear c5
   by_cases c6 : x5_1 < (l1.length : Int)
   rotate_left
   ·rw [if_neg c6] at H
    exact absurd H (by simp)
   rw [if_pos c6] at H
   have c6b0 : decide (x5_1 < (l1.length : Int)) = true := decide_eq_true c6
   clear c6
   by_cases c7 : (rd l0 x5_1) = (rd l1 x5_1)
   rotate_left
   ·rw [if_neg c7] at H
    have c7b0 : ((rd l0 x5_1) == (rd l1 x5_1)) = false := beq_eq_false_iff_ne.mpr c7
    have c7b1 : ((rd l0 x5_1) != (rd l1 x5_1)) = true := bne_iff_ne.mpr c7
    obtain rfl := Option.some.inj H
    have p139 : 0 ≤ (x5_1 : Int) := of_decide_eq_true (by first | (with_reducible assumption) | assumption)
    have q139 : x5_1 < (l0.length : Int) := of_decide_eq_true (by first | (with_reducible assumption) | assumption)
    obtain ⟨ad139, e139, hx139_0⟩ := Kd.Zbi HR0.out x5_1 p139 q139
    cases e139
    replace p139 := eq_true p139
    replace q139 := eq_true q139
    have p140 : 0 ≤ (x5_1 : Int) := of_decide_eq_true (by first | (with_reducible assumption) | assumption)
    have q140 : x5_1 < (l1.length : Int) := of_decide_eq_true (by first | (with_reducible assumption) | assumption)
    obtain ⟨ad140, e140, hx140_0⟩ := Kd.Zbi HR1.out x5_1 p140 q140
    cases e140
    replace p140 := eq_true p140
    replace q140 := eq_true q140
    go_wp2
    repeat (go_quiet (fail); try go_wp2)
    go_ret
    exact ⟨by first | rfl | (simp; done) | (simp [*]; done), by repeat (first | exact Zat.refl _ | apply Zat.step)⟩
   rw [if_pos c7] at H
   have c7b0 : ((rd l0 x5_1) == (rd l1 x5_1)) = true := beq_iff_eq.mpr c7
   have c7b1 : ((rd l0 x5_1) != (rd l1 x5_1)) = false := bne_eq_false_iff_eq.mpr c7
   clear c7
   have H' := Zaa.mk H
   clear H
   have p139 : 0 ≤ (x5_1 : Int) := of_decide_eq_true (by first | (with_reducible assumption) | assumption)
   have q139 : x5_1 < (l0.length : Int) := of_decide_eq_true (by first | (with_reducible assumption) | assumption)
   obtain ⟨ad139, e139, hx139_0⟩ := Kd.Zbi HR0.out x5_1 p139 q139
   cases e139
   replace p139 := eq_true p139
   replace q139 := eq_true q139
   have p140 : 0 ≤ (x5_1 : Int) := of_decide_eq_true (by first | (with_reducible assumption) | assumption)
   have q140 : x5_1 < (l1.length : Int) := of_decide_eq_true (by first | (with_reducible assumption) | assumption)
   obtain ⟨ad140, e140, hx140_0⟩ := Kd.Zbi HR1.out x5_1 p140 q140
   cases e140
   replace p140 := eq_true p140
   replace q140 := eq_true q140
   go_wp2
   repeat (go_quiet (fail); try go_wp2)
   go_roundg k1
   case measure => have := HK1.out; omega
   case rel => exact ⟨(wrap64 (x5_1 + 1)), (by first | rfl | (simp; done) | (simp [*]; done)), H', ⟨by have := HK1.out; omega⟩, by repeat (first | exact Zat.refl _ | apply Zat.step)⟩
/-! ### Zag: function 22 -/
def Zag.l0 : Nat → List (List Int) → List (List Int) → Int → Option (Bool)
 | 0, _, _, _ => none
 | k + 1, x0, x1, x5 => if x5 < (x0.length : Int) then (if 0 ≤ x5 then (if x5 < (x1.length : Int) then ((Zah.f k (Za3 x0 x5) (Za3 x1 x5)).bind fun t148 => (if t148 = true then (Zag.l0 k x0 x1 (wrap64 (x5 + 1))) else (some false))) else (none)) else (none)) else (some true)
def Zag.f (k : Nat) (l0 : List (List Int)) (l1 : List (List Int)) : Option (Bool) := if (l0.length : Int) = (l1.length : Int) then (Zag.l0 k l0 l1 0) else (some false)
theorem Zag.Za6 : ∀ k, (∀ y0 y1 y2, LeO (Zag.l0 k y0 y1 y2) (Zag.l0 (k + 1) y0 y1 y2))
 | 0 => fun _ _ _ r h => by simp [Zag.l0] at h
 | k + 1 => by
  have ih0 := Zag.Za6 k
  intro y0 y1 y2
  unfold Zag.l0
  repeat' first
  | (with_reducible exact ih0 _ _ _)
  | (with_reducible exact Zah.mono _ _ _)
  | (with_reducible exact LeO.refl _)
  | (with_reducible exact LeO.none _)
  | (with_reducible refine LeO.ite ?_ ?_)
  | (with_reducible refine LeO.bind ?_ (fun _ => ?_))
  | exact ih0 _ _ _
  | exact Zah.mono _ _ _
  | exact LeO.none _
  | refine LeO.ite ?_ ?_
  | refine LeO.bind ?_ (fun _ => ?_)
theorem Zag.mono : ∀ a0 a1 k, LeO (Zag.f k a0 a1) (Zag.f (k + 1) a0 a1) := by
 intro a0 a1 k
 have ih0 := Zag.Za6 k
 unfold Zag.f
 repeat' first
   | (with_reducible exact ih0 _ _ _)
   | (with_reducible exact Zah.mono _ _ _)
   | (with_reducible exact LeO.refl _)
   | (with_reducible exact LeO.none _)
   | (with_reducible refine LeO.ite ?_ ?_)
   | (with_reducible refine LeO.bind ?_ (fun _ => ?_))
   | exact ih0 _ _ _
   | exact Zah.mono _ _ _
   | exact LeO.none _
   | refine LeO.ite ?_ ?_
   | refine LeO.bind ?_ (fun _ => ?_)
set_option maxHeartbeats 8000000 in
set_option maxRecDepth 100000 in
theorem Zag.calls (k : Nat) (A0 : Option Addr) (c0 : Nat) (l0 : List (List Int)) (A1 : Option Addr) (c1 : Nat) (l1 : List (List Int)) (r : Bool) (w : World) (hr0 : Kd.C (Kd.slice 3 (Kd.int .i64)) w A0 l0.length l0) (hc0 : l0.length ≤ c0) (hr1 : Kd.C (Kd.slice 3 (Kd.int .i64)) w A1 l1.length l1) (hc1 : l1.length ≤ c1) (h : Zag.f k l0 l1 = some r) :
  Calls Try.prog 22 #[.slice A0 l0.length c0, .slice A1 l1.length c1] w fun e w' => e = .returned (.bool r) ∧ Zat w w' := by
 have HR0 := Zaa.mk hr0
 have HC0 := Zaa.mk hc0
 clear hr0 hc0
 have HR1 := Zaa.mk hr1
 have HC1 := Zaa.mk hc1
 clear hr1 hc1
 have H : (if (l0.length : Int) = (l1.length : Int) then (Zag.l0 k l0 l1 0) else (some false)) = some r := h
 clear h
 by_cases c3 : (l0.length : Int) = (l1.length : Int)
 rotate_left
 ·rw [if_neg c3] at H
  have c3b0 : ((l0.length : Int) == (l1.length : Int)) = false := beq_eq_false_iff_ne.mpr c3
  have c3b1 : ((l0.length : Int) != (l1.length : Int)) = true := bne_iff_ne.mpr c3
  have c3b2 : (l0.length == l1.length) = false := by first | simpa using c3 | (simp at c3 ⊢; omega)
  obtain rfl := Option.some.inj H
  go_enter Try.func22, Try.ntmps22
  go_wp2
  repeat (go_quiet (fail); try go_wp2)
  go_ret
  exact ⟨by first | rfl | (simp; done) | (simp [*]; done), by repeat (first | exact Zat.refl _ | apply Zat.step)⟩

 rw [if_pos c3] at H
 have c3b0 : ((l0.length : Int) == (l1.length : Int)) = true := beq_iff_eq.mpr c3
 have c3b1 : ((l0.length : Int) != (l1.length : Int)) = false := bne_eq_false_iff_eq.mpr c3
 have c3b2 : (l0.length == l1.length) = true := by first | simpa using c3 | (simp at c3 ⊢; omega)
 clear c3
 have H' := Zaa.mk H
 clear H
 go_enter Try.func22, Try.ntmps22
 go_wp2
 repeat (go_quiet (fail); try go_wp2)
 go_loopg [5] k (fun kq v5 w' => ∃ (x5_1 : Int), v5 = .int .i64 x5_1 ∧ Zaa (Zag.l0 kq l0 l1 x5_1 = some r) ∧ Zaa (kq ≤ k) ∧ Zat w w')
 case atStart => exact ⟨(0), (by first | rfl | (simp; done) | (simp [*]; done)), H', ⟨Nat.le_refl _⟩, by repeat (first | exact Zat.refl _ | apply Zat.step)⟩
 case round =>
  clear H'
  try clear c1
  try clear c2
  try clear p2
  try clear c3
  try clear c3b0
  try clear c3b1
  try clear c3b2
  obtain ⟨x5_1, rfl, HA, HK1, ⟨m1, rfl⟩⟩ := hrel
  cases gk with
  | zero => exact absurd HA.out (by simp [Zag.l0])
  | succ k1 =>
   have H := HA.out
   clear HA
   simp only [Zag.l0] at H
   by_cases c4 : x5_1 < (l0.length : Int)
   rotate_left
   ·rw [if_neg c4] at H
    have c4b0 : decide (x5_1 < (l0.length : Int)) = false := decide_eq_false c4
    clear c4
    obtain rfl := Option.some.inj H
    go_wp2
    repeat (go_quiet (fail); try go_wp2)
    go_ret
    exact ⟨by first | rfl | (simp; done) | (simp [*]; done), by repeat (first | exact Zat.refl _ | apply Zat.step)⟩
   rw [if_pos c4] at H
   have c4b0 : decide (x5_1 < (l0.length : Int)) = true := decide_eq_true c4
   clear c4
   by_cases c5 : 0 ≤ x5_1
   rotate_left
   ·rw [if_neg c5] at H
    exact absurd H (by simp)
   rw [if_pos c5] at H
   have c5b0 : decide (0 ≤ x5_1) = true := decide_eq_true c5
   clear c5
   by_cases c6 : x5_1 < (l1.length : Int)
   rotate_left
   ·rw [if_neg c6] at H
    exact absurd H (by simp)
   rw [if_pos c6] at H
   have c6b0 : decide (x5_1 < (l1.length : Int)) = true := decide_eq_true c6
   clear c6
   replace H := Option.bind_eq_some_iff.mp H
   obtain ⟨t148, A70, H⟩ := H
   replace H : (if t148 = true then (Zag.l0 k1 l0 l1 (wrap64 (x5_1 + 1))) else (some false)) = some r := H
   have A7 := Zaa.mk A70
   clear A70
   by_cases c8 : t148 = true
   rotate_left
   ·replace c8 := Bool.eq_false_iff.mpr c8
    subst c8
    have H1 : (some false) = some r := by rw [if_neg (show ¬ (false = true) by decide)] at H; exact H
    clear H
    have H := H1
    clear H1
    obtain rfl := Option.some.inj H
    have p146 : 0 ≤ (x5_1 : Int) := of_decide_eq_true (by first | (with_reducible assumption) | assumption)
    have q146 : x5_1 < (l0.length : Int) := of_decide_eq_true (by first | (with_reducible assumption) | assumption)
    obtain ⟨ad146, A146_0, c146_0, e146, hx146_0, hl146_0, hi146_0⟩ := Zc8 HR0.out x5_1 p146 q146
    cases e146
    have HR146_0 := Zaa.mk hi146_0
    have HC146_0 := Zaa.mk hl146_0
    clear hi146_0 hl146_0
    replace p146 := eq_true p146
    replace q146 := eq_true q146
    have p147 : 0 ≤ (x5_1 : Int) := of_decide_eq_true (by first | (with_reducible assumption) | assumption)
    have q147 : x5_1 < (l1.length : Int) := of_decide_eq_true (by first | (with_reducible assumption) | assumption)
    obtain ⟨ad147, A147_0, c147_0, e147, hx147_0, hl147_0, hi147_0⟩ := Zc8 HR1.out x5_1 p147 q147
    cases e147
    have HR147_0 := Zaa.mk hi147_0
    have HC147_0 := Zaa.mk hl147_0
    clear hi147_0 hl147_0
    replace p147 := eq_true p147
    replace q147 := eq_true q147
    go_wp2_with (first | (go_at_call 14; (with_reducible refine (Zah.calls k1 _ _ (Za3 l0 x5_1) _ _ (Za3 l1 x5_1) false _ ?side1 ?side2 ?side3 ?side4 A7.out).mono ?_); (case side1 => repeat (first | exact HR146_0.out | (with_reducible refine Kd.Za0 ?_ _) | (with_reducible refine Kd.C_drewN ?_ _) | (with_reducible refine Kd.C_drew ?_))); (case side2 => exact HC146_0.out); (case side3 => repeat (first | exact HR147_0.out | (with_reducible refine Kd.Za0 ?_ _) | (with_reducible refine Kd.C_drewN ?_ _) | (with_reducible refine Kd.C_drew ?_))); (case side4 => exact HC147_0.out); rintro e w' ⟨rfl, ⟨nd, rfl⟩⟩; (try first | exact ⟨rfl, _, World.drewN_drewN _ _ _⟩ | exact ⟨rfl, _, Eq.trans (World.drewN_drewN _ _ _) (congrArg (World.drewN _) (Nat.add_assoc _ _ _))⟩)))
    repeat (go_quiet (first | (go_at_call 14; (with_reducible refine (Zah.calls k1 _ _ (Za3 l0 x5_1) _ _ (Za3 l1 x5_1) false _ ?side1 ?side2 ?side3 ?side4 A7.out).mono ?_); (case side1 => repeat (first | exact HR146_0.out | (with_reducible refine Kd.Za0 ?_ _) | (with_reducible refine Kd.C_drewN ?_ _) | (with_reducible refine Kd.C_drew ?_))); (case side2 => exact HC146_0.out); (case side3 => repeat (first | exact HR147_0.out | (with_reducible refine Kd.Za0 ?_ _) | (with_reducible refine Kd.C_drewN ?_ _) | (with_reducible refine Kd.C_drew ?_))); (case side4 => exact HC147_0.out); rintro e w' ⟨rfl, ⟨nd, rfl⟩⟩; (try first | exact ⟨rfl, _, World.drewN_drewN _ _ _⟩ | exact ⟨rfl, _, Eq.trans (World.drewN_drewN _ _ _) (congrArg (World.drewN _) (Nat.add_assoc _ _ _))⟩))); try go_wp2_with (first | (go_at_call 14; (with_reducible refine (Zah.calls k1 _ _ (Za3 l0 x5_1) _ _ (Za3 l1 x5_1) false _ ?side1 ?side2 ?side3 ?side4 A7.out).mono ?_); (case side1 => repeat (first | exact HR146_0.out | (with_reducible refine Kd.Za0 ?_ _) | (with_reducible refine Kd.C_drewN ?_ _) | (with_reducible refine Kd.C_drew ?_))); (case side2 => exact HC146_0.out); (case side3 => repeat (first | exact HR147_0.out | (with_reducible refine Kd.Za0 ?_ _) | (with_reducible refine Kd.C_drewN ?_ _) | (with_reducible refine Kd.C_drew ?_))); (case side4 => exact HC147_0.out); rintro e w' ⟨rfl, ⟨nd, rfl⟩⟩; (try first | exact ⟨rfl, _, World.drewN_drewN _ _ _⟩ | exact ⟨rfl, _, Eq.trans (World.drewN_drewN _ _ _) (congrArg (World.drewN _) (Nat.add_assoc _ _ _))⟩))))
    go_ret
    exact ⟨by first | rfl | (simp; done) | (simp [*]; done), by repeat (first | exact Zat.refl _ | apply Zat.step)⟩
   subst c8
   have H1 : (Zag.l0 k1 l0 l1 (wrap64 (x5_1 + 1))) = some r := by rw [if_pos rfl] at H; exact H
   clear H
   have H := H1
   clear H1
   have H' := Zaa.mk H
   clear H
   have p146 : 0 ≤ (x5_1 : Int) := of_decide_eq_true (by first | (with_reducible assumption) | assumption)
   have q146 : x5_1 < (l0.length : Int) := of_decide_eq_true (by first | (with_reducible assumption) | assumption)
   obtain ⟨ad146, A146_0, c146_0, e146, hx146_0, hl146_0, hi146_0⟩ := Zc8 HR0.out x5_1 p146 q146
   cases e146
   have HR146_0 := Zaa.mk hi146_0
   have HC146_0 := Zaa.mk hl146_0
   clear hi146_0 hl146_0
   replace p146 := eq_true p146
   replace q146 := eq_true q146
   have p147 : 0 ≤ (x5_1 : Int) := of_decide_eq_true (by first | (with_reducible assumption) | assumption)
   have q147 : x5_1 < (l1.length : Int) := of_decide_eq_true (by first | (with_reducible assumption) | assumption)
   obtain ⟨ad147, A147_0, c147_0, e147, hx147_0, hl147_0, hi147_0⟩ := Zc8 HR1.out x5_1 p147 q147
   cases e147
   have HR147_0 := Zaa.mk hi147_0
   have HC147_0 := Zaa.mk hl147_0
   clear hi147_0 hl147_0
   replace p147 := eq_true p147
   replace q147 := eq_true q147
   go_wp2_with (first | (go_at_call 14; (with_reducible refine (Zah.calls k1 _ _ (Za3 l0 x5_1) _ _ (Za3 l1 x5_1) true _ ?side1 ?side2 ?side3 ?side4 A7.out).mono ?_); (case side1 => repeat (first | exact HR146_0.out | (with_reducible refine Kd.Za0 ?_ _) | (with_reducible refine Kd.C_drewN ?_ _) | (with_reducible refine Kd.C_drew ?_))); (case side2 => exact HC146_0.out); (case side3 => repeat (first | exact HR147_0.out | (with_reducible refine Kd.Za0 ?_ _) | (with_reducible refine Kd.C_drewN ?_ _) | (with_reducible refine Kd.C_drew ?_))); (case side4 => exact HC147_0.out); rintro e w' ⟨rfl, ⟨nd, rfl⟩⟩; (try first | exact ⟨rfl, _, World.drewN_drewN _ _ _⟩ | exact ⟨rfl, _, Eq.trans (World.drewN_drewN _ _ _) (congrArg (World.drewN _) (Nat.add_assoc _ _ _))⟩)))
   repeat (go_quiet (first | (go_at_call 14; (with_reducible refine (Zah.calls k1 _ _ (Za3 l0 x5_1) _ _ (Za3 l1 x5_1) true _ ?side1 ?side2 ?side3 ?side4 A7.out).mono ?_); (case side1 => repeat (first | exact HR146_0.out | (with_reducible refine Kd.Za0 ?_ _) | (with_reducible refine Kd.C_drewN ?_ _) | (with_reducible refine Kd.C_drew ?_))); (case side2 => exact HC146_0.out); (case side3 => repeat (first | exact HR147_0.out | (with_reducible refine Kd.Za0 ?_ _) | (with_reducible refine Kd.C_drewN ?_ _) | (with_reducible refine Kd.C_drew ?_))); (case side4 => exact HC147_0.out); rintro e w' ⟨rfl, ⟨nd, rfl⟩⟩; (try first | exact ⟨rfl, _, World.drewN_drewN _ _ _⟩ | exact ⟨rfl, _, Eq.trans (World.drewN_drewN _ _ _) (congrArg (World.drewN _) (Nat.add_assoc _ _ _))⟩))); try go_wp2_with (first | (go_at_call 14; (with_reducible refine (Zah.calls k1 _ _ (Za3 l0 x5_1) _ _ (Za3 l1 x5_1) true _ ?side1 ?side2 ?side3 ?side4 A7.out).mono ?_); (case side1 => repeat (first | exact HR146_0.out | (with_reducible refine Kd.Za0 ?_ _) | (with_reducible refine Kd.C_drewN ?_ _) | (with_reducible refine Kd.C_drew ?_))); (case side2 => exact HC146_0.out); (case side3 => repeat (first | exact HR147_0.out | (with_reducible refine Kd.Za0 ?_ _) | (with_reducible refine Kd.C_drewN ?_ _) | (with_reducible refine Kd.C_drew ?_))); (case side4 => exact HC147_0.out); rintro e w' ⟨rfl, ⟨nd, rfl⟩⟩; (try first | exact ⟨rfl, _, World.drewN_drewN _ _ _⟩ | exact ⟨rfl, _, Eq.trans (World.drewN_drewN _ _ _) (congrArg (World.drewN _) (Nat.add_assoc _ _ _))⟩))))
   go_roundg k1
   case measure => have := HK1.out; omega
   case rel => exact ⟨(wrap64 (x5_1 + 1)), (by first | rfl | (simp; done) | (simp [*]; done)), H', ⟨by have := HK1.out; omega⟩, by repeat (first | exact Zat.refl _ | apply Zat.step)⟩
end Go.Proofs.Yteopgafbamipeaa.P
/- secateurlaw18.fixed: the calls whose answers are fixed. -/
namespace Go.Proofs.Yteopgafbamipeaa.P
open Go.RowKit Go.Proofs.YteopgafbamipeaaW.PrintWords Go.Proofs.YteopgafbamipeaaW.PrintLast Go.Proofs.YteopgafbamipeaaW.PrintMore
set_option linter.unusedVariables false
set_option linter.unusedSimpArgs false
set_option maxRecDepth 100000 in
theorem fx18_0 : Za4.f 40 [[1, 0, 2]] 3 = some ([[0, 1, 2], [1, 0, 2]], 0) := by decide +kernel
set_option maxRecDepth 100000 in
theorem fx18_1 : Za4.f 40 [[1, 2, 0]] 3 = some ([[0, 1, 2], [1, 2, 0], [2, 0, 1]], 0) := by decide +kernel
set_option maxRecDepth 100000 in
theorem fx18_2 : Zam.f 40 [5, 6, 7] [1, 2, 0] = some ([7, 5, 6], 0) := by decide +kernel
set_option maxRecDepth 100000 in
theorem fx18_3 : Zal.f 40 [1, 2, 0] [1, 0, 2] = some ([0, 2, 1], 0) := by decide +kernel
set_option maxRecDepth 100000 in
theorem fx18_4 : Zax.f 40 [1, 2, 0] = some ([2, 0, 1], 0) := by decide +kernel
set_option maxRecDepth 100000 in
theorem fx18_5 : Za4.f 40 [] 8 = some ([], 1) := by decide +kernel
set_option maxRecDepth 100000 in
theorem fx18_6 : Zbq.f 40 [1, 1] [[0, 1], [1, 0]] = some ([[1, 1]], 0) := by decide +kernel
set_option maxRecDepth 100000 in
theorem fx18_7 : Zay.f 40 [[2, 1], [1, 2]] [[1, 0]] = some ([[1, 2], [2, 1]], 0) := by decide +kernel
set_option maxRecDepth 100000 in
theorem fx18_8 : Zag.f 40 [[0, 1, 2], [1, 0, 2]] [[0, 1, 2], [1, 0, 2]] = some true := by decide +kernel
set_option maxRecDepth 100000 in
theorem fx18_9 : Zah.f 40 [7, 5, 6] [7, 5, 6] = some true := by decide +kernel
set_option maxRecDepth 100000 in
theorem fx18_10 : Zah.f 40 [0, 2, 1] [0, 2, 1] = some true := by decide +kernel
set_option maxRecDepth 100000 in
theorem fx18_11 : Zah.f 40 [2, 0, 1] [2, 0, 1] = some true := by decide +kernel
set_option maxRecDepth 100000 in
theorem fx18_12 : Zag.f 40 [[1, 1]] [[1, 1]] = some true := by decide +kernel
set_option maxRecDepth 100000 in
theorem fx18_13 : Zag.f 40 [[1, 2], [2, 1]] [[1, 2], [2, 1]] = some true := by decide +kernel
def Zbc.f (k : Nat) : Option Bool := some true
theorem Zbc.mono : ∀ k, LeO (Zbc.f k) (Zbc.f (k + 1)) := fun _ => LeO.refl _
set_option maxRecDepth 100000 in
set_option maxHeartbeats 8000000 in
theorem Zbc.calls (k : Nat) (r : Bool) (w : World) (h : Zbc.f k = some r) : Calls Try.prog 16 #[] w fun e w' => e = .returned (.bool r) ∧ Below w.heap.size w w' := by
  obtain rfl := Option.some.inj h
  clear h
  have HB := Zaa.mk (Below.refl w.heap.size w)
  go_enter Try.func16, Try.ntmps16
  try simp only [List.append]
  go_wp2_with (first | (go_at_call 20; go_loud (refine Zbb (F := fun W => Below w.heap.size w W ∧ W.heap[w.heap.size]? = some (.cells #[.int .i64 1, .int .i64 0, .int .i64 2] 3 (0, 0)) ∧ W.heap[w.heap.size + 1]? = some (.cells #[.slice (some ⟨w.heap.size, 0, none⟩) 3 3] 22 (0, 0))) ?hF0 ?hG0; (case hF0 => refine ⟨?_, ?_, ?_⟩ <;> (first | ((repeat (first | exact Below.refl _ _ | apply Zac | apply Zab)); done) | ((repeat (first | (apply Zcz; simp; done) | apply Zbo)); done))); intro W_ hF_; obtain ⟨hB_, h0_, h1_⟩ := hF_; refine (Za4.calls 40 _ _ [[1, 0, 2]] 3 [[0, 1, 2], [1, 0, 2]] 0 W_ (Zeh [[1, 0, 2]] [_] (by decide) h1_ ⟨Zep rfl (Nat.le_refl _) (Zb1 [1, 0, 2] (by decide) h0_), trivial⟩) (Nat.le_refl _) fx18_0).mono ?_; rintro e W1 ⟨v0, rfl, hS, hb_⟩; have hT_ := Zan hB_ hb_; clear hb_; have nB_ := Zaa.mk (Zan HB.out hT_); clear HB; have HB := nB_; clear nB_; obtain ⟨Aa, ca, rfl, hl_, hC_⟩ := Kd.Zda hS; clear hS; have HCa := Zaa.mk hC_; have HLa := Zaa.mk hl_; clear hC_ hl_; clear hT_ hB_ h0_ h1_)) | (go_at_call 20; go_loud (refine Zbb (F := fun W => Below W1.heap.size W1 W ∧ W.heap[W1.heap.size]? = some (.cells #[.int .i64 1, .int .i64 2, .int .i64 0] 3 (0, 0)) ∧ W.heap[W1.heap.size + 1]? = some (.cells #[.slice (some ⟨W1.heap.size, 0, none⟩) 3 3] 22 (0, 0))) ?hF1 ?hG1; (case hF1 => refine ⟨?_, ?_, ?_⟩ <;> (first | ((repeat (first | exact Below.refl _ _ | apply Zac | apply Zab)); done) | ((repeat (first | (apply Zcz; simp; done) | apply Zbo)); done))); intro W_ hF_; obtain ⟨hB_, h0_, h1_⟩ := hF_; refine (Za4.calls 40 _ _ [[1, 2, 0]] 3 [[0, 1, 2], [1, 2, 0], [2, 0, 1]] 0 W_ (Zeh [[1, 2, 0]] [_] (by decide) h1_ ⟨Zep rfl (Nat.le_refl _) (Zb1 [1, 2, 0] (by decide) h0_), trivial⟩) (Nat.le_refl _) fx18_1).mono ?_; rintro e W2 ⟨v1, rfl, hS, hb_⟩; have hT_ := Zan hB_ hb_; clear hb_; have nB_ := Zaa.mk (Zan HB.out hT_); clear HB; have HB := nB_; clear nB_; have nX_ := Zaa.mk (Kd.Zaq HCa.out hT_); clear HCa; have HCa := nX_; clear nX_; obtain ⟨Ab, cb, rfl, hl_, hC_⟩ := Kd.Zda hS; clear hS; have HCb := Zaa.mk hC_; have HLb := Zaa.mk hl_; clear hC_ hl_; clear hT_ hB_ h0_ h1_)) | (go_at_call 13; go_loud (refine Zbb (F := fun W => Below W2.heap.size W2 W ∧ W.heap[W2.heap.size]? = some (.cells #[.int .i64 5, .int .i64 6, .int .i64 7] 3 (0, 0)) ∧ W.heap[W2.heap.size + 1]? = some (.cells #[.int .i64 1, .int .i64 2, .int .i64 0] 3 (0, 0))) ?hF2 ?hG2; (case hF2 => refine ⟨?_, ?_, ?_⟩ <;> (first | ((repeat (first | exact Below.refl _ _ | apply Zac | apply Zab)); done) | ((repeat (first | (apply Zcz; simp; done) | apply Zbo)); done))); intro W_ hF_; obtain ⟨hB_, h0_, h1_⟩ := hF_; refine (Zam.calls 40 _ _ [5, 6, 7] _ _ [1, 2, 0] [7, 5, 6] 0 W_ (Zb1 [5, 6, 7] (by decide) h0_) (Nat.le_refl _) (Zb1 [1, 2, 0] (by decide) h1_) (Nat.le_refl _) fx18_2).mono ?_; rintro e W3 ⟨v2, rfl, hS, hb_⟩; have hT_ := Zan hB_ hb_; clear hb_; have nB_ := Zaa.mk (Zan HB.out hT_); clear HB; have HB := nB_; clear nB_; have nX_ := Zaa.mk (Kd.Zaq HCa.out hT_); clear HCa; have HCa := nX_; clear nX_; have nX_ := Zaa.mk (Kd.Zaq HCb.out hT_); clear HCb; have HCb := nX_; clear nX_; obtain ⟨Ac, cc, rfl, hl_, hC_⟩ := Kd.Zc3 hS; clear hS; have HCc := Zaa.mk hC_; have HLc := Zaa.mk hl_; clear hC_ hl_; clear hT_ hB_ h0_ h1_)) | (go_at_call 9; go_loud (refine Zbb (F := fun W => Below W3.heap.size W3 W ∧ W.heap[W3.heap.size]? = some (.cells #[.int .i64 1, .int .i64 2, .int .i64 0] 3 (0, 0)) ∧ W.heap[W3.heap.size + 1]? = some (.cells #[.int .i64 1, .int .i64 0, .int .i64 2] 3 (0, 0))) ?hF3 ?hG3; (case hF3 => refine ⟨?_, ?_, ?_⟩ <;> (first | ((repeat (first | exact Below.refl _ _ | apply Zac | apply Zab)); done) | ((repeat (first | (apply Zcz; simp; done) | apply Zbo)); done))); intro W_ hF_; obtain ⟨hB_, h0_, h1_⟩ := hF_; refine (Zal.calls 40 _ _ [1, 2, 0] _ _ [1, 0, 2] [0, 2, 1] 0 W_ (Zb1 [1, 2, 0] (by decide) h0_) (Nat.le_refl _) (Zb1 [1, 0, 2] (by decide) h1_) (Nat.le_refl _) fx18_3).mono ?_; rintro e W4 ⟨v3, rfl, hS, hb_⟩; have hT_ := Zan hB_ hb_; clear hb_; have nB_ := Zaa.mk (Zan HB.out hT_); clear HB; have HB := nB_; clear nB_; have nX_ := Zaa.mk (Kd.Zaq HCa.out hT_); clear HCa; have HCa := nX_; clear nX_; have nX_ := Zaa.mk (Kd.Zaq HCb.out hT_); clear HCb; have HCb := nX_; clear nX_; have nX_ := Zaa.mk (Kd.Zaq HCc.out hT_); clear HCc; have HCc := nX_; clear nX_; obtain ⟨Ad, cd, rfl, hl_, hC_⟩ := Kd.Zc3 hS; clear hS; have HCd := Zaa.mk hC_; have HLd := Zaa.mk hl_; clear hC_ hl_; clear hT_ hB_ h0_ h1_)) | (go_at_call 11; go_loud (refine Zbb (F := fun W => Below W4.heap.size W4 W ∧ W.heap[W4.heap.size]? = some (.cells #[.int .i64 1, .int .i64 2, .int .i64 0] 3 (0, 0))) ?hF4 ?hG4; (case hF4 => refine ⟨?_, ?_⟩ <;> (first | ((repeat (first | exact Below.refl _ _ | apply Zac | apply Zab)); done) | ((repeat (first | (apply Zcz; simp; done) | apply Zbo)); done))); intro W_ hF_; obtain ⟨hB_, h0_⟩ := hF_; refine (Zax.calls 40 _ _ [1, 2, 0] [2, 0, 1] 0 W_ (Zb1 [1, 2, 0] (by decide) h0_) (Nat.le_refl _) fx18_4).mono ?_; rintro e W5 ⟨v4, rfl, hS, hb_⟩; have hT_ := Zan hB_ hb_; clear hb_; have nB_ := Zaa.mk (Zan HB.out hT_); clear HB; have HB := nB_; clear nB_; have nX_ := Zaa.mk (Kd.Zaq HCa.out hT_); clear HCa; have HCa := nX_; clear nX_; have nX_ := Zaa.mk (Kd.Zaq HCb.out hT_); clear HCb; have HCb := nX_; clear nX_; have nX_ := Zaa.mk (Kd.Zaq HCc.out hT_); clear HCc; have HCc := nX_; clear nX_; have nX_ := Zaa.mk (Kd.Zaq HCd.out hT_); clear HCd; have HCd := nX_; clear nX_; obtain ⟨Ak, ck, rfl, hl_, hC_⟩ := Kd.Zc3 hS; clear hS; have HCk := Zaa.mk hC_; have HLk := Zaa.mk hl_; clear hC_ hl_; clear hT_ hB_ h0_)) | (go_at_call 20; go_loud (refine Zbb (F := fun W => Below W5.heap.size W5 W) ?hF5 ?hG5; (case hF5 => (repeat (first | exact Below.refl _ _ | apply Zac | apply Zab)); done); intro W_ hF_; have hB_ := hF_; clear hF_; refine (Za4.calls 40 none 0 [] 8 [] 1 W_ (Kd.C_nil _ _) (Nat.le_refl _) fx18_5).mono ?_; rintro e W6 ⟨v5, rfl, hS, hb_⟩; have hT_ := Zan hB_ hb_; clear hb_; have nB_ := Zaa.mk (Zan HB.out hT_); clear HB; have HB := nB_; clear nB_; have nX_ := Zaa.mk (Kd.Zaq HCa.out hT_); clear HCa; have HCa := nX_; clear nX_; have nX_ := Zaa.mk (Kd.Zaq HCb.out hT_); clear HCb; have HCb := nX_; clear nX_; have nX_ := Zaa.mk (Kd.Zaq HCc.out hT_); clear HCc; have HCc := nX_; clear nX_; have nX_ := Zaa.mk (Kd.Zaq HCd.out hT_); clear HCd; have HCd := nX_; clear nX_; have nX_ := Zaa.mk (Kd.Zaq HCk.out hT_); clear HCk; have HCk := nX_; clear nX_; clear hS; clear hT_ hB_)) | (go_at_call 25; go_loud (refine Zbb (F := fun W => Below W6.heap.size W6 W ∧ W.heap[W6.heap.size]? = some (.cells #[.int .i64 1, .int .i64 1] 3 (0, 0)) ∧ W.heap[W6.heap.size + 1]? = some (.cells #[.int .i64 0, .int .i64 1] 3 (0, 0)) ∧ W.heap[W6.heap.size + 1 + 1]? = some (.cells #[.int .i64 1, .int .i64 0] 3 (0, 0)) ∧ W.heap[W6.heap.size + 1 + 1 + 1]? = some (.cells #[.slice (some ⟨W6.heap.size + 1, 0, none⟩) 2 2, .slice (some ⟨W6.heap.size + 1 + 1, 0, none⟩) 2 2] 22 (0, 0))) ?hF6 ?hG6; (case hF6 => refine ⟨?_, ?_, ?_, ?_, ?_⟩ <;> (first | ((repeat (first | exact Below.refl _ _ | apply Zac | apply Zab)); done) | ((repeat (first | (apply Zcz; simp; done) | apply Zbo)); done))); intro W_ hF_; obtain ⟨hB_, h0_, h1_, h2_, h3_⟩ := hF_; refine (Zbq.calls 40 _ _ [1, 1] _ _ [[0, 1], [1, 0]] [[1, 1]] 0 W_ (Zb1 [1, 1] (by decide) h0_) (Nat.le_refl _) (Zeh [[0, 1], [1, 0]] [_, _] (by decide) h3_ ⟨Zep rfl (Nat.le_refl _) (Zb1 [0, 1] (by decide) h1_), Zep rfl (Nat.le_refl _) (Zb1 [1, 0] (by decide) h2_), trivial⟩) (Nat.le_refl _) fx18_6).mono ?_; rintro e W7 ⟨v6, rfl, hS, hb_⟩; have hT_ := Zan hB_ hb_; clear hb_; have nB_ := Zaa.mk (Zan HB.out hT_); clear HB; have HB := nB_; clear nB_; have nX_ := Zaa.mk (Kd.Zaq HCa.out hT_); clear HCa; have HCa := nX_; clear nX_; have nX_ := Zaa.mk (Kd.Zaq HCb.out hT_); clear HCb; have HCb := nX_; clear nX_; have nX_ := Zaa.mk (Kd.Zaq HCc.out hT_); clear HCc; have HCc := nX_; clear nX_; have nX_ := Zaa.mk (Kd.Zaq HCd.out hT_); clear HCd; have HCd := nX_; clear nX_; have nX_ := Zaa.mk (Kd.Zaq HCk.out hT_); clear HCk; have HCk := nX_; clear nX_; obtain ⟨Ao, co, rfl, hl_, hC_⟩ := Kd.Zda hS; clear hS; have HCo := Zaa.mk hC_; have HLo := Zaa.mk hl_; clear hC_ hl_; clear hT_ hB_ h0_ h1_ h2_ h3_)) | (go_at_call 23; go_loud (refine Zbb (F := fun W => Below W7.heap.size W7 W ∧ W.heap[W7.heap.size]? = some (.cells #[.int .i64 2, .int .i64 1] 3 (0, 0)) ∧ W.heap[W7.heap.size + 1]? = some (.cells #[.int .i64 1, .int .i64 2] 3 (0, 0)) ∧ W.heap[W7.heap.size + 1 + 1]? = some (.cells #[.slice (some ⟨W7.heap.size, 0, none⟩) 2 2, .slice (some ⟨W7.heap.size + 1, 0, none⟩) 2 2] 22 (0, 0)) ∧ W.heap[W7.heap.size + 1 + 1 + 1]? = some (.cells #[.int .i64 1, .int .i64 0] 3 (0, 0)) ∧ W.heap[W7.heap.size + 1 + 1 + 1 + 1]? = some (.cells #[.slice (some ⟨W7.heap.size + 1 + 1 + 1, 0, none⟩) 2 2] 22 (0, 0))) ?hF7 ?hG7; (case hF7 => refine ⟨?_, ?_, ?_, ?_, ?_, ?_⟩ <;> (first | ((repeat (first | exact Below.refl _ _ | apply Zac | apply Zab)); done) | ((repeat (first | (apply Zcz; simp; done) | apply Zbo)); done))); intro W_ hF_; obtain ⟨hB_, h0_, h1_, h2_, h3_, h4_⟩ := hF_; refine (Zay.calls 40 _ _ [[2, 1], [1, 2]] _ _ [[1, 0]] [[1, 2], [2, 1]] 0 W_ (Zeh [[2, 1], [1, 2]] [_, _] (by decide) h2_ ⟨Zep rfl (Nat.le_refl _) (Zb1 [2, 1] (by decide) h0_), Zep rfl (Nat.le_refl _) (Zb1 [1, 2] (by decide) h1_), trivial⟩) (Nat.le_refl _) (Zeh [[1, 0]] [_] (by decide) h4_ ⟨Zep rfl (Nat.le_refl _) (Zb1 [1, 0] (by decide) h3_), trivial⟩) (Nat.le_refl _) fx18_7).mono ?_; rintro e W8 ⟨v7, rfl, hS, hb_⟩; have hT_ := Zan hB_ hb_; clear hb_; have nB_ := Zaa.mk (Zan HB.out hT_); clear HB; have HB := nB_; clear nB_; have nX_ := Zaa.mk (Kd.Zaq HCa.out hT_); clear HCa; have HCa := nX_; clear nX_; have nX_ := Zaa.mk (Kd.Zaq HCb.out hT_); clear HCb; have HCb := nX_; clear nX_; have nX_ := Zaa.mk (Kd.Zaq HCc.out hT_); clear HCc; have HCc := nX_; clear nX_; have nX_ := Zaa.mk (Kd.Zaq HCd.out hT_); clear HCd; have HCd := nX_; clear nX_; have nX_ := Zaa.mk (Kd.Zaq HCk.out hT_); clear HCk; have HCk := nX_; clear nX_; have nX_ := Zaa.mk (Kd.Zaq HCo.out hT_); clear HCo; have HCo := nX_; clear nX_; obtain ⟨As, cs, rfl, hl_, hC_⟩ := Kd.N_reads hS; clear hS; have HCs := Zaa.mk hC_; have HLs := Zaa.mk hl_; clear hC_ hl_; clear hT_ hB_ h0_ h1_ h2_ h3_ h4_)) | (go_at_call 22; go_loud (refine Zbb (F := fun W => Below W8.heap.size W8 W ∧ W.heap[W8.heap.size]? = some (.cells #[.int .i64 0, .int .i64 1, .int .i64 2] 3 (0, 0)) ∧ W.heap[W8.heap.size + 1]? = some (.cells #[.int .i64 1, .int .i64 0, .int .i64 2] 3 (0, 0)) ∧ W.heap[W8.heap.size + 1 + 1]? = some (.cells #[.slice (some ⟨W8.heap.size, 0, none⟩) 3 3, .slice (some ⟨W8.heap.size + 1, 0, none⟩) 3 3] 22 (0, 0))) ?hF8 ?hG8; (case hF8 => refine ⟨?_, ?_, ?_, ?_⟩ <;> (first | ((repeat (first | exact Below.refl _ _ | apply Zac | apply Zab)); done) | ((repeat (first | (apply Zcz; simp; done) | apply Zbo)); done))); intro W_ hF_; obtain ⟨hB_, h0_, h1_, h2_⟩ := hF_; refine (Zag.calls 40 _ _ [[0, 1, 2], [1, 0, 2]] _ _ [[0, 1, 2], [1, 0, 2]] true W_ (Kd.Zaq HCa.out hB_) HLa.out (Zeh [[0, 1, 2], [1, 0, 2]] [_, _] (by decide) h2_ ⟨Zep rfl (Nat.le_refl _) (Zb1 [0, 1, 2] (by decide) h0_), Zep rfl (Nat.le_refl _) (Zb1 [1, 0, 2] (by decide) h1_), trivial⟩) (Nat.le_refl _) fx18_8).mono ?_; rintro e W9 ⟨rfl, hdr⟩; have hT_ := Zan hB_ hdr.below; clear hdr; have nB_ := Zaa.mk (Zan HB.out hT_); clear HB; have HB := nB_; clear nB_; have nX_ := Zaa.mk (Kd.Zaq HCa.out hT_); clear HCa; have HCa := nX_; clear nX_; have nX_ := Zaa.mk (Kd.Zaq HCb.out hT_); clear HCb; have HCb := nX_; clear nX_; have nX_ := Zaa.mk (Kd.Zaq HCc.out hT_); clear HCc; have HCc := nX_; clear nX_; have nX_ := Zaa.mk (Kd.Zaq HCd.out hT_); clear HCd; have HCd := nX_; clear nX_; have nX_ := Zaa.mk (Kd.Zaq HCk.out hT_); clear HCk; have HCk := nX_; clear nX_; have nX_ := Zaa.mk (Kd.Zaq HCo.out hT_); clear HCo; have HCo := nX_; clear nX_; have nX_ := Zaa.mk (Kd.Zaq HCs.out hT_); clear HCs; have HCs := nX_; clear nX_; clear hT_ hB_ h0_ h1_ h2_)) | (go_at_call 14; go_loud (refine Zbb (F := fun W => Below W9.heap.size W9 W ∧ W.heap[W9.heap.size]? = some (.cells #[.int .i64 7, .int .i64 5, .int .i64 6] 3 (0, 0))) ?hF9 ?hG9; (case hF9 => refine ⟨?_, ?_⟩ <;> (first | ((repeat (first | exact Below.refl _ _ | apply Zac | apply Zab)); done) | ((repeat (first | (apply Zcz; simp; done) | apply Zbo)); done))); intro W_ hF_; obtain ⟨hB_, h0_⟩ := hF_; refine (Zah.calls 40 _ _ [7, 5, 6] _ _ [7, 5, 6] true W_ (Kd.Zaq HCc.out hB_) HLc.out (Zb1 [7, 5, 6] (by decide) h0_) (Nat.le_refl _) fx18_9).mono ?_; rintro e W10 ⟨rfl, hdr⟩; have hT_ := Zan hB_ hdr.below; clear hdr; have nB_ := Zaa.mk (Zan HB.out hT_); clear HB; have HB := nB_; clear nB_; have nX_ := Zaa.mk (Kd.Zaq HCa.out hT_); clear HCa; have HCa := nX_; clear nX_; have nX_ := Zaa.mk (Kd.Zaq HCb.out hT_); clear HCb; have HCb := nX_; clear nX_; have nX_ := Zaa.mk (Kd.Zaq HCc.out hT_); clear HCc; have HCc := nX_; clear nX_; have nX_ := Zaa.mk (Kd.Zaq HCd.out hT_); clear HCd; have HCd := nX_; clear nX_; have nX_ := Zaa.mk (Kd.Zaq HCk.out hT_); clear HCk; have HCk := nX_; clear nX_; have nX_ := Zaa.mk (Kd.Zaq HCo.out hT_); clear HCo; have HCo := nX_; clear nX_; have nX_ := Zaa.mk (Kd.Zaq HCs.out hT_); clear HCs; have HCs := nX_; clear nX_; clear hT_ hB_ h0_)) | (go_at_call 14; go_loud (refine Zbb (F := fun W => Below W10.heap.size W10 W ∧ W.heap[W10.heap.size]? = some (.cells #[.int .i64 0, .int .i64 2, .int .i64 1] 3 (0, 0))) ?hF10 ?hG10; (case hF10 => refine ⟨?_, ?_⟩ <;> (first | ((repeat (first | exact Below.refl _ _ | apply Zac | apply Zab)); done) | ((repeat (first | (apply Zcz; simp; done) | apply Zbo)); done))); intro W_ hF_; obtain ⟨hB_, h0_⟩ := hF_; refine (Zah.calls 40 _ _ [0, 2, 1] _ _ [0, 2, 1] true W_ (Kd.Zaq HCd.out hB_) HLd.out (Zb1 [0, 2, 1] (by decide) h0_) (Nat.le_refl _) fx18_10).mono ?_; rintro e W11 ⟨rfl, hdr⟩; have hT_ := Zan hB_ hdr.below; clear hdr; have nB_ := Zaa.mk (Zan HB.out hT_); clear HB; have HB := nB_; clear nB_; have nX_ := Zaa.mk (Kd.Zaq HCa.out hT_); clear HCa; have HCa := nX_; clear nX_; have nX_ := Zaa.mk (Kd.Zaq HCb.out hT_); clear HCb; have HCb := nX_; clear nX_; have nX_ := Zaa.mk (Kd.Zaq HCc.out hT_); clear HCc; have HCc := nX_; clear nX_; have nX_ := Zaa.mk (Kd.Zaq HCd.out hT_); clear HCd; have HCd := nX_; clear nX_; have nX_ := Zaa.mk (Kd.Zaq HCk.out hT_); clear HCk; have HCk := nX_; clear nX_; have nX_ := Zaa.mk (Kd.Zaq HCo.out hT_); clear HCo; have HCo := nX_; clear nX_; have nX_ := Zaa.mk (Kd.Zaq HCs.out hT_); clear HCs; have HCs := nX_; clear nX_; clear hT_ hB_ h0_)) | (go_at_call 14; go_loud (refine Zbb (F := fun W => Below W11.heap.size W11 W ∧ W.heap[W11.heap.size]? = some (.cells #[.int .i64 2, .int .i64 0, .int .i64 1] 3 (0, 0))) ?hF11 ?hG11; (case hF11 => refine ⟨?_, ?_⟩ <;> (first | ((repeat (first | exact Below.refl _ _ | apply Zac | apply Zab)); done) | ((repeat (first | (apply Zcz; simp; done) | apply Zbo)); done))); intro W_ hF_; obtain ⟨hB_, h0_⟩ := hF_; refine (Zah.calls 40 _ _ [2, 0, 1] _ _ [2, 0, 1] true W_ (Kd.Zaq HCk.out hB_) HLk.out (Zb1 [2, 0, 1] (by decide) h0_) (Nat.le_refl _) fx18_11).mono ?_; rintro e W12 ⟨rfl, hdr⟩; have hT_ := Zan hB_ hdr.below; clear hdr; have nB_ := Zaa.mk (Zan HB.out hT_); clear HB; have HB := nB_; clear nB_; have nX_ := Zaa.mk (Kd.Zaq HCa.out hT_); clear HCa; have HCa := nX_; clear nX_; have nX_ := Zaa.mk (Kd.Zaq HCb.out hT_); clear HCb; have HCb := nX_; clear nX_; have nX_ := Zaa.mk (Kd.Zaq HCc.out hT_); clear HCc; have HCc := nX_; clear nX_; have nX_ := Zaa.mk (Kd.Zaq HCd.out hT_); clear HCd; have HCd := nX_; clear nX_; have nX_ := Zaa.mk (Kd.Zaq HCk.out hT_); clear HCk; have HCk := nX_; clear nX_; have nX_ := Zaa.mk (Kd.Zaq HCo.out hT_); clear HCo; have HCo := nX_; clear nX_; have nX_ := Zaa.mk (Kd.Zaq HCs.out hT_); clear HCs; have HCs := nX_; clear nX_; clear hT_ hB_ h0_)) | (go_at_call 22; go_loud (refine Zbb (F := fun W => Below W12.heap.size W12 W ∧ W.heap[W12.heap.size]? = some (.cells #[.int .i64 1, .int .i64 1] 3 (0, 0)) ∧ W.heap[W12.heap.size + 1]? = some (.cells #[.slice (some ⟨W12.heap.size, 0, none⟩) 2 2] 22 (0, 0))) ?hF12 ?hG12; (case hF12 => refine ⟨?_, ?_, ?_⟩ <;> (first | ((repeat (first | exact Below.refl _ _ | apply Zac | apply Zab)); done) | ((repeat (first | (apply Zcz; simp; done) | apply Zbo)); done))); intro W_ hF_; obtain ⟨hB_, h0_, h1_⟩ := hF_; refine (Zag.calls 40 _ _ [[1, 1]] _ _ [[1, 1]] true W_ (Kd.Zaq HCo.out hB_) HLo.out (Zeh [[1, 1]] [_] (by decide) h1_ ⟨Zep rfl (Nat.le_refl _) (Zb1 [1, 1] (by decide) h0_), trivial⟩) (Nat.le_refl _) fx18_12).mono ?_; rintro e W13 ⟨rfl, hdr⟩; have hT_ := Zan hB_ hdr.below; clear hdr; have nB_ := Zaa.mk (Zan HB.out hT_); clear HB; have HB := nB_; clear nB_; have nX_ := Zaa.mk (Kd.Zaq HCa.out hT_); clear HCa; have HCa := nX_; clear nX_; have nX_ := Zaa.mk (Kd.Zaq HCb.out hT_); clear HCb; have HCb := nX_; clear nX_; have nX_ := Zaa.mk (Kd.Zaq HCc.out hT_); clear HCc; have HCc := nX_; clear nX_; have nX_ := Zaa.mk (Kd.Zaq HCd.out hT_); clear HCd; have HCd := nX_; clear nX_; have nX_ := Zaa.mk (Kd.Zaq HCk.out hT_); clear HCk; have HCk := nX_; clear nX_; have nX_ := Zaa.mk (Kd.Zaq HCo.out hT_); clear HCo; have HCo := nX_; clear nX_; have nX_ := Zaa.mk (Kd.Zaq HCs.out hT_); clear HCs; have HCs := nX_; clear nX_; clear hT_ hB_ h0_ h1_)) | (go_at_call 22; go_loud (refine Zbb (F := fun W => Below W13.heap.size W13 W ∧ W.heap[W13.heap.size]? = some (.cells #[.int .i64 1, .int .i64 2] 3 (0, 0)) ∧ W.heap[W13.heap.size + 1]? = some (.cells #[.int .i64 2, .int .i64 1] 3 (0, 0)) ∧ W.heap[W13.heap.size + 1 + 1]? = some (.cells #[.slice (some ⟨W13.heap.size, 0, none⟩) 2 2, .slice (some ⟨W13.heap.size + 1, 0, none⟩) 2 2] 22 (0, 0))) ?hF13 ?hG13; (case hF13 => refine ⟨?_, ?_, ?_, ?_⟩ <;> (first | ((repeat (first | exact Below.refl _ _ | apply Zac | apply Zab)); done) | ((repeat (first | (apply Zcz; simp; done) | apply Zbo)); done))); intro W_ hF_; obtain ⟨hB_, h0_, h1_, h2_⟩ := hF_; refine (Zag.calls 40 _ _ [[1, 2], [2, 1]] _ _ [[1, 2], [2, 1]] true W_ (Kd.Zaq HCs.out hB_) HLs.out (Zeh [[1, 2], [2, 1]] [_, _] (by decide) h2_ ⟨Zep rfl (Nat.le_refl _) (Zb1 [1, 2] (by decide) h0_), Zep rfl (Nat.le_refl _) (Zb1 [2, 1] (by decide) h1_), trivial⟩) (Nat.le_refl _) fx18_13).mono ?_; rintro e W14 ⟨rfl, hdr⟩; have hT_ := Zan hB_ hdr.below; clear hdr; have nB_ := Zaa.mk (Zan HB.out hT_); clear HB; have HB := nB_; clear nB_; have nX_ := Zaa.mk (Kd.Zaq HCa.out hT_); clear HCa; have HCa := nX_; clear nX_; have nX_ := Zaa.mk (Kd.Zaq HCb.out hT_); clear HCb; have HCb := nX_; clear nX_; have nX_ := Zaa.mk (Kd.Zaq HCc.out hT_); clear HCc; have HCc := nX_; clear nX_; have nX_ := Zaa.mk (Kd.Zaq HCd.out hT_); clear HCd; have HCd := nX_; clear nX_; have nX_ := Zaa.mk (Kd.Zaq HCk.out hT_); clear HCk; have HCk := nX_; clear nX_; have nX_ := Zaa.mk (Kd.Zaq HCo.out hT_); clear HCo; have HCo := nX_; clear nX_; have nX_ := Zaa.mk (Kd.Zaq HCs.out hT_); clear HCs; have HCs := nX_; clear nX_; clear hT_ hB_ h0_ h1_ h2_)))
  go_ret
  exact ⟨rfl, by repeat (first | exact HB.out | apply Zab)⟩
end Go.Proofs.Yteopgafbamipeaa.P
namespace Go.Proofs.Yteopgafbamipeaa.P
open Go.RowKit Go.Proofs.YteopgafbamipeaaW.PrintWords Go.Proofs.YteopgafbamipeaaW.PrintLast Go.Proofs.YteopgafbamipeaaW.PrintMore
attribute [local go_sem] Zb4 Zb6 Zcg Zch Zbs Zbt Zb5 Zb7
set_option linter.unusedVariables false
set_option linter.unusedSimpArgs false
/-! ### Zap: function 28 -/
def Zap.l0 : Nat → List Int → Int → Int → Option (Bool)
 | 0, _, _, _ => none
 | k + 1, x0, x1, x5 => if x5 < (x0.length : Int) then (if 0 ≤ x5 then (if (rd x0 x5) = x1 then (some true) else (Zap.l0 k x0 x1 (wrap64 (x5 + 1)))) else (none)) else (some false)
def Zap.f (k : Nat) (l0 : List Int) (a1 : Int) : Option (Bool) := Zap.l0 k l0 a1 0
theorem Zap.Za6 : ∀ k, (∀ y0 y1 y2, LeO (Zap.l0 k y0 y1 y2) (Zap.l0 (k + 1) y0 y1 y2))
 | 0 => fun _ _ _ r h => by simp [Zap.l0] at h
 | k + 1 => by
  have ih0 := Zap.Za6 k
  intro y0 y1 y2
  unfold Zap.l0
  repeat' first
  | (with_reducible exact ih0 _ _ _)
  | (with_reducible exact LeO.refl _)
  | (with_reducible exact LeO.none _)
  | (with_reducible refine LeO.ite ?_ ?_)
  | (with_reducible refine LeO.bind ?_ (fun _ => ?_))
  | exact ih0 _ _ _
  | exact LeO.none _
  | refine LeO.ite ?_ ?_
  | refine LeO.bind ?_ (fun _ => ?_)
theorem Zap.mono : ∀ a0 a1 k, LeO (Zap.f k a0 a1) (Zap.f (k + 1) a0 a1) := by
 intro a0 a1 k
 have ih0 := Zap.Za6 k
 unfold Zap.f
 repeat' first
   | (with_reducible exact ih0 _ _ _)
   | (with_reducible exact LeO.refl _)
   | (with_reducible exact LeO.none _)
   | (with_reducible refine LeO.ite ?_ ?_)
   | (with_reducible refine LeO.bind ?_ (fun _ => ?_))
   | exact ih0 _ _ _
   | exact LeO.none _
   | refine LeO.ite ?_ ?_
   | refine LeO.bind ?_ (fun _ => ?_)
set_option maxHeartbeats 8000000 in
set_option maxRecDepth 100000 in
theorem Zap.calls (k : Nat) (A0 : Option Addr) (c0 : Nat) (l0 : List Int) (a1 : Int) (r : Bool) (w : World) (hr0 : Kd.C (Kd.int .i64) w A0 l0.length l0) (hc0 : l0.length ≤ c0) (h : Zap.f k l0 a1 = some r) :
  Calls Try.prog 28 #[.slice A0 l0.length c0, .int .i64 a1] w fun e w' => e = .returned (.bool r) ∧ Zat w w' := by
 have HR0 := Zaa.mk hr0
 have HC0 := Zaa.mk hc0
 clear hr0 hc0
 have H : (Zap.l0 k l0 a1 0) = some r := h
 clear h
 have H' := Zaa.mk H
 clear H
 go_enter Try.func28, Try.ntmps28
 go_wp2
 go_loopg [5] k (fun kq v5 w' => ∃ (x5_1 : Int), v5 = .int .i64 x5_1 ∧ Zaa (Zap.l0 kq l0 a1 x5_1 = some r) ∧ Zaa (kq ≤ k) ∧ Zat w w')
 case atStart => exact ⟨(0), (by first | rfl | (simp; done) | (simp [*]; done)), H', ⟨Nat.le_refl _⟩, by repeat (first | exact Zat.refl _ | apply Zat.step)⟩
 case round =>
  clear H'
  try clear c2
  try clear p2
  obtain ⟨x5_1, rfl, HA, HK1, ⟨m1, rfl⟩⟩ := hrel
  cases gk with
  | zero => exact absurd HA.out (by simp [Zap.l0])
  | succ k1 =>
   have H := HA.out
   clear HA
   simp only [Zap.l0] at H
   by_cases c3 : x5_1 < (l0.length : Int)
   rotate_left
   ·rw [if_neg c3] at H
    have c3b0 : decide (x5_1 < (l0.length : Int)) = false := decide_eq_false c3
    clear c3
    obtain rfl := Option.some.inj H
    go_wp2
    go_ret
    exact ⟨by first | rfl | (simp; done) | (simp [*]; done), by repeat (first | exact Zat.refl _ | apply Zat.step)⟩

   rw [if_pos c3] at H
   have c3b0 : decide (x5_1 < (l0.length : Int)) = true := decide_eq_true c3
   clear c3
   by_cases c4 : 0 ≤ x5_1
   rotate_left
   ·rw [if_neg c4] at H
    exact absurd H (by simp)
   rw [if_pos c4] at H
   have c4b0 : decide (0 ≤ x5_1) = true := decide_eq_true c4
   clear c4
   by_cases c5 : (rd l0 x5_1) = a1
   ·rw [if_pos c5] at H
    have c5b0 : ((rd l0 x5_1) == a1) = true := beq_iff_eq.mpr c5
    have c5b1 : ((rd l0 x5_1) != a1) = false := bne_eq_false_iff_eq.mpr c5
    clear c5
    obtain rfl := Option.some.inj H
    have p108 : 0 ≤ (x5_1 : Int) := of_decide_eq_true (by first | (with_reducible assumption) | assumption)
    have q108 : x5_1 < (l0.length : Int) := of_decide_eq_true (by first | (with_reducible assumption) | assumption)
    obtain ⟨ad108, e108, hx108_0⟩ := Kd.Zbi HR0.out x5_1 p108 q108
    cases e108
    replace p108 := eq_true p108
    replace q108 := eq_true q108
    go_wp2
    go_ret
    exact ⟨by first | rfl | (simp; done) | (simp [*]; done), by repeat (first | exact Zat.refl _ | apply Zat.step)⟩
   rw [if_neg c5] at H
   have c5b0 : ((rd l0 x5_1) == a1) = false := beq_eq_false_iff_ne.mpr c5
   have c5b1 : ((rd l0 x5_1) != a1) = true := bne_iff_ne.mpr c5
   have H' := Zaa.mk H
   clear H
   have p108 : 0 ≤ (x5_1 : Int) := of_decide_eq_true (by first | (with_reducible assumption) | assumption)
   have q108 : x5_1 < (l0.length : Int) := of_decide_eq_true (by first | (with_reducible assumption) | assumption)
   obtain ⟨ad108, e108, hx108_0⟩ := Kd.Zbi HR0.out x5_1 p108 q108
   cases e108
   replace p108 := eq_true p108
   replace q108 := eq_true q108
   go_wp2
   go_roundg k1
   case measure => have := HK1.out; omega
   case rel => exact ⟨(wrap64 (x5_1 + 1)), (by first | rfl | (simp; done) | (simp [*]; done)), H', ⟨by have := HK1.out; omega⟩, by repeat (first | exact Zat.refl _ | apply Zat.step)⟩
end Go.Proofs.Yteopgafbamipeaa.P
/- The document's comparisons of lists of numbers. -/
namespace Go.Proofs.Yteopgafbamipeaa.P
open Go.RowKit Go.Proofs.YteopgafbamipeaaW.PrintWords Go.Proofs.YteopgafbamipeaaW.PrintLast Go.Proofs.YteopgafbamipeaaW.PrintMore
set_option linter.unusedVariables false
set_option linter.unusedSimpArgs false
theorem drop_nil' {α : Type} {l : List α} {n : Nat} (h : n + 0 = l.length) : l.drop n = [] := List.drop_eq_nil_iff.2 (by omega)

/-! ### Has -/
theorem ref_Has_l (l : List Int) (v : Int) (hl : l.length < 4611686018427387904) : ∀ (m n : Nat), n + m = l.length → Ev (fun k => Zap.l0 k l v (n : Int)) (decide (v ∈ l.drop n)) := by
  intro m
  induction m with
  | zero =>
    intro n h
    rw [drop_nil' h]
    exact Ev.step (G := fun _ => some false) (fun k => by rw [Zap.l0, if_neg (by omega)]) (Ev.const (by simp))
  | succ m ih =>
    intro n h
    have hn : n < l.length := by omega
    have hm : v ∈ l.drop n ↔ v = l[n] ∨ v ∈ l.drop (n + 1) := by rw [List.drop_eq_getElem_cons hn, List.mem_cons]
    by_cases e : l[n] = v
    · exact Ev.step (G := fun _ => some true) (fun k => by rw [Zap.l0, if_pos (by omega), if_pos (by omega), Zds l n hn, if_pos e]) (Ev.const (by rw [decide_eq_true (hm.2 (.inl e.symm))]))
    have e2 : decide (v ∈ l.drop n) = decide (v ∈ l.drop (n + 1)) := decide_eq_decide.2 (hm.trans ⟨fun h => h.elim (fun h => absurd h.symm e) id, .inr⟩)
    rw [e2]
    exact Ev.step (fun k => by rw [Zap.l0, if_pos (by omega), if_pos (by omega), Zds l n hn, if_neg e, w1 (by omega)]) (ih (n + 1) (by omega))
theorem ref_Has (l : List Int) (v : Int) (hl : l.length < 4611686018427387904) : Ev (fun k => Zap.f k l v) (decide (v ∈ l)) := ref_Has_l l v hl l.length 0 (by omega)

/-! ### Nums, Same -/
theorem ref_Nums_l (l m : List Int) (hl : l.length < 4611686018427387904) (hm : l.length = m.length) : ∀ (r n : Nat), n + r = l.length → Ev (fun k => Zah.l0 k l m (n : Int)) (decide (l.drop n = m.drop n)) := by
  intro r
  induction r with
  | zero =>
    intro n h
    rw [drop_nil' h, drop_nil' (l := m) (by omega)]
    exact Ev.step (G := fun _ => some true) (fun k => by rw [Zah.l0, if_neg (by omega)]) (Ev.const (by simp))
  | succ r ih =>
    intro n h
    have hn : n < l.length := by omega
    have hn2 : n < m.length := by omega
    have hm : l.drop n = m.drop n ↔ l[n] = m[n] ∧ l.drop (n + 1) = m.drop (n + 1) := by rw [List.drop_eq_getElem_cons hn, List.drop_eq_getElem_cons hn2, List.cons.injEq]
    by_cases e : l[n] = m[n]
    rotate_left
    · exact Ev.step (G := fun _ => some false) (fun k => by rw [Zah.l0, if_pos (by omega), if_pos (by omega), if_pos (by omega), Zds l n hn, Zds m n hn2, if_neg e]) (Ev.const (by rw [decide_eq_false (fun h => e (hm.1 h).1)]))
    have e2 : decide (l.drop n = m.drop n) = decide (l.drop (n + 1) = m.drop (n + 1)) := decide_eq_decide.2 (hm.trans ⟨And.right, fun h => ⟨e, h⟩⟩)
    rw [e2]
    exact Ev.step (fun k => by rw [Zah.l0, if_pos (by omega), if_pos (by omega), if_pos (by omega), Zds l n hn, Zds m n hn2, if_pos e, w1 (by omega)]) (ih (n + 1) (by omega))
theorem ref_Nums (l m : List Int) (hl : l.length < 4611686018427387904) : Ev (fun k => Zah.f k l m) (decide (l = m)) := by
  by_cases h : l.length = m.length
  · exact Ev.eq (fun k => by rw [Zah.f, if_pos (by omega)]; rfl) (ref_Nums_l l m hl h l.length 0 (by omega))
  exact Ev.eq (G := fun _ => some false) (fun k => by rw [Zah.f, if_neg (by omega)]) (Ev.const (by simp; intro e; exact h (by rw [e])))
theorem ref_Nums_self (l : List Int) (hl : l.length < 4611686018427387904) : Ev (fun k => Zah.f k l l) true := by have := ref_Nums l l hl; simpa using this
end Go.Proofs.Yteopgafbamipeaa.P
namespace Go.Proofs.Yteopgafbamipeaa.P
open Go.RowKit Go.Proofs.YteopgafbamipeaaW.PrintWords Go.Proofs.YteopgafbamipeaaW.PrintLast Go.Proofs.YteopgafbamipeaaW.PrintMore
attribute [local go_sem] Zb4 Zb6 Zcg Zch Zbs Zbt Zb5 Zb7
set_option linter.unusedVariables false
set_option linter.unusedSimpArgs false
/-! ### Zaf: function 15 -/
def Zaf.l0 : Nat → List Int → Int → Option (Bool)
 | 0, _, _ => none
 | k + 1, x0, x3 => if x3 < (x0.length : Int) then ((Zap.f k x0 x3).bind fun t109 => (if t109 = true then (Zaf.l0 k x0 (wrap64 (x3 + 1))) else (some false))) else (some true)
def Zaf.f (k : Nat) (l0 : List Int) : Option (Bool) := Zaf.l0 k l0 0
theorem Zaf.Za6 : ∀ k, (∀ y0 y1, LeO (Zaf.l0 k y0 y1) (Zaf.l0 (k + 1) y0 y1))
 | 0 => fun _ _ r h => by simp [Zaf.l0] at h
 | k + 1 => by
  have ih0 := Zaf.Za6 k
  intro y0 y1
  unfold Zaf.l0
  repeat' first
  | (with_reducible exact ih0 _ _)
  | (with_reducible exact Zap.mono _ _ _)
  | (with_reducible exact LeO.refl _)
  | (with_reducible exact LeO.none _)
  | (with_reducible refine LeO.ite ?_ ?_)
  | (with_reducible refine LeO.bind ?_ (fun _ => ?_))
  | exact ih0 _ _
  | exact Zap.mono _ _ _
  | exact LeO.none _
  | refine LeO.ite ?_ ?_
  | refine LeO.bind ?_ (fun _ => ?_)
theorem Zaf.mono : ∀ a0 k, LeO (Zaf.f k a0) (Zaf.f (k + 1) a0) := by
 intro a0 k
 have ih0 := Zaf.Za6 k
 unfold Zaf.f
 repeat' first
   | (with_reducible exact ih0 _ _)
   | (with_reducible exact Zap.mono _ _ _)
   | (with_reducible exact LeO.refl _)
   | (with_reducible exact LeO.none _)
   | (with_reducible refine LeO.ite ?_ ?_)
   | (with_reducible refine LeO.bind ?_ (fun _ => ?_))
   | exact ih0 _ _
   | exact Zap.mono _ _ _
   | exact LeO.none _
   | refine LeO.ite ?_ ?_
   | refine LeO.bind ?_ (fun _ => ?_)
set_option maxHeartbeats 8000000 in
set_option maxRecDepth 100000 in
theorem Zaf.calls (k : Nat) (A0 : Option Addr) (c0 : Nat) (l0 : List Int) (r : Bool) (w : World) (hr0 : Kd.C (Kd.int .i64) w A0 l0.length l0) (hc0 : l0.length ≤ c0) (h : Zaf.f k l0 = some r) :
  Calls Try.prog 15 #[.slice A0 l0.length c0] w fun e w' => e = .returned (.bool r) ∧ Zat w w' := by
 have HR0 := Zaa.mk hr0
 have HC0 := Zaa.mk hc0
 clear hr0 hc0
 have H : (Zaf.l0 k l0 0) = some r := h
 clear h
 have H' := Zaa.mk H
 clear H
 go_enter Try.func15, Try.ntmps15
 go_wp2
 go_loopg [3] k (fun kq v3 w' => ∃ (x3_1 : Int), v3 = .int .i64 x3_1 ∧ Zaa (Zaf.l0 kq l0 x3_1 = some r) ∧ Zaa (kq ≤ k) ∧ Zat w w')
 case atStart => exact ⟨(0), (by first | rfl | (simp; done) | (simp [*]; done)), H', ⟨Nat.le_refl _⟩, by repeat (first | exact Zat.refl _ | apply Zat.step)⟩
 case round =>
  clear H'
  try clear c1
  obtain ⟨x3_1, rfl, HA, HK1, ⟨m1, rfl⟩⟩ := hrel
  cases gk with
  | zero => exact absurd HA.out (by simp [Zaf.l0])
  | succ k1 =>
   have H := HA.out
   clear HA
   simp only [Zaf.l0] at H
   by_cases c2 : x3_1 < (l0.length : Int)
   rotate_left
   ·rw [if_neg c2] at H
    have c2b0 : decide (x3_1 < (l0.length : Int)) = false := decide_eq_false c2
    clear c2
    obtain rfl := Option.some.inj H
    go_wp2
    go_ret
    exact ⟨by first | rfl | (simp; done) | (simp [*]; done), by repeat (first | exact Zat.refl _ | apply Zat.step)⟩

   rw [if_pos c2] at H
   have c2b0 : decide (x3_1 < (l0.length : Int)) = true := decide_eq_true c2
   clear c2
   replace H := Option.bind_eq_some_iff.mp H
   obtain ⟨t109, A30, H⟩ := H
   replace H : (if t109 = true then (Zaf.l0 k1 l0 (wrap64 (x3_1 + 1))) else (some false)) = some r := H
   have A3 := Zaa.mk A30
   clear A30
   by_cases c4 : t109 = true
   rotate_left
   ·replace c4 := Bool.eq_false_iff.mpr c4
    subst c4
    have H1 : (some false) = some r := by rw [if_neg (show ¬ (false = true) by decide)] at H; exact H
    clear H
    have H := H1
    clear H1
    obtain rfl := Option.some.inj H
    go_wp2_with (first | ((with_reducible refine Zaw (f := 28) rfl ?_); refine Zbl (some 12) rfl rfl Try.func28 (by kernel_rfl) rfl #[.slice A0 l0.length c0, .int .i64 x3_1] rfl (by (try simp only [List.map_toArray, List.map_cons, List.map_nil]); first | done | rfl | (simp only [List.length_drop, List.length_take]; rfl)) ?_; (with_reducible refine (Zap.calls k1 _ _ l0 x3_1 false _ ?side1 ?side2 A3.out).mono ?_); (case side1 => repeat (first | exact HR0.out | (with_reducible refine Kd.Za0 ?_ _) | (with_reducible refine Kd.C_drewN ?_ _) | (with_reducible refine Kd.C_drew ?_))); (case side2 => exact HC0.out); rintro e w' ⟨rfl, ⟨nd, rfl⟩⟩; refine ⟨_, rfl, ?_⟩))
    go_ret
    exact ⟨by first | rfl | (simp; done) | (simp [*]; done), by repeat (first | exact Zat.refl _ | apply Zat.step)⟩
   subst c4
   have H1 : (Zaf.l0 k1 l0 (wrap64 (x3_1 + 1))) = some r := by rw [if_pos rfl] at H; exact H
   clear H
   have H := H1
   clear H1
   have H' := Zaa.mk H
   clear H
   go_wp2_with (first | ((with_reducible refine Zaw (f := 28) rfl ?_); refine Zbl (some 12) rfl rfl Try.func28 (by kernel_rfl) rfl #[.slice A0 l0.length c0, .int .i64 x3_1] rfl (by (try simp only [List.map_toArray, List.map_cons, List.map_nil]); first | done | rfl | (simp only [List.length_drop, List.length_take]; rfl)) ?_; (with_reducible refine (Zap.calls k1 _ _ l0 x3_1 true _ ?side1 ?side2 A3.out).mono ?_); (case side1 => repeat (first | exact HR0.out | (with_reducible refine Kd.Za0 ?_ _) | (with_reducible refine Kd.C_drewN ?_ _) | (with_reducible refine Kd.C_drew ?_))); (case side2 => exact HC0.out); rintro e w' ⟨rfl, ⟨nd, rfl⟩⟩; refine ⟨_, rfl, ?_⟩))
   go_roundg k1
   case measure => have := HK1.out; omega
   case rel => exact ⟨(wrap64 (x3_1 + 1)), (by first | rfl | (simp; done) | (simp [*]; done)), H', ⟨by have := HK1.out; omega⟩, by repeat (first | exact Zat.refl _ | apply Zat.step)⟩
/-! ### Zak: function 17 -/
def Zak.l0 : Nat → List Int → List Int → List Int → Int → Option (List Int)
 | 0, _, _, _, _ => none
 | k + 1, x0, x1, x5, x6 => if x6 < (x0.length : Int) then (if 0 ≤ x6 then (if x6 < (x1.length : Int) then (if 0 ≤ (rd x1 x6) then (if (rd x1 x6) < (x5.length : Int) then (Zak.l0 k x0 x1 (x5.set ((rd x1 x6) : Int).toNat (rd x0 x6)) (wrap64 (x6 + 1))) else (none)) else (none)) else (none)) else (none)) else (some x5)
def Zak.f (k : Nat) (l0 : List Int) (l1 : List Int) : Option (List Int) := if 0 ≤ (l0.length : Int) then (if ((l0.length : Int) : Int).toNat ≤ 35184372088832 then (Zak.l0 k l0 l1 (List.replicate ((l0.length : Int) : Int).toNat 0) 0) else (none)) else (none)
theorem Zak.Za6 : ∀ k, (∀ y0 y1 y2 y3, LeO (Zak.l0 k y0 y1 y2 y3) (Zak.l0 (k + 1) y0 y1 y2 y3))
 | 0 => fun _ _ _ _ r h => by simp [Zak.l0] at h
 | k + 1 => by
  have ih0 := Zak.Za6 k
  intro y0 y1 y2 y3
  unfold Zak.l0
  repeat' first
  | (with_reducible exact ih0 _ _ _ _)
  | (with_reducible exact LeO.refl _)
  | (with_reducible exact LeO.none _)
  | (with_reducible refine LeO.ite ?_ ?_)
  | (with_reducible refine LeO.bind ?_ (fun _ => ?_))
  | exact ih0 _ _ _ _
  | exact LeO.none _
  | refine LeO.ite ?_ ?_
  | refine LeO.bind ?_ (fun _ => ?_)
theorem Zak.mono : ∀ a0 a1 k, LeO (Zak.f k a0 a1) (Zak.f (k + 1) a0 a1) := by
 intro a0 a1 k
 have ih0 := Zak.Za6 k
 unfold Zak.f
 repeat' first
   | (with_reducible exact ih0 _ _ _ _)
   | (with_reducible exact LeO.refl _)
   | (with_reducible exact LeO.none _)
   | (with_reducible refine LeO.ite ?_ ?_)
   | (with_reducible refine LeO.bind ?_ (fun _ => ?_))
   | exact ih0 _ _ _ _
   | exact LeO.none _
   | refine LeO.ite ?_ ?_
   | refine LeO.bind ?_ (fun _ => ?_)
def Zak.T5 : Bool × List (List Nat × List Nat) := (true, [([], []), ([], []), ([], []), ([1, 2], [1, 2]), ([3], [3]), ([], []), ([], []), ([5, 6], [5, 6]), ([7], [7]), ([0, 4, 0, 1, 2, 3, 4, 5, 6, 7, 8], [0, 4]), ([9, 8, 0, 1, 2, 3, 4, 5, 6, 7, 8], [8, 9])])
def Zak.B5 : List Nat := [0, 0, 0, 6, 14, 0, 0, 96, 224, 511, 1023]
theorem Zak.tab5 : rtab .any (opsOf Try.f17 5) = Zak.T5 := by kernel_rfl
theorem Zak.bits5 : waitsOk Zak.T5.2 Zak.B5 = true := by kernel_rfl
set_option maxHeartbeats 8000000 in
set_option maxRecDepth 100000 in
theorem Zak.calls (k : Nat) (A0 : Option Addr) (c0 : Nat) (l0 : List Int) (A1 : Option Addr) (c1 : Nat) (l1 : List Int) (r : List Int) (w : World) (hr0 : Kd.C (Kd.int .i64) w A0 l0.length l0) (hc0 : l0.length ≤ c0) (hr1 : Kd.C (Kd.int .i64) w A1 l1.length l1) (hc1 : l1.length ≤ c1) (h : Zak.f k l0 l1 = some r) :
  Calls Try.prog 17 #[.slice A0 l0.length c0, .slice A1 l1.length c1] w fun e w' => ∃ v0_ : Value, e = .returned (v0_) ∧ Kd.R (Kd.int .i64) 3 w' w.heap.size (fun _ => True) v0_ r ∧ Below w.heap.size w w' := by
 have HR0 := Zaa.mk hr0
 have HC0 := Zaa.mk hc0
 clear hr0 hc0
 have HR1 := Zaa.mk hr1
 have HC1 := Zaa.mk hc1
 clear hr1 hc1
 have HB := Zaa.mk (Below.refl w.heap.size w)
 have H : (if 0 ≤ (l0.length : Int) then (if ((l0.length : Int) : Int).toNat ≤ 35184372088832 then (Zak.l0 k l0 l1 (List.replicate ((l0.length : Int) : Int).toNat 0) 0) else (none)) else (none)) = some r := h
 clear h
 by_cases c3 : 0 ≤ (l0.length : Int)
 rotate_left
 ·rw [if_neg c3] at H
  exact absurd H (by simp)

 rw [if_pos c3] at H
 have c3b0 := eq_true c3
 have c3b1 : decide (0 ≤ (l0.length : Int)) = true := decide_eq_true c3
 clear c3
 by_cases c4 : ((l0.length : Int) : Int).toNat ≤ 35184372088832
 rotate_left
 ·rw [if_neg c4] at H
  exact absurd H (by simp)
 rw [if_pos c4] at H
 have c4b0 := eq_true c4
 have c4b1 : decide (((l0.length : Int) : Int).toNat ≤ 35184372088832) = true := decide_eq_true c4
 clear c4
 obtain ⟨y175, hy175⟩ : ∃ y_ : List Int, y_ = (List.replicate ((l0.length : Int) : Int).toNat 0) := ⟨_, rfl⟩
 replace H : (Zak.l0 k l0 l1 y175 0) = some r := by first | (rw [hy175]; with_reducible exact H) | (have H2_ := (Option.bind_some _ _).symm.trans H; rw [hy175]; with_reducible exact H2_) | (have H2_ := (Option.bind_some _ _).symm.trans H; with_reducible exact H2_) | with_reducible exact H | (rw [hy175]; exact H) | exact H
 have Ny175 := Zaa.mk hy175
 clear hy175
 have H' := Zaa.mk H
 clear H
 go_enter Try.func17, Try.ntmps17
 go_wp2_with (first | ((with_reducible refine Zbn (N := 9) rfl ?_); refine Kd.R_make (Kd.int .i64) _ 3 rfl (N := 9) rfl 22 _ _ rfl (l0.length : Int) rfl rfl Try.underlying22 (.int .i64 0) 8 info3 rfl (by decide) (by omega) 0 (ok := fun _ => True) (okp := fun _ => True) rfl (fun _ hk => hk) trivial (of_decide_eq_true (by first | (with_reducible assumption) | assumption)) (Nat.le_trans (Nat.mul_le_mul_right _ (of_decide_eq_true (by first | (with_reducible assumption) | assumption) : (l0.length : Int).toNat ≤ 35184372088832)) (by omega)) (Below.refl _ _) (Nat.le_refl _) ?_; intro v176 w5 ho6 hb hg_ hnew_; clear hg_ hnew_; (first | rw [← Ny175.out] at ho6 | (simp only [Int.reduceToNat] at ho6; rw [← Ny175.out] at ho6)); have n0_ := Zaa.mk (Kd.Zbu ho6 (Zas (by repeat (first | (with_reducible first | exact HB.out | apply Zac | apply Zab | apply Zad) | exact HB.out)))); have n1_ := Zaa.mk (Zan (by repeat (first | (with_reducible first | exact HB.out | apply Zac | apply Zab | apply Zad) | exact HB.out)) hb); clear HB; have HO177 := n0_; have HB := n1_; clear n0_ n1_; clear hb ho6))
 go_loopg [6] k (fun kq v6 w' => ∃ (x5_1 : List Int) (x6_1 : Int), v6 = .int .i64 x6_1 ∧ Zaa (Zak.l0 kq l0 l1 x5_1 x6_1 = some r) ∧ Zaa (kq ≤ k) ∧ Zaa (Kd.R (Kd.int .i64) 3 w' w.heap.size (fun _ => True) v176 x5_1) ∧ Zaa (Below w.heap.size w w'))
 case atStart => exact ⟨(y175), (0), (by first | rfl | (simp; done) | (simp [*]; done)), H', ⟨Nat.le_refl _⟩, ⟨by (with_reducible repeat (first | apply Kd.Zbk | apply Kd.R_drewN | apply Kd.Zbz)); exact HO177.out⟩, ⟨by repeat (first | (with_reducible first | exact HB.out | apply Zac | apply Zab | apply Zad) | exact HB.out)⟩⟩
 case round =>
  clear H'
  try clear c1
  try clear p2
  try clear c3
  try clear c3b0
  try clear c3b1
  try clear c4
  try clear c4b0
  try clear c4b1
  obtain ⟨x5_1, x6_1, rfl, HA, HK1, HO_5, HB⟩ := hrel
  cases gk with
  | zero => exact absurd HA.out (by simp [Zak.l0])
  | succ k1 =>
   have H := HA.out
   clear HA
   simp only [Zak.l0] at H
   by_cases c7 : x6_1 < (l0.length : Int)
   rotate_left
   ·rw [if_neg c7] at H
    have c7b0 : decide (x6_1 < (l0.length : Int)) = false := decide_eq_false c7
    clear c7
    obtain rfl := Option.some.inj H
    go_wp2
    go_ret
    exact ⟨_, by first | rfl | (simp [Zau, Zav] <;> rfl) | (simp [*, Zau, Zav] <;> rfl), by (with_reducible repeat (first | apply Kd.Zbk | apply Kd.R_drewN | apply Kd.Zbz)); exact HO_5.out, by repeat (first | (with_reducible first | exact HB.out | apply Zac | apply Zab | apply Zad) | exact HB.out)⟩
   rw [if_pos c7] at H
   have c7b0 : decide (x6_1 < (l0.length : Int)) = true := decide_eq_true c7
   clear c7
   by_cases c8 : 0 ≤ x6_1
   rotate_left
   ·rw [if_neg c8] at H
    exact absurd H (by simp)
   rw [if_pos c8] at H
   have c8b0 : decide (0 ≤ x6_1) = true := decide_eq_true c8
   clear c8
   by_cases c9 : x6_1 < (l1.length : Int)
   rotate_left
   ·rw [if_neg c9] at H
    exact absurd H (by simp)
   rw [if_pos c9] at H
   have c9b0 : decide (x6_1 < (l1.length : Int)) = true := decide_eq_true c9
   clear c9
   by_cases c10 : 0 ≤ (rd l1 x6_1)
   rotate_left
   ·rw [if_neg c10] at H
    exact absurd H (by simp)
   rw [if_pos c10] at H
   have c10b0 : decide (0 ≤ (rd l1 x6_1)) = true := decide_eq_true c10
   clear c10
   by_cases c11 : (rd l1 x6_1) < (x5_1.length : Int)
   rotate_left
   ·rw [if_neg c11] at H
    exact absurd H (by simp)
   rw [if_pos c11] at H
   have c11b0 : decide ((rd l1 x6_1) < (x5_1.length : Int)) = true := decide_eq_true c11
   clear c11
   obtain ⟨y180, hy180⟩ : ∃ y_ : List Int, y_ = (x5_1.set ((rd l1 x6_1) : Int).toNat (rd l0 x6_1)) := ⟨_, rfl⟩
   replace H : (Zak.l0 k1 l0 l1 y180 (wrap64 (x6_1 + 1))) = some r := by first | (rw [hy180]; with_reducible exact H) | (have H2_ := (Option.bind_some _ _).symm.trans H; rw [hy180]; with_reducible exact H2_) | (have H2_ := (Option.bind_some _ _).symm.trans H; with_reducible exact H2_) | with_reducible exact H | (rw [hy180]; exact H) | exact H
   have Ny180 := Zaa.mk hy180
   clear hy180
   have H' := Zaa.mk H
   clear H
   try go_wp2
   have n0_ := Zaa.mk (Kd.Zbz HO_5.out)
   have n1_ := Zaa.mk (Zad HB.out)
   clear HO_5
   clear HB
   have HO_5 := n0_
   have HB := n1_
   clear n0_ n1_
   have p178 : 0 ≤ (x6_1 : Int) := of_decide_eq_true (by first | (with_reducible assumption) | assumption)
   have q178 : x6_1 < (l1.length : Int) := of_decide_eq_true (by first | (with_reducible assumption) | assumption)
   obtain ⟨ad178, e178, hx178_0⟩ := Kd.Zbi HR1.out x6_1 p178 q178
   have hw178_0 := hx178_0
   cases e178
   replace hx178_0 := (HB.out.cell (World.block_lt_of_cell? w _ hx178_0)).trans hx178_0
   replace p178 := eq_true p178
   replace q178 := eq_true q178
   have p179 : 0 ≤ (x6_1 : Int) := of_decide_eq_true (by first | (with_reducible assumption) | assumption)
   have q179 : x6_1 < (l0.length : Int) := of_decide_eq_true (by first | (with_reducible assumption) | assumption)
   obtain ⟨ad179, e179, hx179_0⟩ := Kd.Zbi HR0.out x6_1 p179 q179
   have hw179_0 := hx179_0
   cases e179
   replace hx179_0 := (HB.out.cell (World.block_lt_of_cell? w _ hx179_0)).trans hx179_0
   replace p179 := eq_true p179
   replace q179 := eq_true q179
   have p12 : 0 ≤ ((rd l1 x6_1) : Int) := of_decide_eq_true (by first | (with_reducible assumption) | assumption)
   have q12 : ((rd l1 x6_1) : Int) < ((x5_1.length : Int) : Int) := of_decide_eq_true (by first | (with_reducible assumption) | assumption)
   obtain ⟨go12, co12, eo12, gb12, gl12, cl12, HG12⟩ := Kd.R_form HO_5.out (by omega)
   (first | cases eo12 | (injection eo12 with ea_ en_ ec_; (first | subst ea_ | (injection ea_ with ea_; subst ea_)); subst ec_; clear en_))
   have GB12 := Zaa.mk gb12
   have GG12 := Zaa.mk HG12
   clear gb12 gl12 HG12
   obtain ⟨hx12_0, hf12_0⟩ := Kd.R_celln 0 HO_5.out ((rd l1 x6_1) : Int) p12 q12
   replace p12 := eq_true p12
   replace q12 := eq_true q12
   have HP14 := Kd.R_putn HO_5.out ((rd l1 x6_1) : Int) (rd l0 x6_1)
   rw [← Ny180.out] at HP14
   have HQ14 := Zaa.mk HP14
   clear HP14
   refine start_ (n := 11) (S := fun w' => w'.cell? (ad178.add (x6_1).toNat) = some (.int .i64 (rd l1 x6_1)) ∧ w'.cell? (ad179.add (x6_1).toNat) = some (.int .i64 (rd l0 x6_1))) (ds := [10]) #[false, false, false, false, false, false, false, false, false, false, false] (by kernel_rfl) rfl rfl ⟨((HB.out.cell (World.block_lt_of_cell? w _ hw178_0)).trans hw178_0), ((HB.out.cell (World.block_lt_of_cell? w _ hw179_0)).trans hw179_0)⟩ (fun hHeld => ?_); refine Zfm Zak.tab5 Zak.bits5 (fun HT_ HW_ => ?_)
   generalize wr.drew = w13 at HO_5 HB GG12 HQ14 hf12_0 hx12_0 hx178_0 hx179_0 hHeld ⊢
   refine Zc (i := 0) (N := some 16) (v := ?_) (a' := ?_) #[true, false, false, false, false, false, false, false, false, false, false] rfl rfl (Zbj HT_.out (by kernel_rfl)) (fun _ _ _ h => h) (Or.inl ⟨by rfl, ?_⟩) ?_ ?_
   rotate_left
   ·intro w'
    go_simp
    with_reducible rfl
   rotate_left
   ·simp only [Act.put, List.setIfInBounds_toArray, List.set_cons_zero, List.set_cons_succ, Zbe, Zbg]
    rfl
   refine Zc (i := 1) (N := some 17) (v := ?_) (a' := ?_) #[true, true, false, false, false, false, false, false, false, false, false] rfl rfl (Zbj HT_.out (by kernel_rfl)) (fun _ _ _ h => h) (Or.inl ⟨by rfl, ?_⟩) ?_ ?_
   rotate_left
   ·intro w'
    go_simp
    with_reducible rfl
   rotate_left
   ·simp only [Act.put, List.setIfInBounds_toArray, List.set_cons_zero, List.set_cons_succ, Zbe, Zbg]
    rfl
   refine Zc (i := 2) (N := some 18) (v := ?_) (a' := ?_) #[true, true, true, false, false, false, false, false, false, false, false] rfl rfl (Zbj HT_.out (by kernel_rfl)) (fun _ _ _ h => h) (Or.inl ⟨by rfl, ?_⟩) ?_ ?_
   rotate_left
   ·intro w'
    go_simp
    with_reducible rfl
   rotate_left
   ·simp only [Act.put, List.setIfInBounds_toArray, List.set_cons_zero, List.set_cons_succ, Zbe, Zbg]
    rfl
   refine Zc (i := 3) (N := some 19) (v := ?_) (a' := ?_) #[true, true, true, true, false, false, false, false, false, false, false] rfl rfl (Zbj HT_.out (by kernel_rfl)) (fun _ _ _ h => h) (Or.inl ⟨by rfl, ?_⟩) ?_ ?_
   rotate_left
   ·intro w'
    go_simp
    with_reducible rfl
   rotate_left
   ·simp only [Act.put, List.setIfInBounds_toArray, List.set_cons_zero, List.set_cons_succ, Zbe, Zbg]
    rfl
   refine Zc (i := 5) (N := some 21) (v := ?_) (a' := ?_) #[true, true, true, true, false, true, false, false, false, false, false] rfl rfl (Zbj HT_.out (by kernel_rfl)) (fun _ _ _ h => h) (Or.inl ⟨by rfl, ?_⟩) ?_ ?_
   rotate_left
   ·intro w'
    go_simp
    with_reducible rfl
   rotate_left
   ·simp only [Act.put, List.setIfInBounds_toArray, List.set_cons_zero, List.set_cons_succ, Zbe, Zbg]
    rfl
   refine Zc (i := 6) (N := some 22) (v := ?_) (a' := ?_) #[true, true, true, true, false, true, true, false, false, false, false] rfl rfl (Zbj HT_.out (by kernel_rfl)) (fun _ _ _ h => h) (Or.inl ⟨by rfl, ?_⟩) ?_ ?_
   rotate_left
   ·intro w'
    go_simp
    with_reducible rfl
   rotate_left
   ·simp only [Act.put, List.setIfInBounds_toArray, List.set_cons_zero, List.set_cons_succ, Zbe, Zbg]
    rfl
   refine Zc (i := 7) (N := some 23) (v := ?_) (a' := ?_) #[true, true, true, true, false, true, true, true, false, false, false] rfl rfl (Zbj HT_.out (by kernel_rfl)) (fun _ _ _ h => h) (Or.inl ⟨by rfl, ?_⟩) ?_ ?_
   rotate_left
   ·intro w'
    go_simp
    with_reducible rfl
   rotate_left
   ·simp only [Act.put, List.setIfInBounds_toArray, List.set_cons_zero, List.set_cons_succ, Zbe, Zbg]
    rfl
   refine take_ (i := 4) (N := some 20) (v := ?_) (a' := ?_) #[true, true, true, true, true, true, true, true, false, false, false] rfl rfl (Zdn HT_.out HW_.out (by kernel_rfl)) (fun _ _ _ h => h) (Or.inl ⟨by rfl, ?_⟩) hHeld ?_ ?_
   rotate_left
   ·rintro w' ⟨s0, s1⟩
    go_simp
    with_reducible rfl
   rotate_left
   ·simp only [Act.put, List.setIfInBounds_toArray, List.set_cons_zero, List.set_cons_succ, Zbe, Zbg]
    rfl
   refine take_ (i := 8) (N := some 24) (v := ?_) (a' := ?_) #[true, true, true, true, true, true, true, true, true, false, false] rfl rfl (Zdn HT_.out HW_.out (by kernel_rfl)) (fun _ _ _ h => h) (Or.inl ⟨by rfl, ?_⟩) hHeld ?_ ?_
   rotate_left
   ·rintro w' ⟨s0, s1⟩
    go_simp
    with_reducible rfl
   rotate_left
   ·simp only [Act.put, List.setIfInBounds_toArray, List.set_cons_zero, List.set_cons_succ, Zbe, Zbg]
    rfl
   refine Zc (i := 9) (N := some 25) (v := ?_) (a' := ?_) #[true, true, true, true, true, true, true, true, true, true, false] rfl rfl (Zbj HT_.out (by kernel_rfl)) (fun _ _ _ h => h) (Or.inl ⟨by rfl, ?_⟩) ?_ ?_
   rotate_left
   ·intro w'
    go_simp
    with_reducible rfl
   rotate_left
   ·simp only [Act.put, List.setIfInBounds_toArray, List.set_cons_zero, List.set_cons_succ, Zbe, Zbg]
    rfl
   refine last_ (i := 10) (N := none) #[true, true, true, true, true, true, true, true, true, true, true] rfl rfl (Zf1 HT_.out (by kernel_rfl)) (by decide) (fun K hK => ?_)
   refine skip_ (w1 := ?_) (by rfl) rfl ?_ ?_
   rotate_left
   ·go_simp
    rfl
   refine hK.out _ _ ?_
   clear hK K
   refine done_ (done_of HT_.out (by kernel_rfl)) ?_
   try go_wp2
   go_roundg k1
   case measure => have := HK1.out; omega
   case rel => exact ⟨(y180), (wrap64 (x6_1 + 1)), (by first | rfl | (simp; done) | (simp [*]; done)), H', ⟨by have := HK1.out; omega⟩, ⟨by (with_reducible repeat (first | apply Kd.Zbk | apply Kd.R_drewN | apply Kd.Zbz)); exact HQ14.out⟩, ⟨by repeat (first | (with_reducible first | exact HB.out | apply Zac | apply Zab | apply Zad | refine Zdb ?_ GB12.out) | exact HB.out)⟩⟩
end Go.Proofs.Yteopgafbamipeaa.P
/- Changes of places: the functions of group and of its reference, in plain words. -/
namespace Go.Proofs.Yteopgafbamipeaa.P
open Go.RowKit Go.Proofs.YteopgafbamipeaaW.PrintWords Go.Proofs.YteopgafbamipeaaW.PrintLast Go.Proofs.YteopgafbamipeaaW.PrintMore
set_option linter.unusedVariables false
set_option linter.unusedSimpArgs false

namespace G
/-- Is a list a change of places? -/
abbrev rtB (p : List Int) : Bool := idB 0 (sortI p)
theorem Zb9 {p : List Int} : rtB p = true ↔ Rt p := Zd4 p
theorem Zeu {p : List Int} (hl : p.length ≤ 1000000) : Ev (fun _ => Za2.f p) (rtB p) := Ev.const (Zfh hl)
theorem Zfg (p : List Int) (hl : p.length ≤ 1000000) : ∀ (d j : Nat), j + d = p.length → (∀ i : Nat, i < j → (i : Int) ∈ p) → Ev (fun k => Zaf.l0 k p (j : Int)) (rtB p)
  | 0, j, h, hi => by
    refine Ev.step (G := fun _ => some true) (fun k => by rw [Zaf.l0, if_neg (by omega)]) (Ev.const ?_)
    rw [Zb9.2 (fun i hi' => hi i (by omega))]
  | d + 1, j, h, hi => by
    by_cases hj : (j : Int) ∈ p
    rotate_left
    · refine Ev.step (fun k => by rw [Zaf.l0, if_pos (by omega)]) (Ev.bind (ref_Has p (j : Int) (by omega)) ?_)
      rw [decide_eq_false hj]
      refine Ev.Zcf (by simp) (Ev.const ?_)
      cases h2 : rtB p
      · rfl
      exact absurd (Zb9.1 h2 j (by omega)) hj
    refine Ev.step (fun k => by rw [Zaf.l0, if_pos (by omega), w1 (by omega)]) (Ev.bind (ref_Has p (j : Int) (by omega)) ?_)
    rw [decide_eq_true hj]
    refine Ev.Zby rfl (Zfg p hl d (j + 1) (by omega) (fun i hi' => ?_))
    rcases Nat.lt_or_ge i j with g | g
    · exact hi i g
    obtain rfl : i = j := by omega
    exact hj
theorem Zcu {p : List Int} (hl : p.length ≤ 1000000) : Ev (fun k => Zaf.f k p) (rtB p) :=
  Zfg p hl p.length 0 (by omega) (fun i hi => absurd hi (Nat.not_lt_zero _))
/-- Behind. -/
def bh (p q : List Int) : List Int × Int := if p.length = q.length ∧ rtB p = true ∧ rtB q = true then (comp p q, 0) else ([], 1)
theorem behind_ev {p q : List Int} (hp : p.length ≤ 1000000) (hq : q.length ≤ 1000000) : Ev (fun k => Zal.f k p q) (bh p q) := by
  have hno : ∀ b : Bool, b = true → bh p q = ([], 1) → Ev (fun k => Zal.j0 k p q b) (bh p q) := fun b hb h => by
    subst hb
    rw [h]
    exact Ev.step (G := fun _ => some ([], 1)) (fun k => by rw [Zal.j0, if_pos rfl]) (Ev.const rfl)
  unfold Zal.f
  by_cases hl : p.length = q.length
  rotate_left
  · exact Ev.Zcf (by omega) (hno _ rfl (if_neg (fun h => hl h.1)))
  refine Ev.Zby (by omega) (Ev.bind (Zeu hp) ?_)
  cases h1 : rtB p
  · exact Ev.Zcf (by simp) (hno _ rfl (if_neg (by simp [h1])))
  refine Ev.Zby rfl (Ev.bind (Zeu hq) ?_)
  cases h2 : rtB q
  · exact hno _ rfl (if_neg (by simp [h2]))
  have e : bh p q = (comp p q, 0) := if_pos ⟨hl, h1, h2⟩
  rw [e]
  refine Ev.step (G := fun k => Zal.l0 k q [] p (p.length : Int) 0) (fun k => by rw [Zal.j0, if_neg (by simp)]) ?_
  refine Ev.of_mono (p.length + 1) (Zdv p q (Zb9.1 h1) hl hp p.length 0 (by omega)) (fun k => (Zal.Za6 k).2 _ _ _ _ _)
/-- Values in other places. -/
def scN (a p : List Int) (n : Nat) : List Int := (List.range n).foldl (fun r (v : Nat) => r.set (rd p (v : Int)).toNat (rd a (v : Int))) (List.replicate p.length 0)
def sc (a p : List Int) : List Int := scN a p p.length
theorem Zev (a p : List Int) (n : Nat) : scN a p (n + 1) = (scN a p n).set (rd p n).toNat (rd a n) := by
  unfold scN
  rw [List.range_succ, List.foldl_append]
  rfl
theorem Zfi {a p : List Int} (hp : Rt p) : ∀ n, n ≤ p.length → ScN n a p (scN a p n)
  | 0, _ => ScN.start (by simp [scN])
  | n + 1, h => by
    rw [Zev]
    exact (Zfi hp n (by omega)).step hp (by omega)
theorem sc_Sc {a p : List Int} (hp : Rt p) : Sc a p (sc a p) := (Zfi hp p.length (Nat.le_refl _)).done rfl
theorem sc_len {a p : List Int} (hp : Rt p) : (sc a p).length = p.length := (sc_Sc hp).1
theorem Zfl (a p : List Int) (hp : Rt p) (hl : a.length = p.length) (hb : p.length ≤ 1000000) : ∀ (d j : Nat), j + d = p.length → Ev (fun k => Zam.l0 k a (scN a p j) p (p.length : Int) (j : Int)) (sc a p, 0)
  | 0, j, h => by
    obtain rfl : j = p.length := by omega
    exact Ev.step (G := fun _ => some (scN a p p.length, 0)) (fun k => by rw [Zam.l0, if_neg (by omega)]) (Ev.const rfl)
  | d + 1, j, h => by
    have hj : j < p.length := by omega
    obtain ⟨h0, h1⟩ := hp.rng hj
    have hs := (Zfi (a := a) hp j (by omega)).1
    refine Ev.step (fun k => by rw [Zam.l0, if_pos (by omega), if_pos (by omega), if_pos (by omega), if_pos (by omega), if_pos h0, if_pos (by omega), w1 (by omega), ← Zev]) (Zfl a p hp hl hb d (j + 1) (by omega))
def vl (a p : List Int) : List Int × Int := if a.length = p.length ∧ rtB p = true then (sc a p, 0) else ([], 1)
theorem values_ev {a p : List Int} (hp : p.length ≤ 1000000) : Ev (fun k => Zam.f k a p) (vl a p) := by
  have hno : ∀ b : Bool, b = true → vl a p = ([], 1) → Ev (fun k => Zam.j0 k a p b) (vl a p) := fun b hb h => by
    subst hb
    rw [h]
    exact Ev.step (G := fun _ => some ([], 1)) (fun k => by rw [Zam.j0, if_pos rfl]) (Ev.const rfl)
  unfold Zam.f
  by_cases hl : a.length = p.length
  rotate_left
  · exact Ev.Zcf (by omega) (hno _ rfl (if_neg (fun h => hl h.1)))
  refine Ev.Zby (by omega) (Ev.bind (Zeu hp) ?_)
  cases h2 : rtB p
  · exact hno _ rfl (if_neg (by simp [h2]))
  have e : vl a p = (sc a p, 0) := if_pos ⟨hl, h2⟩
  rw [e]
  refine Ev.step (G := fun k => Zam.l0 k a (scN a p 0) p (p.length : Int) 0) (fun k => by rw [Zam.j0, if_neg (by simp), if_pos (by omega), if_pos (by omega)]; rw [Int.toNat_natCast, hl]; rfl) ?_
  exact Zfl a p (Zb9.1 h2) hl hp p.length 0 (by omega)
/-- The way back. -/
theorem back_loop (p : List Int) (hp : Rt p) (hb : p.length ≤ 1000000) : ∀ (d j : Nat), j + d = p.length → Ev (fun k => Zax.l0 k (scN (ids p.length) p j) p (p.length : Int) (j : Int)) (sc (ids p.length) p, 0)
  | 0, j, h => by
    obtain rfl : j = p.length := by omega
    exact Ev.step (G := fun _ => some (scN (ids p.length) p p.length, 0)) (fun k => by rw [Zax.l0, if_neg (by omega)]) (Ev.const rfl)
  | d + 1, j, h => by
    have hj : j < p.length := by omega
    obtain ⟨h0, h1⟩ := hp.rng hj
    have hs := (Zfi (a := ids p.length) hp j (by omega)).1
    have e := Zev (ids p.length) p j
    rw [Zdf hj] at e
    refine Ev.step (fun k => by rw [Zax.l0, if_pos (by omega), if_pos (by omega), if_pos (by omega), if_pos h0, if_pos (by omega), w1 (by omega), ← e]) (back_loop p hp hb d (j + 1) (by omega))
def bk (p : List Int) : List Int × Int := if rtB p = true then (sc (ids p.length) p, 0) else ([], 1)
theorem back_ev {p : List Int} (hp : p.length ≤ 1000000) : Ev (fun k => Zax.f k p) (bk p) := by
  unfold Zax.f
  refine Ev.bind (Zeu hp) ?_
  cases h2 : rtB p
  · exact Ev.Zcf (by simp) (Ev.const (by simp [bk, h2]))
  have e : bk p = (sc (ids p.length) p, 0) := if_pos h2
  rw [e]
  refine Ev.Zby rfl (Ev.Zby (by omega) (Ev.Zby (by omega) ?_))
  have := back_loop p (Zb9.1 h2) hp p.length 0 (by omega)
  rw [Int.toNat_natCast]
  exact this
theorem behind_ok {p q : List Int} (h1 : Rt p) (h2 : Rt q) (hl : p.length = q.length) (hp : p.length ≤ 1000000) : Ev (fun k => Zal.f k p q) (comp p q, 0) := by
  have h := behind_ev hp (show q.length ≤ 1000000 by omega)
  rwa [show bh p q = (comp p q, 0) from if_pos ⟨hl, Zb9.2 h1, Zb9.2 h2⟩] at h
theorem values_ok {a p : List Int} (h1 : Rt p) (hl : a.length = p.length) (hp : p.length ≤ 1000000) : Ev (fun k => Zam.f k a p) (sc a p, 0) := by
  have h := values_ev (a := a) hp
  rwa [show vl a p = (sc a p, 0) from if_pos ⟨hl, Zb9.2 h1⟩] at h
theorem back_ok {p : List Int} (h1 : Rt p) (hp : p.length ≤ 1000000) : Ev (fun k => Zax.f k p) (sc (ids p.length) p, 0) := by
  have h := back_ev hp
  rwa [show bk p = (sc (ids p.length) p, 0) from if_pos (Zb9.2 h1)] at h
theorem back_is_Rt {p : List Int} (h1 : Rt p) : Rt (sc (ids p.length) p) := back_Rt h1 (sc_Sc h1)
theorem Zdh (a p : List Int) (hp : Rt p) (hl : a.length = p.length) (hb : p.length ≤ 1000000) : ∀ (d j : Nat), j + d = p.length → Ev (fun k => Zak.l0 k a p (scN a p j) (j : Int)) (sc a p)
  | 0, j, h => by
    obtain rfl : j = p.length := by omega
    exact Ev.step (G := fun _ => some (scN a p p.length)) (fun k => by rw [Zak.l0, if_neg (by omega)]) (Ev.const rfl)
  | d + 1, j, h => by
    have hj : j < p.length := by omega
    obtain ⟨h0, h1⟩ := hp.rng hj
    have hs := (Zfi (a := a) hp j (by omega)).1
    refine Ev.step (fun k => by rw [Zak.l0, if_pos (by omega), if_pos (by omega), if_pos (by omega), if_pos h0, if_pos (by omega), w1 (by omega), ← Zev]) (Zdh a p hp hl hb d (j + 1) (by omega))
theorem ref_values_ev {a p : List Int} (h1 : Rt p) (hl : a.length = p.length) (hp : p.length ≤ 1000000) : Ev (fun k => Zak.f k a p) (sc a p) := by
  unfold Zak.f
  refine Ev.Zby (by omega) (Ev.Zby (by omega) ?_)
  have := Zdh a p h1 hl hp p.length 0 (by omega)
  rw [Int.toNat_natCast, hl]
  exact this
end G
end Go.Proofs.Yteopgafbamipeaa.P
namespace Go.Proofs.Yteopgafbamipeaa.P
open Go.RowKit Go.Proofs.YteopgafbamipeaaW.PrintWords Go.Proofs.YteopgafbamipeaaW.PrintLast Go.Proofs.YteopgafbamipeaaW.PrintMore
attribute [local go_sem] Zb4 Zb6 Zcg Zch Zbs Zbt Zb5 Zb7
set_option linter.unusedVariables false
set_option linter.unusedSimpArgs false
/-! ### Zao: function 19 -/
def Zao.l0 : Nat → List (List Int) → List (List Int) → Int → Option ((List (List Int)))
 | 0, _, _, _ => none
 | k + 1, x0, x3, x4 => if x4 < (x0.length : Int) then ((some (([] : List Int) : List Int)).bind fun y231 => (if 0 ≤ x4 then (if y231.length + (Za3 x0 x4).length < 17592186044416 then (if x3.length < 5864062014805 then (Zao.l0 k x0 (x3 ++ [(y231 ++ (Za3 x0 x4))]) (wrap64 (x4 + 1))) else (none)) else (none)) else (none))) else (some x3)
def Zao.f (k : Nat) (l0 : List (List Int)) : Option ((List (List Int))) := Zao.l0 k l0 (([] : List (List Int))) 0
theorem Zao.Za6 : ∀ k, (∀ y0 y1 y2, LeO (Zao.l0 k y0 y1 y2) (Zao.l0 (k + 1) y0 y1 y2))
 | 0 => fun _ _ _ r h => by simp [Zao.l0] at h
 | k + 1 => by
  have ih0 := Zao.Za6 k
  intro y0 y1 y2
  unfold Zao.l0
  repeat' first
  | (with_reducible exact ih0 _ _ _)
  | (with_reducible exact LeO.refl _)
  | (with_reducible exact LeO.none _)
  | (with_reducible refine LeO.ite ?_ ?_)
  | (with_reducible refine LeO.bind ?_ (fun _ => ?_))
  | exact ih0 _ _ _
  | exact LeO.none _
  | refine LeO.ite ?_ ?_
  | refine LeO.bind ?_ (fun _ => ?_)
theorem Zao.mono : ∀ a0 k, LeO (Zao.f k a0) (Zao.f (k + 1) a0) := by
 intro a0 k
 have ih0 := Zao.Za6 k
 unfold Zao.f
 repeat' first
   | (with_reducible exact ih0 _ _ _)
   | (with_reducible exact LeO.refl _)
   | (with_reducible exact LeO.none _)
   | (with_reducible refine LeO.ite ?_ ?_)
   | (with_reducible refine LeO.bind ?_ (fun _ => ?_))
   | exact ih0 _ _ _
   | exact LeO.none _
   | refine LeO.ite ?_ ?_
   | refine LeO.bind ?_ (fun _ => ?_)
set_option maxHeartbeats 8000000 in
set_option maxRecDepth 100000 in
theorem Zao.calls (k : Nat) (A0 : Option Addr) (c0 : Nat) (l0 : List (List Int)) (r : List (List Int)) (w : World) (hr0 : Kd.C (Kd.slice 3 (Kd.int .i64)) w A0 l0.length l0) (hc0 : l0.length ≤ c0) (h : Zao.f k l0 = some r) :
  Calls Try.prog 19 #[.slice A0 l0.length c0] w fun e w' => ∃ v0_ : Value, e = .returned (v0_) ∧ Kd.S (Kd.slice 3 (Kd.int .i64)) 22 w' w.heap.size (fun _ => True) v0_ r ∧ Below w.heap.size w w' := by
 have HR0 := Zaa.mk hr0
 have HC0 := Zaa.mk hc0
 clear hr0 hc0
 have HB := Zaa.mk (Below.refl w.heap.size w)
 have H : (Zao.l0 k l0 (([] : List (List Int))) 0) = some r := h
 clear h
 obtain ⟨y228, hy228⟩ : ∃ y_ : List (List Int), y_ = (([] : List (List Int))) := ⟨_, rfl⟩
 replace H : (Zao.l0 k l0 y228 0) = some r := by first | (rw [hy228]; with_reducible exact H) | (have H2_ := (Option.bind_some _ _).symm.trans H; rw [hy228]; with_reducible exact H2_) | (have H2_ := (Option.bind_some _ _).symm.trans H; with_reducible exact H2_) | with_reducible exact H | (rw [hy228]; exact H) | exact H
 have Ny228 := Zaa.mk hy228
 clear hy228
 have H' := Zaa.mk H
 clear H
 go_enter Try.func19, Try.ntmps19
 go_wp2_with (first | ((with_reducible refine Zbn (N := 5) rfl ?_); refine Kd.S_lit (Kd.slice 3 (Kd.int .i64)) _ 22 ?hg (N := 5) ?hd (xs := ([] : List (List Int))) (inner := []) (ok := fun _ => True) (okp := fun _ => True) ?hr ?hp (fun _ hk => hk) trivial (Below.refl _ _) (Nat.le_refl _) (by simp) ?_; (case hd => rfl); (case hg => rfl); (case hr => first | (go_simp; done) | (go_simp; rfl)); (case hp => exact (Reps.none _ _)); intro v229 w2 ho3 hb hg_ hnew_; clear hg_ hnew_; (first | rw [← Ny228.out] at ho3 | (simp only [Int.reduceToNat] at ho3; rw [← Ny228.out] at ho3)); have n0_ := Zaa.mk (Kd.Zed ho3 (Zas (by repeat (first | (with_reducible first | exact HB.out | apply Zac | apply Zab | apply Zad) | exact HB.out)))); have n1_ := Zaa.mk (Zan (by repeat (first | (with_reducible first | exact HB.out | apply Zac | apply Zab | apply Zad) | exact HB.out)) hb); clear HB; have HO230 := n0_; have HB := n1_; clear n0_ n1_; clear hb ho3))
 go_loopg [3, 4] k (fun kq v3 v4 w' => ∃ (x3_1 : List (List Int)) (x4_1 : Int), v4 = .int .i64 x4_1 ∧ Zaa (Zao.l0 kq l0 x3_1 x4_1 = some r) ∧ Zaa (kq ≤ k) ∧ Zaa (Kd.S (Kd.slice 3 (Kd.int .i64)) 22 w' w.heap.size (fun _ => True) v3 x3_1) ∧ Zaa (Below w.heap.size w w'))
 case atStart => exact ⟨(y228), (0), (by first | rfl | (simp; done) | (simp [*]; done)), H', ⟨Nat.le_refl _⟩, ⟨by (with_reducible repeat (first | apply Kd.S_alloc | apply Kd.S_drewN | apply Kd.Zbv)); exact HO230.out⟩, ⟨by repeat (first | (with_reducible first | exact HB.out | apply Zac | apply Zab | apply Zad) | exact HB.out)⟩⟩
 case round =>
  clear H'
  try clear c1
  try clear p2
  obtain ⟨x3_1, x4_1, rfl, HA, HK1, HO_3, HB⟩ := hrel
  cases gk with
  | zero => exact absurd HA.out (by simp [Zao.l0])
  | succ k1 =>
   have H := HA.out
   clear HA
   simp only [Zao.l0] at H
   by_cases c4 : x4_1 < (l0.length : Int)
   rotate_left
   ·rw [if_neg c4] at H
    have c4b0 : decide (x4_1 < (l0.length : Int)) = false := decide_eq_false c4
    clear c4
    obtain rfl := Option.some.inj H
    go_wp2
    go_ret
    exact ⟨_, by first | rfl | (simp [Zau, Zav] <;> rfl) | (simp [*, Zau, Zav] <;> rfl), by (with_reducible repeat (first | apply Kd.S_alloc | apply Kd.S_drewN | apply Kd.Zbv)); exact HO_3.out, by repeat (first | (with_reducible first | exact HB.out | apply Zac | apply Zab | apply Zad) | exact HB.out)⟩

   rw [if_pos c4] at H
   have c4b0 : decide (x4_1 < (l0.length : Int)) = true := decide_eq_true c4
   clear c4
   obtain ⟨y231, hy231⟩ : ∃ y_ : List Int, y_ = (([] : List Int)) := ⟨_, rfl⟩
   replace H : (if 0 ≤ x4_1 then (if y231.length + (Za3 l0 x4_1).length < 17592186044416 then (if x3_1.length < 5864062014805 then (Zao.l0 k1 l0 (x3_1 ++ [(y231 ++ (Za3 l0 x4_1))]) (wrap64 (x4_1 + 1))) else (none)) else (none)) else (none)) = some r := by first | (rw [hy231]; with_reducible exact H) | (have H2_ := (Option.bind_some _ _).symm.trans H; rw [hy231]; with_reducible exact H2_) | (have H2_ := (Option.bind_some _ _).symm.trans H; with_reducible exact H2_) | with_reducible exact H | (rw [hy231]; exact H) | exact H
   have Ny231 := Zaa.mk hy231
   clear hy231
   by_cases c5 : 0 ≤ x4_1
   rotate_left
   ·rw [if_neg c5] at H
    exact absurd H (by simp)
   rw [if_pos c5] at H
   have c5b0 : decide (0 ≤ x4_1) = true := decide_eq_true c5
   clear c5
   by_cases c6 : y231.length + (Za3 l0 x4_1).length < 17592186044416
   rotate_left
   ·rw [if_neg c6] at H
    exact absurd H (by simp)
   rw [if_pos c6] at H
   have LMc6 := Zaa.mk c6
   clear c6
   obtain ⟨y235, hy235⟩ : ∃ y_ : List Int, y_ = (y231 ++ (Za3 l0 x4_1)) := ⟨_, rfl⟩
   replace H : (if x3_1.length < 5864062014805 then (Zao.l0 k1 l0 (x3_1 ++ [y235]) (wrap64 (x4_1 + 1))) else (none)) = some r := by first | (rw [hy235]; with_reducible exact H) | (have H2_ := (Option.bind_some _ _).symm.trans H; rw [hy235]; with_reducible exact H2_) | (have H2_ := (Option.bind_some _ _).symm.trans H; with_reducible exact H2_) | with_reducible exact H | (rw [hy235]; exact H) | exact H
   have Ny235 := Zaa.mk hy235
   clear hy235
   by_cases c7 : x3_1.length < 5864062014805
   rotate_left
   ·rw [if_neg c7] at H
    exact absurd H (by simp)
   rw [if_pos c7] at H
   have LMc7 := Zaa.mk c7
   clear c7
   obtain ⟨y238, hy238⟩ : ∃ y_ : List (List Int), y_ = (x3_1 ++ [y235]) := ⟨_, rfl⟩
   replace H : (Zao.l0 k1 l0 y238 (wrap64 (x4_1 + 1))) = some r := by first | (rw [hy238]; with_reducible exact H) | (have H2_ := (Option.bind_some _ _).symm.trans H; rw [hy238]; with_reducible exact H2_) | (have H2_ := (Option.bind_some _ _).symm.trans H; with_reducible exact H2_) | with_reducible exact H | (rw [hy238]; exact H) | exact H
   have Ny238 := Zaa.mk hy238
   clear hy238
   have H' := Zaa.mk H
   clear H
   go_wp2_with (first | ((with_reducible refine Zbn (N := 13) rfl ?_); refine Kd.Zex (Kd.int .i64) _ 3 ?hg (N := 13) ?hd (xs := ([] : List Int)) (inner := []) (ok := fun _ => True) (okp := fun _ => True) ?hr ?hp (fun _ hk => hk) trivial (Below.refl _ _) (Nat.le_refl _) (by simp) ?_; (case hd => rfl); (case hg => rfl); (case hr => first | (go_simp; done) | (go_simp; rfl)); (case hp => exact (Reps.none _ _)); intro v232 w8 ho9 hb hg_ hnew_; clear hg_ hnew_; (first | rw [← Ny231.out] at ho9 | (simp only [Int.reduceToNat] at ho9; rw [← Ny231.out] at ho9)); have n0_ := Zaa.mk (Kd.Zc4 (by (with_reducible repeat (first | apply Kd.S_alloc | apply Kd.S_drewN | apply Kd.Zbv)); exact HO_3.out) (Kd.Zcb ho9) hb); have n1_ := Zaa.mk (Kd.Zbu ho9 (Zas (by repeat (first | (with_reducible first | exact HB.out | apply Zac | apply Zab | apply Zad) | exact HB.out)))); have n2_ := Zaa.mk (Zan (by repeat (first | (with_reducible first | exact HB.out | apply Zac | apply Zab | apply Zad) | exact HB.out)) hb); clear HO_3; clear HB; have HO_3 := n0_; have HO233 := n1_; have HB := n2_; clear n0_ n1_ n2_; clear hb ho9; have p234 : 0 ≤ (x4_1 : Int) := of_decide_eq_true (by first | (with_reducible assumption) | assumption); have q234 : x4_1 < (l0.length : Int) := of_decide_eq_true (by first | (with_reducible assumption) | assumption); obtain ⟨ad234, A234_0, c234_0, e234, hx234_0, hl234_0, hi234_0⟩ := Zc8 HR0.out x4_1 p234 q234; cases e234; replace hx234_0 := (HB.out.cell (World.block_lt_of_cell? w _ hx234_0)).trans hx234_0; have HR234_0 := Zaa.mk hi234_0; have HC234_0 := Zaa.mk hl234_0; clear hi234_0 hl234_0; replace p234 := eq_true p234; replace q234 := eq_true q234) | ((with_reducible refine Za1 (b := .append) (xs := #[.tmp 13, .tmp 17]) rfl ?_); at_builtin; refine Kd.Zcj (Kd.int .i64) (w0 := w) w.heap.size rfl (.tmp 13) (.tmp 17) 22 3 (.int .i64 0) 8 rfl Try.underlying22 info3 rfl (by decide) (by omega) v232 y231 (Za3 l0 x4_1) _ _ _ (fun _ => True) (fun _ => False) rfl rfl ?aO ?aR (fun _ _ h => h) (fun _ h => h.elim) ?aF ?aB ?aS ?aL ?_; (case aR => repeat (first | exact (Kd.Zaq HR234_0.out HB.out) | (with_reducible refine Kd.Za0 ?_ _) | (with_reducible refine Kd.C_drewN ?_ _) | (with_reducible refine Kd.C_drew ?_))); (case aB => exact (by repeat (first | (with_reducible first | exact HB.out | apply Zac | apply Zab | apply Zad) | exact HB.out))); (case aF => exact (fun _ _ => trivial)); (case aO => exact (by (with_reducible repeat (first | apply Kd.Zbk | apply Kd.R_drewN | apply Kd.Zbz)); exact HO233.out)); (case aS => exact (Zas (by repeat (first | (with_reducible first | exact HB.out | apply Zac | apply Zab | apply Zad) | exact HB.out)))); (case aL => have := LMc6.out; omega); intro v236 w10 ho hb hg hat; rw [← Ny235.out] at ho; have n0_ := Zaa.mk (Kd.S_after (ok := (fun _ => True)) (by (with_reducible repeat (first | apply Kd.S_alloc | apply Kd.S_drewN | apply Kd.Zbv)); exact HO_3.out) hg hat); have n1_ := Zaa.mk (hb); have n2_ := Zaa.mk (ho); clear HO_3; clear HB; clear HO233; have HO_3 := n0_; have HB := n1_; have HO237 := n2_; clear n0_ n1_ n2_; clear ho hb hg hat; obtain ⟨Ao12, co12, eo12⟩ := Kd.Zcc HO237.out; subst eo12) | ((with_reducible refine Za1 (b := .append) (xs := #[.tmp 12, .tmp 19]) rfl ?_); at_builtin; refine Kd.Zes (Kd.slice 3 (Kd.int .i64)) (w0 := w) w.heap.size rfl (.tmp 12) (.tmp 19) 32 22 (.slice none 0 0) 24 rfl Try.underlying32 Zcm rfl (by decide) (by omega) u3 x3_1 y235 [.slice Ao12 y235.length co12] (fun _ => True) (fun k_ => some k_ = (.slice Ao12 y235.length co12 : Value).ownBlock) rfl rfl ?aP (fun k_ hk_ => ((Kd.Zbf (ok' := fun k_ => ((fun _ => True)) k_ ∧ some k_ ≠ (u3 : Value).ownBlock) (Kd.Zb3 (HO237.out) (Kd.Zcl HO_3.out) (by decide)) (fun k_ hk => ⟨trivial, hk.2⟩))).1 k_ hk_.symm) ?aF ?aO ?aB ?aS ?aL ?_; (case aP => exact Kd.M_row (Kd.Zbf (Kd.Zc9 rfl (Kd.Zbf (ok' := fun k_ => ((fun _ => True)) k_ ∧ some k_ ≠ (u3 : Value).ownBlock) (Kd.Zb3 (HO237.out) (Kd.Zcl HO_3.out) (by decide)) (fun k_ hk => ⟨trivial, hk.2⟩))) (fun _ h_ => h_))); (case aB => exact (by repeat (first | (with_reducible first | exact HB.out | apply Zac | apply Zab | apply Zad) | exact HB.out))); (case aF => exact (fun _ _ => trivial)); (case aO => exact (by (with_reducible repeat (first | apply Kd.S_alloc | apply Kd.S_drewN | apply Kd.Zbv)); exact Kd.Zdp HO_3.out (fun k_ hk => ⟨trivial, fun e_ => hk.2 e_⟩))); (case aS => exact (Zas (by repeat (first | (with_reducible first | exact HB.out | apply Zac | apply Zab | apply Zad) | exact HB.out)))); (case aL => have := LMc7.out; omega); intro v239 w11 ho hb hg hat; rw [← Ny238.out] at ho; have n0_ := Zaa.mk (hb); have n1_ := Zaa.mk (ho); clear HB; clear HO_3; clear HO237; have HB := n0_; have HO240 := n1_; clear n0_ n1_; clear ho hb hg hat))
   go_roundg k1
   case measure => have := HK1.out; omega
   case rel => exact ⟨(y238), (wrap64 (x4_1 + 1)), (by first | rfl | (simp; done) | (simp [*]; done)), H', ⟨by have := HK1.out; omega⟩, ⟨by (with_reducible repeat (first | apply Kd.S_alloc | apply Kd.S_drewN | apply Kd.Zbv)); exact HO240.out⟩, ⟨by repeat (first | (with_reducible first | exact HB.out | apply Zac | apply Zab | apply Zad) | exact HB.out)⟩⟩
end Go.Proofs.Yteopgafbamipeaa.P
/- Plain: a copy of a list of lists (secateurref04.Nums). -/
namespace Go.Proofs.Yteopgafbamipeaa.P
open Go.RowKit Go.Proofs.YteopgafbamipeaaW.PrintWords Go.Proofs.YteopgafbamipeaaW.PrintLast Go.Proofs.YteopgafbamipeaaW.PrintMore
set_option linter.unusedVariables false
set_option linter.unusedSimpArgs false

theorem Zcy (xs : List (List Int)) (n : Nat) (h : n < xs.length) : Za3 xs (n : Int) = xs[n] := by simp [Za3, List.getD_eq_getElem?_getD, List.getElem?_eq_getElem h]
theorem ref_Copy_l (l : List (List Int)) (hl : l.length < 5864062014805) (hin : ∀ x ∈ l, x.length < 17592186044416) : ∀ (m n : Nat), n + m = l.length → Ev (fun k => Zao.l0 k l (l.take n) (n : Int)) l := by
  intro m
  induction m with
  | zero =>
    intro n h
    rw [List.take_of_length_le (by omega)]
    exact Ev.step (fun k => by rw [Zao.l0, if_neg (by omega)]) (Ev.pure _)
  | succ m ih =>
    intro n h
    have hn : n < l.length := by omega
    have hx := hin _ (List.getElem_mem hn)
    have hstep := ih (n + 1) (by omega)
    rw [List.take_succ_eq_append_getElem hn] at hstep
    exact Ev.step (fun k => by rw [Zao.l0, if_pos (by omega), Option.bind_some, if_pos (by omega), Zcy l n hn, if_pos (by simp; omega), if_pos (by rw [List.length_take]; omega), w1 (by omega), List.nil_append]) hstep
theorem ref_Copy (l : List (List Int)) (hl : l.length < 5864062014805) (hin : ∀ x ∈ l, x.length < 17592186044416) : Ev (fun k => Zao.f k l) l := ref_Copy_l l hl hin l.length 0 (by omega)
end Go.Proofs.Yteopgafbamipeaa.P
/- Plain: the document's comparisons of lists of lists. -/
namespace Go.Proofs.Yteopgafbamipeaa.P
open Go.RowKit Go.Proofs.YteopgafbamipeaaW.PrintWords Go.Proofs.YteopgafbamipeaaW.PrintLast Go.Proofs.YteopgafbamipeaaW.PrintMore
set_option linter.unusedVariables false
set_option linter.unusedSimpArgs false

theorem ref_Lists_l (a b : List (List Int)) (ha : a.length < 4611686018427387904) (hin : ∀ x ∈ a, x.length < 4611686018427387904) (hl : a.length = b.length) : ∀ (r n : Nat), n + r = a.length → Ev (fun k => Zag.l0 k a b (n : Int)) (decide (a.drop n = b.drop n)) := by
  intro r
  induction r with
  | zero =>
    intro n h
    rw [List.drop_of_length_le (by omega), List.drop_of_length_le (by omega)]
    exact Ev.step (G := fun _ => some true) (fun k => by rw [Zag.l0, if_neg (by omega)]) (Ev.const (by simp))
  | succ r ih =>
    intro n h
    have hna : n < a.length := by omega
    have hnb : n < b.length := by omega
    have hN := ref_Nums a[n] b[n] (hin _ (List.getElem_mem hna))
    refine Ev.step (fun k => by rw [Zag.l0, if_pos (by omega), if_pos (by omega), if_pos (by omega), Zcy a n hna, Zcy b n hnb, w1 (by omega)]) (Ev.bind hN ?_)
    rw [List.drop_eq_getElem_cons hna, List.drop_eq_getElem_cons hnb]
    by_cases e : a[n] = b[n]
    · simp only [e, decide_true, if_true, List.cons.injEq, true_and]
      exact ih (n + 1) (by omega)
    simp only [e, decide_false, Bool.false_eq_true, if_false, List.cons.injEq, false_and]
    exact Ev.pure _
theorem ref_Lists (a b : List (List Int)) (ha : a.length < 4611686018427387904) (hin : ∀ x ∈ a, x.length < 4611686018427387904) : Ev (fun k => Zag.f k a b) (decide (a = b)) := by
  unfold Zag.f
  by_cases h : a.length = b.length
  · exact Ev.Zby (by omega) (ref_Lists_l a b ha hin h a.length 0 (by omega))
  have : decide (a = b) = false := decide_eq_false (fun e => h (by rw [e]))
  rw [this]
  exact Ev.Zcf (by omega) (Ev.pure _)
theorem Zen {a b : List (List Int)} (h : a = b) (ha : a.length < 4611686018427387904) (hin : ∀ x ∈ a, x.length < 4611686018427387904) : Ev (fun k => Zag.f k a b) true := by
  have := ref_Lists a b ha hin
  rwa [decide_eq_true h] at this
/-- At most n lists of at most m numbers. -/
def cutL (n m : Nat) (l : List (List Int)) : List (List Int) := (l.take n).map (·.take m)
theorem Ze2 (n m : Nat) (l : List (List Int)) : (cutL n m l).length ≤ n := by simp [cutL]; omega
theorem cutL_in {n m : Nat} {l : List (List Int)} {x : List Int} (h : x ∈ cutL n m l) : x.length ≤ m := by
  obtain ⟨y, _, rfl⟩ := List.mem_map.1 h
  simp; omega
theorem mn_len {x : List Int} {m : Nat} : mn (x.length : Int) (m : Int) = ((min x.length m : Nat) : Int) := by unfold mn; omega
theorem sd_in {l : List (List Int)} {n : Nat} (hin : ∀ x ∈ l, x.length ≤ n) : ∀ x ∈ sdL l, x.length ≤ n := fun x hx => hin x ((Zcn x l).1 hx)
theorem cutL_step {n m : Nat} {l : List (List Int)} (hn : n < l.length) : cutL (n + 1) m l = cutL n m l ++ [[] ++ l[n].take ((mn (l[n].length : Int) (m : Int)).toNat)] := by
  unfold cutL
  rw [List.take_succ_eq_append_getElem hn, List.map_append, mn_len, Int.toNat_natCast]
  simp [List.take_eq_take_iff]
  omega
end Go.Proofs.Yteopgafbamipeaa.P
namespace Go.Proofs.Yteopgafbamipeaa.P
open Go.RowKit Go.Proofs.YteopgafbamipeaaW.PrintWords Go.Proofs.YteopgafbamipeaaW.PrintLast Go.Proofs.YteopgafbamipeaaW.PrintMore
attribute [local go_sem] Zb4 Zb6 Zcg Zch Zbs Zbt Zb5 Zb7
set_option linter.unusedVariables false
set_option linter.unusedSimpArgs false
/-! ### Zai: function 18 -/
def Zai.l0 : Nat → List (List Int) → List (List Int) → Int → Option ((List (List Int)))
 | 0, _, _, _ => none
 | k + 1, x0, x3, x4 => if x4 < (x0.length : Int) then (if x4 < 4 then ((some (([] : List Int) : List Int)).bind fun y216 => (if 0 ≤ x4 then (if 0 ≤ (mn ((Za3 x0 x4).length : Int) 6) then (if (mn ((Za3 x0 x4).length : Int) 6) ≤ ((Za3 x0 x4).length : Int) then (if y216.length + ((Za3 x0 x4).take ((mn ((Za3 x0 x4).length : Int) 6) : Int).toNat).length < 17592186044416 then (if x3.length < 5864062014805 then (Zai.l0 k x0 (x3 ++ [(y216 ++ ((Za3 x0 x4).take ((mn ((Za3 x0 x4).length : Int) 6) : Int).toNat))]) (wrap64 (x4 + 1))) else (none)) else (none)) else (none)) else (none)) else (none))) else (some x3)) else (some x3)
def Zai.f (k : Nat) (l0 : List (List Int)) : Option ((List (List Int))) := Zai.l0 k l0 (([] : List (List Int))) 0
theorem Zai.Za6 : ∀ k, (∀ y0 y1 y2, LeO (Zai.l0 k y0 y1 y2) (Zai.l0 (k + 1) y0 y1 y2))
 | 0 => fun _ _ _ r h => by simp [Zai.l0] at h
 | k + 1 => by
  have ih0 := Zai.Za6 k
  intro y0 y1 y2
  unfold Zai.l0
  repeat' first
  | (with_reducible exact ih0 _ _ _)
  | (with_reducible exact LeO.refl _)
  | (with_reducible exact LeO.none _)
  | (with_reducible refine LeO.ite ?_ ?_)
  | (with_reducible refine LeO.bind ?_ (fun _ => ?_))
  | exact ih0 _ _ _
  | exact LeO.none _
  | refine LeO.ite ?_ ?_
  | refine LeO.bind ?_ (fun _ => ?_)
theorem Zai.mono : ∀ a0 k, LeO (Zai.f k a0) (Zai.f (k + 1) a0) := by
 intro a0 k
 have ih0 := Zai.Za6 k
 unfold Zai.f
 repeat' first
   | (with_reducible exact ih0 _ _ _)
   | (with_reducible exact LeO.refl _)
   | (with_reducible exact LeO.none _)
   | (with_reducible refine LeO.ite ?_ ?_)
   | (with_reducible refine LeO.bind ?_ (fun _ => ?_))
   | exact ih0 _ _ _
   | exact LeO.none _
   | refine LeO.ite ?_ ?_
   | refine LeO.bind ?_ (fun _ => ?_)
def Zai.T5 : Bool × List (List Nat × List Nat) := (true, [([], []), ([], []), ([], []), ([], []), ([2, 3], [2, 3]), ([4], [4]), ([], []), ([], []), ([6, 7], [6, 7]), ([8], [8]), ([9], [9]), ([10], [10]), ([5, 11], [5, 11]), ([1, 12], [1, 12]), ([13], [13]), ([0, 14, 13], [0, 14]), ([15, 15, 0, 1, 2, 3, 4, 5, 6, 7, 8, 9, 10, 11, 12, 13, 14, 15], [0, 15])])
def Zai.B5 : List Nat := [0, 0, 0, 0, 12, 28, 0, 0, 192, 448, 960, 1984, 4092, 8190, 16382, 32767, 65535]
theorem Zai.tab5 : rtab .any (opsOf Try.f18 5) = Zai.T5 := by kernel_rfl
theorem Zai.bits5 : waitsOk Zai.T5.2 Zai.B5 = true := by kernel_rfl
set_option maxHeartbeats 8000000 in
set_option maxRecDepth 100000 in
theorem Zai.calls (k : Nat) (A0 : Option Addr) (c0 : Nat) (l0 : List (List Int)) (r : List (List Int)) (w : World) (hr0 : Kd.C (Kd.slice 3 (Kd.int .i64)) w A0 l0.length l0) (hc0 : l0.length ≤ c0) (h : Zai.f k l0 = some r) :
  Calls Try.prog 18 #[.slice A0 l0.length c0] w fun e w' => ∃ v0_ : Value, e = .returned (v0_) ∧ Kd.S (Kd.slice 3 (Kd.int .i64)) 22 w' w.heap.size (fun _ => True) v0_ r ∧ Below w.heap.size w w' := by
 have HR0 := Zaa.mk hr0
 have HC0 := Zaa.mk hc0
 clear hr0 hc0
 have HB := Zaa.mk (Below.refl w.heap.size w)
 have H : (Zai.l0 k l0 (([] : List (List Int))) 0) = some r := h
 clear h
 obtain ⟨y213, hy213⟩ : ∃ y_ : List (List Int), y_ = (([] : List (List Int))) := ⟨_, rfl⟩
 replace H : (Zai.l0 k l0 y213 0) = some r := by first | (rw [hy213]; with_reducible exact H) | (have H2_ := (Option.bind_some _ _).symm.trans H; rw [hy213]; with_reducible exact H2_) | (have H2_ := (Option.bind_some _ _).symm.trans H; with_reducible exact H2_) | with_reducible exact H | (rw [hy213]; exact H) | exact H
 have Ny213 := Zaa.mk hy213
 clear hy213
 have H' := Zaa.mk H
 clear H
 go_enter Try.func18, Try.ntmps18
 go_wp2_with (first | ((with_reducible refine Zbn (N := 5) rfl ?_); refine Kd.S_lit (Kd.slice 3 (Kd.int .i64)) _ 22 ?hg (N := 5) ?hd (xs := ([] : List (List Int))) (inner := []) (ok := fun _ => True) (okp := fun _ => True) ?hr ?hp (fun _ hk => hk) trivial (Below.refl _ _) (Nat.le_refl _) (by simp) ?_; (case hd => rfl); (case hg => rfl); (case hr => first | (go_simp; done) | (go_simp; rfl)); (case hp => exact (Reps.none _ _)); intro v214 w2 ho3 hb hg_ hnew_; clear hg_ hnew_; (first | rw [← Ny213.out] at ho3 | (simp only [Int.reduceToNat] at ho3; rw [← Ny213.out] at ho3)); have n0_ := Zaa.mk (Kd.Zed ho3 (Zas (by repeat (first | (with_reducible first | exact HB.out | apply Zac | apply Zab | apply Zad) | exact HB.out)))); have n1_ := Zaa.mk (Zan (by repeat (first | (with_reducible first | exact HB.out | apply Zac | apply Zab | apply Zad) | exact HB.out)) hb); clear HB; have HO215 := n0_; have HB := n1_; clear n0_ n1_; clear hb ho3))
 go_loopg [3, 4] k (fun kq v3 v4 w' => ∃ (x3_1 : List (List Int)) (x4_1 : Int), v4 = .int .i64 x4_1 ∧ Zaa (Zai.l0 kq l0 x3_1 x4_1 = some r) ∧ Zaa (kq ≤ k) ∧ Zaa (Kd.S (Kd.slice 3 (Kd.int .i64)) 22 w' w.heap.size (fun _ => True) v3 x3_1) ∧ Zaa (Below w.heap.size w w'))
 case atStart => exact ⟨(y213), (0), (by first | rfl | (simp; done) | (simp [*]; done)), H', ⟨Nat.le_refl _⟩, ⟨by (with_reducible repeat (first | apply Kd.S_alloc | apply Kd.S_drewN | apply Kd.Zbv)); exact HO215.out⟩, ⟨by repeat (first | (with_reducible first | exact HB.out | apply Zac | apply Zab | apply Zad) | exact HB.out)⟩⟩
 case round =>
  clear H'
  try clear c1
  try clear p2
  obtain ⟨x3_1, x4_1, rfl, HA, HK1, HO_3, HB⟩ := hrel
  cases gk with
  | zero => exact absurd HA.out (by simp [Zai.l0])
  | succ k1 =>
   have H := HA.out
   clear HA
   simp only [Zai.l0] at H
   by_cases c4 : x4_1 < (l0.length : Int)
   rotate_left
   ·rw [if_neg c4] at H
    have c4b0 : decide (x4_1 < (l0.length : Int)) = false := decide_eq_false c4
    clear c4
    obtain rfl := Option.some.inj H
    go_wp2
    go_ret
    exact ⟨_, by first | rfl | (simp [Zau, Zav] <;> rfl) | (simp [*, Zau, Zav] <;> rfl), by (with_reducible repeat (first | apply Kd.S_alloc | apply Kd.S_drewN | apply Kd.Zbv)); exact HO_3.out, by repeat (first | (with_reducible first | exact HB.out | apply Zac | apply Zab | apply Zad) | exact HB.out)⟩

   rw [if_pos c4] at H
   have c4b0 : decide (x4_1 < (l0.length : Int)) = true := decide_eq_true c4
   clear c4
   by_cases c5 : x4_1 < 4
   rotate_left
   ·rw [if_neg c5] at H
    have c5b0 : decide (x4_1 < 4) = false := decide_eq_false c5
    clear c5
    obtain rfl := Option.some.inj H
    go_wp2
    go_ret
    exact ⟨_, by first | rfl | (simp [Zau, Zav] <;> rfl) | (simp [*, Zau, Zav] <;> rfl), by (with_reducible repeat (first | apply Kd.S_alloc | apply Kd.S_drewN | apply Kd.Zbv)); exact HO_3.out, by repeat (first | (with_reducible first | exact HB.out | apply Zac | apply Zab | apply Zad) | exact HB.out)⟩
   rw [if_pos c5] at H
   have c5b0 : decide (x4_1 < 4) = true := decide_eq_true c5
   clear c5
   obtain ⟨y216, hy216⟩ : ∃ y_ : List Int, y_ = (([] : List Int)) := ⟨_, rfl⟩
   replace H : (if 0 ≤ x4_1 then (if 0 ≤ (mn ((Za3 l0 x4_1).length : Int) 6) then (if (mn ((Za3 l0 x4_1).length : Int) 6) ≤ ((Za3 l0 x4_1).length : Int) then (if y216.length + ((Za3 l0 x4_1).take ((mn ((Za3 l0 x4_1).length : Int) 6) : Int).toNat).length < 17592186044416 then (if x3_1.length < 5864062014805 then (Zai.l0 k1 l0 (x3_1 ++ [(y216 ++ ((Za3 l0 x4_1).take ((mn ((Za3 l0 x4_1).length : Int) 6) : Int).toNat))]) (wrap64 (x4_1 + 1))) else (none)) else (none)) else (none)) else (none)) else (none)) = some r := by first | (rw [hy216]; with_reducible exact H) | (have H2_ := (Option.bind_some _ _).symm.trans H; rw [hy216]; with_reducible exact H2_) | (have H2_ := (Option.bind_some _ _).symm.trans H; with_reducible exact H2_) | with_reducible exact H | (rw [hy216]; exact H) | exact H
   have Ny216 := Zaa.mk hy216
   clear hy216
   by_cases c6 : 0 ≤ x4_1
   rotate_left
   ·rw [if_neg c6] at H
    exact absurd H (by simp)
   rw [if_pos c6] at H
   have c6b0 : decide (0 ≤ x4_1) = true := decide_eq_true c6
   clear c6
   obtain ⟨ji7, hji7⟩ : ∃ j_ : Int, (mn ((Za3 l0 x4_1).length : Int) 6) = j_ := ⟨_, rfl⟩
   replace H : (if 0 ≤ (ji7) then (if (ji7) ≤ ((Za3 l0 x4_1).length : Int) then (if y216.length + ((Za3 l0 x4_1).take ((ji7) : Int).toNat).length < 17592186044416 then (if x3_1.length < 5864062014805 then (Zai.l0 k1 l0 (x3_1 ++ [(y216 ++ ((Za3 l0 x4_1).take ((ji7) : Int).toNat))]) (wrap64 (x4_1 + 1))) else (none)) else (none)) else (none)) else (none)) = some r := by first | (rw [hji7] at H; exact H) | (simp only [hji7] at H ⊢; exact H)
   have hji7_ : (if 6 < ((Za3 l0 x4_1).length : Int) then 6 else ((Za3 l0 x4_1).length : Int)) = ji7 := hji7
   by_cases c8 : 0 ≤ (ji7)
   rotate_left
   ·rw [if_neg c8] at H
    exact absurd H (by simp)
   rw [if_pos c8] at H
   have c8b0 := eq_true c8
   have c8b1 : decide (0 ≤ (ji7)) = true := decide_eq_true c8
   clear c8
   by_cases c9 : (ji7) ≤ ((Za3 l0 x4_1).length : Int)
   rotate_left
   ·rw [if_neg c9] at H
    exact absurd H (by simp)
   rw [if_pos c9] at H
   have c9b0 := eq_true c9
   have c9b1 : decide ((ji7) ≤ ((Za3 l0 x4_1).length : Int)) = true := decide_eq_true c9
   clear c9
   by_cases c10 : y216.length + ((Za3 l0 x4_1).take ((ji7) : Int).toNat).length < 17592186044416
   rotate_left
   ·rw [if_neg c10] at H
    exact absurd H (by simp)
   rw [if_pos c10] at H
   have LMc10 := Zaa.mk c10
   clear c10
   obtain ⟨y222, hy222⟩ : ∃ y_ : List Int, y_ = (y216 ++ ((Za3 l0 x4_1).take ((ji7) : Int).toNat)) := ⟨_, rfl⟩
   replace H : (if x3_1.length < 5864062014805 then (Zai.l0 k1 l0 (x3_1 ++ [y222]) (wrap64 (x4_1 + 1))) else (none)) = some r := by first | (rw [hy222]; with_reducible exact H) | (have H2_ := (Option.bind_some _ _).symm.trans H; rw [hy222]; with_reducible exact H2_) | (have H2_ := (Option.bind_some _ _).symm.trans H; with_reducible exact H2_) | with_reducible exact H | (rw [hy222]; exact H) | exact H
   have Ny222 := Zaa.mk hy222
   clear hy222
   by_cases c11 : x3_1.length < 5864062014805
   rotate_left
   ·rw [if_neg c11] at H
    exact absurd H (by simp)
   rw [if_pos c11] at H
   have LMc11 := Zaa.mk c11
   clear c11
   obtain ⟨y225, hy225⟩ : ∃ y_ : List (List Int), y_ = (x3_1 ++ [y222]) := ⟨_, rfl⟩
   replace H : (Zai.l0 k1 l0 y225 (wrap64 (x4_1 + 1))) = some r := by first | (rw [hy225]; with_reducible exact H) | (have H2_ := (Option.bind_some _ _).symm.trans H; rw [hy225]; with_reducible exact H2_) | (have H2_ := (Option.bind_some _ _).symm.trans H; with_reducible exact H2_) | with_reducible exact H | (rw [hy225]; exact H) | exact H
   have Ny225 := Zaa.mk hy225
   clear hy225
   have H' := Zaa.mk H
   clear H
   try go_wp2
   have n0_ := Zaa.mk (Kd.Zbv HO_3.out)
   have n1_ := Zaa.mk (Zad HB.out)
   clear HO_3
   clear HB
   have HO_3 := n0_
   have HB := n1_
   clear n0_ n1_
   have p219 : 0 ≤ (x4_1 : Int) := of_decide_eq_true (by first | (with_reducible assumption) | assumption)
   have q219 : x4_1 < (l0.length : Int) := of_decide_eq_true (by first | (with_reducible assumption) | assumption)
   obtain ⟨ad219, A219_0, c219_0, e219, hx219_0, hl219_0, hi219_0⟩ := Zc8 HR0.out x4_1 p219 q219
   have hw219_0 := hx219_0
   cases e219
   replace hx219_0 := (HB.out.cell (World.block_lt_of_cell? w _ hx219_0)).trans hx219_0
   have HR219_0 := Zaa.mk hi219_0
   have HC219_0 := Zaa.mk hl219_0
   clear hi219_0 hl219_0
   replace p219 := eq_true p219
   replace q219 := eq_true q219
   have p220 : 0 ≤ (x4_1 : Int) := of_decide_eq_true (by first | (with_reducible assumption) | assumption)
   have q220 : x4_1 < (l0.length : Int) := of_decide_eq_true (by first | (with_reducible assumption) | assumption)
   obtain ⟨ad220, A220_0, c220_0, e220, hx220_0, hl220_0, hi220_0⟩ := Zc8 HR0.out x4_1 p220 q220
   have hw220_0 := hx220_0
   obtain rfl : ad219 = ad220 := (by injection e220)
   replace hx220_0 := (HB.out.cell (World.block_lt_of_cell? w _ hx220_0)).trans hx220_0
   have HR220_0 := Zaa.mk hi220_0
   have HC220_0 := Zaa.mk hl220_0
   clear hi220_0 hl220_0
   replace p220 := eq_true p220
   replace q220 := eq_true q220
   have ea_ := Option.some.inj (hx219_0.symm.trans hx220_0)
   injection ea_ with ea_ en_ ec_
   subst ea_
   subst ec_
   clear en_
   obtain ⟨i013, hi013, _, hsz13, _⟩ := info_parts info3
   obtain ⟨hcut13, hA13, hC13⟩ := print_take_of (P := Try.prog) (Value.int .i64) 0 22 3 .i64 Try.underlying22 hi013 hsz13 A219_0 c219_0 (Za3 l0 x4_1) (ji7) (of_decide_eq_true (by first | (with_reducible assumption) | assumption)) (of_decide_eq_true (by first | (with_reducible assumption) | assumption)) HC219_0.out
   have HR221 := Zaa.mk (Kd.C_of_reads (h1 := fun _ => rfl) (hA13 _ (Kd.Zf2 HR219_0.out)))
   have HC221 := Zaa.mk hC13
   clear hA13 hC13 hi013 hsz13
   refine start_ (n := 17) (S := fun w' => w'.cell? (ad219.add (x4_1).toNat) = some (.slice A219_0 (Za3 l0 x4_1).length c219_0) ∧ w'.cell? (ad219.add (x4_1).toNat) = some (.slice A219_0 (Za3 l0 x4_1).length c219_0)) (ds := []) #[false, false, false, false, false, false, false, false, false, false, false, false, false, false, false, false, false] (by kernel_rfl) rfl rfl ⟨((HB.out.cell (World.block_lt_of_cell? w _ hw219_0)).trans hw219_0), ((HB.out.cell (World.block_lt_of_cell? w _ hw220_0)).trans hw220_0)⟩ (fun hHeld => ?_); refine Zfm Zai.tab5 Zai.bits5 (fun HT_ HW_ => ?_)
   generalize wr.drew = w12 at HO_3 HB HR219_0 HR220_0 HR221 hx219_0 hx220_0 hHeld ⊢
   refine Zc (i := 0) (N := some 16) (v := ?_) (a' := ?_) #[true, false, false, false, false, false, false, false, false, false, false, false, false, false, false, false, false] rfl rfl (Zbj HT_.out (by kernel_rfl)) (fun _ _ _ h => h) (Or.inl ⟨by rfl, ?_⟩) ?_ ?_
   rotate_left
   ·intro w'
    go_simp
    with_reducible rfl
   rotate_left
   ·simp only [Act.put, List.setIfInBounds_toArray, List.set_cons_zero, List.set_cons_succ, Zbe, Zbg]
    rfl
   refine Zc (i := 2) (N := some 18) (v := ?_) (a' := ?_) #[true, false, true, false, false, false, false, false, false, false, false, false, false, false, false, false, false] rfl rfl (Zbj HT_.out (by kernel_rfl)) (fun _ _ _ h => h) (Or.inl ⟨by rfl, ?_⟩) ?_ ?_
   rotate_left
   ·intro w'
    go_simp
    with_reducible rfl
   rotate_left
   ·simp only [Act.put, List.setIfInBounds_toArray, List.set_cons_zero, List.set_cons_succ, Zbe, Zbg]
    rfl
   refine Zc (i := 3) (N := some 19) (v := ?_) (a' := ?_) #[true, false, true, true, false, false, false, false, false, false, false, false, false, false, false, false, false] rfl rfl (Zbj HT_.out (by kernel_rfl)) (fun _ _ _ h => h) (Or.inl ⟨by rfl, ?_⟩) ?_ ?_
   rotate_left
   ·intro w'
    go_simp
    with_reducible rfl
   rotate_left
   ·simp only [Act.put, List.setIfInBounds_toArray, List.set_cons_zero, List.set_cons_succ, Zbe, Zbg]
    rfl
   refine Zc (i := 4) (N := some 20) (v := ?_) (a' := ?_) #[true, false, true, true, true, false, false, false, false, false, false, false, false, false, false, false, false] rfl rfl (Zbj HT_.out (by kernel_rfl)) (fun _ _ _ h => h) (Or.inl ⟨by rfl, ?_⟩) ?_ ?_
   rotate_left
   ·intro w'
    go_simp
    with_reducible rfl
   rotate_left
   ·simp only [Act.put, List.setIfInBounds_toArray, List.set_cons_zero, List.set_cons_succ, Zbe, Zbg]
    rfl
   refine Zc (i := 6) (N := some 22) (v := ?_) (a' := ?_) #[true, false, true, true, true, false, true, false, false, false, false, false, false, false, false, false, false] rfl rfl (Zbj HT_.out (by kernel_rfl)) (fun _ _ _ h => h) (Or.inl ⟨by rfl, ?_⟩) ?_ ?_
   rotate_left
   ·intro w'
    go_simp
    with_reducible rfl
   rotate_left
   ·simp only [Act.put, List.setIfInBounds_toArray, List.set_cons_zero, List.set_cons_succ, Zbe, Zbg]
    rfl
   refine Zc (i := 7) (N := some 23) (v := ?_) (a' := ?_) #[true, false, true, true, true, false, true, true, false, false, false, false, false, false, false, false, false] rfl rfl (Zbj HT_.out (by kernel_rfl)) (fun _ _ _ h => h) (Or.inl ⟨by rfl, ?_⟩) ?_ ?_
   rotate_left
   ·intro w'
    go_simp
    with_reducible rfl
   rotate_left
   ·simp only [Act.put, List.setIfInBounds_toArray, List.set_cons_zero, List.set_cons_succ, Zbe, Zbg]
    rfl
   refine Zc (i := 8) (N := some 24) (v := ?_) (a' := ?_) #[true, false, true, true, true, false, true, true, true, false, false, false, false, false, false, false, false] rfl rfl (Zbj HT_.out (by kernel_rfl)) (fun _ _ _ h => h) (Or.inl ⟨by rfl, ?_⟩) ?_ ?_
   rotate_left
   ·intro w'
    go_simp
    with_reducible rfl
   rotate_left
   ·simp only [Act.put, List.setIfInBounds_toArray, List.set_cons_zero, List.set_cons_succ, Zbe, Zbg]
    rfl
   refine take_ (i := 5) (N := some 21) (v := ?_) (a' := ?_) #[true, false, true, true, true, true, true, true, true, false, false, false, false, false, false, false, false] rfl rfl (Zdn HT_.out HW_.out (by kernel_rfl)) (fun _ _ _ h => h) (Or.inl ⟨by rfl, ?_⟩) hHeld ?_ ?_
   rotate_left
   ·rintro w' ⟨s0, s1⟩
    go_simp
    with_reducible rfl
   rotate_left
   ·simp only [Act.put, List.setIfInBounds_toArray, List.set_cons_zero, List.set_cons_succ, Zbe, Zbg]
    rfl
   refine take_ (i := 9) (N := some 25) (v := ?_) (a' := ?_) #[true, false, true, true, true, true, true, true, true, true, false, false, false, false, false, false, false] rfl rfl (Zdn HT_.out HW_.out (by kernel_rfl)) (fun _ _ _ h => h) (Or.inl ⟨by rfl, ?_⟩) hHeld ?_ ?_
   rotate_left
   ·rintro w' ⟨s0, s1⟩
    go_simp
    with_reducible rfl
   rotate_left
   ·simp only [Act.put, List.setIfInBounds_toArray, List.set_cons_zero, List.set_cons_succ, Zbe, Zbg]
    rfl
   refine Zc (i := 10) (N := some 26) (v := ?_) (a' := ?_) #[true, false, true, true, true, true, true, true, true, true, true, false, false, false, false, false, false] rfl rfl (Zbj HT_.out (by kernel_rfl)) (fun _ _ _ h => h) (Or.inl ⟨by rfl, ?_⟩) ?_ ?_
   rotate_left
   ·intro w'
    go_simp
    with_reducible rfl
   rotate_left
   ·simp only [Act.put, List.setIfInBounds_toArray, List.set_cons_zero, List.set_cons_succ, Zbe, Zbg]
    rfl
   refine Zc (i := 11) (N := some 27) (v := ?_) (a' := ?_) #[true, false, true, true, true, true, true, true, true, true, true, true, false, false, false, false, false] rfl rfl (Zbj HT_.out (by kernel_rfl)) (fun _ _ _ h => h) (Or.inl ⟨by rfl, ?_⟩) ?_ ?_
   rotate_left
   ·intro w'
    go_simp
    with_reducible rfl
   rotate_left
   ·simp only [Act.put, List.setIfInBounds_toArray, List.set_cons_zero, List.set_cons_succ, Zbe, Zbg]
    rfl
   refine Zc (i := 12) (N := some 28) (v := ?_) (a' := ?_) #[true, false, true, true, true, true, true, true, true, true, true, true, true, false, false, false, false] rfl rfl (Zbj HT_.out (by kernel_rfl)) (fun _ _ _ h => h) (Or.inl ⟨by rfl, ?_⟩) ?_ ?_
   rotate_left
   ·intro w'
    go_simp
    with_reducible rfl
   rotate_left
   ·simp only [Act.put, List.setIfInBounds_toArray, List.set_cons_zero, List.set_cons_succ, Zbe, Zbg]
    rfl
   refine one_ (i := 1) (N := some 17) #[true, true, true, true, true, true, true, true, true, true, true, true, true, false, false, false, false] rfl rfl (Zf1 HT_.out (by kernel_rfl)) (by decide) (fun K hK => ?_)
   refine Kd.R_lit_step (Kd.int .i64) _ 3 ?hg (N := 17) ?hd (xs := ([] : List Int)) (inner := []) (ok := fun _ => True) (okp := fun _ => True) ?hr ?hp (fun _ hk => hk) trivial (Below.refl _ _) (Nat.le_refl _) (by simp) ?_; (case hd => rfl); (case hg => rfl); (case hr => first | (go_simp; done) | (go_simp; rfl)); (case hp => exact (Reps.none _ _))
   intro v217 w14 ho15 hb hg_ hnew_
   clear hg_ hnew_
   (first | rw [← Ny216.out] at ho15 | (simp only [Int.reduceToNat] at ho15; rw [← Ny216.out] at ho15))
   have n0_ := Zaa.mk (Kd.Zc4 (by (with_reducible repeat (first | apply Kd.S_alloc | apply Kd.S_drewN | apply Kd.Zbv)); exact HO_3.out) (Kd.Zcb ho15) hb)
   have n1_ := Zaa.mk (Kd.Zbu ho15 (Zas (by repeat (first | (with_reducible first | exact HB.out | apply Zac | apply Zab | apply Zad) | exact HB.out))))
   have n2_ := Zaa.mk (Zan (by repeat (first | (with_reducible first | exact HB.out | apply Zac | apply Zab | apply Zad) | exact HB.out)) hb)
   clear HO_3
   clear HB
   have HO_3 := n0_
   have HO218 := n1_
   have HB := n2_
   clear n0_ n1_ n2_
   clear hb ho15
   refine hK.out _ _ ⟨((HB.out.cell (World.block_lt_of_cell? w _ hw219_0)).trans hw219_0), ((HB.out.cell (World.block_lt_of_cell? w _ hw220_0)).trans hw220_0)⟩ (fun hHeld => ?_)
   clear hK K
   refine norm_ (a' := ?_) ?_ ?_
   rotate_left
   ·show Act.put _ (some 17) _ = _
    simp only [Act.put, List.setIfInBounds_toArray, List.set_cons_zero, List.set_cons_succ, Zbe, Zbg]
    rfl
   refine one_ (i := 13) (N := some 29) #[true, true, true, true, true, true, true, true, true, true, true, true, true, true, false, false, false] rfl rfl (Zf1 HT_.out (by kernel_rfl)) (by decide) (fun K hK => ?_)
   refine Kd.Zd0 (Kd.int .i64) (w0 := w) w.heap.size (by rfl) (.tmp 17) (.tmp 28) 22 3 (.int .i64 0) 8 rfl Try.underlying22 info3 rfl (by decide) (by omega) v217 y216 ((Za3 l0 x4_1).take ((ji7) : Int).toNat) _ _ _ (fun _ => True) (fun _ => False) rfl rfl ?aO ?aR (fun _ _ h => h) (fun _ h => h.elim) ?aF ?aB ?aS ?aL ?_
   (case aR => first | (have q_ := (Kd.Zaq HR221.out HB.out); rw [show ((Za3 l0 x4_1).take ((ji7) : Int).toNat).length = (ji7).toNat from (by rw [List.length_take]; have h_ : ((ji7) : Int) ≤ ((Za3 l0 x4_1).length : Int) := of_decide_eq_true (by first | (with_reducible assumption) | assumption); omega)] at q_; exact q_) | (rw [← show ((Za3 l0 x4_1).take ((ji7) : Int).toNat).length = (ji7).toNat from (by rw [List.length_take]; have h_ : ((ji7) : Int) ≤ ((Za3 l0 x4_1).length : Int) := of_decide_eq_true (by first | (with_reducible assumption) | assumption); omega)]; repeat (first | exact (Kd.Zaq HR221.out HB.out) | (with_reducible refine Kd.Za0 ?_ _) | (with_reducible refine Kd.C_drewN ?_ _) | (with_reducible refine Kd.C_drew ?_))) | (repeat (first | exact (Kd.Zaq HR221.out HB.out) | (with_reducible refine Kd.Za0 ?_ _) | (with_reducible refine Kd.C_drewN ?_ _) | (with_reducible refine Kd.C_drew ?_))))
   (case aB => exact (by repeat (first | (with_reducible first | exact HB.out | apply Zac | apply Zab | apply Zad) | exact HB.out)))
   (case aF => exact (fun _ _ => trivial))
   (case aO => exact (by (with_reducible repeat (first | apply Kd.Zbk | apply Kd.R_drewN | apply Kd.Zbz)); exact HO218.out))
   (case aS => exact (Zas (by repeat (first | (with_reducible first | exact HB.out | apply Zac | apply Zab | apply Zad) | exact HB.out))))
   (case aL => have := LMc10.out; have hlx_ := (show ((Za3 l0 x4_1).take ((ji7) : Int).toNat).length = (ji7).toNat from (by rw [List.length_take]; have h_ : ((ji7) : Int) ≤ ((Za3 l0 x4_1).length : Int) := of_decide_eq_true (by first | (with_reducible assumption) | assumption); omega)); omega)
   intro v223 w16 ho hb hg hat
   rw [← Ny222.out] at ho
   have n0_ := Zaa.mk (Kd.S_after (ok := (fun _ => True)) (by (with_reducible repeat (first | apply Kd.S_alloc | apply Kd.S_drewN | apply Kd.Zbv)); exact HO_3.out) hg hat)
   have n1_ := Zaa.mk (hb)
   have n2_ := Zaa.mk (ho)
   clear HO_3
   clear HB
   clear HO218
   have HO_3 := n0_
   have HB := n1_
   have HO224 := n2_
   clear n0_ n1_ n2_
   clear ho hb hg hat
   obtain ⟨Ao18, co18, eo18⟩ := Kd.Zcc HO224.out
   (first | subst eo18 | (injection eo18 with f1_ f2_ f3_; have f4_ := f1_.symm; have f5_ := f3_.symm; clear f1_ f2_ f3_; subst f4_; subst f5_))
   refine hK.out _ _ ⟨((HB.out.cell (World.block_lt_of_cell? w _ hw219_0)).trans hw219_0), ((HB.out.cell (World.block_lt_of_cell? w _ hw220_0)).trans hw220_0)⟩ (fun hHeld => ?_)
   clear hK K
   refine norm_ (a' := ?_) ?_ ?_
   rotate_left
   ·show Act.put _ (some 29) _ = _
    simp only [Act.put, List.setIfInBounds_toArray, List.set_cons_zero, List.set_cons_succ, Zbe, Zbg]
    rfl
   refine one_ (i := 14) (N := some 30) #[true, true, true, true, true, true, true, true, true, true, true, true, true, true, true, false, false] rfl rfl (Zf1 HT_.out (by kernel_rfl)) (by decide) (fun K hK => ?_)
   refine value_ (w1 := ?_) (v := ?_) (by rfl) rfl ?_ ?_
   rotate_left 2
   ·go_simp
    constructor
    ·rfl
    rfl
   refine hK.out _ _ ⟨(World.cell?_alloc_lt _ _ _ (World.block_lt_of_cell? _ _ (((HB.out.cell (World.block_lt_of_cell? w _ hw219_0)).trans hw219_0)))).trans (((HB.out.cell (World.block_lt_of_cell? w _ hw219_0)).trans hw219_0)), (World.cell?_alloc_lt _ _ _ (World.block_lt_of_cell? _ _ (((HB.out.cell (World.block_lt_of_cell? w _ hw220_0)).trans hw220_0)))).trans (((HB.out.cell (World.block_lt_of_cell? w _ hw220_0)).trans hw220_0))⟩ (fun hHeld => ?_)
   clear hK K
   refine norm_ (a' := ?_) ?_ ?_
   rotate_left
   ·show Act.put _ (some 30) _ = _
    simp only [Act.put, List.setIfInBounds_toArray, List.set_cons_zero, List.set_cons_succ, Zbe, Zbg]
    rfl
   refine one_ (i := 15) (N := some 31) #[true, true, true, true, true, true, true, true, true, true, true, true, true, true, true, true, false] rfl rfl (Zf1 HT_.out (by kernel_rfl)) (by decide) (fun K hK => ?_)
   refine Kd.S_append_step (Kd.slice 3 (Kd.int .i64)) (w0 := w) w.heap.size (by rfl) (.tmp 16) (.tmp 30) 32 22 (.slice none 0 0) 24 rfl Try.underlying32 Zcm rfl (by decide) (by omega) u3 x3_1 y222 [.slice Ao18 y222.length co18] (fun _ => True) (fun k_ => some k_ = (.slice Ao18 y222.length co18 : Value).ownBlock) rfl rfl ?aP (fun k_ hk_ => ((Kd.Zbf (ok' := fun k_ => ((fun _ => True)) k_ ∧ some k_ ≠ (u3 : Value).ownBlock) (Kd.Zb3 (HO224.out) (Kd.Zcl HO_3.out) (by decide)) (fun k_ hk => ⟨trivial, hk.2⟩))).1 k_ hk_.symm) ?aF ?aO ?aB ?aS ?aL ?_
   (case aP => exact Kd.M_row (Kd.Zbf (Kd.Zc9 rfl (Kd.Zbf (ok' := fun k_ => ((fun _ => True)) k_ ∧ some k_ ≠ (u3 : Value).ownBlock) (Kd.Zb3 (HO224.out) (Kd.Zcl HO_3.out) (by decide)) (fun k_ hk => ⟨trivial, hk.2⟩))) (fun _ h_ => h_)))
   (case aB => exact (by repeat (first | (with_reducible first | exact HB.out | apply Zac | apply Zab | apply Zad) | exact HB.out)))
   (case aF => exact (fun _ _ => trivial))
   (case aO => exact (by (with_reducible repeat (first | apply Kd.S_alloc | apply Kd.S_drewN | apply Kd.Zbv)); exact Kd.Zdp HO_3.out (fun k_ hk => ⟨trivial, fun e_ => hk.2 e_⟩)))
   (case aS => exact (Zas (by repeat (first | (with_reducible first | exact HB.out | apply Zac | apply Zab | apply Zad) | exact HB.out))))
   (case aL => have := LMc11.out; omega)
   intro v226 w17 ho hb hg hat
   rw [← Ny225.out] at ho
   have n0_ := Zaa.mk (hb)
   have n1_ := Zaa.mk (ho)
   clear HB
   clear HO_3
   clear HO224
   have HB := n0_
   have HO227 := n1_
   clear n0_ n1_
   clear ho hb hg hat
   refine hK.out _ _ ⟨((HB.out.cell (World.block_lt_of_cell? w _ hw219_0)).trans hw219_0), ((HB.out.cell (World.block_lt_of_cell? w _ hw220_0)).trans hw220_0)⟩ (fun hHeld => ?_)
   clear hK K
   refine norm_ (a' := ?_) ?_ ?_
   rotate_left
   ·show Act.put _ (some 31) _ = _
    simp only [Act.put, List.setIfInBounds_toArray, List.set_cons_zero, List.set_cons_succ, Zbe, Zbg]
    rfl
   refine Zc (i := 16) (N := some 3) (v := ?_) (a' := ?_) #[true, true, true, true, true, true, true, true, true, true, true, true, true, true, true, true, true] rfl rfl (Zbj HT_.out (by kernel_rfl)) (fun _ _ _ h => h) (Or.inl ⟨by rfl, ?_⟩) ?_ ?_
   rotate_left
   ·intro w'
    go_simp
    with_reducible rfl
   rotate_left
   ·simp only [Act.put, List.setIfInBounds_toArray, List.set_cons_zero, List.set_cons_succ, Zbe, Zbg]
    rfl
   refine done_ (done_of HT_.out (by kernel_rfl)) ?_
   try go_wp2
   go_roundg k1
   case measure => have := HK1.out; omega
   case rel => exact ⟨(y225), (wrap64 (x4_1 + 1)), (by first | rfl | (simp; done) | (simp [*]; done)), H', ⟨by have := HK1.out; omega⟩, ⟨by (with_reducible repeat (first | apply Kd.S_alloc | apply Kd.S_drewN | apply Kd.Zbv)); exact HO227.out⟩, ⟨by repeat (first | (with_reducible first | exact HB.out | apply Zac | apply Zab | apply Zad) | exact HB.out)⟩⟩
end Go.Proofs.Yteopgafbamipeaa.P
/- secateurlaw18.small: at most four lists of at most six numbers. -/
namespace Go.Proofs.Yteopgafbamipeaa.P
open Go.RowKit Go.Proofs.YteopgafbamipeaaW.PrintWords Go.Proofs.YteopgafbamipeaaW.PrintLast Go.Proofs.YteopgafbamipeaaW.PrintMore
set_option linter.unusedVariables false
set_option linter.unusedSimpArgs false
theorem cutL_full {n m : Nat} {l : List (List Int)} (h : l.length ≤ n) : cutL n m l = l.map (·.take m) := by
  unfold cutL
  rw [List.take_of_length_le h]
theorem Zf3 (l : List (List Int)) (hl : l.length ≤ 6000000000000) (hin : ∀ x ∈ l, x.length ≤ 20000000000000) : ∀ (d n : Nat), n + d = l.length → n ≤ 4 → Ev (fun k => Zai.l0 k l (cutL n 6 l) (n : Int)) (cutL 4 6 l)
  | 0, n, h, h4 => by
    refine Ev.step (G := fun _ => some (cutL n 6 l)) (fun k => by rw [Zai.l0, if_neg (by omega)]) (Ev.const ?_)
    rw [cutL_full (show l.length ≤ n by omega), cutL_full (show l.length ≤ 4 by omega)]
  | d + 1, n, h, h4 => by
    have hn : n < l.length := by omega
    by_cases h5 : n = 4
    · subst h5
      exact Ev.step (G := fun _ => some (cutL 4 6 l)) (fun k => by rw [Zai.l0, if_pos (by omega), if_neg (by omega)]) (Ev.const rfl)
    have hx := hin _ (List.getElem_mem hn)
    have hm : mn (l[n].length : Int) 6 = ((min l[n].length 6 : Nat) : Int) := mn_len
    have hc := Ze2 n 6 l
    refine Ev.step (fun k => by rw [Zai.l0, if_pos (by omega), if_pos (by omega), Option.bind_some, if_pos (by omega), Zcy l n hn, hm, if_pos (by omega), if_pos (by omega), if_pos (by rw [List.length_take, Int.toNat_natCast]; simp; omega), if_pos (by omega), w1 (by omega)]) ?_
    have ih := Zf3 l hl hin d (n + 1) (by omega) (by omega)
    rw [cutL_step hn] at ih
    have hm' : mn (l[n].length : Int) ((6 : Nat) : Int) = ((min l[n].length 6 : Nat) : Int) := mn_len
    rw [hm'] at ih
    exact ih
theorem small_ev {l : List (List Int)} (hl : l.length ≤ 6000000000000) (hin : ∀ x ∈ l, x.length ≤ 20000000000000) : Ev (fun k => Zai.f k l) (cutL 4 6 l) :=
  Zf3 l hl hin l.length 0 (by omega) (by omega)
end Go.Proofs.Yteopgafbamipeaa.P
