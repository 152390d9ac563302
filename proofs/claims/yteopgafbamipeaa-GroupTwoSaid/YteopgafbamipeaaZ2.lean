/- Proved: what each function of the program that the statements of this seat reach comes to, for whatever memory and arguments it is called with (on condition that its plain text tells a result). -/
import Derived.Test.YteopgafbamipeaaZ1

namespace Go.Proofs.Yteopgafbamipeaa.P
open Go.RowKit Go.Proofs.YteopgafbamipeaaW.PrintWords Go.Proofs.YteopgafbamipeaaW.PrintLast Go.Proofs.YteopgafbamipeaaW.PrintMore
attribute [local go_sem] Zca Zcc Zc2 Zc3 Zby Zbz Zcb Zcd
set_option linter.unusedVariables false
set_option linter.unusedSimpArgs false
/-! ### Zac: function 14 -/
def Zac.l0 : Nat → List Int → List Int → Int → Option (Bool)
 | 0, _, _, _ => none
 | k + 1, x0, x1, x5 => if x5 < (x0.length : Int) then (if 0 ≤ x5 then (if x5 < (x1.length : Int) then (if (rd x0 x5) = (rd x1 x5) then (Zac.l0 k x0 x1 (wrap64 (x5 + 1))) else (some false)) else (none)) else (none)) else (some true)
def Zac.f (k : Nat) (l0 : List Int) (l1 : List Int) : Option (Bool) := if (l0.length : Int) = (l1.length : Int) then (Zac.l0 k l0 l1 0) else (some false)
theorem Zac.Za7 : ∀ k, (∀ y0 y1 y2, LeO (Zac.l0 k y0 y1 y2) (Zac.l0 (k + 1) y0 y1 y2))
 | 0 => fun _ _ _ r h => by simp [Zac.l0] at h
 | k + 1 => by
  have ih0 := Zac.Za7 k
  intro y0 y1 y2
  unfold Zac.l0
  repeat' first
  | (with_reducible exact ih0 _ _ _)
  | (with_reducible exact LeO.refl _)
  | (with_reducible exact LeO.none _)
  | (with_reducible refine LeO.ite ?_ ?_)
  | (with_reducible refine LeO.bind ?_ (fun _ => ?_))
  | exact ih0 _ _ _
  | exact LeO.none _
  | refine LeO.ite ?_ ?_
  | refine LeO.bind ?_ (fun _ => ?_)
theorem Zac.mono : ∀ a0 a1 k, LeO (Zac.f k a0 a1) (Zac.f (k + 1) a0 a1) := by
 intro a0 a1 k
 have ih0 := Zac.Za7 k
 unfold Zac.f
 repeat' first
   | (with_reducible exact ih0 _ _ _)
   | (with_reducible exact LeO.refl _)
   | (with_reducible exact LeO.none _)
   | (with_reducible refine LeO.ite ?_ ?_)
   | (with_reducible refine LeO.bind ?_ (fun _ => ?_))
   | exact ih0 _ _ _
   | exact LeO.none _
   | refine LeO.ite ?_ ?_
   | refine LeO.bind ?_ (fun _ => ?_)
set_option maxHeartbeats 8000000 in
set_option maxRecDepth 100000 in
theorem Zac.calls (k : Nat) (A0 : Option Addr) (c0 : Nat) (l0 : List Int) (A1 : Option Addr) (c1 : Nat) (l1 : List Int) (r : Bool) (w : World) (hr0 : Kd.C (Kd.int .i64) w A0 l0.length l0) (hc0 : l0.length ≤ c0) (hr1 : Kd.C (Kd.int .i64) w A1 l1.length l1) (hc1 : l1.length ≤ c1) (h : Zac.f k l0 l1 = some r) :
  Calls Try.prog 14 #[.slice A0 l0.length c0, .slice A1 l1.length c1] w fun e w' => e = .returned (.bool r) ∧ Zau w w' := by
 have HR0 := Zaa.mk hr0
 have HC0 := Zaa.mk hc0
 clear hr0 hc0
 have HR1 := Zaa.mk hr1
 have HC1 := Zaa.mk hc1
 clear hr1 hc1
 have H : (if (l0.length : Int) = (l1.length : Int) then (Zac.l0 k l0 l1 0) else (some false)) = some r := h
 clear h
 by_cases c3 : (l0.length : Int) = (l1.length : Int)
 rotate_left
 ·rw [if_neg c3] at H
  have c3b0 : ((l0.length : Int) == (l1.length : Int)) = false := beq_eq_false_iff_ne.mpr c3
  have c3b1 : ((l0.length : Int) != (l1.length : Int)) = true := bne_iff_ne.mpr c3
  have c3b2 : (l0.length == l1.length) = false := by first | simpa using c3 | (simp at c3 ⊢; omega)
  obtain rfl := Option.some.inj H
  go_enter Try.func14, Try.ntmps14
  go_wp2
  repeat (go_quiet (fail); try go_wp2)
  go_ret
  exact ⟨by first | rfl | (simp; done) | (simp [*]; done), by repeat (first | exact Zau.refl _ | apply Zau.step)⟩

 rw [if_pos c3] at H
 have c3b0 : ((l0.length : Int) == (l1.length : Int)) = true := beq_iff_eq.mpr c3
 have c3b1 : ((l0.length : Int) != (l1.length : Int)) = false := bne_eq_false_iff_eq.mpr c3
 have c3b2 : (l0.length == l1.length) = true := by first | simpa using c3 | (simp at c3 ⊢; omega)
 clear c3
 have H' := Zaa.mk H
 clear H
 go_enter Try.func14, Try.ntmps14
 go_wp2
 repeat (go_quiet (fail); try go_wp2)
 go_loopg [5] k (fun kq v5 w' => ∃ (x5_1 : Int), v5 = .int .i64 x5_1 ∧ Zaa (Zac.l0 kq l0 l1 x5_1 = some r) ∧ Zaa (kq ≤ k) ∧ Zau w w')
 case atStart => exact ⟨(0), (by first | rfl | (simp; done) | (simp [*]; done)), H', ⟨Nat.le_refl _⟩, by repeat (first | exact Zau.refl _ | apply Zau.step)⟩
 case round =>
  clear H'
  try clear c1
  try clear p2
  try clear c3
  try clear c3b0
  try clear c3b1
  try clear c3b2
  obtain ⟨x5_1, rfl, HA, HK1, ⟨m1, rfl⟩⟩ := hrel
  cases gk with
  | zero => exact absurd HA.out (by simp [Zac.l0])
  | succ k1 =>
   have H := HA.out
   clear HA
   simp only [Zac.l0] at H
   by_cases c4 : x5_1 < (l0.length : Int)
   rotate_left
   ·rw [if_neg c4] at H
    have c4b0 : decide (x5_1 < (l0.length : Int)) = false := decide_eq_false c4
    clear c4
    obtain rfl := Option.some.inj H
    go_wp2
    repeat (go_quiet (fail); try go_wp2)
    go_ret
    exact ⟨by first | rfl | (simp; done) | (simp [*]; done), by repeat (first | exact Zau.refl _ | apply Zau.step)⟩
   rw [if_pos c4] at H
   have c4b0 : decide (x5_1 < (l0.length : Int)) = true := decide_eq_true c4
   clear c4
   by_cases c5 : 0 ≤ x5_1
   rotate_left
   ·rw [if_neg c5] at H
    exact absurd H (by simp)
   rw [if_pos c5] at H
   have c5b0 : decide (0 ≤ x5_1) = true := decide_eq_true c5
   clear c5
   by_cases c6 : x5_1 < (l1.length : Int)
   rotate_left
   ·rw [if_neg c6] at H
    exact absurd H (by simp)
   rw [if_pos c6] at H
   have c6b0 : decide (x5_1 < (l1.length : Int)) = true := decide_eq_true c6
   clear c6
   by_cases c7 : (rd l0 x5_1) = (rd l1 x5_1)
   rotate_left
   ·rw [if_neg c7] at H
    have c7b0 : ((rd l0 x5_1) == (rd l1 x5_1)) = false := beq_eq_false_iff_ne.mpr c7
    have c7b1 : ((rd l0 x5_1) != (rd l1 x5_1)) = true := bne_iff_ne.mpr c7
    obtain rfl := Option.some.inj H
    have p139 : 0 ≤ (x5_1 : Int) := of_decide_eq_true (by first | (with_reducible assumption) | assumption)
    have q139 : x5_1 < (l0.length : Int) := of_decide_eq_true (by first | (with_reducible assumption) | assumption)
    obtain ⟨ad139, e139, hx139_0⟩ := Kd.Zbj HR0.out x5_1 p139 q139
    cases e139
    replace p139 := eq_true p139
    replace q139 := eq_true q139
    have p140 : 0 ≤ (x5_1 : Int) := of_decide_eq_true (by first | (with_reducible assumption) | assumption)
    have q140 : x5_1 < (l1.length : Int) := of_decide_eq_true (by first | (with_reducible assumption) | assumption)
    obtain ⟨ad140, e140, hx140_0⟩ := Kd.Zbj HR1.out x5_1 p140 q140
    cases e140
    replace p140 := eq_true p140
    replace q140 := eq_true q140
    go_wp2
    repeat (go_quiet (fail); try go_wp2)
    go_ret
    exact ⟨by first | rfl | (simp; done) | (simp [*]; done), by repeat (first | exact Zau.refl _ | apply Zau.step)⟩
   rw [if_pos c7] at H
   have c7b0 : ((rd l0 x5_1) == (rd l1 x5_1)) = true := beq_iff_eq.mpr c7
   have c7b1 : ((rd l0 x5_1) != (rd l1 x5_1)) = false := bne_eq_false_iff_eq.mpr c7
   clear c7
   have H' := Zaa.mk H
   clear H
   have p139 : 0 ≤ (x5_1 : Int) := of_decide_eq_true (by first | (with_reducible assumption) | assumption)
   have q139 : x5_1 < (l0.length : Int) := of_decide_eq_true (by first | (with_reducible assumption) | assumption)
   obtain ⟨ad139, e139, hx139_0⟩ := Kd.Zbj HR0.out x5_1 p139 q139
   cases e139
   replace p139 := eq_true p139
   replace q139 := eq_true q139
   have p140 : 0 ≤ (x5_1 : Int) := of_decide_eq_true (by first | (with_reducible assumption) | assumption)
   have q140 : x5_1 < (l1.length : Int) := of_decide_eq_true (by first | (with_reducible assumption) | assumption)
   obtain ⟨ad140, e140, hx140_0⟩ := Kd.Zbj HR1.out x5_1 p140 q140
   cases e140
   replace p140 := eq_true p140
   replace q140 := eq_true q140
   go_wp2
   repeat (go_quiet (fail); try go_wp2)
   go_roundg k1
   case measure => have := HK1.out; omega
   case rel => exact ⟨(wrap64 (x5_1 + 1)), (by first | rfl | (simp; done) | (simp [*]; done)), H', ⟨by have := HK1.out; omega⟩, by repeat (first | exact Zau.refl _ | apply Zau.step)⟩
/-! ### Zal: function 22 -/
def Zal.l0 : Nat → List (List Int) → List (List Int) → Int → Option (Bool)
 | 0, _, _, _ => none
 | k + 1, x0, x1, x5 => if x5 < (x0.length : Int) then (if 0 ≤ x5 then (if x5 < (x1.length : Int) then ((Zac.f k (Zbs x0 x5) (Zbs x1 x5)).bind fun t148 => (if t148 = true then (Zal.l0 k x0 x1 (wrap64 (x5 + 1))) else (some false))) else (none)) else (none)) else (some true)
def Zal.f (k : Nat) (l0 : List (List Int)) (l1 : List (List Int)) : Option (Bool) := if (l0.length : Int) = (l1.length : Int) then (Zal.l0 k l0 l1 0) else (some false)
theorem Zal.Za7 : ∀ k, (∀ y0 y1 y2, LeO (Zal.l0 k y0 y1 y2) (Zal.l0 (k + 1) y0 y1 y2))
 | 0 => fun _ _ _ r h => by simp [Zal.l0] at h
 | k + 1 => by
  have ih0 := Zal.Za7 k
  intro y0 y1 y2
  unfold Zal.l0
  repeat' first
  | (with_reducible exact ih0 _ _ _)
  | (with_reducible exact Zac.mono _ _ _)
  | (with_reducible exact LeO.refl _)
  | (with_reducible exact LeO.none _)
  | (with_reducible refine LeO.ite ?_ ?_)
  | (with_reducible refine LeO.bind ?_ (fun _ => ?_))
  | exact ih0 _ _ _
  | exact Zac.mono _ _ _
  | exact LeO.none _
  | refine LeO.ite ?_ ?_
  | refine LeO.bind ?_ (fun _ => ?_)
theorem Zal.mono : ∀ a0 a1 k, LeO (Zal.f k a0 a1) (Zal.f (k + 1) a0 a1) := by
 intro a0 a1 k
 have ih0 := Zal.Za7 k
 unfold Zal.f
 repeat' first
   | (with_reducible exact ih0 _ _ _)
   | (with_reducible exact Zac.mono _ _ _)
   | (with_reducible exact LeO.refl _)
   | (with_reducible exact LeO.none _)
   | (with_reducible refine LeO.ite ?_ ?_)
   | (with_reducible refine LeO.bind ?_ (fun _ => ?_))
   | exact ih0 _ _ _
   | exact Zac.mono _ _ _
   | exact LeO.none _
   | refine LeO.ite ?_ ?_
   | refine LeO.bind ?_ (fun _ => ?_)
set_option maxHeartbeats 8000000 in
set_option maxRecDepth 100000 in
theorem Zal.calls (k : Nat) (A0 : Option Addr) (c0 : Nat) (l0 : List (List Int)) (A1 : Option Addr) (c1 : Nat) (l1 : List (List Int)) (r : Bool) (w : World) (hr0 : Kd.C (Kd.slice 3 (Kd.int .i64)) w A0 l0.length l0) (hc0 : l0.length ≤ c0) (hr1 : Kd.C (Kd.slice 3 (Kd.int .i64)) w A1 l1.length l1) (hc1 : l1.length ≤ c1) (h : Zal.f k l0 l1 = some r) :
  Calls Try.prog 22 #[.slice A0 l0.length c0, .slice A1 l1.length c1] w fun e w' => e = .returned (.bool r) ∧ Zau w w' := by
 have HR0 := Zaa.mk hr0
 have HC0 := Zaa.mk hc0
 clear hr0 hc0
 have HR1 := Zaa.mk hr1
 have HC1 := Zaa.mk hc1
 clear hr1 hc1
 have H : (if (l0.length : Int) = (l1.length : Int) then (Zal.l0 k l0 l1 0) else (some false)) = some r := h
 clear h
 by_cases c3 : (l0.length : Int) = (l1.length : Int)
 rotate_left
 ·rw [if_neg c3] at H
  have c3b0 : ((l0.length : Int) == (l1.length : Int)) = false := beq_eq_false_iff_ne.mpr c3
  have c3b1 : ((l0.length : Int) != (l1.length : Int)) = true := bne_iff_ne.mpr c3
  have c3b2 : (l0.length == l1.length) = false := by first | simpa using c3 | (simp at c3 ⊢; omega)
  obtain rfl := Option.some.inj H
  go_enter Try.func22, Try.ntmps22
  go_wp2
  repeat (go_quiet (fail); try go_wp2)
  go_ret
  exact ⟨by first | rfl | (simp; done) | (simp [*]; done), by repeat (first | exact Zau.refl _ | apply Zau.step)⟩

 rw [if_pos c3] at H
 have c3b0 : ((l0.length : Int) == (l1.length : Int)) = true := beq_iff_eq.mpr c3
 have c3b1 : ((l0.length : Int) != (l1.length : Int)) = false := bne_eq_false_iff_eq.mpr c3
 have c3b2 : (l0.length == l1.length) = true := by first | simpa using c3 | (simp at c3 ⊢; omega)
 clear c3
 have H' := Zaa.mk H
 clear H
 go_enter Try.func22, Try.ntmps22
 go_wp2
 repeat (go_quiet (fail); try go_wp2)
 go_loopg [5] k (fun kq v5 w' => ∃ (x5_1 : Int), v5 = .int .i64 x5_1 ∧ Zaa (Zal.l0 kq l0 l1 x5_1 = some r) ∧ Zaa (kq ≤ k) ∧ Zau w w')
 case atStart => exact ⟨(0), (by first | rfl | (simp; done) | (simp [*]; done)), H', ⟨Nat.le_refl _⟩, by repeat (first | exact Zau.refl _ | apply Zau.step)⟩
 case round =>
  clear H'
  try clear c1
  try clear c2
  try clear p2
  try clear c3
  try clear c3b0
  try clear c3b1
  try clear c3b2
  obtain ⟨x5_1, rfl, HA, HK1, ⟨m1, rfl⟩⟩ := hrel
  cases gk with
  | zero => exact absurd HA.out (by simp [Zal.l0])
  | succ k1 =>
   have H := HA.out
   clear HA
   simp only [Zal.l0] at H
   by_cases c4 : x5_1 < (l0.length : Int)
   rotate_left
   ·rw [if_neg c4] at H
    have c4b0 : decide (x5_1 < (l0.length : Int)) = false := decide_eq_false c4
    clear c4
    obtain rfl := Option.some.inj H
    go_wp2
    repeat (go_quiet (fail); try go_wp2)
    go_ret
    exact ⟨by first | rfl | (simp; done) | (simp [*]; done), by repeat (first | exact Zau.refl _ | apply Zau.step)⟩
   rw [if_pos c4] at H
   have c4b0 : decide (x5_1 < (l0.length : Int)) = true := decide_eq_true c4
   clear c4
   by_cases c5 : 0 ≤ x5_1
   rotate_left
   ·rw [if_neg c5] at H
    exact absurd H (by simp)
   rw [if_pos c5] at H
   have c5b0 : decide (0 ≤ x5_1) = true := decide_eq_true c5
   clear c5
   by_cases c6 : x5_1 < (l1.length : Int)
   rotate_left
   ·rw [if_neg c6] at H
    exact absurd H (by simp)
   rw [if_pos c6] at H
   have c6b0 : decide (x5_1 < (l1.length : Int)) = true := decide_eq_true c6
   clear c6
   replace H := Option.bind_eq_some_iff.mp H
   obtain ⟨t148, A70, H⟩ := H
   replace H : (if t148 = true then (Zal.l0 k1 l0 l1 (wrap64 (x5_1 + 1))) else (some false)) = some r := H
   have A7 := Zaa.mk A70
   clear A70
   by_cases c8 : t148 = true
   rotate_left
   ·replace c8 := Bool.eq_false_iff.mpr c8
    subst c8
    have H1 : (some false) = some r := by rw [if_neg (show ¬ (false = true) by decide)] at H; exact H
    clear H
    have H := H1
    clear H1
    obtain rfl := Option.some.inj H
    have p146 : 0 ≤ (x5_1 : Int) := of_decide_eq_true (by first | (with_reducible assumption) | assumption)
    have q146 : x5_1 < (l0.length : Int) := of_decide_eq_true (by first | (with_reducible assumption) | assumption)
    obtain ⟨ad146, A146_0, c146_0, e146, hx146_0, hl146_0, hi146_0⟩ := at_L2 HR0.out x5_1 p146 q146
    cases e146
    have HR146_0 := Zaa.mk hi146_0
    have HC146_0 := Zaa.mk hl146_0
    clear hi146_0 hl146_0
    replace p146 := eq_true p146
    replace q146 := eq_true q146
    have p147 : 0 ≤ (x5_1 : Int) := of_decide_eq_true (by first | (with_reducible assumption) | assumption)
    have q147 : x5_1 < (l1.length : Int) := of_decide_eq_true (by first | (with_reducible assumption) | assumption)
    obtain ⟨ad147, A147_0, c147_0, e147, hx147_0, hl147_0, hi147_0⟩ := at_L2 HR1.out x5_1 p147 q147
    cases e147
    have HR147_0 := Zaa.mk hi147_0
    have HC147_0 := Zaa.mk hl147_0
    clear hi147_0 hl147_0
    replace p147 := eq_true p147
    replace q147 := eq_true q147
    go_wp2_with (first | (go_at_call 14; (with_reducible refine (Zac.calls k1 _ _ (Zbs l0 x5_1) _ _ (Zbs l1 x5_1) false _ ?side1 ?side2 ?side3 ?side4 A7.out).mono ?_); (case side1 => repeat (first | exact HR146_0.out | (with_reducible refine Kd.Zat ?_ _) | (with_reducible refine Kd.C_drewN ?_ _) | (with_reducible refine Kd.C_drew ?_))); (case side2 => exact HC146_0.out); (case side3 => repeat (first | exact HR147_0.out | (with_reducible refine Kd.Zat ?_ _) | (with_reducible refine Kd.C_drewN ?_ _) | (with_reducible refine Kd.C_drew ?_))); (case side4 => exact HC147_0.out); rintro e w' ⟨rfl, ⟨nd, rfl⟩⟩; (try first | exact ⟨rfl, _, World.drewN_drewN _ _ _⟩ | exact ⟨rfl, _, Eq.trans (World.drewN_drewN _ _ _) (congrArg (World.drewN _) (Nat.add_assoc _ _ _))⟩)))
    repeat (go_quiet (first | (go_at_call 14; (with_reducible refine (Zac.calls k1 _ _ (Zbs l0 x5_1) _ _ (Zbs l1 x5_1) false _ ?side1 ?side2 ?side3 ?side4 A7.out).mono ?_); (case side1 => repeat (first | exact HR146_0.out | (with_reducible refine Kd.Zat ?_ _) | (with_reducible refine Kd.C_drewN ?_ _) | (with_reducible refine Kd.C_drew ?_))); (case side2 => exact HC146_0.out); (case side3 => repeat (first | exact HR147_0.out | (with_reducible refine Kd.Zat ?_ _) | (with_reducible refine Kd.C_drewN ?_ _) | (with_reducible refine Kd.C_drew ?_))); (case side4 => exact HC147_0.out); rintro e w' ⟨rfl, ⟨nd, rfl⟩⟩; (try first | exact ⟨rfl, _, World.drewN_drewN _ _ _⟩ | exact ⟨rfl, _, Eq.trans (World.drewN_drewN _ _ _) (congrArg (World.drewN _) (Nat.add_assoc _ _ _))⟩))); try go_wp2_with (first | (go_at_call 14; (with_reducible refine (Zac.calls k1 _ _ (Zbs l0 x5_1) _ _ (Zbs l1 x5_1) false _ ?side1 ?side2 ?side3 ?side4 A7.out).mono ?_); (case side1 => repeat (first | exact HR146_0.out | (with_reducible refine Kd.Zat ?_ _) | (with_reducible refine Kd.C_drewN ?_ _) | (with_reducible refine Kd.C_drew ?_))); (case side2 => exact HC146_0.out); (case side3 => repeat (first | exact HR147_0.out | (with_reducible refine Kd.Zat ?_ _) | (with_reducible refine Kd.C_drewN ?_ _) | (with_reducible refine Kd.C_drew ?_))); (case side4 => exact HC147_0.out); rintro e w' ⟨rfl, ⟨nd, rfl⟩⟩; (try first | exact ⟨rfl, _, World.drewN_drewN _ _ _⟩ | exact ⟨rfl, _, Eq.trans (World.drewN_drewN _ _ _) (congrArg (World.drewN _) (Nat.add_assoc _ _ _))⟩))))
    go_ret
    exact ⟨by first | rfl | (simp; done) | (simp [*]; done), by repeat (first | exact Zau.refl _ | apply Zau.step)⟩
   subst c8
   have H1 : (Zal.l0 k1 l0 l1 (wrap64 (x5_1 + 1))) = some r := by rw [if_pos rfl] at H; exact H
   clear H
   have H := H1
   clear H1
   have H' := Zaa.mk H
   clear H
   have p146 : 0 ≤ (x5_1 : Int) := of_decide_eq_true (by first | (with_reducible assumption) | assumption)
   have q146 : x5_1 < (l0.length : Int) := of_decide_eq_true (by first | (with_reducible assumption) | assumption)
   obtain ⟨ad146, A146_0, c146_0, e146, hx146_0, hl146_0, hi146_0⟩ := at_L2 HR0.out x5_1 p146 q146
   cases e146
   have HR146_0 := Zaa.mk hi146_0
   have HC146_0 := Zaa.mk hl146_0
   clear hi146_0 hl146_0
   replace p146 := eq_true p146
   replace q146 := eq_true q146
   have p147 : 0 ≤ (x5_1 : Int) := of_decide_eq_true (by first | (with_reducible assumption) | assumption)
   have q147 : x5_1 < (l1.length : Int) := of_decide_eq_true (by first | (with_reducible assumption) | assumption)
   obtain ⟨ad147, A147_0, c147_0, e147, hx147_0, hl147_0, hi147_0⟩ := at_L2 HR1.out x5_1 p147 q147
   cases e147
   have HR147_0 := Zaa.mk hi147_0
   have HC147_0 := Zaa.mk hl147_0
   clear hi147_0 hl147_0
   replace p147 := eq_true p147
   replace q147 := eq_true q147
   go_wp2_with (first | (go_at_call 14; (with_reducible refine (Zac.calls k1 _ _ (Zbs l0 x5_1) _ _ (Zbs l1 x5_1) true _ ?side1 ?side2 ?side3 ?side4 A7.out).mono ?_); (case side1 => repeat (first | exact HR146_0.out | (with_reducible refine Kd.Zat ?_ _) | (with_reducible refine Kd.C_drewN ?_ _) | (with_reducible refine Kd.C_drew ?_))); (case side2 => exact HC146_0.out); (case side3 => repeat (first | exact HR147_0.out | (with_reducible refine Kd.Zat ?_ _) | (with_reducible refine Kd.C_drewN ?_ _) | (with_reducible refine Kd.C_drew ?_))); (case side4 => exact HC147_0.out); rintro e w' ⟨rfl, ⟨nd, rfl⟩⟩; (try first | exact ⟨rfl, _, World.drewN_drewN _ _ _⟩ | exact ⟨rfl, _, Eq.trans (World.drewN_drewN _ _ _) (congrArg (World.drewN _) (Nat.add_assoc _ _ _))⟩)))
   repeat (go_quiet (first | (go_at_call 14; (with_reducible refine (Zac.calls k1 _ _ (Zbs l0 x5_1) _ _ (Zbs l1 x5_1) true _ ?side1 ?side2 ?side3 ?side4 A7.out).mono ?_); (case side1 => repeat (first | exact HR146_0.out | (with_reducible refine Kd.Zat ?_ _) | (with_reducible refine Kd.C_drewN ?_ _) | (with_reducible refine Kd.C_drew ?_))); (case side2 => exact HC146_0.out); (case side3 => repeat (first | exact HR147_0.out | (with_reducible refine Kd.Zat ?_ _) | (with_reducible refine Kd.C_drewN ?_ _) | (with_reducible refine Kd.C_drew ?_))); (case side4 => exact HC147_0.out); rintro e w' ⟨rfl, ⟨nd, rfl⟩⟩; (try first | exact ⟨rfl, _, World.drewN_drewN _ _ _⟩ | exact ⟨rfl, _, Eq.trans (World.drewN_drewN _ _ _) (congrArg (World.drewN _) (Nat.add_assoc _ _ _))⟩))); try go_wp2_with (first | (go_at_call 14; (with_reducible refine (Zac.calls k1 _ _ (Zbs l0 x5_1) _ _ (Zbs l1 x5_1) true _ ?side1 ?side2 ?side3 ?side4 A7.out).mono ?_); (case side1 => repeat (first | exact HR146_0.out | (with_reducible refine Kd.Zat ?_ _) | (with_reducible refine Kd.C_drewN ?_ _) | (with_reducible refine Kd.C_drew ?_))); (case side2 => exact HC146_0.out); (case side3 => repeat (first | exact HR147_0.out | (with_reducible refine Kd.Zat ?_ _) | (with_reducible refine Kd.C_drewN ?_ _) | (with_reducible refine Kd.C_drew ?_))); (case side4 => exact HC147_0.out); rintro e w' ⟨rfl, ⟨nd, rfl⟩⟩; (try first | exact ⟨rfl, _, World.drewN_drewN _ _ _⟩ | exact ⟨rfl, _, Eq.trans (World.drewN_drewN _ _ _) (congrArg (World.drewN _) (Nat.add_assoc _ _ _))⟩))))
   go_roundg k1
   case measure => have := HK1.out; omega
   case rel => exact ⟨(wrap64 (x5_1 + 1)), (by first | rfl | (simp; done) | (simp [*]; done)), H', ⟨by have := HK1.out; omega⟩, by repeat (first | exact Zau.refl _ | apply Zau.step)⟩
end Go.Proofs.Yteopgafbamipeaa.P
/- secateurlaw18.fixed: the calls whose answers are fixed. -/
namespace Go.Proofs.Yteopgafbamipeaa.P
open Go.RowKit Go.Proofs.YteopgafbamipeaaW.PrintWords Go.Proofs.YteopgafbamipeaaW.PrintLast Go.Proofs.YteopgafbamipeaaW.PrintMore
set_option linter.unusedVariables false
set_option linter.unusedSimpArgs false
set_option maxRecDepth 100000 in
theorem fx18_0 : Zb.f 40 [[1, 0, 2]] 3 = some ([[0, 1, 2], [1, 0, 2]], 0) := by decide +kernel
set_option maxRecDepth 100000 in
theorem fx18_1 : Zb.f 40 [[1, 2, 0]] 3 = some ([[0, 1, 2], [1, 2, 0], [2, 0, 1]], 0) := by decide +kernel
set_option maxRecDepth 100000 in
theorem fx18_2 : Zak.f 40 [5, 6, 7] [1, 2, 0] = some ([7, 5, 6], 0) := by decide +kernel
set_option maxRecDepth 100000 in
theorem fx18_3 : Zaj.f 40 [1, 2, 0] [1, 0, 2] = some ([0, 2, 1], 0) := by decide +kernel
set_option maxRecDepth 100000 in
theorem fx18_4 : Zaq.f 40 [1, 2, 0] = some ([2, 0, 1], 0) := by decide +kernel
set_option maxRecDepth 100000 in
theorem fx18_5 : Zb.f 40 [] 8 = some ([], 1) := by decide +kernel
set_option maxRecDepth 100000 in
theorem fx18_6 : Zbi.f 40 [1, 1] [[0, 1], [1, 0]] = some ([[1, 1]], 0) := by decide +kernel
set_option maxRecDepth 100000 in
theorem fx18_7 : Zay.f 40 [[2, 1], [1, 2]] [[1, 0]] = some ([[1, 2], [2, 1]], 0) := by decide +kernel
set_option maxRecDepth 100000 in
theorem fx18_8 : Zal.f 40 [[0, 1, 2], [1, 0, 2]] [[0, 1, 2], [1, 0, 2]] = some true := by decide +kernel
set_option maxRecDepth 100000 in
theorem fx18_9 : Zac.f 40 [7, 5, 6] [7, 5, 6] = some true := by decide +kernel
set_option maxRecDepth 100000 in
theorem fx18_10 : Zac.f 40 [0, 2, 1] [0, 2, 1] = some true := by decide +kernel
set_option maxRecDepth 100000 in
theorem fx18_11 : Zac.f 40 [2, 0, 1] [2, 0, 1] = some true := by decide +kernel
set_option maxRecDepth 100000 in
theorem fx18_12 : Zal.f 40 [[1, 1]] [[1, 1]] = some true := by decide +kernel
set_option maxRecDepth 100000 in
theorem fx18_13 : Zal.f 40 [[1, 2], [2, 1]] [[1, 2], [2, 1]] = some true := by decide +kernel
def Zar.f (k : Nat) : Option Bool := some true
theorem Zar.mono : ∀ k, LeO (Zar.f k) (Zar.f (k + 1)) := fun _ => LeO.refl _
set_option maxRecDepth 100000 in
set_option maxHeartbeats 8000000 in
theorem Zar.calls (k : Nat) (r : Bool) (w : World) (h : Zar.f k = some r) : Calls Try.prog 16 #[] w fun e w' => e = .returned (.bool r) ∧ Below w.heap.size w w' := by
  obtain rfl := Option.some.inj h
  clear h
  have HB := Zaa.mk (Below.refl w.heap.size w)
  go_enter Try.func16, Try.ntmps16
  try simp only [List.append]
  go_wp2_with (first | (go_at_call 20; go_loud (refine Za8 (F := fun W => Below w.heap.size w W ∧ W.heap[w.heap.size]? = some (.cells #[.int .i64 1, .int .i64 0, .int .i64 2] 3 (0, 0)) ∧ W.heap[w.heap.size + 1]? = some (.cells #[.slice (some ⟨w.heap.size, 0, none⟩) 3 3] 22 (0, 0))) ?hF0 ?hG0; (case hF0 => refine ⟨?_, ?_, ?_⟩ <;> (first | ((repeat (first | exact Below.refl _ _ | apply Zae | apply Zab)); done) | ((repeat (first | (apply Zb4; simp; done) | apply Zbf)); done))); intro W_ hF_; obtain ⟨hB_, h0_, h1_⟩ := hF_; refine (Zb.calls 40 _ _ [[1, 0, 2]] 3 [[0, 1, 2], [1, 0, 2]] 0 W_ (Zdl [[1, 0, 2]] [_] (by decide) h1_ ⟨Zdt rfl (Nat.le_refl _) (Zbm [1, 0, 2] (by decide) h0_), trivial⟩) (Nat.le_refl _) fx18_0).mono ?_; rintro e W1 ⟨v0, rfl, hS, hb_⟩; have hT_ := Zao hB_ hb_; clear hb_; have nB_ := Zaa.mk (Zao HB.out hT_); clear HB; have HB := nB_; clear nB_; obtain ⟨Aa, ca, rfl, hl_, hC_⟩ := Kd.Zd0 hS; clear hS; have HCa := Zaa.mk hC_; have HLa := Zaa.mk hl_; clear hC_ hl_; clear hT_ hB_ h0_ h1_)) | (go_at_call 20; go_loud (refine Za8 (F := fun W => Below W1.heap.size W1 W ∧ W.heap[W1.heap.size]? = some (.cells #[.int .i64 1, .int .i64 2, .int .i64 0] 3 (0, 0)) ∧ W.heap[W1.heap.size + 1]? = some (.cells #[.slice (some ⟨W1.heap.size, 0, none⟩) 3 3] 22 (0, 0))) ?hF1 ?hG1; (case hF1 => refine ⟨?_, ?_, ?_⟩ <;> (first | ((repeat (first | exact Below.refl _ _ | apply Zae | apply Zab)); done) | ((repeat (first | (apply Zb4; simp; done) | apply Zbf)); done))); intro W_ hF_; obtain ⟨hB_, h0_, h1_⟩ := hF_; refine (Zb.calls 40 _ _ [[1, 2, 0]] 3 [[0, 1, 2], [1, 2, 0], [2, 0, 1]] 0 W_ (Zdl [[1, 2, 0]] [_] (by decide) h1_ ⟨Zdt rfl (Nat.le_refl _) (Zbm [1, 2, 0] (by decide) h0_), trivial⟩) (Nat.le_refl _) fx18_1).mono ?_; rintro e W2 ⟨v1, rfl, hS, hb_⟩; have hT_ := Zao hB_ hb_; clear hb_; have nB_ := Zaa.mk (Zao HB.out hT_); clear HB; have HB := nB_; clear nB_; have nX_ := Zaa.mk (Kd.Zap HCa.out hT_); clear HCa; have HCa := nX_; clear nX_; obtain ⟨Ab, cb, rfl, hl_, hC_⟩ := Kd.Zd0 hS; clear hS; have HCb := Zaa.mk hC_; have HLb := Zaa.mk hl_; clear hC_ hl_; clear hT_ hB_ h0_ h1_)) | (go_at_call 13; go_loud (refine Za8 (F := fun W => Below W2.heap.size W2 W ∧ W.heap[W2.heap.size]? = some (.cells #[.int .i64 5, .int .i64 6, .int .i64 7] 3 (0, 0)) ∧ W.heap[W2.heap.size + 1]? = some (.cells #[.int .i64 1, .int .i64 2, .int .i64 0] 3 (0, 0))) ?hF2 ?hG2; (case hF2 => refine ⟨?_, ?_, ?_⟩ <;> (first | ((repeat (first | exact Below.refl _ _ | apply Zae | apply Zab)); done) | ((repeat (first | (apply Zb4; simp; done) | apply Zbf)); done))); intro W_ hF_; obtain ⟨hB_, h0_, h1_⟩ := hF_; refine (Zak.calls 40 _ _ [5, 6, 7] _ _ [1, 2, 0] [7, 5, 6] 0 W_ (Zbm [5, 6, 7] (by decide) h0_) (Nat.le_refl _) (Zbm [1, 2, 0] (by decide) h1_) (Nat.le_refl _) fx18_2).mono ?_; rintro e W3 ⟨v2, rfl, hS, hb_⟩; have hT_ := Zao hB_ hb_; clear hb_; have nB_ := Zaa.mk (Zao HB.out hT_); clear HB; have HB := nB_; clear nB_; have nX_ := Zaa.mk (Kd.Zap HCa.out hT_); clear HCa; have HCa := nX_; clear nX_; have nX_ := Zaa.mk (Kd.Zap HCb.out hT_); clear HCb; have HCb := nX_; clear nX_; obtain ⟨Ac, cc, rfl, hl_, hC_⟩ := Kd.Zcl hS; clear hS; have HCc := Zaa.mk hC_; have HLc := Zaa.mk hl_; clear hC_ hl_; clear hT_ hB_ h0_ h1_)) | (go_at_call 9; go_loud (refine Za8 (F := fun W => Below W3.heap.size W3 W ∧ W.heap[W3.heap.size]? = some (.cells #[.int .i64 1, .int .i64 2, .int .i64 0] 3 (0, 0)) ∧ W.heap[W3.heap.size + 1]? = some (.cells #[.int .i64 1, .int .i64 0, .int .i64 2] 3 (0, 0))) ?hF3 ?hG3; (case hF3 => refine ⟨?_, ?_, ?_⟩ <;> (first | ((repeat (first | exact Below.refl _ _ | apply Zae | apply Zab)); done) | ((repeat (first | (apply Zb4; simp; done) | apply Zbf)); done))); intro W_ hF_; obtain ⟨hB_, h0_, h1_⟩ := hF_; refine (Zaj.calls 40 _ _ [1, 2, 0] _ _ [1, 0, 2] [0, 2, 1] 0 W_ (Zbm [1, 2, 0] (by decide) h0_) (Nat.le_refl _) (Zbm [1, 0, 2] (by decide) h1_) (Nat.le_refl _) fx18_3).mono ?_; rintro e W4 ⟨v3, rfl, hS, hb_⟩; have hT_ := Zao hB_ hb_; clear hb_; have nB_ := Zaa.mk (Zao HB.out hT_); clear HB; have HB := nB_; clear nB_; have nX_ := Zaa.mk (Kd.Zap HCa.out hT_); clear HCa; have HCa := nX_; clear nX_; have nX_ := Zaa.mk (Kd.Zap HCb.out hT_); clear HCb; have HCb := nX_; clear nX_; have nX_ := Zaa.mk (Kd.Zap HCc.out hT_); clear HCc; have HCc := nX_; clear nX_; obtain ⟨Ad, cd, rfl, hl_, hC_⟩ := Kd.Zcl hS; clear hS; have HCd := Zaa.mk hC_; have HLd := Zaa.mk hl_; clear hC_ hl_; clear hT_ hB_ h0_ h1_)) | (go_at_call 11; go_loud (refine Za8 (F := fun W => Below W4.heap.size W4 W ∧ W.heap[W4.heap.size]? = some (.cells #[.int .i64 1, .int .i64 2, .int .i64 0] 3 (0, 0))) ?hF4 ?hG4; (case hF4 => refine ⟨?_, ?_⟩ <;> (first | ((repeat (first | exact Below.refl _ _ | apply Zae | apply Zab)); done) | ((repeat (first | (apply Zb4; simp; done) | apply Zbf)); done))); intro W_ hF_; obtain ⟨hB_, h0_⟩ := hF_; refine (Zaq.calls 40 _ _ [1, 2, 0] [2, 0, 1] 0 W_ (Zbm [1, 2, 0] (by decide) h0_) (Nat.le_refl _) fx18_4).mono ?_; rintro e W5 ⟨v4, rfl, hS, hb_⟩; have hT_ := Zao hB_ hb_; clear hb_; have nB_ := Zaa.mk (Zao HB.out hT_); clear HB; have HB := nB_; clear nB_; have nX_ := Zaa.mk (Kd.Zap HCa.out hT_); clear HCa; have HCa := nX_; clear nX_; have nX_ := Zaa.mk (Kd.Zap HCb.out hT_); clear HCb; have HCb := nX_; clear nX_; have nX_ := Zaa.mk (Kd.Zap HCc.out hT_); clear HCc; have HCc := nX_; clear nX_; have nX_ := Zaa.mk (Kd.Zap HCd.out hT_); clear HCd; have HCd := nX_; clear nX_; obtain ⟨Ak, ck, rfl, hl_, hC_⟩ := Kd.Zcl hS; clear hS; have HCk := Zaa.mk hC_; have HLk := Zaa.mk hl_; clear hC_ hl_; clear hT_ hB_ h0_)) | (go_at_call 20; go_loud (refine Za8 (F := fun W => Below W5.heap.size W5 W) ?hF5 ?hG5; (case hF5 => (repeat (first | exact Below.refl _ _ | apply Zae | apply Zab)); done); intro W_ hF_; have hB_ := hF_; clear hF_; refine (Zb.calls 40 none 0 [] 8 [] 1 W_ (Kd.C_nil _ _) (Nat.le_refl _) fx18_5).mono ?_; rintro e W6 ⟨v5, rfl, hS, hb_⟩; have hT_ := Zao hB_ hb_; clear hb_; have nB_ := Zaa.mk (Zao HB.out hT_); clear HB; have HB := nB_; clear nB_; have nX_ := Zaa.mk (Kd.Zap HCa.out hT_); clear HCa; have HCa := nX_; clear nX_; have nX_ := Zaa.mk (Kd.Zap HCb.out hT_); clear HCb; have HCb := nX_; clear nX_; have nX_ := Zaa.mk (Kd.Zap HCc.out hT_); clear HCc; have HCc := nX_; clear nX_; have nX_ := Zaa.mk (Kd.Zap HCd.out hT_); clear HCd; have HCd := nX_; clear nX_; have nX_ := Zaa.mk (Kd.Zap HCk.out hT_); clear HCk; have HCk := nX_; clear nX_; clear hS; clear hT_ hB_)) | (go_at_call 25; go_loud (refine Za8 (F := fun W => Below W6.heap.size W6 W ∧ W.heap[W6.heap.size]? = some (.cells #[.int .i64 1, .int .i64 1] 3 (0, 0)) ∧ W.heap[W6.heap.size + 1]? = some (.cells #[.int .i64 0, .int .i64 1] 3 (0, 0)) ∧ W.heap[W6.heap.size + 1 + 1]? = some (.cells #[.int .i64 1, .int .i64 0] 3 (0, 0)) ∧ W.heap[W6.heap.size + 1 + 1 + 1]? = some (.cells #[.slice (some ⟨W6.heap.size + 1, 0, none⟩) 2 2, .slice (some ⟨W6.heap.size + 1 + 1, 0, none⟩) 2 2] 22 (0, 0))) ?hF6 ?hG6; (case hF6 => refine ⟨?_, ?_, ?_, ?_, ?_⟩ <;> (first | ((repeat (first | exact Below.refl _ _ | apply Zae | apply Zab)); done) | ((repeat (first | (apply Zb4; simp; done) | apply Zbf)); done))); intro W_ hF_; obtain ⟨hB_, h0_, h1_, h2_, h3_⟩ := hF_; refine (Zbi.calls 40 _ _ [1, 1] _ _ [[0, 1], [1, 0]] [[1, 1]] 0 W_ (Zbm [1, 1] (by decide) h0_) (Nat.le_refl _) (Zdl [[0, 1], [1, 0]] [_, _] (by decide) h3_ ⟨Zdt rfl (Nat.le_refl _) (Zbm [0, 1] (by decide) h1_), Zdt rfl (Nat.le_refl _) (Zbm [1, 0] (by decide) h2_), trivial⟩) (Nat.le_refl _) fx18_6).mono ?_; rintro e W7 ⟨v6, rfl, hS, hb_⟩; have hT_ := Zao hB_ hb_; clear hb_; have nB_ := Zaa.mk (Zao HB.out hT_); clear HB; have HB := nB_; clear nB_; have nX_ := Zaa.mk (Kd.Zap HCa.out hT_); clear HCa; have HCa := nX_; clear nX_; have nX_ := Zaa.mk (Kd.Zap HCb.out hT_); clear HCb; have HCb := nX_; clear nX_; have nX_ := Zaa.mk (Kd.Zap HCc.out hT_); clear HCc; have HCc := nX_; clear nX_; have nX_ := Zaa.mk (Kd.Zap HCd.out hT_); clear HCd; have HCd := nX_; clear nX_; have nX_ := Zaa.mk (Kd.Zap HCk.out hT_); clear HCk; have HCk := nX_; clear nX_; obtain ⟨Ao, co, rfl, hl_, hC_⟩ := Kd.Zd0 hS; clear hS; have HCo := Zaa.mk hC_; have HLo := Zaa.mk hl_; clear hC_ hl_; clear hT_ hB_ h0_ h1_ h2_ h3_)) | (go_at_call 23; go_loud (refine Za8 (F := fun W => Below W7.heap.size W7 W ∧ W.heap[W7.heap.size]? = some (.cells #[.int .i64 2, .int .i64 1] 3 (0, 0)) ∧ W.heap[W7.heap.size + 1]? = some (.cells #[.int .i64 1, .int .i64 2] 3 (0, 0)) ∧ W.heap[W7.heap.size + 1 + 1]? = some (.cells #[.slice (some ⟨W7.heap.size, 0, none⟩) 2 2, .slice (some ⟨W7.heap.size + 1, 0, none⟩) 2 2] 22 (0, 0)) ∧ W.heap[W7.heap.size + 1 + 1 + 1]? = some (.cells #[.int .i64 1, .int .i64 0] 3 (0, 0)) ∧ W.heap[W7.heap.size + 1 + 1 + 1 + 1]? = some (.cells #[.slice (some ⟨W7.heap.size + 1 + 1 + 1, 0, none⟩) 2 2] 22 (0, 0))) ?hF7 ?hG7; (case hF7 => refine ⟨?_, ?_, ?_, ?_, ?_, ?_⟩ <;> (first | ((repeat (first | exact Below.refl _ _ | apply Zae | apply Zab)); done) | ((repeat (first | (apply Zb4; simp; done) | apply Zbf)); done))); intro W_ hF_; obtain ⟨hB_, h0_, h1_, h2_, h3_, h4_⟩ := hF_; refine (Zay.calls 40 _ _ [[2, 1], [1, 2]] _ _ [[1, 0]] [[1, 2], [2, 1]] 0 W_ (Zdl [[2, 1], [1, 2]] [_, _] (by decide) h2_ ⟨Zdt rfl (Nat.le_refl _) (Zbm [2, 1] (by decide) h0_), Zdt rfl (Nat.le_refl _) (Zbm [1, 2] (by decide) h1_), trivial⟩) (Nat.le_refl _) (Zdl [[1, 0]] [_] (by decide) h4_ ⟨Zdt rfl (Nat.le_refl _) (Zbm [1, 0] (by decide) h3_), trivial⟩) (Nat.le_refl _) fx18_7).mono ?_; rintro e W8 ⟨v7, rfl, hS, hb_⟩; have hT_ := Zao hB_ hb_; clear hb_; have nB_ := Zaa.mk (Zao HB.out hT_); clear HB; have HB := nB_; clear nB_; have nX_ := Zaa.mk (Kd.Zap HCa.out hT_); clear HCa; have HCa := nX_; clear nX_; have nX_ := Zaa.mk (Kd.Zap HCb.out hT_); clear HCb; have HCb := nX_; clear nX_; have nX_ := Zaa.mk (Kd.Zap HCc.out hT_); clear HCc; have HCc := nX_; clear nX_; have nX_ := Zaa.mk (Kd.Zap HCd.out hT_); clear HCd; have HCd := nX_; clear nX_; have nX_ := Zaa.mk (Kd.Zap HCk.out hT_); clear HCk; have HCk := nX_; clear nX_; have nX_ := Zaa.mk (Kd.Zap HCo.out hT_); clear HCo; have HCo := nX_; clear nX_; obtain ⟨As, cs, rfl, hl_, hC_⟩ := Kd.N_reads hS; clear hS; have HCs := Zaa.mk hC_; have HLs := Zaa.mk hl_; clear hC_ hl_; clear hT_ hB_ h0_ h1_ h2_ h3_ h4_)) | (go_at_call 22; go_loud (refine Za8 (F := fun W => Below W8.heap.size W8 W ∧ W.heap[W8.heap.size]? = some (.cells #[.int .i64 0, .int .i64 1, .int .i64 2] 3 (0, 0)) ∧ W.heap[W8.heap.size + 1]? = some (.cells #[.int .i64 1, .int .i64 0, .int .i64 2] 3 (0, 0)) ∧ W.heap[W8.heap.size + 1 + 1]? = some (.cells #[.slice (some ⟨W8.heap.size, 0, none⟩) 3 3, .slice (some ⟨W8.heap.size + 1, 0, none⟩) 3 3] 22 (0, 0))) ?hF8 ?hG8; (case hF8 => refine ⟨?_, ?_, ?_, ?_⟩ <;> (first | ((repeat (first | exact Below.refl _ _ | apply Zae | apply Zab)); done) | ((repeat (first | (apply Zb4; simp; done) | apply Zbf)); done))); intro W_ hF_; obtain ⟨hB_, h0_, h1_, h2_⟩ := hF_; refine (Zal.calls 40 _ _ [[0, 1, 2], [1, 0, 2]] _ _ [[0, 1, 2], [1, 0, 2]] true W_ (Kd.Zap HCa.out hB_) HLa.out (Zdl [[0, 1, 2], [1, 0, 2]] [_, _] (by decide) h2_ ⟨Zdt rfl (Nat.le_refl _) (Zbm [0, 1, 2] (by decide) h0_), Zdt rfl (Nat.le_refl _) (Zbm [1, 0, 2] (by decide) h1_), trivial⟩) (Nat.le_refl _) fx18_8).mono ?_; rintro e W9 ⟨rfl, hdr⟩; have hT_ := Zao hB_ hdr.below; clear hdr; have nB_ := Zaa.mk (Zao HB.out hT_); clear HB; have HB := nB_; clear nB_; have nX_ := Zaa.mk (Kd.Zap HCa.out hT_); clear HCa; have HCa := nX_; clear nX_; have nX_ := Zaa.mk (Kd.Zap HCb.out hT_); clear HCb; have HCb := nX_; clear nX_; have nX_ := Zaa.mk (Kd.Zap HCc.out hT_); clear HCc; have HCc := nX_; clear nX_; have nX_ := Zaa.mk (Kd.Zap HCd.out hT_); clear HCd; have HCd := nX_; clear nX_; have nX_ := Zaa.mk (Kd.Zap HCk.out hT_); clear HCk; have HCk := nX_; clear nX_; have nX_ := Zaa.mk (Kd.Zap HCo.out hT_); clear HCo; have HCo := nX_; clear nX_; have nX_ := Zaa.mk (Kd.Zap HCs.out hT_); clear HCs; have HCs := nX_; clear nX_; clear hT_ hB_ h0_ h1_ h2_)) | (go_at_call 14; go_loud (refine Za8 (F := fun W => Below W9.heap.size W9 W ∧ W.heap[W9.heap.size]? = some (.cells #[.int .i64 7, .int .i64 5, .int .i64 6] 3 (0, 0))) ?hF9 ?hG9; (case hF9 => refine ⟨?_, ?_⟩ <;> (first | ((repeat (first | exact Below.refl _ _ | apply Zae | apply Zab)); done) | ((repeat (first | (apply Zb4; simp; done) | apply Zbf)); done))); intro W_ hF_; obtain ⟨hB_, h0_⟩ := hF_; refine (Zac.calls 40 _ _ [7, 5, 6] _ _ [7, 5, 6] true W_ (Kd.Zap HCc.out hB_) HLc.out (Zbm [7, 5, 6] (by decide) h0_) (Nat.le_refl _) fx18_9).mono ?_; rintro e W10 ⟨rfl, hdr⟩; have hT_ := Zao hB_ hdr.below; clear hdr; have nB_ := Zaa.mk (Zao HB.out hT_); clear HB; have HB := nB_; clear nB_; have nX_ := Zaa.mk (Kd.Zap HCa.out hT_); clear HCa; have HCa := nX_; clear nX_; have nX_ := Zaa.mk (Kd.Zap HCb.out hT_); clear HCb; have HCb := nX_; clear nX_; have nX_ := Zaa.mk (Kd.Zap HCc.out hT_); clear HCc; have HCc := nX_; clear nX_; have nX_ := Zaa.mk (Kd.Zap HCd.out hT_); clear HCd; have HCd := nX_; clear nX_; have nX_ := Zaa.mk (Kd.Zap HCk.out hT_); clear HCk; have HCk := nX_; clear nX_; have nX_ := Zaa.mk (Kd.Zap HCo.out hT_); clear HCo; have HCo := nX_; clear nX_; have nX_ := Zaa.mk (Kd.Zap HCs.out hT_); clear HCs; have HCs := nX_; clear nX_; clear hT_ hB_ h0_)) | (go_at_call 14; go_loud (refine Za8 (F := fun W => Below W10.heap.size W10 W ∧ W.heap[W10.heap.size]? = some (.cells #[.int .i64 0, .int .i64 2, .int .i64 1] 3 (0, 0))) ?hF10 ?hG10; (case hF10 => refine ⟨?_, ?_⟩ <;> (first | ((repeat (first | exact Below.refl _ _ | apply Zae | apply Zab)); done) | ((repeat (first | (apply Zb4; simp; done) | apply Zbf)); done))); intro W_ hF_; obtain ⟨hB_, h0_⟩ := hF_; refine (Zac.calls 40 _ _ [0, 2, 1] _ _ [0, 2, 1] true W_ (Kd.Zap HCd.out hB_) HLd.out (Zbm [0, 2, 1] (by decide) h0_) (Nat.le_refl _) fx18_10).mono ?_; rintro e W11 ⟨rfl, hdr⟩; have hT_ := Zao hB_ hdr.below; clear hdr; have nB_ := Zaa.mk (Zao HB.out hT_); clear HB; have HB := nB_; clear nB_; have nX_ := Zaa.mk (Kd.Zap HCa.out hT_); clear HCa; have HCa := nX_; clear nX_; have nX_ := Zaa.mk (Kd.Zap HCb.out hT_); clear HCb; have HCb := nX_; clear nX_; have nX_ := Zaa.mk (Kd.Zap HCc.out hT_); clear HCc; have HCc := nX_; clear nX_; have nX_ := Zaa.mk (Kd.Zap HCd.out hT_); clear HCd; have HCd := nX_; clear nX_; have nX_ := Zaa.mk (Kd.Zap HCk.out hT_); clear HCk; have HCk := nX_; clear nX_; have nX_ := Zaa.mk (Kd.Zap HCo.out hT_); clear HCo; have HCo := nX_; clear nX_; have nX_ := Zaa.mk (Kd.Zap HCs.out hT_); clear HCs; have HCs := nX_; clear nX_; clear hT_ hB_ h0_)) | (go_at_call 14; go_loud (refine Za8 (F := fun W => Below W11.heap.size W11 W ∧ W.heap[W11.heap.size]? = some (.cells #[.int .i64 2, .int .i64 0, .int .i64 1] 3 (0, 0))) ?hF11 ?hG11; (case hF11 => refine ⟨?_, ?_⟩ <;> (first | ((repeat (first | exact Below.refl _ _ | apply Zae | apply Zab)); done) | ((repeat (first | (apply Zb4; simp; done) | apply Zbf)); done))); intro W_ hF_; obtain ⟨hB_, h0_⟩ := hF_; refine (Zac.calls 40 _ _ [2, 0, 1] _ _ [2, 0, 1] true W_ (Kd.Zap HCk.out hB_) HLk.out (Zbm [2, 0, 1] (by decide) h0_) (Nat.le_refl _) fx18_11).mono ?_; rintro e W12 ⟨rfl, hdr⟩; have hT_ := Zao hB_ hdr.below; clear hdr; have nB_ := Zaa.mk (Zao HB.out hT_); clear HB; have HB := nB_; clear nB_; have nX_ := Zaa.mk (Kd.Zap HCa.out hT_); clear HCa; have HCa := nX_; clear nX_; have nX_ := Zaa.mk (Kd.Zap HCb.out hT_); clear HCb; have HCb := nX_; clear nX_; have nX_ := Zaa.mk (Kd.Zap HCc.out hT_); clear HCc; have HCc := nX_; clear nX_; have nX_ := Zaa.mk (Kd.Zap HCd.out hT_); clear HCd; have HCd := nX_; clear nX_; have nX_ := Zaa.mk (Kd.Zap HCk.out hT_); clear HCk; have HCk := nX_; clear nX_; have nX_ := Zaa.mk (Kd.Zap HCo.out hT_); clear HCo; have HCo := nX_; clear nX_; have nX_ := Zaa.mk (Kd.Zap HCs.out hT_); clear HCs; have HCs := nX_; clear nX_; clear hT_ hB_ h0_)) | (go_at_call 22; go_loud (refine Za8 (F := fun W => Below W12.heap.size W12 W ∧ W.heap[W12.heap.size]? = some (.cells #[.int .i64 1, .int .i64 1] 3 (0, 0)) ∧ W.heap[W12.heap.size + 1]? = some (.cells #[.slice (some ⟨W12.heap.size, 0, none⟩) 2 2] 22 (0, 0))) ?hF12 ?hG12; (case hF12 => refine ⟨?_, ?_, ?_⟩ <;> (first | ((repeat (first | exact Below.refl _ _ | apply Zae | apply Zab)); done) | ((repeat (first | (apply Zb4; simp; done) | apply Zbf)); done))); intro W_ hF_; obtain ⟨hB_, h0_, h1_⟩ := hF_; refine (Zal.calls 40 _ _ [[1, 1]] _ _ [[1, 1]] true W_ (Kd.Zap HCo.out hB_) HLo.out (Zdl [[1, 1]] [_] (by decide) h1_ ⟨Zdt rfl (Nat.le_refl _) (Zbm [1, 1] (by decide) h0_), trivial⟩) (Nat.le_refl _) fx18_12).mono ?_; rintro e W13 ⟨rfl, hdr⟩; have hT_ := Zao hB_ hdr.below; clear hdr; have nB_ := Zaa.mk (Zao HB.out hT_); clear HB; have HB := nB_; clear nB_; have nX_ := Zaa.mk (Kd.Zap HCa.out hT_); clear HCa; have HCa := nX_; clear nX_; have nX_ := Zaa.mk (Kd.Zap HCb.out hT_); clear HCb; have HCb := nX_; clear nX_; have nX_ := Zaa.mk (Kd.Zap HCc.out hT_); clear HCc; have HCc := nX_; clear nX_; have nX_ := Zaa.mk (Kd.Zap HCd.out hT_); clear HCd; have HCd := nX_; clear nX_; have nX_ := Zaa.mk (Kd.Zap HCk.out hT_); clear HCk; have HCk := nX_; clear nX_; have nX_ := Zaa.mk (Kd.Zap HCo.out hT_); clear HCo; have HCo := nX_; clear nX_; have nX_ := Zaa.mk (Kd.Zap HCs.out hT_); clear HCs; have HCs := nX_; clear nX_; clear hT_ hB_ h0_ h1_)) | (go_at_call 22; go_loud (refine Za8 (F := fun W => Below W13.heap.size W13 W ∧ W.heap[W13.heap.size]? = some (.cells #[.int .i64 1, .int .i64 2] 3 (0, 0)) ∧ W.heap[W13.heap.size + 1]? = some (.cells #[.int .i64 2, .int .i64 1] 3 (0, 0)) ∧ W.heap[W13.heap.size + 1 + 1]? = some (.cells #[.slice (some ⟨W13.heap.size, 0, none⟩) 2 2, .slice (some ⟨W13.heap.size + 1, 0, none⟩) 2 2] 22 (0, 0))) ?hF13 ?hG13; (case hF13 => refine ⟨?_, ?_, ?_, ?_⟩ <;> (first | ((repeat (first | exact Below.refl _ _ | apply Zae | apply Zab)); done) | ((repeat (first | (apply Zb4; simp; done) | apply Zbf)); done))); intro W_ hF_; obtain ⟨hB_, h0_, h1_, h2_⟩ := hF_; refine (Zal.calls 40 _ _ [[1, 2], [2, 1]] _ _ [[1, 2], [2, 1]] true W_ (Kd.Zap HCs.out hB_) HLs.out (Zdl [[1, 2], [2, 1]] [_, _] (by decide) h2_ ⟨Zdt rfl (Nat.le_refl _) (Zbm [1, 2] (by decide) h0_), Zdt rfl (Nat.le_refl _) (Zbm [2, 1] (by decide) h1_), trivial⟩) (Nat.le_refl _) fx18_13).mono ?_; rintro e W14 ⟨rfl, hdr⟩; have hT_ := Zao hB_ hdr.below; clear hdr; have nB_ := Zaa.mk (Zao HB.out hT_); clear HB; have HB := nB_; clear nB_; have nX_ := Zaa.mk (Kd.Zap HCa.out hT_); clear HCa; have HCa := nX_; clear nX_; have nX_ := Zaa.mk (Kd.Zap HCb.out hT_); clear HCb; have HCb := nX_; clear nX_; have nX_ := Zaa.mk (Kd.Zap HCc.out hT_); clear HCc; have HCc := nX_; clear nX_; have nX_ := Zaa.mk (Kd.Zap HCd.out hT_); clear HCd; have HCd := nX_; clear nX_; have nX_ := Zaa.mk (Kd.Zap HCk.out hT_); clear HCk; have HCk := nX_; clear nX_; have nX_ := Zaa.mk (Kd.Zap HCo.out hT_); clear HCo; have HCo := nX_; clear nX_; have nX_ := Zaa.mk (Kd.Zap HCs.out hT_); clear HCs; have HCs := nX_; clear nX_; clear hT_ hB_ h0_ h1_ h2_)))
  go_ret
  exact ⟨rfl, by repeat (first | exact HB.out | apply Zab)⟩
end Go.Proofs.Yteopgafbamipeaa.P
namespace Go.Proofs.Yteopgafbamipeaa.P
open Go.RowKit Go.Proofs.YteopgafbamipeaaW.PrintWords Go.Proofs.YteopgafbamipeaaW.PrintLast Go.Proofs.YteopgafbamipeaaW.PrintMore
attribute [local go_sem] Zca Zcc Zc2 Zc3 Zby Zbz Zcb Zcd
set_option linter.unusedVariables false
set_option linter.unusedSimpArgs false
/-! ### Zam: function 28 -/
def Zam.l0 : Nat → List Int → Int → Int → Option (Bool)
 | 0, _, _, _ => none
 | k + 1, x0, x1, x5 => if x5 < (x0.length : Int) then (if 0 ≤ x5 then (if (rd x0 x5) = x1 then (some true) else (Zam.l0 k x0 x1 (wrap64 (x5 + 1)))) else (none)) else (some false)
def Zam.f (k : Nat) (l0 : List Int) (a1 : Int) : Option (Bool) := Zam.l0 k l0 a1 0
theorem Zam.Za7 : ∀ k, (∀ y0 y1 y2, LeO (Zam.l0 k y0 y1 y2) (Zam.l0 (k + 1) y0 y1 y2))
 | 0 => fun _ _ _ r h => by simp [Zam.l0] at h
 | k + 1 => by
  have ih0 := Zam.Za7 k
  intro y0 y1 y2
  unfold Zam.l0
  repeat' first
  | (with_reducible exact ih0 _ _ _)
  | (with_reducible exact LeO.refl _)
  | (with_reducible exact LeO.none _)
  | (with_reducible refine LeO.ite ?_ ?_)
  | (with_reducible refine LeO.bind ?_ (fun _ => ?_))
  | exact ih0 _ _ _
  | exact LeO.none _
  | refine LeO.ite ?_ ?_
  | refine LeO.bind ?_ (fun _ => ?_)
theorem Zam.mono : ∀ a0 a1 k, LeO (Zam.f k a0 a1) (Zam.f (k + 1) a0 a1) := by
 intro a0 a1 k
 have ih0 := Zam.Za7 k
 unfold Zam.f
 repeat' first
   | (with_reducible exact ih0 _ _ _)
   | (with_reducible exact LeO.refl _)
   | (with_reducible exact LeO.none _)
   | (with_reducible refine LeO.ite ?_ ?_)
   | (with_reducible refine LeO.bind ?_ (fun _ => ?_))
   | exact ih0 _ _ _
   | exact LeO.none _
   | refine LeO.ite ?_ ?_
   | refine LeO.bind ?_ (fun _ => ?_)
set_option maxHeartbeats 8000000 in
set_option maxRecDepth 100000 in
theorem Zam.calls (k : Nat) (A0 : Option Addr) (c0 : Nat) (l0 : List Int) (a1 : Int) (r : Bool) (w : World) (hr0 : Kd.C (Kd.int .i64) w A0 l0.length l0) (hc0 : l0.length ≤ c0) (h : Zam.f k l0 a1 = some r) :
  Calls Try.prog 28 #[.slice A0 l0.length c0, .int .i64 a1] w fun e w' => e = .returned (.bool r) ∧ Zau w w' := by
 have HR0 := Zaa.mk hr0
 have HC0 := Zaa.mk hc0
 clear hr0 hc0
 have H : (Zam.l0 k l0 a1 0) = some r := h
 clear h
 have H' := Zaa.mk H
 clear H
 go_enter Try.func28, Try.ntmps28
 go_wp2
 go_loopg [5] k (fun kq v5 w' => ∃ (x5_1 : Int), v5 = .int .i64 x5_1 ∧ Zaa (Zam.l0 kq l0 a1 x5_1 = some r) ∧ Zaa (kq ≤ k) ∧ Zau w w')
 case atStart => exact ⟨(0), (by first | rfl | (simp; done) | (simp [*]; done)), H', ⟨Nat.le_refl _⟩, by repeat (first | exact Zau.refl _ | apply Zau.step)⟩
 case round =>
  clear H'
  try clear c2
  try clear p2
  obtain ⟨x5_1, rfl, HA, HK1, ⟨m1, rfl⟩⟩ := hrel
  cases gk with
  | zero => exact absurd HA.out (by simp [Zam.l0])
  | succ k1 =>
   have H := HA.out
   clear HA
   simp only [Zam.l0] at H
   by_cases c3 : x5_1 < (l0.length : Int)
   rotate_left
   ·rw [if_neg c3] at H
    have c3b0 : decide (x5_1 < (l0.length : Int)) = false := decide_eq_false c3
    clear c3
    obtain rfl := Option.some.inj H
    go_wp2
    go_ret
    exact ⟨by first | rfl | (simp; done) | (simp [*]; done), by repeat (first | exact Zau.refl _ | apply Zau.step)⟩

   rw [if_pos c3] at H
   have c3b0 : decide (x5_1 < (l0.length : Int)) = true := decide_eq_true c3
   clear c3
   by_cases c4 : 0 ≤ x5_1
   rotate_left
   ·rw [if_neg c4] at H
    exact absurd H (by simp)
   rw [if_pos c4] at H
   have c4b0 : decide (0 ≤ x5_1) = true := decide_eq_true c4
   clear c4
   by_cases c5 : (rd l0 x5_1) = a1
   ·rw [if_pos c5] at H
    have c5b0 : ((rd l0 x5_1) == a1) = true := beq_iff_eq.mpr c5
    have c5b1 : ((rd l0 x5_1) != a1) = false := bne_eq_false_iff_eq.mpr c5
    clear c5
    obtain rfl := Option.some.inj H
    have p108 : 0 ≤ (x5_1 : Int) := of_decide_eq_true (by first | (with_reducible assumption) | assumption)
    have q108 : x5_1 < (l0.length : Int) := of_decide_eq_true (by first | (with_reducible assumption) | assumption)
    obtain ⟨ad108, e108, hx108_0⟩ := Kd.Zbj HR0.out x5_1 p108 q108
    cases e108
    replace p108 := eq_true p108
    replace q108 := eq_true q108
    go_wp2
    go_ret
    exact ⟨by first | rfl | (simp; done) | (simp [*]; done), by repeat (first | exact Zau.refl _ | apply Zau.step)⟩
   rw [if_neg c5] at H
   have c5b0 : ((rd l0 x5_1) == a1) = false := beq_eq_false_iff_ne.mpr c5
   have c5b1 : ((rd l0 x5_1) != a1) = true := bne_iff_ne.mpr c5
   have H' := Zaa.mk H
   clear H
   have p108 : 0 ≤ (x5_1 : Int) := of_decide_eq_true (by first | (with_reducible assumption) | assumption)
   have q108 : x5_1 < (l0.length : Int) := of_decide_eq_true (by first | (with_reducible assumption) | assumption)
   obtain ⟨ad108, e108, hx108_0⟩ := Kd.Zbj HR0.out x5_1 p108 q108
   cases e108
   replace p108 := eq_true p108
   replace q108 := eq_true q108
   go_wp2
   go_roundg k1
   case measure => have := HK1.out; omega
   case rel => exact ⟨(wrap64 (x5_1 + 1)), (by first | rfl | (simp; done) | (simp [*]; done)), H', ⟨by have := HK1.out; omega⟩, by repeat (first | exact Zau.refl _ | apply Zau.step)⟩
/-! ### Zad: function 15 -/
def Zad.l0 : Nat → List Int → Int → Option (Bool)
 | 0, _, _ => none
 | k + 1, x0, x3 => if x3 < (x0.length : Int) then ((Zam.f k x0 x3).bind fun t109 => (if t109 = true then (Zad.l0 k x0 (wrap64 (x3 + 1))) else (some false))) else (some true)
def Zad.f (k : Nat) (l0 : List Int) : Option (Bool) := Zad.l0 k l0 0
theorem Zad.Za7 : ∀ k, (∀ y0 y1, LeO (Zad.l0 k y0 y1) (Zad.l0 (k + 1) y0 y1))
 | 0 => fun _ _ r h => by simp [Zad.l0] at h
 | k + 1 => by
  have ih0 := Zad.Za7 k
  intro y0 y1
  unfold Zad.l0
  repeat' first
  | (with_reducible exact ih0 _ _)
  | (with_reducible exact Zam.mono _ _ _)
  | (with_reducible exact LeO.refl _)
  | (with_reducible exact LeO.none _)
  | (with_reducible refine LeO.ite ?_ ?_)
  | (with_reducible refine LeO.bind ?_ (fun _ => ?_))
  | exact ih0 _ _
  | exact Zam.mono _ _ _
  | exact LeO.none _
  | refine LeO.ite ?_ ?_
  | refine LeO.bind ?_ (fun _ => ?_)
theorem Zad.mono : ∀ a0 k, LeO (Zad.f k a0) (Zad.f (k + 1) a0) := by
 intro a0 k
 have ih0 := Zad.Za7 k
 unfold Zad.f
 repeat' first
   | (with_reducible exact ih0 _ _)
   | (with_reducible exact Zam.mono _ _ _)
   | (with_reducible exact LeO.refl _)
   | (with_reducible exact LeO.none _)
   | (with_reducible refine LeO.ite ?_ ?_)
   | (with_reducible refine LeO.bind ?_ (fun _ => ?_))
   | exact ih0 _ _
   | exact Zam.mono _ _ _
   | exact LeO.none _
   | refine LeO.ite ?_ ?_
   | refine LeO.bind ?_ (fun _ => ?_)
set_option maxHeartbeats 8000000 in
set_option maxRecDepth 100000 in
theorem Zad.calls (k : Nat) (A0 : Option Addr) (c0 : Nat) (l0 : List Int) (r : Bool) (w : World) (hr0 : Kd.C (Kd.int .i64) w A0 l0.length l0) (hc0 : l0.length ≤ c0) (h : Zad.f k l0 = some r) :
  Calls Try.prog 15 #[.slice A0 l0.length c0] w fun e w' => e = .returned (.bool r) ∧ Zau w w' := by
 have HR0 := Zaa.mk hr0
 have HC0 := Zaa.mk hc0
 clear hr0 hc0
 have H : (Zad.l0 k l0 0) = some r := h
 clear h
 have H' := Zaa.mk H
 clear H
 go_enter Try.func15, Try.ntmps15
 go_wp2
 go_loopg [3] k (fun kq v3 w' => ∃ (x3_1 : Int), v3 = .int .i64 x3_1 ∧ Zaa (Zad.l0 kq l0 x3_1 = some r) ∧ Zaa (kq ≤ k) ∧ Zau w w')
 case atStart => exact ⟨(0), (by first | rfl | (simp; done) | (simp [*]; done)), H', ⟨Nat.le_refl _⟩, by repeat (first | exact Zau.refl _ | apply Zau.step)⟩
 case round =>
  clear H'
  try clear c1
  obtain ⟨x3_1, rfl, HA, HK1, ⟨m1, rfl⟩⟩ := hrel
  cases gk with
  | zero => exact absurd HA.out (by simp [Zad.l0])
  | succ k1 =>
   have H := HA.out
   clear HA
   simp only [Zad.l0] at H
   by_cases c2 : x3_1 < (l0.length : Int)
   rotate_left
   ·rw [if_neg c2] at H
    have c2b0 : decide (x3_1 < (l0.length : Int)) = false := decide_eq_false c2
    clear c2
    obtain rfl := Option.some.inj H
    go_wp2
    go_ret
    exact ⟨by first | rfl | (simp; done) | (simp [*]; done), by repeat (first | exact Zau.refl _ | apply Zau.step)⟩

   rw [if_pos c2] at H
   have c2b0 : decide (x3_1 < (l0.length : Int)) = true := decide_eq_true c2
   clear c2
   replace H := Option.bind_eq_some_iff.mp H
   obtain ⟨t109, A30, H⟩ := H
   replace H : (if t109 = true then (Zad.l0 k1 l0 (wrap64 (x3_1 + 1))) else (some false)) = some r := H
   have A3 := Zaa.mk A30
   clear A30
   by_cases c4 : t109 = true
   rotate_left
   ·replace c4 := Bool.eq_false_iff.mpr c4
    subst c4
    have H1 : (some false) = some r := by rw [if_neg (show ¬ (false = true) by decide)] at H; exact H
    clear H
    have H := H1
    clear H1
    obtain rfl := Option.some.inj H
    go_wp2_with (first | ((with_reducible refine Zas (f := 28) rfl ?_); refine Zbc (some 12) rfl rfl Try.func28 (by kernel_rfl) rfl #[.slice A0 l0.length c0, .int .i64 x3_1] rfl (by (try simp only [List.map_toArray, List.map_cons, List.map_nil]); first | done | rfl | (simp only [List.length_drop, List.length_take]; rfl)) ?_; (with_reducible refine (Zam.calls k1 _ _ l0 x3_1 false _ ?side1 ?side2 A3.out).mono ?_); (case side1 => repeat (first | exact HR0.out | (with_reducible refine Kd.Zat ?_ _) | (with_reducible refine Kd.C_drewN ?_ _) | (with_reducible refine Kd.C_drew ?_))); (case side2 => exact HC0.out); rintro e w' ⟨rfl, ⟨nd, rfl⟩⟩; refine ⟨_, rfl, ?_⟩))
    go_ret
    exact ⟨by first | rfl | (simp; done) | (simp [*]; done), by repeat (first | exact Zau.refl _ | apply Zau.step)⟩
   subst c4
   have H1 : (Zad.l0 k1 l0 (wrap64 (x3_1 + 1))) = some r := by rw [if_pos rfl] at H; exact H
   clear H
   have H := H1
   clear H1
   have H' := Zaa.mk H
   clear H
   go_wp2_with (first | ((with_reducible refine Zas (f := 28) rfl ?_); refine Zbc (some 12) rfl rfl Try.func28 (by kernel_rfl) rfl #[.slice A0 l0.length c0, .int .i64 x3_1] rfl (by (try simp only [List.map_toArray, List.map_cons, List.map_nil]); first | done | rfl | (simp only [List.length_drop, List.length_take]; rfl)) ?_; (with_reducible refine (Zam.calls k1 _ _ l0 x3_1 true _ ?side1 ?side2 A3.out).mono ?_); (case side1 => repeat (first | exact HR0.out | (with_reducible refine Kd.Zat ?_ _) | (with_reducible refine Kd.C_drewN ?_ _) | (with_reducible refine Kd.C_drew ?_))); (case side2 => exact HC0.out); rintro e w' ⟨rfl, ⟨nd, rfl⟩⟩; refine ⟨_, rfl, ?_⟩))
   go_roundg k1
   case measure => have := HK1.out; omega
   case rel => exact ⟨(wrap64 (x3_1 + 1)), (by first | rfl | (simp; done) | (simp [*]; done)), H', ⟨by have := HK1.out; omega⟩, by repeat (first | exact Zau.refl _ | apply Zau.step)⟩
end Go.Proofs.Yteopgafbamipeaa.P
/- Changes of places: the functions of group and of its reference, in plain words. -/
namespace Go.Proofs.Yteopgafbamipeaa.P
open Go.RowKit Go.Proofs.YteopgafbamipeaaW.PrintWords Go.Proofs.YteopgafbamipeaaW.PrintLast Go.Proofs.YteopgafbamipeaaW.PrintMore
set_option linter.unusedVariables false
set_option linter.unusedSimpArgs false
theorem drop_nil' {α : Type} {l : List α} {n : Nat} (h : n + 0 = l.length) : l.drop n = [] := List.drop_eq_nil_iff.2 (by omega)
theorem ref_Has_l (l : List Int) (v : Int) (hl : l.length < 4611686018427387904) : ∀ (m n : Nat), n + m = l.length → Ev (fun k => Zam.l0 k l v (n : Int)) (decide (v ∈ l.drop n)) := by
  intro m
  induction m with
  | zero =>
    intro n h
    rw [drop_nil' h]
    exact Ev.step (G := fun _ => some false) (fun k => by rw [Zam.l0, if_neg (by omega)]) (Ev.const (by simp))
  | succ m ih =>
    intro n h
    have hn : n < l.length := by omega
    have hm : v ∈ l.drop n ↔ v = l[n] ∨ v ∈ l.drop (n + 1) := by rw [List.drop_eq_getElem_cons hn, List.mem_cons]
    by_cases e : l[n] = v
    · exact Ev.step (G := fun _ => some true) (fun k => by rw [Zam.l0, if_pos (by omega), if_pos (by omega), Zdr l n hn, if_pos e]) (Ev.const (by rw [decide_eq_true (hm.2 (.inl e.symm))]))
    have e2 : decide (v ∈ l.drop n) = decide (v ∈ l.drop (n + 1)) := decide_eq_decide.2 (hm.trans ⟨fun h => h.elim (fun h => absurd h.symm e) id, .inr⟩)
    rw [e2]
    exact Ev.step (fun k => by rw [Zam.l0, if_pos (by omega), if_pos (by omega), Zdr l n hn, if_neg e, w1 (by omega)]) (ih (n + 1) (by omega))
theorem ref_Has (l : List Int) (v : Int) (hl : l.length < 4611686018427387904) : Ev (fun k => Zam.f k l v) (decide (v ∈ l)) := ref_Has_l l v hl l.length 0 (by omega)

/-! ### Nums, Same -/
theorem ref_Nums_l (l m : List Int) (hl : l.length < 4611686018427387904) (hm : l.length = m.length) : ∀ (r n : Nat), n + r = l.length → Ev (fun k => Zac.l0 k l m (n : Int)) (decide (l.drop n = m.drop n)) := by
  intro r
  induction r with
  | zero =>
    intro n h
    rw [drop_nil' h, drop_nil' (l := m) (by omega)]
    exact Ev.step (G := fun _ => some true) (fun k => by rw [Zac.l0, if_neg (by omega)]) (Ev.const (by simp))
  | succ r ih =>
    intro n h
    have hn : n < l.length := by omega
    have hn2 : n < m.length := by omega
    have hm : l.drop n = m.drop n ↔ l[n] = m[n] ∧ l.drop (n + 1) = m.drop (n + 1) := by rw [List.drop_eq_getElem_cons hn, List.drop_eq_getElem_cons hn2, List.cons.injEq]
    by_cases e : l[n] = m[n]
    rotate_left
    · exact Ev.step (G := fun _ => some false) (fun k => by rw [Zac.l0, if_pos (by omega), if_pos (by omega), if_pos (by omega), Zdr l n hn, Zdr m n hn2, if_neg e]) (Ev.const (by rw [decide_eq_false (fun h => e (hm.1 h).1)]))
    have e2 : decide (l.drop n = m.drop n) = decide (l.drop (n + 1) = m.drop (n + 1)) := decide_eq_decide.2 (hm.trans ⟨And.right, fun h => ⟨e, h⟩⟩)
    rw [e2]
    exact Ev.step (fun k => by rw [Zac.l0, if_pos (by omega), if_pos (by omega), if_pos (by omega), Zdr l n hn, Zdr m n hn2, if_pos e, w1 (by omega)]) (ih (n + 1) (by omega))
theorem Zdw (l m : List Int) (hl : l.length < 4611686018427387904) : Ev (fun k => Zac.f k l m) (decide (l = m)) := by
  by_cases h : l.length = m.length
  · exact Ev.eq (fun k => by rw [Zac.f, if_pos (by omega)]; rfl) (ref_Nums_l l m hl h l.length 0 (by omega))
  exact Ev.eq (G := fun _ => some false) (fun k => by rw [Zac.f, if_neg (by omega)]) (Ev.const (by simp; intro e; exact h (by rw [e])))
theorem ref_Nums_self (l : List Int) (hl : l.length < 4611686018427387904) : Ev (fun k => Zac.f k l l) true := by have := Zdw l l hl; simpa using this

namespace G
/-- Is a list a change of places? -/
abbrev rtB (p : List Int) : Bool := idB 0 (sortI p)
theorem Zbr {p : List Int} : rtB p = true ↔ Rt p := Zda p
theorem Zdx {p : List Int} (hl : p.length ≤ 1000000) : Ev (fun _ => Za3.f p) (rtB p) := Ev.const (Zeg hl)
theorem Zee (p : List Int) (hl : p.length ≤ 1000000) : ∀ (d j : Nat), j + d = p.length → (∀ i : Nat, i < j → (i : Int) ∈ p) → Ev (fun k => Zad.l0 k p (j : Int)) (rtB p)
  | 0, j, h, hi => by
    refine Ev.step (G := fun _ => some true) (fun k => by rw [Zad.l0, if_neg (by omega)]) (Ev.const ?_)
    rw [Zbr.2 (fun i hi' => hi i (by omega))]
  | d + 1, j, h, hi => by
    by_cases hj : (j : Int) ∈ p
    rotate_left
    · refine Ev.step (fun k => by rw [Zad.l0, if_pos (by omega)]) (Ev.bind (ref_Has p (j : Int) (by omega)) ?_)
      rw [decide_eq_false hj]
      refine Ev.Zb9 (by simp) (Ev.const ?_)
      cases h2 : rtB p
      · rfl
      exact absurd (Zbr.1 h2 j (by omega)) hj
    refine Ev.step (fun k => by rw [Zad.l0, if_pos (by omega), w1 (by omega)]) (Ev.bind (ref_Has p (j : Int) (by omega)) ?_)
    rw [decide_eq_true hj]
    refine Ev.Zbb rfl (Zee p hl d (j + 1) (by omega) (fun i hi' => ?_))
    rcases Nat.lt_or_ge i j with g | g
    · exact hi i g
    obtain rfl : i = j := by omega
    exact hj
theorem Zb2 {p : List Int} (hl : p.length ≤ 1000000) : Ev (fun k => Zad.f k p) (rtB p) :=
  Zee p hl p.length 0 (by omega) (fun i hi => absurd hi (Nat.not_lt_zero _))
/-- Behind. -/
def bh (p q : List Int) : List Int × Int := if p.length = q.length ∧ rtB p = true ∧ rtB q = true then (comp p q, 0) else ([], 1)
theorem behind_ev {p q : List Int} (hp : p.length ≤ 1000000) (hq : q.length ≤ 1000000) : Ev (fun k => Zaj.f k p q) (bh p q) := by
  have hno : ∀ b : Bool, b = true → bh p q = ([], 1) → Ev (fun k => Zaj.j0 k p q b) (bh p q) := fun b hb h => by
    subst hb
    rw [h]
    exact Ev.step (G := fun _ => some ([], 1)) (fun k => by rw [Zaj.j0, if_pos rfl]) (Ev.const rfl)
  unfold Zaj.f
  by_cases hl : p.length = q.length
  rotate_left
  · exact Ev.Zb9 (by omega) (hno _ rfl (if_neg (fun h => hl h.1)))
  refine Ev.Zbb (by omega) (Ev.bind (Zdx hp) ?_)
  cases h1 : rtB p
  · exact Ev.Zb9 (by simp) (hno _ rfl (if_neg (by simp [h1])))
  refine Ev.Zbb rfl (Ev.bind (Zdx hq) ?_)
  cases h2 : rtB q
  · exact hno _ rfl (if_neg (by simp [h2]))
  have e : bh p q = (comp p q, 0) := if_pos ⟨hl, h1, h2⟩
  rw [e]
  refine Ev.step (G := fun k => Zaj.l0 k q [] p (p.length : Int) 0) (fun k => by rw [Zaj.j0, if_neg (by simp)]) ?_
  refine Ev.of_mono (p.length + 1) (Zc1 p q (Zbr.1 h1) hl hp p.length 0 (by omega)) (fun k => (Zaj.Za7 k).2 _ _ _ _ _)
/-- Values in other places. -/
def scN (a p : List Int) (n : Nat) : List Int := (List.range n).foldl (fun r (v : Nat) => r.set (rd p (v : Int)).toNat (rd a (v : Int))) (List.replicate p.length 0)
def sc (a p : List Int) : List Int := scN a p p.length
theorem Zdf (a p : List Int) (n : Nat) : scN a p (n + 1) = (scN a p n).set (rd p n).toNat (rd a n) := by
  unfold scN
  rw [List.range_succ, List.foldl_append]
  rfl
theorem Zdj {a p : List Int} (hp : Rt p) : ∀ n, n ≤ p.length → ScN n a p (scN a p n)
  | 0, _ => ScN.start (by simp [scN])
  | n + 1, h => by
    rw [Zdf]
    exact (Zdj hp n (by omega)).step hp (by omega)
theorem sc_Sc {a p : List Int} (hp : Rt p) : Sc a p (sc a p) := (Zdj hp p.length (Nat.le_refl _)).done rfl
theorem sc_len {a p : List Int} (hp : Rt p) : (sc a p).length = p.length := (sc_Sc hp).1
theorem Zeh (a p : List Int) (hp : Rt p) (hl : a.length = p.length) (hb : p.length ≤ 1000000) : ∀ (d j : Nat), j + d = p.length → Ev (fun k => Zak.l0 k a (scN a p j) p (p.length : Int) (j : Int)) (sc a p, 0)
  | 0, j, h => by
    obtain rfl : j = p.length := by omega
    exact Ev.step (G := fun _ => some (scN a p p.length, 0)) (fun k => by rw [Zak.l0, if_neg (by omega)]) (Ev.const rfl)
  | d + 1, j, h => by
    have hj : j < p.length := by omega
    obtain ⟨h0, h1⟩ := hp.rng hj
    have hs := (Zdj (a := a) hp j (by omega)).1
    refine Ev.step (fun k => by rw [Zak.l0, if_pos (by omega), if_pos (by omega), if_pos (by omega), if_pos (by omega), if_pos h0, if_pos (by omega), w1 (by omega), ← Zdf]) (Zeh a p hp hl hb d (j + 1) (by omega))
def vl (a p : List Int) : List Int × Int := if a.length = p.length ∧ rtB p = true then (sc a p, 0) else ([], 1)
theorem values_ev {a p : List Int} (hp : p.length ≤ 1000000) : Ev (fun k => Zak.f k a p) (vl a p) := by
  have hno : ∀ b : Bool, b = true → vl a p = ([], 1) → Ev (fun k => Zak.j0 k a p b) (vl a p) := fun b hb h => by
    subst hb
    rw [h]
    exact Ev.step (G := fun _ => some ([], 1)) (fun k => by rw [Zak.j0, if_pos rfl]) (Ev.const rfl)
  unfold Zak.f
  by_cases hl : a.length = p.length
  rotate_left
  · exact Ev.Zb9 (by omega) (hno _ rfl (if_neg (fun h => hl h.1)))
  refine Ev.Zbb (by omega) (Ev.bind (Zdx hp) ?_)
  cases h2 : rtB p
  · exact hno _ rfl (if_neg (by simp [h2]))
  have e : vl a p = (sc a p, 0) := if_pos ⟨hl, h2⟩
  rw [e]
  refine Ev.step (G := fun k => Zak.l0 k a (scN a p 0) p (p.length : Int) 0) (fun k => by rw [Zak.j0, if_neg (by simp), if_pos (by omega), if_pos (by omega)]; rw [Int.toNat_natCast, hl]; rfl) ?_
  exact Zeh a p (Zbr.1 h2) hl hp p.length 0 (by omega)
/-- The way back. -/
theorem back_loop (p : List Int) (hp : Rt p) (hb : p.length ≤ 1000000) : ∀ (d j : Nat), j + d = p.length → Ev (fun k => Zaq.l0 k (scN (ids p.length) p j) p (p.length : Int) (j : Int)) (sc (ids p.length) p, 0)
  | 0, j, h => by
    obtain rfl : j = p.length := by omega
    exact Ev.step (G := fun _ => some (scN (ids p.length) p p.length, 0)) (fun k => by rw [Zaq.l0, if_neg (by omega)]) (Ev.const rfl)
  | d + 1, j, h => by
    have hj : j < p.length := by omega
    obtain ⟨h0, h1⟩ := hp.rng hj
    have hs := (Zdj (a := ids p.length) hp j (by omega)).1
    have e := Zdf (ids p.length) p j
    rw [Zch hj] at e
    refine Ev.step (fun k => by rw [Zaq.l0, if_pos (by omega), if_pos (by omega), if_pos (by omega), if_pos h0, if_pos (by omega), w1 (by omega), ← e]) (back_loop p hp hb d (j + 1) (by omega))
def bk (p : List Int) : List Int × Int := if rtB p = true then (sc (ids p.length) p, 0) else ([], 1)
theorem back_ev {p : List Int} (hp : p.length ≤ 1000000) : Ev (fun k => Zaq.f k p) (bk p) := by
  unfold Zaq.f
  refine Ev.bind (Zdx hp) ?_
  cases h2 : rtB p
  · exact Ev.Zb9 (by simp) (Ev.const (by simp [bk, h2]))
  have e : bk p = (sc (ids p.length) p, 0) := if_pos h2
  rw [e]
  refine Ev.Zbb rfl (Ev.Zbb (by omega) (Ev.Zbb (by omega) ?_))
  have := back_loop p (Zbr.1 h2) hp p.length 0 (by omega)
  rw [Int.toNat_natCast]
  exact this
theorem behind_ok {p q : List Int} (h1 : Rt p) (h2 : Rt q) (hl : p.length = q.length) (hp : p.length ≤ 1000000) : Ev (fun k => Zaj.f k p q) (comp p q, 0) := by
  have h := behind_ev hp (show q.length ≤ 1000000 by omega)
  rwa [show bh p q = (comp p q, 0) from if_pos ⟨hl, Zbr.2 h1, Zbr.2 h2⟩] at h
theorem values_ok {a p : List Int} (h1 : Rt p) (hl : a.length = p.length) (hp : p.length ≤ 1000000) : Ev (fun k => Zak.f k a p) (sc a p, 0) := by
  have h := values_ev (a := a) hp
  rwa [show vl a p = (sc a p, 0) from if_pos ⟨hl, Zbr.2 h1⟩] at h
theorem back_ok {p : List Int} (h1 : Rt p) (hp : p.length ≤ 1000000) : Ev (fun k => Zaq.f k p) (sc (ids p.length) p, 0) := by
  have h := back_ev hp
  rwa [show bk p = (sc (ids p.length) p, 0) from if_pos (Zbr.2 h1)] at h
theorem back_is_Rt {p : List Int} (h1 : Rt p) : Rt (sc (ids p.length) p) := back_Rt h1 (sc_Sc h1)
end G
end Go.Proofs.Yteopgafbamipeaa.P
