/- Proved: the statement GroupMore. Conditions: none but those of the statement. -/
import Derived.Test.YteopgafbamipeaaZ1
import Derived.Test.YteopgafbamipeaaZ2
import Derived.Test.YteopgafbamipeaaU1
import Derived.Deep.Slices
import Derived.ChangeArms
import Derived.DataReads
import Derived.SizedLaws
import Derived.Test.YteopgafbamipeaaRows
import Derived.WalkKit
import Derived.ProofKit
import Derived.OpenShut
import Derived.ShutString
import Derived.ChangeOld
import Derived.Below

namespace Go.Proofs.Yteopgafbamipeaa.P
open Go.RowKit Go.Proofs.YteopgafbamipeaaW.PrintWords Go.Proofs.YteopgafbamipeaaW.PrintLast Go.Proofs.YteopgafbamipeaaW.PrintMore
attribute [local go_sem] Zb6 Zb8 Zcp Zcq Zbx Zby Zb7 Zb9
set_option linter.unusedVariables false
set_option linter.unusedSimpArgs false
/-! ### Zai: function 26 -/
def Zai.l0 : Nat → List (List Int) → List Int → Int → Option (Bool)
 | 0, _, _, _ => none
 | k + 1, x0, x1, x5 => if x5 < (x0.length : Int) then (if 0 ≤ x5 then ((Zag.f k (Za5 x0 x5) x1).bind fun t414 => (if t414 = true then (some true) else (Zai.l0 k x0 x1 (wrap64 (x5 + 1))))) else (none)) else (some false)
def Zai.f (k : Nat) (l0 : List (List Int)) (l1 : List Int) : Option (Bool) := Zai.l0 k l0 l1 0
theorem Zai.Za9 : ∀ k, (∀ y0 y1 y2, LeO (Zai.l0 k y0 y1 y2) (Zai.l0 (k + 1) y0 y1 y2))
 | 0 => fun _ _ _ r h => by simp [Zai.l0] at h
 | k + 1 => by
  have ih0 := Zai.Za9 k
  intro y0 y1 y2
  unfold Zai.l0
  repeat' first
  | (with_reducible exact ih0 _ _ _)
  | (with_reducible exact Zag.mono _ _ _)
  | (with_reducible exact LeO.refl _)
  | (with_reducible exact LeO.none _)
  | (with_reducible refine LeO.ite ?_ ?_)
  | (with_reducible refine LeO.bind ?_ (fun _ => ?_))
  | exact ih0 _ _ _
  | exact Zag.mono _ _ _
  | exact LeO.none _
  | refine LeO.ite ?_ ?_
  | refine LeO.bind ?_ (fun _ => ?_)
theorem Zai.mono : ∀ a0 a1 k, LeO (Zai.f k a0 a1) (Zai.f (k + 1) a0 a1) := by
 intro a0 a1 k
 have ih0 := Zai.Za9 k
 unfold Zai.f
 repeat' first
   | (with_reducible exact ih0 _ _ _)
   | (with_reducible exact Zag.mono _ _ _)
   | (with_reducible exact LeO.refl _)
   | (with_reducible exact LeO.none _)
   | (with_reducible refine LeO.ite ?_ ?_)
   | (with_reducible refine LeO.bind ?_ (fun _ => ?_))
   | exact ih0 _ _ _
   | exact Zag.mono _ _ _
   | exact LeO.none _
   | refine LeO.ite ?_ ?_
   | refine LeO.bind ?_ (fun _ => ?_)
set_option maxHeartbeats 8000000 in
set_option maxRecDepth 100000 in
theorem Zai.calls (k : Nat) (A0 : Option Addr) (c0 : Nat) (l0 : List (List Int)) (A1 : Option Addr) (c1 : Nat) (l1 : List Int) (r : Bool) (w : World) (hr0 : Kd.C (Kd.slice 3 (Kd.int .i64)) w A0 l0.length l0) (hc0 : l0.length ≤ c0) (hr1 : Kd.C (Kd.int .i64) w A1 l1.length l1) (hc1 : l1.length ≤ c1) (h : Zai.f k l0 l1 = some r) :
  Calls Try.prog 26 #[.slice A0 l0.length c0, .slice A1 l1.length c1] w fun e w' => e = .returned (.bool r) ∧ Zau w w' := by
 have HR0 := Za.mk hr0
 have HC0 := Za.mk hc0
 clear hr0 hc0
 have HR1 := Za.mk hr1
 have HC1 := Za.mk hc1
 clear hr1 hc1
 have H : (Zai.l0 k l0 l1 0) = some r := h
 clear h
 have H' := Za.mk H
 clear H
 go_enter Try.func26, Try.ntmps26
 go_wp2
 go_loopg [5] k (fun kq v5 w' => ∃ (x5_1 : Int), v5 = .int .i64 x5_1 ∧ Za (Zai.l0 kq l0 l1 x5_1 = some r) ∧ Za (kq ≤ k) ∧ Zau w w')
 case atStart => exact ⟨(0), (by first | rfl | (simp; done) | (simp [*]; done)), H', ⟨Nat.le_refl _⟩, by repeat (first | exact Zau.refl _ | apply Zau.step)⟩
 case round =>
  clear H'
  try clear c1
  try clear c2
  try clear p2
  obtain ⟨x5_1, rfl, HA, HK1, ⟨m1, rfl⟩⟩ := hrel
  cases gk with
  | zero => exact absurd HA.out (by simp [Zai.l0])
  | succ k1 =>
   have H := HA.out
   clear HA
   simp only [Zai.l0] at H
   by_cases c3 : x5_1 < (l0.length : Int)
   rotate_left
   ·rw [if_neg c3] at H
    have c3b0 : decide (x5_1 < (l0.length : Int)) = false := decide_eq_false c3
    clear c3
    obtain rfl := Option.some.inj H
    go_wp2
    go_ret
    exact ⟨by first | rfl | (simp; done) | (simp [*]; done), by repeat (first | exact Zau.refl _ | apply Zau.step)⟩

   rw [if_pos c3] at H
   have c3b0 : decide (x5_1 < (l0.length : Int)) = true := decide_eq_true c3
   clear c3
   by_cases c4 : 0 ≤ x5_1
   rotate_left
   ·rw [if_neg c4] at H
    exact absurd H (by simp)
   rw [if_pos c4] at H
   have c4b0 : decide (0 ≤ x5_1) = true := decide_eq_true c4
   clear c4
   replace H := Option.bind_eq_some_iff.mp H
   obtain ⟨t414, A50, H⟩ := H
   replace H : (if t414 = true then (some true) else (Zai.l0 k1 l0 l1 (wrap64 (x5_1 + 1)))) = some r := H
   have A5 := Za.mk A50
   clear A50
   by_cases c6 : t414 = true
   ·subst c6
    have H1 : (some true) = some r := by rw [if_pos rfl] at H; exact H
    clear H
    have H := H1
    clear H1
    obtain rfl := Option.some.inj H
    have p413 : 0 ≤ (x5_1 : Int) := of_decide_eq_true (by first | (with_reducible assumption) | assumption)
    have q413 : x5_1 < (l0.length : Int) := of_decide_eq_true (by first | (with_reducible assumption) | assumption)
    obtain ⟨ad413, A413_0, c413_0, e413, hx413_0, hl413_0, hi413_0⟩ := Zda HR0.out x5_1 p413 q413
    cases e413
    have HR413_0 := Za.mk hi413_0
    have HC413_0 := Za.mk hl413_0
    clear hi413_0 hl413_0
    replace p413 := eq_true p413
    replace q413 := eq_true q413
    go_wp2_with (first | ((with_reducible refine Zat (f := 14) rfl ?_); refine Zbd (some 17) rfl rfl Try.func14 (by kernel_rfl) rfl #[.slice A413_0 (Za5 l0 x5_1).length c413_0, .slice A1 l1.length c1] rfl (by (try simp only [List.map_toArray, List.map_cons, List.map_nil]); first | done | rfl | (simp only [List.length_drop, List.length_take]; rfl)) ?_; (with_reducible refine (Zag.calls k1 _ _ (Za5 l0 x5_1) _ _ l1 true _ ?side1 ?side2 ?side3 ?side4 A5.out).mono ?_); (case side1 => repeat (first | exact HR413_0.out | (with_reducible refine Kd.Zaz ?_ _) | (with_reducible refine Kd.C_drewN ?_ _) | (with_reducible refine Kd.C_drew ?_))); (case side2 => exact HC413_0.out); (case side3 => repeat (first | exact HR1.out | (with_reducible refine Kd.Zaz ?_ _) | (with_reducible refine Kd.C_drewN ?_ _) | (with_reducible refine Kd.C_drew ?_))); (case side4 => exact HC1.out); rintro e w' ⟨rfl, ⟨nd, rfl⟩⟩; refine ⟨_, rfl, ?_⟩))
    go_ret
    exact ⟨by first | rfl | (simp; done) | (simp [*]; done), by repeat (first | exact Zau.refl _ | apply Zau.step)⟩
   replace c6 := Bool.eq_false_iff.mpr c6
   subst c6
   have H1 : (Zai.l0 k1 l0 l1 (wrap64 (x5_1 + 1))) = some r := by rw [if_neg (show ¬ (false = true) by decide)] at H; exact H
   clear H
   have H := H1
   clear H1
   have H' := Za.mk H
   clear H
   have p413 : 0 ≤ (x5_1 : Int) := of_decide_eq_true (by first | (with_reducible assumption) | assumption)
   have q413 : x5_1 < (l0.length : Int) := of_decide_eq_true (by first | (with_reducible assumption) | assumption)
   obtain ⟨ad413, A413_0, c413_0, e413, hx413_0, hl413_0, hi413_0⟩ := Zda HR0.out x5_1 p413 q413
   cases e413
   have HR413_0 := Za.mk hi413_0
   have HC413_0 := Za.mk hl413_0
   clear hi413_0 hl413_0
   replace p413 := eq_true p413
   replace q413 := eq_true q413
   go_wp2_with (first | ((with_reducible refine Zat (f := 14) rfl ?_); refine Zbd (some 17) rfl rfl Try.func14 (by kernel_rfl) rfl #[.slice A413_0 (Za5 l0 x5_1).length c413_0, .slice A1 l1.length c1] rfl (by (try simp only [List.map_toArray, List.map_cons, List.map_nil]); first | done | rfl | (simp only [List.length_drop, List.length_take]; rfl)) ?_; (with_reducible refine (Zag.calls k1 _ _ (Za5 l0 x5_1) _ _ l1 false _ ?side1 ?side2 ?side3 ?side4 A5.out).mono ?_); (case side1 => repeat (first | exact HR413_0.out | (with_reducible refine Kd.Zaz ?_ _) | (with_reducible refine Kd.C_drewN ?_ _) | (with_reducible refine Kd.C_drew ?_))); (case side2 => exact HC413_0.out); (case side3 => repeat (first | exact HR1.out | (with_reducible refine Kd.Zaz ?_ _) | (with_reducible refine Kd.C_drewN ?_ _) | (with_reducible refine Kd.C_drew ?_))); (case side4 => exact HC1.out); rintro e w' ⟨rfl, ⟨nd, rfl⟩⟩; refine ⟨_, rfl, ?_⟩))
   go_roundg k1
   case measure => have := HK1.out; omega
   case rel => exact ⟨(wrap64 (x5_1 + 1)), (by first | rfl | (simp; done) | (simp [*]; done)), H', ⟨by have := HK1.out; omega⟩, by repeat (first | exact Zau.refl _ | apply Zau.step)⟩
/-! ### Zaa: function 8 -/
mutual
def Zaa.l0 : Nat → List (List Int) → Int → Int → List (List Int) → List (List Int) → Int → Option (Bool)
 | 0, _, _, _, _, _, _ => none
 | k + 1, x0, x2, x7, x8, x10, x11 => if x11 ≥ 0 then (if 0 ≤ x11 then (if x11 < (x0.length : Int) then (if x10.length < 5864062014805 then ((some (x10 ++ [Za5 x0 x11] : List (List Int))).bind fun y427 => (if y427.length < 5864062014805 then (Zaa.l0 k x0 x2 x7 x8 (y427 ++ [Za5 x0 x11]) (wrap64 (x11 - 1))) else (none))) else (none)) else (none)) else (none)) else ((Zas.f k x10 x7).bind fun bt434 => (if (wrap64 ((x0.length : Int) + 1)) = 0 then (none) else (if 0 ≤ (Int.tmod (Go.bits .and .i64 x2 65535) (wrap64 ((x0.length : Int) + 1))) then (if (Int.tmod (Go.bits .and .i64 x2 65535) (wrap64 ((x0.length : Int) + 1))) ≤ (x0.length : Int) then ((Zas.f k (x0.take ((Int.tmod (Go.bits .and .i64 x2 65535) (wrap64 ((x0.length : Int) + 1))) : Int).toNat) x7).bind fun bt443 => (if bt434.2 = 0 then (if bt443.2 = 0 then ((Zaf.f k x8 bt434.1).bind fun t447 => (if t447 = true then (if (bt443.1.length : Int) < 1 then (Zaa.j1 k x8 bt443.1 true) else (if (bt443.1.length : Int) = 0 then (none) else (Zaa.j1 k x8 bt443.1 (((x8.length : Int) % (bt443.1.length : Int)) != 0)))) else (Zaa.j1 k x8 bt443.1 true))) else (Zaa.j1 k x8 bt443.1 true)) else (Zaa.j1 k x8 bt443.1 true))) else (none)) else (none))))
def Zaa.j1 : Nat → List (List Int) → List (List Int) → Bool → Option (Bool)
 | 0, _, _, _ => none
 | k + 1, x8, x14, x100 => if x100 = true then (none) else (Zaa.l1 k x8 x14 0)
def Zaa.l1 : Nat → List (List Int) → List (List Int) → Int → Option (Bool)
 | 0, _, _, _ => none
 | k + 1, x8, x14, x16 => if x16 < (x14.length : Int) then (if 0 ≤ x16 then ((Zai.f k x8 (Za5 x14 x16)).bind fun t449 => (if t449 = true then (Zaa.l1 k x8 x14 (wrap64 (x16 + 1))) else (none))) else (none)) else ((Zar.f k).bind fun t450 => (some t450))
end
def Zaa.f (k : Nat) (l0 : List (List Int)) (a1 : Int) (a2 : Int) : Option (Bool) := (Zae.f k l0).bind fun t415 => ((Zas.f k t415 (Int.tmod (Go.bits .and .i64 a1 65535) 6)).bind fun bt418 => (if bt418.2 = 0 then (Zaa.l0 k t415 a2 (Int.tmod (Go.bits .and .i64 a1 65535) 6) bt418.1 (([] : List (List Int))) (wrap64 ((t415.length : Int) - 1))) else (if bt418.2 = 1 then ((Zar.f k).bind fun t422 => (some t422)) else (none))))
theorem Zaa.Za9 : ∀ k, (∀ y0 y1 y2 y3 y4 y5, LeO (Zaa.l0 k y0 y1 y2 y3 y4 y5) (Zaa.l0 (k + 1) y0 y1 y2 y3 y4 y5)) ∧ (∀ y0 y1 y2, LeO (Zaa.j1 k y0 y1 y2) (Zaa.j1 (k + 1) y0 y1 y2)) ∧ (∀ y0 y1 y2, LeO (Zaa.l1 k y0 y1 y2) (Zaa.l1 (k + 1) y0 y1 y2))
 | 0 => ⟨fun _ _ _ _ _ _ r h => by simp [Zaa.l0] at h, fun _ _ _ r h => by simp [Zaa.j1] at h, fun _ _ _ r h => by simp [Zaa.l1] at h⟩
 | k + 1 => by
  obtain ⟨ih0, ih1, ih2⟩ := Zaa.Za9 k
  refine ⟨?_, ?_, ?_⟩
  ·intro y0 y1 y2 y3 y4 y5
   unfold Zaa.l0
   repeat' first
   | (with_reducible exact ih0 _ _ _ _ _ _)
   | (with_reducible exact ih1 _ _ _)
   | (with_reducible exact ih2 _ _ _)
   | (with_reducible exact Zas.mono _ _ _)
   | (with_reducible exact Zai.mono _ _ _)
   | (with_reducible exact Zar.mono _)
   | (with_reducible exact Zae.mono _ _)
   | (with_reducible exact Zaf.mono _ _ _)
   | (with_reducible exact LeO.refl _)
   | (with_reducible exact LeO.none _)
   | (with_reducible refine LeO.ite ?_ ?_)
   | (with_reducible refine LeO.bind ?_ (fun _ => ?_))
   | exact ih0 _ _ _ _ _ _
   | exact ih1 _ _ _
   | exact ih2 _ _ _
   | exact Zas.mono _ _ _
   | exact Zai.mono _ _ _
   | exact Zar.mono _
   | exact Zae.mono _ _
   | exact Zaf.mono _ _ _
   | exact LeO.none _
   | refine LeO.ite ?_ ?_
   | refine LeO.bind ?_ (fun _ => ?_)
  ·intro y0 y1 y2
   unfold Zaa.j1
   repeat' first
   | (with_reducible exact ih0 _ _ _ _ _ _)
   | (with_reducible exact ih1 _ _ _)
   | (with_reducible exact ih2 _ _ _)
   | (with_reducible exact Zas.mono _ _ _)
   | (with_reducible exact Zai.mono _ _ _)
   | (with_reducible exact Zar.mono _)
   | (with_reducible exact Zae.mono _ _)
   | (with_reducible exact Zaf.mono _ _ _)
   | (with_reducible exact LeO.refl _)
   | (with_reducible exact LeO.none _)
   | (with_reducible refine LeO.ite ?_ ?_)
   | (with_reducible refine LeO.bind ?_ (fun _ => ?_))
   | exact ih0 _ _ _ _ _ _
   | exact ih1 _ _ _
   | exact ih2 _ _ _
   | exact Zas.mono _ _ _
   | exact Zai.mono _ _ _
   | exact Zar.mono _
   | exact Zae.mono _ _
   | exact Zaf.mono _ _ _
   | exact LeO.none _
   | refine LeO.ite ?_ ?_
   | refine LeO.bind ?_ (fun _ => ?_)
  intro y0 y1 y2
  unfold Zaa.l1
  repeat' first
  | (with_reducible exact ih0 _ _ _ _ _ _)
  | (with_reducible exact ih1 _ _ _)
  | (with_reducible exact ih2 _ _ _)
  | (with_reducible exact Zas.mono _ _ _)
  | (with_reducible exact Zai.mono _ _ _)
  | (with_reducible exact Zar.mono _)
  | (with_reducible exact Zae.mono _ _)
  | (with_reducible exact Zaf.mono _ _ _)
  | (with_reducible exact LeO.refl _)
  | (with_reducible exact LeO.none _)
  | (with_reducible refine LeO.ite ?_ ?_)
  | (with_reducible refine LeO.bind ?_ (fun _ => ?_))
  | exact ih0 _ _ _ _ _ _
  | exact ih1 _ _ _
  | exact ih2 _ _ _
  | exact Zas.mono _ _ _
  | exact Zai.mono _ _ _
  | exact Zar.mono _
  | exact Zae.mono _ _
  | exact Zaf.mono _ _ _
  | exact LeO.none _
  | refine LeO.ite ?_ ?_
  | refine LeO.bind ?_ (fun _ => ?_)
theorem Zaa.mono : ∀ a0 a1 a2 k, LeO (Zaa.f k a0 a1 a2) (Zaa.f (k + 1) a0 a1 a2) := by
 intro a0 a1 a2 k
 obtain ⟨ih0, ih1, ih2⟩ := Zaa.Za9 k
 unfold Zaa.f
 repeat' first
   | (with_reducible exact ih0 _ _ _ _ _ _)
   | (with_reducible exact ih1 _ _ _)
   | (with_reducible exact ih2 _ _ _)
   | (with_reducible exact Zas.mono _ _ _)
   | (with_reducible exact Zai.mono _ _ _)
   | (with_reducible exact Zar.mono _)
   | (with_reducible exact Zae.mono _ _)
   | (with_reducible exact Zaf.mono _ _ _)
   | (with_reducible exact LeO.refl _)
   | (with_reducible exact LeO.none _)
   | (with_reducible refine LeO.ite ?_ ?_)
   | (with_reducible refine LeO.bind ?_ (fun _ => ?_))
   | exact ih0 _ _ _ _ _ _
   | exact ih1 _ _ _
   | exact ih2 _ _ _
   | exact Zas.mono _ _ _
   | exact Zai.mono _ _ _
   | exact Zar.mono _
   | exact Zae.mono _ _
   | exact Zaf.mono _ _ _
   | exact LeO.none _
   | refine LeO.ite ?_ ?_
   | refine LeO.bind ?_ (fun _ => ?_)
set_option maxHeartbeats 8000000 in
set_option maxRecDepth 100000 in
theorem Zaa.calls (k : Nat) (A0 : Option Addr) (c0 : Nat) (l0 : List (List Int)) (a1 : Int) (a2 : Int) (r : Bool) (w : World) (hr0 : Kd.C (Kd.slice 3 (Kd.int .i64)) w A0 l0.length l0) (hc0 : l0.length ≤ c0) (h : Zaa.f k l0 a1 a2 = some r) :
  Calls Try.prog 8 #[.slice A0 l0.length c0, .int .i64 a1, .int .i64 a2] w fun e w' => e = .returned (.bool r) ∧ Below w.heap.size w w' := by
 have HR0 := Za.mk hr0
 have HC0 := Za.mk hc0
 clear hr0 hc0
 have HB := Za.mk (Below.refl w.heap.size w)
 have H : ((Zae.f k l0).bind fun t415 => ((Zas.f k t415 (Int.tmod (Go.bits .and .i64 a1 65535) 6)).bind fun bt418 => (if bt418.2 = 0 then (Zaa.l0 k t415 a2 (Int.tmod (Go.bits .and .i64 a1 65535) 6) bt418.1 (([] : List (List Int))) (wrap64 ((t415.length : Int) - 1))) else (if bt418.2 = 1 then ((Zar.f k).bind fun t422 => (some t422)) else (none))))) = some r := h
 clear h
 replace H := Option.bind_eq_some_iff.mp H
 obtain ⟨t415, A40, H⟩ := H
 replace H : ((Zas.f k t415 (Int.tmod (Go.bits .and .i64 a1 65535) 6)).bind fun bt418 => (if bt418.2 = 0 then (Zaa.l0 k t415 a2 (Int.tmod (Go.bits .and .i64 a1 65535) 6) bt418.1 (([] : List (List Int))) (wrap64 ((t415.length : Int) - 1))) else (if bt418.2 = 1 then ((Zar.f k).bind fun t422 => (some t422)) else (none)))) = some r := H
 have A4 := Za.mk A40
 clear A40
 replace H := Option.bind_eq_some_iff.mp H
 obtain ⟨⟨t418, t419⟩, A50, H⟩ := H
 replace H : (if t419 = 0 then (Zaa.l0 k t415 a2 (Int.tmod (Go.bits .and .i64 a1 65535) 6) t418 (([] : List (List Int))) (wrap64 ((t415.length : Int) - 1))) else (if t419 = 1 then ((Zar.f k).bind fun t422 => (some t422)) else (none))) = some r := H
 have A5 := Za.mk A50
 clear A50
 by_cases c6 : t419 = 0
 rotate_left
 ·rw [if_neg c6] at H
  have c6b0 : (t419 == 0) = false := beq_eq_false_iff_ne.mpr c6
  have c6b1 : (t419 != 0) = true := bne_iff_ne.mpr c6
  by_cases c54 : t419 = 1
  rotate_left
  ·rw [if_neg c54] at H
   exact absurd H (by simp)

  rw [if_pos c54] at H
  have c54b0 : (t419 == 1) = true := beq_iff_eq.mpr c54
  have c54b1 : (t419 != 1) = false := bne_eq_false_iff_eq.mpr c54
  clear c54
  replace H := Option.bind_eq_some_iff.mp H
  obtain ⟨t422, A550, H⟩ := H
  replace H : (some t422) = some r := H
  have A55 := Za.mk A550
  clear A550
  obtain rfl := Option.some.inj H
  go_enter Try.func8, Try.ntmps8
  go_wp2_with (first | ((with_reducible refine Zat (f := 18) rfl ?_); refine Zbd (some 18) rfl rfl Try.func18 (by kernel_rfl) rfl #[.slice A0 l0.length c0] rfl (by (try simp only [List.map_toArray, List.map_cons, List.map_nil]); first | done | rfl | (simp only [List.length_drop, List.length_take]; rfl)) ?_; (with_reducible refine (Zae.calls k _ _ l0 t415 _ ?side1 ?side2 A4.out).mono ?_); (case side1 => repeat (first | exact HR0.out | (with_reducible refine Kd.Zaz ?_ _) | (with_reducible refine Kd.C_drewN ?_ _) | (with_reducible refine Kd.C_drew ?_))); (case side2 => exact HC0.out); rintro e w56 ⟨v416, rfl, ho0, hb⟩; refine ⟨_, rfl, ?_⟩; have n0_ := Za.mk (Kd.Zcm (Kd.Zbj (ok' := fun k_ => True) (Kd.S_N (Kd.Zcd ho0)) (fun k_ hk_ => trivial)) (Zav (by repeat (first | (with_reducible first | exact HB.out | apply Zac | apply Zab | apply Zad) | exact HB.out)))); have n1_ := Za.mk (Zam (by repeat (first | (with_reducible first | exact HB.out | apply Zac | apply Zab | apply Zad) | exact HB.out)) hb); clear HB; have HO417 := n0_; have HB := n1_; clear n0_ n1_; (try clear hb); (try clear hb2); (try clear hk); (try clear hi); (try clear ho0); obtain ⟨Ao57, co57, eo57⟩ := Kd.Zbk HO417.out; subst eo57) | ((with_reducible refine Zat (f := 20) rfl ?_); refine Zbd (some 25) rfl rfl Try.func20 (by kernel_rfl) rfl #[.slice Ao57 t415.length co57, .int .i64 (Int.tmod (Go.bits .and .i64 a1 65535) 6)] rfl (by (try simp only [List.map_toArray, List.map_cons, List.map_nil]); first | done | rfl | (simp only [List.length_drop, List.length_take]; rfl)) ?_; (with_reducible refine (Zas.calls k _ _ t415 (Int.tmod (Go.bits .and .i64 a1 65535) 6) t418 t419 _ ?side1 ?side2 A5.out).mono ?_); (case side1 => repeat (first | exact (Kd.Za6 HO417.out).2.2 | (with_reducible refine Kd.Zaz ?_ _) | (with_reducible refine Kd.C_drewN ?_ _) | (with_reducible refine Kd.C_drew ?_))); (case side2 => exact (Kd.Za6 HO417.out).2.1); rintro e w58 ⟨v420, rfl, ho0, hb⟩; refine ⟨_, rfl, ?_⟩; have n0_ := Za.mk (Kd.Zbm (by (with_reducible repeat (first | apply Kd.N_alloc | apply Kd.Zaw | apply Kd.Za3)); exact HO417.out) (by first | exact Kd.Zcb ho0 | exact Kd.Zch ho0 | exact Kd.Zbv ho0) hb); have n1_ := Za.mk (Kd.Zcm (Kd.Zbj (ok' := fun k_ => some k_ ≠ (.slice Ao57 t415.length co57 : Value).ownBlock) (Kd.S_N (Kd.Zcd ho0)) (fun k_ hk_ => (Kd.fresh' (Kd.N_lt (by (with_reducible repeat (first | apply Kd.N_alloc | apply Kd.Zaw | apply Kd.Za3)); exact HO417.out)) k_ hk_.2.1))) (Zav (by repeat (first | (with_reducible first | exact HB.out | apply Zac | apply Zab | apply Zad) | exact HB.out)))); have n2_ := Za.mk (Zam (by repeat (first | (with_reducible first | exact HB.out | apply Zac | apply Zab | apply Zad) | exact HB.out)) hb); clear HO417; clear HB; have HO417 := n0_; have HO421 := n1_; have HB := n2_; clear n0_ n1_ n2_; (try clear hb); (try clear hb2); (try clear hk); (try clear hi); (try clear ho0)) | (go_at_call 16; (with_reducible refine (Zar.calls k  t422 _ A55.out).mono ?_); rintro e w59 ⟨rfl, hb⟩; have n0_ := Za.mk (Kd.Zdg (by (with_reducible repeat (first | apply Kd.N_alloc | apply Kd.Zaw | apply Kd.Za3)); exact HO417.out) hb); have n1_ := Za.mk (Kd.Zdg (by (with_reducible repeat (first | apply Kd.N_alloc | apply Kd.Zaw | apply Kd.Za3)); exact HO421.out) hb); have n2_ := Za.mk (Zam (by repeat (first | (with_reducible first | exact HB.out | apply Zac | apply Zab | apply Zad) | exact HB.out)) hb); clear HO417; clear HO421; clear HB; have HO417 := n0_; have HO421 := n1_; have HB := n2_; clear n0_ n1_ n2_; (try clear hb); (try clear hb2); (try clear hk); (try clear hi)))
  go_ret
  exact ⟨by first | rfl | (simp [Za0, Za1] <;> rfl) | (simp [*, Za0, Za1] <;> rfl), by repeat (first | (with_reducible first | exact HB.out | apply Zac | apply Zab | apply Zad) | exact HB.out)⟩
 rw [if_pos c6] at H
 have c6b0 : (t419 == 0) = true := beq_iff_eq.mpr c6
 have c6b1 : (t419 != 0) = false := bne_eq_false_iff_eq.mpr c6
 clear c6
 obtain ⟨y423, hy423⟩ : ∃ y_ : List (List Int), y_ = (([] : List (List Int))) := ⟨_, rfl⟩
 replace H : (Zaa.l0 k t415 a2 (Int.tmod (Go.bits .and .i64 a1 65535) 6) t418 y423 (wrap64 ((t415.length : Int) - 1))) = some r := by first | (rw [hy423]; with_reducible exact H) | (have H2_ := (Option.bind_some _ _).symm.trans H; rw [hy423]; with_reducible exact H2_) | (have H2_ := (Option.bind_some _ _).symm.trans H; with_reducible exact H2_) | with_reducible exact H | (rw [hy423]; exact H) | exact H
 have Ny423 := Za.mk hy423
 clear hy423
 have H' := Za.mk H
 clear H
 go_enter Try.func8, Try.ntmps8
 go_wp2_with (first | ((with_reducible refine Zat (f := 18) rfl ?_); refine Zbd (some 18) rfl rfl Try.func18 (by kernel_rfl) rfl #[.slice A0 l0.length c0] rfl (by (try simp only [List.map_toArray, List.map_cons, List.map_nil]); first | done | rfl | (simp only [List.length_drop, List.length_take]; rfl)) ?_; (with_reducible refine (Zae.calls k _ _ l0 t415 _ ?side1 ?side2 A4.out).mono ?_); (case side1 => repeat (first | exact HR0.out | (with_reducible refine Kd.Zaz ?_ _) | (with_reducible refine Kd.C_drewN ?_ _) | (with_reducible refine Kd.C_drew ?_))); (case side2 => exact HC0.out); rintro e w7 ⟨v416, rfl, ho0, hb⟩; refine ⟨_, rfl, ?_⟩; have n0_ := Za.mk (Kd.Zcm (Kd.Zbj (ok' := fun k_ => True) (Kd.S_N (Kd.Zcd ho0)) (fun k_ hk_ => trivial)) (Zav (by repeat (first | (with_reducible first | exact HB.out | apply Zac | apply Zab | apply Zad) | exact HB.out)))); have n1_ := Za.mk (Zam (by repeat (first | (with_reducible first | exact HB.out | apply Zac | apply Zab | apply Zad) | exact HB.out)) hb); clear HB; have HO417 := n0_; have HB := n1_; clear n0_ n1_; (try clear hb); (try clear hb2); (try clear hk); (try clear hi); (try clear ho0); obtain ⟨Ao8, co8, eo8⟩ := Kd.Zbk HO417.out; subst eo8) | ((with_reducible refine Zat (f := 20) rfl ?_); refine Zbd (some 25) rfl rfl Try.func20 (by kernel_rfl) rfl #[.slice Ao8 t415.length co8, .int .i64 (Int.tmod (Go.bits .and .i64 a1 65535) 6)] rfl (by (try simp only [List.map_toArray, List.map_cons, List.map_nil]); first | done | rfl | (simp only [List.length_drop, List.length_take]; rfl)) ?_; (with_reducible refine (Zas.calls k _ _ t415 (Int.tmod (Go.bits .and .i64 a1 65535) 6) t418 t419 _ ?side1 ?side2 A5.out).mono ?_); (case side1 => repeat (first | exact (Kd.Za6 HO417.out).2.2 | (with_reducible refine Kd.Zaz ?_ _) | (with_reducible refine Kd.C_drewN ?_ _) | (with_reducible refine Kd.C_drew ?_))); (case side2 => exact (Kd.Za6 HO417.out).2.1); rintro e w9 ⟨v420, rfl, ho0, hb⟩; refine ⟨_, rfl, ?_⟩; have n0_ := Za.mk (Kd.Zbm (by (with_reducible repeat (first | apply Kd.N_alloc | apply Kd.Zaw | apply Kd.Za3)); exact HO417.out) (by first | exact Kd.Zcb ho0 | exact Kd.Zch ho0 | exact Kd.Zbv ho0) hb); have n1_ := Za.mk (Kd.Zcm (Kd.Zbj (ok' := fun k_ => some k_ ≠ (.slice Ao8 t415.length co8 : Value).ownBlock) (Kd.S_N (Kd.Zcd ho0)) (fun k_ hk_ => (Kd.fresh' (Kd.N_lt (by (with_reducible repeat (first | apply Kd.N_alloc | apply Kd.Zaw | apply Kd.Za3)); exact HO417.out)) k_ hk_.2.1))) (Zav (by repeat (first | (with_reducible first | exact HB.out | apply Zac | apply Zab | apply Zad) | exact HB.out)))); have n2_ := Za.mk (Zam (by repeat (first | (with_reducible first | exact HB.out | apply Zac | apply Zab | apply Zad) | exact HB.out)) hb); clear HO417; clear HB; have HO417 := n0_; have HO421 := n1_; have HB := n2_; clear n0_ n1_ n2_; (try clear hb); (try clear hb2); (try clear hk); (try clear hi); (try clear ho0)) | ((with_reducible refine Zb3 (N := 35) rfl ?_); (try (refine Zd6 (by rfl) ?_; dsimp only)); refine Kd.N_lit (Kd.slice 3 (Kd.int .i64)) _ 22 ?hg (N' := 35) ?hd (xs := ([] : List (List Int))) (inner := []) (ok := (fun k_ => some k_ ≠ (.slice Ao8 t415.length co8 : Value).ownBlock ∧ some k_ ≠ (v420 : Value).ownBlock)) (okp := (fun k_ => some k_ ≠ (.slice Ao8 t415.length co8 : Value).ownBlock ∧ some k_ ≠ (v420 : Value).ownBlock)) ?hr ?hp (fun _ hk => hk) ((show ∀ k_, w9.heap.size ≤ k_ → (fun k_ => some k_ ≠ (.slice Ao8 t415.length co8 : Value).ownBlock ∧ some k_ ≠ (v420 : Value).ownBlock) k_ from fun k_ hk => ⟨Kd.fresh' (Kd.N_lt (by (with_reducible repeat (first | apply Kd.N_alloc | apply Kd.Zaw | apply Kd.Za3)); exact HO417.out)) k_ hk, Kd.fresh' (Kd.N_lt (by (with_reducible repeat (first | apply Kd.N_alloc | apply Kd.Zaw | apply Kd.Za3)); exact HO421.out)) k_ hk⟩) _ (Nat.le_refl _)) (Below.refl _ _) (Nat.le_refl _) (by simp) ?_; (case hd => rfl); (case hg => rfl); (case hr => first | (go_simp; done) | (go_simp; rfl)); (case hp => exact (Reps.none _ _)); intro v424 w10 ho11 hb hg_ hnew_; clear hg_ hnew_; (first | rw [← Ny423.out] at ho11 | (simp only [Int.reduceToNat] at ho11; rw [← Ny423.out] at ho11)); have n0_ := Za.mk (Kd.Zbm (by (with_reducible repeat (first | apply Kd.N_alloc | apply Kd.Zaw | apply Kd.Za3)); exact HO417.out) (Kd.Zcb ho11) hb); have n1_ := Za.mk (Kd.Zbm (by (with_reducible repeat (first | apply Kd.N_alloc | apply Kd.Zaw | apply Kd.Za3)); exact HO421.out) (Kd.Zcb ho11) hb); have n2_ := Za.mk (Kd.Zcm ho11 (Zav (by repeat (first | (with_reducible first | exact HB.out | apply Zac | apply Zab | apply Zad) | exact HB.out)))); have n3_ := Za.mk (Zam (by repeat (first | (with_reducible first | exact HB.out | apply Zac | apply Zab | apply Zad) | exact HB.out)) hb); clear HO417; clear HO421; clear HB; have HO417 := n0_; have HO421 := n1_; have HO425 := n2_; have HB := n3_; clear n0_ n1_ n2_ n3_; clear hb ho11))
 go_loopg [10, 11] k (fun kq v10 v11 w' => ∃ (x10_1 : List (List Int)) (x11_1 : Int), v11 = .int .i64 x11_1 ∧ Za (Zaa.l0 kq t415 a2 (Int.tmod (Go.bits .and .i64 a1 65535) 6) t418 x10_1 x11_1 = some r) ∧ Za (kq ≤ k) ∧ Za (Kd.N (Kd.slice 3 (Kd.int .i64)) 22 w' w.heap.size (fun k_ => some k_ ≠ (v420 : Value).ownBlock ∧ some k_ ≠ (v10 : Value).ownBlock) (.slice Ao8 t415.length co8) t415) ∧ Za (Kd.N (Kd.slice 3 (Kd.int .i64)) 22 w' w.heap.size (fun k_ => some k_ ≠ ((.slice Ao8 t415.length co8) : Value).ownBlock ∧ some k_ ≠ (v10 : Value).ownBlock) v420 t418) ∧ Za (Kd.N (Kd.slice 3 (Kd.int .i64)) 22 w' w.heap.size (fun k_ => some k_ ≠ ((.slice Ao8 t415.length co8) : Value).ownBlock ∧ some k_ ≠ (v420 : Value).ownBlock) v10 x10_1) ∧ Za (Below w.heap.size w w'))
 case atStart => exact ⟨(y423), (wrap64 ((t415.length : Int) - 1)), (by first | rfl | (simp; done) | (simp [*]; done)), H', ⟨Nat.le_refl _⟩, ⟨by (with_reducible repeat (first | apply Kd.N_alloc | apply Kd.Zaw | apply Kd.Za3)); exact Kd.Zbj HO417.out (fun _ hk => ⟨hk.1.2, hk.2⟩)⟩, ⟨by (with_reducible repeat (first | apply Kd.N_alloc | apply Kd.Zaw | apply Kd.Za3)); exact HO421.out⟩, ⟨by (with_reducible repeat (first | apply Kd.N_alloc | apply Kd.Zaw | apply Kd.Za3)); exact HO425.out⟩, ⟨by repeat (first | (with_reducible first | exact HB.out | apply Zac | apply Zab | apply Zad) | exact HB.out)⟩⟩
 case round =>
  clear H'
  try clear c1
  try clear c2
  try clear p2
  try clear c6
  try clear c6b0
  try clear c6b1
  try clear p6
  try clear c8
  obtain ⟨x10_1, x11_1, rfl, HA, HK1, HO_0, HO_8, HO_10, HB⟩ := hrel
  cases gk with
  | zero => exact absurd HA.out (by simp [Zaa.l0])
  | succ k1 =>
   have H := HA.out
   clear HA
   simp only [Zaa.l0] at H
   by_cases c12 : x11_1 ≥ 0
   ·rw [if_pos c12] at H
    have c12b0 : decide (0 ≤ x11_1) = true := decide_eq_true c12
    clear c12
    by_cases c13 : 0 ≤ x11_1
    rotate_left
    ·rw [if_neg c13] at H
     exact absurd H (by simp)
    rw [if_pos c13] at H
    have c13b0 : decide (0 ≤ x11_1) = true := decide_eq_true c13
    clear c13
    by_cases c14 : x11_1 < (t415.length : Int)
    rotate_left
    ·rw [if_neg c14] at H
     exact absurd H (by simp)
    rw [if_pos c14] at H
    have c14b0 : decide (x11_1 < (t415.length : Int)) = true := decide_eq_true c14
    clear c14
    by_cases c15 : x10_1.length < 5864062014805
    rotate_left
    ·rw [if_neg c15] at H
     exact absurd H (by simp)
    rw [if_pos c15] at H
    have LMc15 := Za.mk c15
    clear c15
    obtain ⟨y427, hy427⟩ : ∃ y_ : List (List Int), y_ = (x10_1 ++ [Za5 t415 x11_1]) := ⟨_, rfl⟩
    replace H : (if y427.length < 5864062014805 then (Zaa.l0 k1 t415 a2 (Int.tmod (Go.bits .and .i64 a1 65535) 6) t418 (y427 ++ [Za5 t415 x11_1]) (wrap64 (x11_1 - 1))) else (none)) = some r := by first | (rw [hy427]; with_reducible exact H) | (have H2_ := (Option.bind_some _ _).symm.trans H; rw [hy427]; with_reducible exact H2_) | (have H2_ := (Option.bind_some _ _).symm.trans H; with_reducible exact H2_) | with_reducible exact H | (rw [hy427]; exact H) | exact H
    have Ny427 := Za.mk hy427
    clear hy427
    by_cases c16 : y427.length < 5864062014805
    rotate_left
    ·rw [if_neg c16] at H
     exact absurd H (by simp)
    rw [if_pos c16] at H
    have LMc16 := Za.mk c16
    clear c16
    obtain ⟨y431, hy431⟩ : ∃ y_ : List (List Int), y_ = (y427 ++ [Za5 t415 x11_1]) := ⟨_, rfl⟩
    replace H : (Zaa.l0 k1 t415 a2 (Int.tmod (Go.bits .and .i64 a1 65535) 6) t418 y431 (wrap64 (x11_1 - 1))) = some r := by first | (rw [hy431]; with_reducible exact H) | (have H2_ := (Option.bind_some _ _).symm.trans H; rw [hy431]; with_reducible exact H2_) | (have H2_ := (Option.bind_some _ _).symm.trans H; with_reducible exact H2_) | with_reducible exact H | (rw [hy431]; exact H) | exact H
    have Ny431 := Za.mk hy431
    clear hy431
    have H' := Za.mk H
    clear H
    have p426 : 0 ≤ (x11_1 : Int) := of_decide_eq_true (by first | (with_reducible assumption) | assumption)
    have q426 : x11_1 < (t415.length : Int) := of_decide_eq_true (by first | (with_reducible assumption) | assumption)
    obtain ⟨ad426, A426_0, c426_0, e426, hx426_0, hl426_0, hi426_0⟩ := Zda (Kd.Za6 HO_0.out).2.2 x11_1 p426 q426
    cases e426
    obtain ⟨ce426, hce426, hMe426, hcc426⟩ := Kd.N_get HO_0.out [] x11_1 p426 (by first | exact q426 | exact of_decide_eq_true (by first | (with_reducible assumption) | assumption) | (have e_ := (Kd.Za6 HO_0.out).1; omega))
    obtain ⟨ua426_0, uc426_0, rfl, ul426_0, ge426_0⟩ := Kd.Zcv hMe426
    have hv426_0 := hcc426 0 _ rfl
    rw [Nat.add_zero, show ((Kd.slice 3 (Kd.int .i64))).sz = 1 from rfl, Nat.mul_one] at hv426_0
    replace hv426_0 := Option.some.inj (hv426_0.symm.trans hx426_0)
    injection hv426_0 with hva_ hvn_ hvc_
    rw [hva_] at ge426_0
    rw [hvc_] at ul426_0
    have HL426_0 := Za.mk (show Kd.V (Kd.int .i64) 3 _ w.heap.size _ _ (Za5 t415 x11_1) from Kd.V_mk ul426_0 ge426_0)
    clear hva_ hvn_ hvc_ ge426_0 ul426_0
    clear hcc426 hce426
    have HR426_0 := Za.mk hi426_0
    have HC426_0 := Za.mk hl426_0
    clear hi426_0 hl426_0
    replace p426 := eq_true p426
    replace q426 := eq_true q426
    go_wp2_with (first | ((with_reducible refine Zbc (b := .append) (xs := #[.tmp 43, .tmp 48]) rfl ?_); (try (refine Zd6 (by rfl) ?_; dsimp only)); at_builtin; refine Kd.N_append (Kd.slice 3 (Kd.int .i64)) (w0 := w) w.heap.size rfl (.tmp 43) (.tmp 48) 32 22 (.slice none 0 0) 24 rfl Try.underlying32 Zde rfl (by decide) (by omega) u10 x10_1 (Za5 t415 x11_1) [.slice A426_0 (Za5 t415 x11_1).length c426_0] (fun k_ => some k_ ≠ (.slice (some ad426) t415.length co8 : Value).ownBlock ∧ some k_ ≠ (v420 : Value).ownBlock) (fun k_ => ((fun k_ => some k_ ≠ (.slice (some ad426) t415.length co8 : Value).ownBlock ∧ some k_ ≠ (v420 : Value).ownBlock)) k_ ∧ some k_ ≠ (u10 : Value).ownBlock) rfl rfl ?aP (fun _ hk => hk) ?aF ?aO ?aB ?aS ?aL ?_; (case aP => exact (Kd.Zem (Kd.Zeh (Kd.Zfe (ok' := (fun k_ => ((fun k_ => some k_ ≠ (.slice (some ad426) t415.length co8 : Value).ownBlock ∧ some k_ ≠ (v420 : Value).ownBlock)) k_ ∧ some k_ ≠ (u10 : Value).ownBlock)) (HL426_0.out) (fun k_ hk => ⟨⟨hk.2, hk.1.1⟩, hk.1.2⟩))).2.1 (Kd.V_F (Kd.Zfe (ok' := (fun k_ => ((fun k_ => some k_ ≠ (.slice (some ad426) t415.length co8 : Value).ownBlock ∧ some k_ ≠ (v420 : Value).ownBlock)) k_ ∧ some k_ ≠ (u10 : Value).ownBlock)) (HL426_0.out) (fun k_ hk => ⟨⟨hk.2, hk.1.1⟩, hk.1.2⟩))))); (case aB => exact (by repeat (first | (with_reducible first | exact HB.out | apply Zac | apply Zab | apply Zad) | exact HB.out))); (case aF => exact (fun k_ hk => ⟨Kd.fresh' (Kd.N_lt (by (with_reducible repeat (first | apply Kd.N_alloc | apply Kd.Zaw | apply Kd.Za3)); exact HO_0.out)) k_ hk, Kd.fresh' (Kd.N_lt (by (with_reducible repeat (first | apply Kd.N_alloc | apply Kd.Zaw | apply Kd.Za3)); exact HO_8.out)) k_ hk⟩)); (case aO => exact (by (with_reducible repeat (first | apply Kd.N_alloc | apply Kd.Zaw | apply Kd.Za3)); exact HO_10.out)); (case aS => exact (Zav (by repeat (first | (with_reducible first | exact HB.out | apply Zac | apply Zab | apply Zad) | exact HB.out)))); (case aL => have := LMc15.out; omega); intro v428 w17 ho hb hg hat; rw [← Ny427.out] at ho; have n0_ := Za.mk (Kd.Zdk (ok := (fun k_ => some k_ ≠ (v420 : Value).ownBlock)) (by (with_reducible repeat (first | apply Kd.N_alloc | apply Kd.Zaw | apply Kd.Za3)); exact HO_0.out) hg hat); have n1_ := Za.mk (Kd.Zdk (ok := (fun k_ => some k_ ≠ (.slice (some ad426) t415.length co8 : Value).ownBlock)) (by (with_reducible repeat (first | apply Kd.N_alloc | apply Kd.Zaw | apply Kd.Za3)); exact HO_8.out) hg hat); have n2_ := Za.mk (Kd.V_afterv (ok := (fun k_ => some k_ ≠ (.slice (some ad426) t415.length co8 : Value).ownBlock ∧ some k_ ≠ (v420 : Value).ownBlock)) (by (with_reducible repeat (first | apply Kd.V_alloc | apply Kd.V_drewN | apply Kd.V_drew)); exact Kd.Zfe HL426_0.out (fun _ hk => ⟨⟨hk.2, hk.1.1⟩, hk.1.2⟩)) hg hat); have n3_ := Za.mk (hb); have n4_ := Za.mk (ho); clear HO_0; clear HO_8; clear HL426_0; clear HB; clear HO_10; have HO_0 := n0_; have HO_8 := n1_; have HL426_0 := n2_; have HB := n3_; have HO429 := n4_; clear n0_ n1_ n2_ n3_ n4_; clear ho hb hg hat; have p430 : 0 ≤ (x11_1 : Int) := of_decide_eq_true (by first | (with_reducible assumption) | assumption); have q430 : x11_1 < (t415.length : Int) := of_decide_eq_true (by first | (with_reducible assumption) | assumption); obtain ⟨ad430, A430_0, c430_0, e430, hx430_0, hl430_0, hi430_0⟩ := Zda (Kd.Za6 HO_0.out).2.2 x11_1 p430 q430; obtain rfl : ad426 = ad430 := (by injection e430); obtain ⟨ce430, hce430, hMe430, hcc430⟩ := Kd.N_get HO_0.out [] x11_1 p430 (by first | exact q430 | exact of_decide_eq_true (by first | (with_reducible assumption) | assumption) | (have e_ := (Kd.Za6 HO_0.out).1; omega)); obtain ⟨ua430_0, uc430_0, rfl, ul430_0, ge430_0⟩ := Kd.Zcv hMe430; have hv430_0 := hcc430 0 _ rfl; rw [Nat.add_zero, show ((Kd.slice 3 (Kd.int .i64))).sz = 1 from rfl, Nat.mul_one] at hv430_0; replace hv430_0 := Option.some.inj (hv430_0.symm.trans hx430_0); injection hv430_0 with hva_ hvn_ hvc_; rw [hva_] at ge430_0; rw [hvc_] at ul430_0; have HL430_0 := Za.mk (show Kd.V (Kd.int .i64) 3 _ w.heap.size _ _ (Za5 t415 x11_1) from Kd.V_mk ul430_0 ge430_0); clear hva_ hvn_ hvc_ ge430_0 ul430_0; clear hcc430 hce430; have HR430_0 := Za.mk hi430_0; have HC430_0 := Za.mk hl430_0; clear hi430_0 hl430_0; replace p430 := eq_true p430; replace q430 := eq_true q430) | ((with_reducible refine Zbc (b := .append) (xs := #[.tmp 50, .tmp 55]) rfl ?_); (try (refine Zd6 (by rfl) ?_; dsimp only)); at_builtin; refine Kd.N_append (Kd.slice 3 (Kd.int .i64)) (w0 := w) w.heap.size rfl (.tmp 50) (.tmp 55) 32 22 (.slice none 0 0) 24 rfl Try.underlying32 Zde rfl (by decide) (by omega) v428 y427 (Za5 t415 x11_1) [.slice A430_0 (Za5 t415 x11_1).length c430_0] (fun k_ => some k_ ≠ (.slice (some ad426) t415.length co8 : Value).ownBlock ∧ some k_ ≠ (v420 : Value).ownBlock) (fun k_ => ((fun k_ => some k_ ≠ (.slice (some ad426) t415.length co8 : Value).ownBlock ∧ some k_ ≠ (v420 : Value).ownBlock)) k_ ∧ some k_ ≠ (v428 : Value).ownBlock) rfl rfl ?aP (fun _ hk => hk) ?aF ?aO ?aB ?aS ?aL ?_; (case aP => exact (Kd.Zem (Kd.Zeh (Kd.Zfe (ok' := (fun k_ => ((fun k_ => some k_ ≠ (.slice (some ad426) t415.length co8 : Value).ownBlock ∧ some k_ ≠ (v420 : Value).ownBlock)) k_ ∧ some k_ ≠ (v428 : Value).ownBlock)) (HL430_0.out) (fun k_ hk => ⟨⟨hk.2, hk.1.1⟩, hk.1.2⟩))).2.1 (Kd.V_F (Kd.Zfe (ok' := (fun k_ => ((fun k_ => some k_ ≠ (.slice (some ad426) t415.length co8 : Value).ownBlock ∧ some k_ ≠ (v420 : Value).ownBlock)) k_ ∧ some k_ ≠ (v428 : Value).ownBlock)) (HL430_0.out) (fun k_ hk => ⟨⟨hk.2, hk.1.1⟩, hk.1.2⟩))))); (case aB => exact (by repeat (first | (with_reducible first | exact HB.out | apply Zac | apply Zab | apply Zad) | exact HB.out))); (case aF => exact (fun k_ hk => ⟨Kd.fresh' (Kd.N_lt (by (with_reducible repeat (first | apply Kd.N_alloc | apply Kd.Zaw | apply Kd.Za3)); exact HO_0.out)) k_ hk, Kd.fresh' (Kd.N_lt (by (with_reducible repeat (first | apply Kd.N_alloc | apply Kd.Zaw | apply Kd.Za3)); exact HO_8.out)) k_ hk⟩)); (case aO => exact (by (with_reducible repeat (first | apply Kd.N_alloc | apply Kd.Zaw | apply Kd.Za3)); exact HO429.out)); (case aS => exact (Zav (by repeat (first | (with_reducible first | exact HB.out | apply Zac | apply Zab | apply Zad) | exact HB.out)))); (case aL => have := LMc16.out; omega); intro v432 w18 ho hb hg hat; rw [← Ny431.out] at ho; have n0_ := Za.mk (Kd.Zdk (ok := (fun k_ => some k_ ≠ (v420 : Value).ownBlock)) (by (with_reducible repeat (first | apply Kd.N_alloc | apply Kd.Zaw | apply Kd.Za3)); exact HO_0.out) hg hat); have n1_ := Za.mk (Kd.Zdk (ok := (fun k_ => some k_ ≠ (.slice (some ad426) t415.length co8 : Value).ownBlock)) (by (with_reducible repeat (first | apply Kd.N_alloc | apply Kd.Zaw | apply Kd.Za3)); exact HO_8.out) hg hat); have n2_ := Za.mk (Kd.V_afterv (ok := (fun k_ => some k_ ≠ (.slice (some ad426) t415.length co8 : Value).ownBlock ∧ some k_ ≠ (v420 : Value).ownBlock)) (by (with_reducible repeat (first | apply Kd.V_alloc | apply Kd.V_drewN | apply Kd.V_drew)); exact HL426_0.out) hg hat); have n3_ := Za.mk (Kd.V_afterv (ok := (fun k_ => some k_ ≠ (.slice (some ad426) t415.length co8 : Value).ownBlock ∧ some k_ ≠ (v420 : Value).ownBlock)) (by (with_reducible repeat (first | apply Kd.V_alloc | apply Kd.V_drewN | apply Kd.V_drew)); exact Kd.Zfe HL430_0.out (fun _ hk => ⟨⟨hk.2, hk.1.1⟩, hk.1.2⟩)) hg hat); have n4_ := Za.mk (hb); have n5_ := Za.mk (ho); clear HO_0; clear HO_8; clear HL426_0; clear HL430_0; clear HB; clear HO429; have HO_0 := n0_; have HO_8 := n1_; have HL426_0 := n2_; have HL430_0 := n3_; have HB := n4_; have HO433 := n5_; clear n0_ n1_ n2_ n3_ n4_ n5_; clear ho hb hg hat))
    go_roundg k1
    case measure => have := HK1.out; omega
    case rel => exact ⟨(y431), (wrap64 (x11_1 - 1)), (by first | rfl | (simp; done) | (simp [*]; done)), H', ⟨by have := HK1.out; omega⟩, ⟨by (with_reducible repeat (first | apply Kd.N_alloc | apply Kd.Zaw | apply Kd.Za3)); exact HO_0.out⟩, ⟨by (with_reducible repeat (first | apply Kd.N_alloc | apply Kd.Zaw | apply Kd.Za3)); exact HO_8.out⟩, ⟨by (with_reducible repeat (first | apply Kd.N_alloc | apply Kd.Zaw | apply Kd.Za3)); exact HO433.out⟩, ⟨by repeat (first | (with_reducible first | exact HB.out | apply Zac | apply Zab | apply Zad) | exact HB.out)⟩⟩
   rw [if_neg c12] at H
   have c12b0 : decide (0 ≤ x11_1) = false := decide_eq_false c12
   clear c12
   replace H := Option.bind_eq_some_iff.mp H
   obtain ⟨⟨t434, t435⟩, A190, H⟩ := H
   replace H : (if (wrap64 ((t415.length : Int) + 1)) = 0 then (none) else (if 0 ≤ (Int.tmod (Go.bits .and .i64 a2 65535) (wrap64 ((t415.length : Int) + 1))) then (if (Int.tmod (Go.bits .and .i64 a2 65535) (wrap64 ((t415.length : Int) + 1))) ≤ (t415.length : Int) then ((Zas.f k1 (t415.take ((Int.tmod (Go.bits .and .i64 a2 65535) (wrap64 ((t415.length : Int) + 1))) : Int).toNat) (Int.tmod (Go.bits .and .i64 a1 65535) 6)).bind fun bt443 => (if t435 = 0 then (if bt443.2 = 0 then ((Zaf.f k1 t418 t434).bind fun t447 => (if t447 = true then (if (bt443.1.length : Int) < 1 then (Zaa.j1 k1 t418 bt443.1 true) else (if (bt443.1.length : Int) = 0 then (none) else (Zaa.j1 k1 t418 bt443.1 (((t418.length : Int) % (bt443.1.length : Int)) != 0)))) else (Zaa.j1 k1 t418 bt443.1 true))) else (Zaa.j1 k1 t418 bt443.1 true)) else (Zaa.j1 k1 t418 bt443.1 true))) else (none)) else (none))) = some r := H
   have A19 := Za.mk A190
   clear A190
   by_cases c20 : (wrap64 ((t415.length : Int) + 1)) = 0
   ·rw [if_pos c20] at H
    exact absurd H (by simp)
   rw [if_neg c20] at H
   have c20b0 : ((wrap64 ((t415.length : Int) + 1)) == 0) = false := beq_eq_false_iff_ne.mpr c20
   have c20b1 : ((wrap64 ((t415.length : Int) + 1)) != 0) = true := bne_iff_ne.mpr c20
   obtain ⟨ji21, hji21⟩ : ∃ j_ : Int, (Int.tmod (Go.bits .and .i64 a2 65535) (wrap64 ((t415.length : Int) + 1))) = j_ := ⟨_, rfl⟩
   replace H : (if 0 ≤ (ji21) then (if (ji21) ≤ (t415.length : Int) then ((Zas.f k1 (t415.take ((ji21) : Int).toNat) (Int.tmod (Go.bits .and .i64 a1 65535) 6)).bind fun bt443 => (if t435 = 0 then (if bt443.2 = 0 then ((Zaf.f k1 t418 t434).bind fun t447 => (if t447 = true then (if (bt443.1.length : Int) < 1 then (Zaa.j1 k1 t418 bt443.1 true) else (if (bt443.1.length : Int) = 0 then (none) else (Zaa.j1 k1 t418 bt443.1 (((t418.length : Int) % (bt443.1.length : Int)) != 0)))) else (Zaa.j1 k1 t418 bt443.1 true))) else (Zaa.j1 k1 t418 bt443.1 true)) else (Zaa.j1 k1 t418 bt443.1 true))) else (none)) else (none)) = some r := by first | (rw [hji21] at H; exact H) | (simp only [hji21] at H ⊢; exact H)
   (try rw [hji21] at A19)
   by_cases c22 : 0 ≤ (ji21)
   rotate_left
   ·rw [if_neg c22] at H
    exact absurd H (by simp)
   rw [if_pos c22] at H
   have c22b0 := eq_true c22
   have c22b1 : decide (0 ≤ (ji21)) = true := decide_eq_true c22
   clear c22
   by_cases c23 : (ji21) ≤ (t415.length : Int)
   rotate_left
   ·rw [if_neg c23] at H
    exact absurd H (by simp)
   rw [if_pos c23] at H
   have c23b0 := eq_true c23
   have c23b1 : decide ((ji21) ≤ (t415.length : Int)) = true := decide_eq_true c23
   clear c23
   obtain ⟨y438, hy438⟩ : ∃ y_ : List (List Int), y_ = (t415.take ((ji21) : Int).toNat) := ⟨_, rfl⟩
   replace H : ((Zas.f k1 y438 (Int.tmod (Go.bits .and .i64 a1 65535) 6)).bind fun bt443 => (if t435 = 0 then (if bt443.2 = 0 then ((Zaf.f k1 t418 t434).bind fun t447 => (if t447 = true then (if (bt443.1.length : Int) < 1 then (Zaa.j1 k1 t418 bt443.1 true) else (if (bt443.1.length : Int) = 0 then (none) else (Zaa.j1 k1 t418 bt443.1 (((t418.length : Int) % (bt443.1.length : Int)) != 0)))) else (Zaa.j1 k1 t418 bt443.1 true))) else (Zaa.j1 k1 t418 bt443.1 true)) else (Zaa.j1 k1 t418 bt443.1 true))) = some r := by first | (rw [hy438]; with_reducible exact H) | (have H2_ := (Option.bind_some _ _).symm.trans H; rw [hy438]; with_reducible exact H2_) | (have H2_ := (Option.bind_some _ _).symm.trans H; with_reducible exact H2_) | with_reducible exact H | (rw [hy438]; exact H) | exact H
   have Ny438 := Za.mk hy438
   clear hy438
   replace H := Option.bind_eq_some_iff.mp H
   obtain ⟨⟨t443, t444⟩, A240, H⟩ := H
   replace H : (if t435 = 0 then (if t444 = 0 then ((Zaf.f k1 t418 t434).bind fun t447 => (if t447 = true then (if (t443.length : Int) < 1 then (Zaa.j1 k1 t418 t443 true) else (if (t443.length : Int) = 0 then (none) else (Zaa.j1 k1 t418 t443 (((t418.length : Int) % (t443.length : Int)) != 0)))) else (Zaa.j1 k1 t418 t443 true))) else (Zaa.j1 k1 t418 t443 true)) else (Zaa.j1 k1 t418 t443 true)) = some r := H
   have A24 := Za.mk A240
   clear A240
   have HC25 := Za.mk H
   clear H
   obtain ⟨Ao26, co26, eo26⟩ := Kd.Zbk HO_10.out
   subst eo26
   go_upto_region 14 with (first | ((with_reducible refine Zat (f := 20) rfl ?_); refine Zbd (some 60) rfl rfl Try.func20 (by kernel_rfl) rfl #[.slice Ao26 x10_1.length co26, .int .i64 (Int.tmod (Go.bits .and .i64 a1 65535) 6)] rfl (by (try simp only [List.map_toArray, List.map_cons, List.map_nil]); first | done | rfl | (simp only [List.length_drop, List.length_take]; rfl)) ?_; (with_reducible refine (Zas.calls k1 _ _ x10_1 (Int.tmod (Go.bits .and .i64 a1 65535) 6) t434 t435 _ ?side1 ?side2 A19.out).mono ?_); (case side1 => repeat (first | exact (Kd.Za6 HO_10.out).2.2 | (with_reducible refine Kd.Zaz ?_ _) | (with_reducible refine Kd.C_drewN ?_ _) | (with_reducible refine Kd.C_drew ?_))); (case side2 => exact (Kd.Za6 HO_10.out).2.1); rintro e w27 ⟨v436, rfl, ho0, hb⟩; refine ⟨_, rfl, ?_⟩; have n0_ := Za.mk (Kd.Zbm (by (with_reducible repeat (first | apply Kd.N_alloc | apply Kd.Zaw | apply Kd.Za3)); exact HO_0.out) (by first | exact Kd.Zcb ho0 | exact Kd.Zch ho0 | exact Kd.Zbv ho0) hb); have n1_ := Za.mk (Kd.Zbm (by (with_reducible repeat (first | apply Kd.N_alloc | apply Kd.Zaw | apply Kd.Za3)); exact HO_8.out) (by first | exact Kd.Zcb ho0 | exact Kd.Zch ho0 | exact Kd.Zbv ho0) hb); have n2_ := Za.mk (Kd.Zbm (by (with_reducible repeat (first | apply Kd.N_alloc | apply Kd.Zaw | apply Kd.Za3)); exact HO_10.out) (by first | exact Kd.Zcb ho0 | exact Kd.Zch ho0 | exact Kd.Zbv ho0) hb); have n3_ := Za.mk (Kd.Zcm (Kd.Zbj (ok' := fun k_ => some k_ ≠ (.slice Ao8 t415.length co8 : Value).ownBlock ∧ some k_ ≠ (v420 : Value).ownBlock ∧ some k_ ≠ (.slice Ao26 x10_1.length co26 : Value).ownBlock) (Kd.S_N (Kd.Zcd ho0)) (fun k_ hk_ => ⟨(Kd.fresh' (Kd.N_lt (by (with_reducible repeat (first | apply Kd.N_alloc | apply Kd.Zaw | apply Kd.Za3)); exact HO_0.out)) k_ hk_.2.1), (Kd.fresh' (Kd.N_lt (by (with_reducible repeat (first | apply Kd.N_alloc | apply Kd.Zaw | apply Kd.Za3)); exact HO_8.out)) k_ hk_.2.1), (Kd.fresh' (Kd.N_lt (by (with_reducible repeat (first | apply Kd.N_alloc | apply Kd.Zaw | apply Kd.Za3)); exact HO_10.out)) k_ hk_.2.1)⟩)) (Zav (by repeat (first | (with_reducible first | exact HB.out | apply Zac | apply Zab | apply Zad) | exact HB.out)))); have n4_ := Za.mk (Zam (by repeat (first | (with_reducible first | exact HB.out | apply Zac | apply Zab | apply Zad) | exact HB.out)) hb); clear HO_0; clear HO_8; clear HO_10; clear HB; have HO_0 := n0_; have HO_8 := n1_; have HO_10 := n2_; have HO437 := n3_; have HB := n4_; clear n0_ n1_ n2_ n3_ n4_; (try clear hb); (try clear hb2); (try clear hk); (try clear hi); (try clear ho0); have q28 : ((ji21) : Int) ≤ ((t415.length : Int) : Int) := of_decide_eq_true (by first | (with_reducible assumption) | assumption); obtain ⟨i028, hi028, _, hsz28, _⟩ := info_parts Zde; have hroom28 : t415.length ≤ co8 := (Kd.Za6 HO_0.out).2.1; have hC28 : Kd.F (Kd.slice 3 (Kd.int .i64)) _ _ Ao8 t415.length t415 := (Kd.V_at (base := w.heap.size) (Kd.N_V HO_0.out)).2.2; have hcut28 := cut_to (P := Try.prog) 32 22 .i64 Try.underlying32 hi028 Ao8 t415.length co8 (ji21) (of_decide_eq_true (by first | (with_reducible assumption) | assumption)) q28 hroom28; have hr28 := Kd.F_take (m := ((ji21) : Int).toNat) hC28 (by omega); have hy28 : y438.length = ((ji21) : Int).toNat := (by rw [Ny438.out, List.length_take]; omega); rw [← Ny438.out] at hr28; rw [← hy28] at hcut28; have HO442 := Za.mk (show Kd.V (Kd.slice 3 (Kd.int .i64)) 22 _ w.heap.size _ (.slice Ao8 y438.length co8) y438 from Kd.V_mk (by omega) hr28); have HC442 := Za.mk (show y438.length ≤ co8 from by omega); clear hr28 hC28 hroom28 hi028 hsz28; have KY28 := Za.mk hy28; clear hy28; replace q28 := eq_true q28) | ((with_reducible refine Zat (f := 20) rfl ?_); refine Zbd (some 73) rfl rfl Try.func20 (by kernel_rfl) rfl #[.slice Ao8 y438.length co8, .int .i64 (Int.tmod (Go.bits .and .i64 a1 65535) 6)] rfl (by (try simp only [List.map_toArray, List.map_cons, List.map_nil]); first | done | rfl | (simp only [List.length_drop, List.length_take]; rfl)) ?_; (with_reducible refine (Zas.calls k1 _ _ y438 (Int.tmod (Go.bits .and .i64 a1 65535) 6) t443 t444 _ ?side1 ?side2 A24.out).mono ?_); (case side1 => repeat (first | exact (Kd.Zeh HO442.out).2.2 | (with_reducible refine Kd.Zaz ?_ _) | (with_reducible refine Kd.C_drewN ?_ _) | (with_reducible refine Kd.C_drew ?_))); (case side2 => exact (Kd.Zeh HO442.out).2.1); rintro e w29 ⟨v445, rfl, ho0, hb⟩; refine ⟨_, rfl, ?_⟩; have n0_ := Za.mk (Kd.Zbm (by (with_reducible repeat (first | apply Kd.N_alloc | apply Kd.Zaw | apply Kd.Za3)); exact HO_0.out) (by first | exact Kd.Zcb ho0 | exact Kd.Zch ho0 | exact Kd.Zbv ho0) hb); have n1_ := Za.mk (Kd.Zbm (by (with_reducible repeat (first | apply Kd.N_alloc | apply Kd.Zaw | apply Kd.Za3)); exact HO_8.out) (by first | exact Kd.Zcb ho0 | exact Kd.Zch ho0 | exact Kd.Zbv ho0) hb); have n2_ := Za.mk (Kd.Zbm (by (with_reducible repeat (first | apply Kd.N_alloc | apply Kd.Zaw | apply Kd.Za3)); exact HO_10.out) (by first | exact Kd.Zcb ho0 | exact Kd.Zch ho0 | exact Kd.Zbv ho0) hb); have n3_ := Za.mk (Kd.Zbm (by (with_reducible repeat (first | apply Kd.N_alloc | apply Kd.Zaw | apply Kd.Za3)); exact HO437.out) (by first | exact Kd.Zcb ho0 | exact Kd.Zch ho0 | exact Kd.Zbv ho0) hb); have n4_ := Za.mk (Kd.V_elder' (by (with_reducible repeat (first | apply Kd.V_alloc | apply Kd.V_drewN | apply Kd.V_drew)); exact HO442.out) (by first | exact Kd.Zcb ho0 | exact Kd.Zch ho0 | exact Kd.Zbv ho0) hb); have n5_ := Za.mk (Kd.Zcm (Kd.Zbj (ok' := fun k_ => some k_ ≠ (.slice Ao8 t415.length co8 : Value).ownBlock ∧ some k_ ≠ (v420 : Value).ownBlock ∧ some k_ ≠ (.slice Ao26 x10_1.length co26 : Value).ownBlock ∧ some k_ ≠ (v436 : Value).ownBlock) (Kd.S_N (Kd.Zcd ho0)) (fun k_ hk_ => ⟨(Kd.fresh' (Kd.N_lt (by (with_reducible repeat (first | apply Kd.N_alloc | apply Kd.Zaw | apply Kd.Za3)); exact HO_0.out)) k_ hk_.2.1), (Kd.fresh' (Kd.N_lt (by (with_reducible repeat (first | apply Kd.N_alloc | apply Kd.Zaw | apply Kd.Za3)); exact HO_8.out)) k_ hk_.2.1), (Kd.fresh' (Kd.N_lt (by (with_reducible repeat (first | apply Kd.N_alloc | apply Kd.Zaw | apply Kd.Za3)); exact HO_10.out)) k_ hk_.2.1), (Kd.fresh' (Kd.N_lt (by (with_reducible repeat (first | apply Kd.N_alloc | apply Kd.Zaw | apply Kd.Za3)); exact HO437.out)) k_ hk_.2.1)⟩)) (Zav (by repeat (first | (with_reducible first | exact HB.out | apply Zac | apply Zab | apply Zad) | exact HB.out)))); have n6_ := Za.mk (Zam (by repeat (first | (with_reducible first | exact HB.out | apply Zac | apply Zab | apply Zad) | exact HB.out)) hb); clear HO_0; clear HO_8; clear HO_10; clear HO437; clear HO442; clear HB; have HO_0 := n0_; have HO_8 := n1_; have HO_10 := n2_; have HO437 := n3_; have HO442 := n4_; have HO446 := n5_; have HB := n6_; clear n0_ n1_ n2_ n3_ n4_ n5_ n6_; (try clear hb); (try clear hb2); (try clear hk); (try clear hi); (try clear ho0)))
   (try simp only [Act.put, List.setIfInBounds_toArray, List.set_cons_zero, List.set_cons_succ])
   go_cut [100] (fun v100 wc => ∃ (kq : Nat) (x100_24 : Bool), v100 = .bool x100_24 ∧ Za (Zaa.j1 kq t418 t443 x100_24 = some r) ∧ Za (kq ≤ k1) ∧ Za (Kd.N (Kd.slice 3 (Kd.int .i64)) 22 wc w.heap.size (fun k_ => some k_ ≠ (v445 : Value).ownBlock) v420 t418) ∧ Za (Kd.N (Kd.slice 3 (Kd.int .i64)) 22 wc w.heap.size (fun k_ => some k_ ≠ (v420 : Value).ownBlock) v445 t443) ∧ Za (Below w.heap.size w wc))
   case first =>
    have H := HC25.out
    clear HC25
    by_cases c30 : t435 = 0
    rotate_left
    ·rw [if_neg c30] at H
     have c30b0 : (t435 == 0) = false := beq_eq_false_iff_ne.mpr c30
     have c30b1 : (t435 != 0) = true := bne_iff_ne.mpr c30
     (first | rw [c30b0] | (simp only [Zbr, Zbs]; rw [c30b0]) | skip)
     have H' := Za.mk H
     clear H
     go_wp2
     go_meet
     case rel => exact ⟨_, (true), (by first | rfl | (simp; done) | (simp [*]; done)), H', ⟨by have := HK1.out; first | omega | exact Nat.le_refl _⟩, ⟨by (with_reducible repeat (first | apply Kd.N_alloc | apply Kd.Zaw | apply Kd.Za3)); exact Kd.Zbj HO_8.out (fun _ hk => hk.2)⟩, ⟨by (with_reducible repeat (first | apply Kd.N_alloc | apply Kd.Zaw | apply Kd.Za3)); exact Kd.Zbj HO446.out (fun _ hk => hk.2.1)⟩, ⟨by repeat (first | (with_reducible first | exact HB.out | apply Zac | apply Zab | apply Zad) | exact HB.out)⟩⟩
    rw [if_pos c30] at H
    have c30b0 : (t435 == 0) = true := beq_iff_eq.mpr c30
    have c30b1 : (t435 != 0) = false := bne_eq_false_iff_eq.mpr c30
    clear c30
    (first | rw [c30b0] | (simp only [Zbr, Zbs]; rw [c30b0]) | skip)
    by_cases c31 : t444 = 0
    rotate_left
    ·rw [if_neg c31] at H
     have c31b0 : (t444 == 0) = false := beq_eq_false_iff_ne.mpr c31
     have c31b1 : (t444 != 0) = true := bne_iff_ne.mpr c31
     have H' := Za.mk H
     clear H
     go_wp2
     go_meet
     case rel => exact ⟨_, (true), (by first | rfl | (simp; done) | (simp [*]; done)), H', ⟨by have := HK1.out; first | omega | exact Nat.le_refl _⟩, ⟨by (with_reducible repeat (first | apply Kd.N_alloc | apply Kd.Zaw | apply Kd.Za3)); exact Kd.Zbj HO_8.out (fun _ hk => hk.2)⟩, ⟨by (with_reducible repeat (first | apply Kd.N_alloc | apply Kd.Zaw | apply Kd.Za3)); exact Kd.Zbj HO446.out (fun _ hk => hk.2.1)⟩, ⟨by repeat (first | (with_reducible first | exact HB.out | apply Zac | apply Zab | apply Zad) | exact HB.out)⟩⟩
    rw [if_pos c31] at H
    have c31b0 : (t444 == 0) = true := beq_iff_eq.mpr c31
    have c31b1 : (t444 != 0) = false := bne_eq_false_iff_eq.mpr c31
    clear c31
    replace H := Option.bind_eq_some_iff.mp H
    obtain ⟨t447, A320, H⟩ := H
    replace H : (if t447 = true then (if (t443.length : Int) < 1 then (Zaa.j1 k1 t418 t443 true) else (if (t443.length : Int) = 0 then (none) else (Zaa.j1 k1 t418 t443 (((t418.length : Int) % (t443.length : Int)) != 0)))) else (Zaa.j1 k1 t418 t443 true)) = some r := H
    have A32 := Za.mk A320
    clear A320
    by_cases c33 : t447 = true
    rotate_left
    ·replace c33 := Bool.eq_false_iff.mpr c33
     subst c33
     have H1 : (Zaa.j1 k1 t418 t443 true) = some r := by rw [if_neg (show ¬ (false = true) by decide)] at H; exact H
     clear H
     have H := H1
     clear H1
     have H' := Za.mk H
     clear H
     obtain ⟨Ao42, co42, eo42⟩ := Kd.Zbk HO_8.out
     subst eo42
     obtain ⟨Ao43, co43, eo43⟩ := Kd.Zbk HO437.out
     subst eo43
     go_wp2_with (first | (go_at_call 22; (with_reducible refine (Zaf.calls k1 _ _ t418 _ _ t434 false _ ?side1 ?side2 ?side3 ?side4 A32.out).mono ?_); (case side1 => repeat (first | exact (Kd.Za6 HO_8.out).2.2 | (with_reducible refine Kd.Zaz ?_ _) | (with_reducible refine Kd.C_drewN ?_ _) | (with_reducible refine Kd.C_drew ?_))); (case side2 => exact (Kd.Za6 HO_8.out).2.1); (case side3 => repeat (first | exact (Kd.Za6 HO437.out).2.2 | (with_reducible refine Kd.Zaz ?_ _) | (with_reducible refine Kd.C_drewN ?_ _) | (with_reducible refine Kd.C_drew ?_))); (case side4 => exact (Kd.Za6 HO437.out).2.1); rintro e w' ⟨rfl, ⟨nd, rfl⟩⟩))
     go_meet
     case rel => exact ⟨_, (true), (by first | rfl | (simp; done) | (simp [*]; done)), H', ⟨by have := HK1.out; first | omega | exact Nat.le_refl _⟩, ⟨by (with_reducible repeat (first | apply Kd.N_alloc | apply Kd.Zaw | apply Kd.Za3)); exact Kd.Zbj HO_8.out (fun _ hk => hk.2)⟩, ⟨by (with_reducible repeat (first | apply Kd.N_alloc | apply Kd.Zaw | apply Kd.Za3)); exact Kd.Zbj HO446.out (fun _ hk => hk.2.1)⟩, ⟨by repeat (first | (with_reducible first | exact HB.out | apply Zac | apply Zab | apply Zad) | exact HB.out)⟩⟩
    subst c33
    have H1 : (if (t443.length : Int) < 1 then (Zaa.j1 k1 t418 t443 true) else (if (t443.length : Int) = 0 then (none) else (Zaa.j1 k1 t418 t443 (((t418.length : Int) % (t443.length : Int)) != 0)))) = some r := by rw [if_pos rfl] at H; exact H
    clear H
    have H := H1
    clear H1
    by_cases c34 : (t443.length : Int) < 1
    ·rw [if_pos c34] at H
     have c34b0 : decide ((t443.length : Int) < 1) = true := decide_eq_true c34
     have c34b1 : decide (t443.length < 1) = true := decide_eq_true (by omega)
     clear c34
     have H' := Za.mk H
     clear H
     obtain ⟨Ao35, co35, eo35⟩ := Kd.Zbk HO_8.out
     subst eo35
     obtain ⟨Ao36, co36, eo36⟩ := Kd.Zbk HO437.out
     subst eo36
     go_wp2_with (first | (go_at_call 22; (with_reducible refine (Zaf.calls k1 _ _ t418 _ _ t434 true _ ?side1 ?side2 ?side3 ?side4 A32.out).mono ?_); (case side1 => repeat (first | exact (Kd.Za6 HO_8.out).2.2 | (with_reducible refine Kd.Zaz ?_ _) | (with_reducible refine Kd.C_drewN ?_ _) | (with_reducible refine Kd.C_drew ?_))); (case side2 => exact (Kd.Za6 HO_8.out).2.1); (case side3 => repeat (first | exact (Kd.Za6 HO437.out).2.2 | (with_reducible refine Kd.Zaz ?_ _) | (with_reducible refine Kd.C_drewN ?_ _) | (with_reducible refine Kd.C_drew ?_))); (case side4 => exact (Kd.Za6 HO437.out).2.1); rintro e w' ⟨rfl, ⟨nd, rfl⟩⟩; obtain ⟨Ao37, co37, eo37⟩ := Kd.Zbk HO446.out; subst eo37))
     go_meet
     case rel => exact ⟨_, (true), (by first | rfl | (simp; done) | (simp [*]; done)), H', ⟨by have := HK1.out; first | omega | exact Nat.le_refl _⟩, ⟨by (with_reducible repeat (first | apply Kd.N_alloc | apply Kd.Zaw | apply Kd.Za3)); exact Kd.Zbj HO_8.out (fun _ hk => hk.2)⟩, ⟨by (with_reducible repeat (first | apply Kd.N_alloc | apply Kd.Zaw | apply Kd.Za3)); exact Kd.Zbj HO446.out (fun _ hk => hk.2.1)⟩, ⟨by repeat (first | (with_reducible first | exact HB.out | apply Zac | apply Zab | apply Zad) | exact HB.out)⟩⟩
    rw [if_neg c34] at H
    have c34b0 : decide ((t443.length : Int) < 1) = false := decide_eq_false c34
    have c34b1 : decide (t443.length < 1) = false := decide_eq_false (by omega)
    clear c34
    by_cases c38 : (t443.length : Int) = 0
    ·rw [if_pos c38] at H
     exact absurd H (by simp)
    rw [if_neg c38] at H
    have c38b0 : ((t443.length : Int) == 0) = false := beq_eq_false_iff_ne.mpr c38
    have c38b1 : ((t443.length : Int) != 0) = true := bne_iff_ne.mpr c38
    have c38b2 : ¬ (t443 = []) := fun h_ => c38 (by rw [h_]; rfl)
    have H' := Za.mk H
    clear H
    obtain ⟨Ao39, co39, eo39⟩ := Kd.Zbk HO_8.out
    subst eo39
    obtain ⟨Ao40, co40, eo40⟩ := Kd.Zbk HO437.out
    subst eo40
    go_wp2_with (first | (go_at_call 22; (with_reducible refine (Zaf.calls k1 _ _ t418 _ _ t434 true _ ?side1 ?side2 ?side3 ?side4 A32.out).mono ?_); (case side1 => repeat (first | exact (Kd.Za6 HO_8.out).2.2 | (with_reducible refine Kd.Zaz ?_ _) | (with_reducible refine Kd.C_drewN ?_ _) | (with_reducible refine Kd.C_drew ?_))); (case side2 => exact (Kd.Za6 HO_8.out).2.1); (case side3 => repeat (first | exact (Kd.Za6 HO437.out).2.2 | (with_reducible refine Kd.Zaz ?_ _) | (with_reducible refine Kd.C_drewN ?_ _) | (with_reducible refine Kd.C_drew ?_))); (case side4 => exact (Kd.Za6 HO437.out).2.1); rintro e w' ⟨rfl, ⟨nd, rfl⟩⟩; obtain ⟨Ao41, co41, eo41⟩ := Kd.Zbk HO446.out; subst eo41))
    go_meet
    case rel => exact ⟨_, ((((t418.length : Int) % (t443.length : Int)) != 0)), (by first | rfl | (simp; done) | (simp [*]; done)), H', ⟨by have := HK1.out; first | omega | exact Nat.le_refl _⟩, ⟨by (with_reducible repeat (first | apply Kd.N_alloc | apply Kd.Zaw | apply Kd.Za3)); exact Kd.Zbj HO_8.out (fun _ hk => hk.2)⟩, ⟨by (with_reducible repeat (first | apply Kd.N_alloc | apply Kd.Zaw | apply Kd.Za3)); exact Kd.Zbj HO446.out (fun _ hk => hk.2.1)⟩, ⟨by repeat (first | (with_reducible first | exact HB.out | apply Zac | apply Zab | apply Zad) | exact HB.out)⟩⟩
   case rest =>
    clear HC25
    try clear c1
    try clear c2
    try clear p2
    try clear q2
    try clear c3
    try clear c4
    try clear p4
    try clear q4
    try clear hx4
    try clear c6
    try clear c6b0
    try clear c6b1
    try clear p6
    try clear c8
    try clear c12
    try clear c12b0
    try clear c13
    try clear c13b0
    try clear c14
    try clear c14b0
    try clear c15
    try clear c16
    try clear c18
    try clear c20
    try clear c20b0
    try clear c20b1
    try clear c22
    try clear c22b0
    try clear c22b1
    try clear c23
    try clear c23b0
    try clear c23b1
    try clear q28
    try clear c30
    try clear c30b0
    try clear c30b1
    try clear c31
    try clear c31b0
    try clear c31b1
    try clear c33
    try clear c34
    try clear c34b0
    try clear c34b1
    try clear c38
    try clear c38b0
    try clear c38b1
    try clear c38b2
    try clear c42
    try clear p42
    try clear q42
    try clear hx42
    try clear c43
    try clear p43
    try clear q43
    try clear hx43
    try clear hx426_0
    try clear hx430_0
    try clear p2
    try clear p426
    try clear p430
    try clear p6
    try clear q28
    try clear q426
    try clear q430
    obtain ⟨kq, x100_24, rfl, HA, HJ24, HO_8, HO_14, HB⟩ := hcut
    cases kq with
    | zero => exact absurd HA.out (by simp [Zaa.j1])
    | succ kj24 =>
     have H := HA.out
     clear HA
     simp only [Zaa.j1] at H
     by_cases c44 : x100_24 = true
     ·subst c44
      have H1 : (none) = some r := by rw [if_pos rfl] at H; exact H
      clear H
      have H := H1
      clear H1
      exact absurd H (by simp)
     replace c44 := Bool.eq_false_iff.mpr c44
     subst c44
     have H1 : (Zaa.l1 kj24 t418 t443 0) = some r := by rw [if_neg (show ¬ (false = true) by decide)] at H; exact H
     clear H
     have H := H1
     clear H1
     have H' := Za.mk H
     clear H
     go_wp2
     go_loopg [16] kj24 (fun kq v16 w' => ∃ (x16_3 : Int), v16 = .int .i64 x16_3 ∧ Za (Zaa.l1 kq t418 t443 x16_3 = some r) ∧ Za (kq ≤ kj24) ∧ Za (Kd.N (Kd.slice 3 (Kd.int .i64)) 22 w' w.heap.size (fun k_ => some k_ ≠ (v445 : Value).ownBlock) v420 t418) ∧ Za (Kd.N (Kd.slice 3 (Kd.int .i64)) 22 w' w.heap.size (fun k_ => some k_ ≠ (v420 : Value).ownBlock) v445 t443) ∧ Za (Below w.heap.size w w'))
     case atStart => exact ⟨(0), (by first | rfl | (simp; done) | (simp [*]; done)), H', ⟨Nat.le_refl _⟩, ⟨by (with_reducible repeat (first | apply Kd.N_alloc | apply Kd.Zaw | apply Kd.Za3)); exact HO_8.out⟩, ⟨by (with_reducible repeat (first | apply Kd.N_alloc | apply Kd.Zaw | apply Kd.Za3)); exact HO_14.out⟩, ⟨by repeat (first | (with_reducible first | exact HB.out | apply Zac | apply Zab | apply Zad) | exact HB.out)⟩⟩
     case round =>
      clear H'
      try clear c1
      try clear c2
      try clear p2
      try clear q2
      try clear c3
      try clear c4
      try clear p4
      try clear q4
      try clear hx4
      try clear c6
      try clear c6b0
      try clear c6b1
      try clear p6
      try clear c8
      try clear c12
      try clear c12b0
      try clear c13
      try clear c13b0
      try clear c14
      try clear c14b0
      try clear c15
      try clear c16
      try clear c18
      try clear c20
      try clear c20b0
      try clear c20b1
      try clear c22
      try clear c22b0
      try clear c22b1
      try clear c23
      try clear c23b0
      try clear c23b1
      try clear q28
      try clear c30
      try clear c30b0
      try clear c30b1
      try clear c31
      try clear c31b0
      try clear c31b1
      try clear c33
      try clear c34
      try clear c34b0
      try clear c34b1
      try clear c38
      try clear c38b0
      try clear c38b1
      try clear c38b2
      try clear c42
      try clear p42
      try clear q42
      try clear hx42
      try clear c43
      try clear p43
      try clear q43
      try clear hx43
      try clear c44
      try clear hx426_0
      try clear hx430_0
      try clear p2
      try clear p4
      try clear p42
      try clear p426
      try clear p43
      try clear p430
      try clear p6
      try clear q2
      try clear q28
      try clear q4
      try clear q42
      try clear q426
      try clear q43
      try clear q430
      obtain ⟨x16_3, rfl, HA, HK3, HO_8, HO_14, HB⟩ := hrel
      cases gk with
      | zero => exact absurd HA.out (by simp [Zaa.l1])
      | succ k3 =>
       have H := HA.out
       clear HA
       simp only [Zaa.l1] at H
       by_cases c45 : x16_3 < (t443.length : Int)
       rotate_left
       ·rw [if_neg c45] at H
        have c45b0 : decide (x16_3 < (t443.length : Int)) = false := decide_eq_false c45
        clear c45
        replace H := Option.bind_eq_some_iff.mp H
        obtain ⟨t450, A510, H⟩ := H
        replace H : (some t450) = some r := H
        have A51 := Za.mk A510
        clear A510
        obtain rfl := Option.some.inj H
        obtain ⟨Ao52, co52, eo52⟩ := Kd.Zbk HO_14.out
        subst eo52
        go_wp2_with (first | ((with_reducible refine Zat (f := 16) rfl ?_); refine Zbd (some 114) rfl rfl Try.func16 (by kernel_rfl) rfl #[] rfl (by (try simp only [List.map_toArray, List.map_cons, List.map_nil]); first | done | rfl | (simp only [List.length_drop, List.length_take]; rfl)) ?_; (with_reducible refine (Zar.calls k3  t450 _ A51.out).mono ?_); rintro e w53 ⟨rfl, hb⟩; refine ⟨_, rfl, ?_⟩; have n0_ := Za.mk (Kd.Zdg (by (with_reducible repeat (first | apply Kd.N_alloc | apply Kd.Zaw | apply Kd.Za3)); exact HO_8.out) hb); have n1_ := Za.mk (Kd.Zdg (by (with_reducible repeat (first | apply Kd.N_alloc | apply Kd.Zaw | apply Kd.Za3)); exact HO_14.out) hb); have n2_ := Za.mk (Zam (by repeat (first | (with_reducible first | exact HB.out | apply Zac | apply Zab | apply Zad) | exact HB.out)) hb); clear HO_8; clear HO_14; clear HB; have HO_8 := n0_; have HO_14 := n1_; have HB := n2_; clear n0_ n1_ n2_; (try clear hb); (try clear hb2); (try clear hk); (try clear hi)))
        go_ret
        exact ⟨by first | rfl | (simp [Za0, Za1] <;> rfl) | (simp only [← hji21]; first | rfl | (simp [Za0, Za1] <;> rfl)) | (simp [*, Za0, Za1] <;> rfl), by repeat (first | (with_reducible first | exact HB.out | apply Zac | apply Zab | apply Zad) | exact HB.out)⟩
       rw [if_pos c45] at H
       have c45b0 : decide (x16_3 < (t443.length : Int)) = true := decide_eq_true c45
       clear c45
       by_cases c46 : 0 ≤ x16_3
       rotate_left
       ·rw [if_neg c46] at H
        exact absurd H (by simp)
       rw [if_pos c46] at H
       have c46b0 : decide (0 ≤ x16_3) = true := decide_eq_true c46
       clear c46
       replace H := Option.bind_eq_some_iff.mp H
       obtain ⟨t449, A470, H⟩ := H
       replace H : (if t449 = true then (Zaa.l1 k3 t418 t443 (wrap64 (x16_3 + 1))) else (none)) = some r := H
       have A47 := Za.mk A470
       clear A470
       by_cases c48 : t449 = true
       rotate_left
       ·replace c48 := Bool.eq_false_iff.mpr c48
        subst c48
        have H1 : (none) = some r := by rw [if_neg (show ¬ (false = true) by decide)] at H; exact H
        clear H
        have H := H1
        clear H1
        exact absurd H (by simp)
       subst c48
       have H1 : (Zaa.l1 k3 t418 t443 (wrap64 (x16_3 + 1))) = some r := by rw [if_pos rfl] at H; exact H
       clear H
       have H := H1
       clear H1
       have H' := Za.mk H
       clear H
       obtain ⟨Ao49, co49, eo49⟩ := Kd.Zbk HO_14.out
       subst eo49
       have p448 : 0 ≤ (x16_3 : Int) := of_decide_eq_true (by first | (with_reducible assumption) | assumption)
       have q448 : x16_3 < (t443.length : Int) := of_decide_eq_true (by first | (with_reducible assumption) | assumption)
       obtain ⟨ad448, A448_0, c448_0, e448, hx448_0, hl448_0, hi448_0⟩ := Zda (Kd.Za6 HO_14.out).2.2 x16_3 p448 q448
       cases e448
       obtain ⟨ce448, hce448, hMe448, hcc448⟩ := Kd.N_get HO_14.out [] x16_3 p448 (by first | exact q448 | exact of_decide_eq_true (by first | (with_reducible assumption) | assumption) | (have e_ := (Kd.Za6 HO_14.out).1; omega))
       obtain ⟨ua448_0, uc448_0, rfl, ul448_0, ge448_0⟩ := Kd.Zcv hMe448
       have hv448_0 := hcc448 0 _ rfl
       rw [Nat.add_zero, show ((Kd.slice 3 (Kd.int .i64))).sz = 1 from rfl, Nat.mul_one] at hv448_0
       replace hv448_0 := Option.some.inj (hv448_0.symm.trans hx448_0)
       injection hv448_0 with hva_ hvn_ hvc_
       rw [hva_] at ge448_0
       rw [hvc_] at ul448_0
       have HL448_0 := Za.mk (show Kd.V (Kd.int .i64) 3 _ w.heap.size _ _ (Za5 t443 x16_3) from Kd.V_mk ul448_0 ge448_0)
       clear hva_ hvn_ hvc_ ge448_0 ul448_0
       clear hcc448 hce448
       have HR448_0 := Za.mk hi448_0
       have HC448_0 := Za.mk hl448_0
       clear hi448_0 hl448_0
       replace p448 := eq_true p448
       replace q448 := eq_true q448
       obtain ⟨Ao50, co50, eo50⟩ := Kd.Zbk HO_8.out
       subst eo50
       go_wp2_with (first | ((with_reducible refine Zat (f := 26) rfl ?_); refine Zbd (some 112) rfl rfl Try.func26 (by kernel_rfl) rfl #[.slice Ao50 t418.length co50, .slice A448_0 (Za5 t443 x16_3).length c448_0] rfl (by (try simp only [List.map_toArray, List.map_cons, List.map_nil]); first | done | rfl | (simp only [List.length_drop, List.length_take]; rfl)) ?_; (with_reducible refine (Zai.calls k3 _ _ t418 _ _ (Za5 t443 x16_3) true _ ?side1 ?side2 ?side3 ?side4 A47.out).mono ?_); (case side1 => repeat (first | exact (Kd.Za6 HO_8.out).2.2 | (with_reducible refine Kd.Zaz ?_ _) | (with_reducible refine Kd.C_drewN ?_ _) | (with_reducible refine Kd.C_drew ?_))); (case side2 => exact (Kd.Za6 HO_8.out).2.1); (case side3 => repeat (first | exact (by repeat (first | (with_reducible exact HR448_0.out) | (with_reducible refine Kd.Zaz ?_ _) | (with_reducible refine Kd.C_drewN ?_ _) | (with_reducible refine Kd.C_drew ?_) | exact HR448_0.out)) | (with_reducible refine Kd.Zaz ?_ _) | (with_reducible refine Kd.C_drewN ?_ _) | (with_reducible refine Kd.C_drew ?_))); (case side4 => exact HC448_0.out); rintro e w' ⟨rfl, ⟨nd, rfl⟩⟩; refine ⟨_, rfl, ?_⟩))
       go_roundg k3
       case measure => have := HK1.out; have := HJ24.out; have := HK3.out; omega
       case rel => exact ⟨(wrap64 (x16_3 + 1)), (by first | rfl | (simp; done) | (simp [*]; done)), H', ⟨by have := HK1.out; have := HJ24.out; have := HK3.out; omega⟩, ⟨by (with_reducible repeat (first | apply Kd.N_alloc | apply Kd.Zaw | apply Kd.Za3)); exact HO_8.out⟩, ⟨by (with_reducible repeat (first | apply Kd.N_alloc | apply Kd.Zaw | apply Kd.Za3)); exact HO_14.out⟩, ⟨by repeat (first | (with_reducible first | exact HB.out | apply Zac | apply Zab | apply Zad) | exact HB.out)⟩⟩
end Go.Proofs.Yteopgafbamipeaa.P
/- All changes that some make, put behind one another: how many there are, that group.Close tells them, and that those of some of them divide them. -/
namespace Go.Proofs.Yteopgafbamipeaa.P
open Go.RowKit Go.Proofs.YteopgafbamipeaaW.PrintWords Go.Proofs.YteopgafbamipeaaW.PrintLast Go.Proofs.YteopgafbamipeaaW.PrintMore
set_option linter.unusedVariables false
set_option linter.unusedSimpArgs false
namespace G
theorem Zdt {α : Type} [BEq α] [LawfulBEq α] : ∀ (l m : List α), l.Nodup → (∀ x ∈ l, x ∈ m) → l.length ≤ m.length
  | [], m, _, _ => Nat.zero_le _
  | x :: l, m, hd, hs => by
    obtain ⟨h1, h2⟩ := List.nodup_cons.1 hd
    have hx : x ∈ m := hs x List.mem_cons_self
    have := Zdt l (m.erase x) h2 (fun y hy => (List.mem_erase_of_ne (fun (e : y = x) => h1 (e ▸ hy))).2 (hs y (List.mem_cons_of_mem _ hy)))
    rw [List.length_erase_of_mem hx] at this
    have hp : 0 < m.length := List.length_pos_of_mem hx
    rw [List.length_cons]
    omega
def enc : List Int → Nat
  | [] => 0
  | x :: l => x.toNat + 7 * enc l
theorem enc_lt : ∀ (l : List Int), (∀ x ∈ l, 0 ≤ x ∧ x < 7) → enc l < 7 ^ l.length
  | [], _ => by simp [enc]
  | x :: l, h => by
    have ih := enc_lt l (fun y hy => h y (List.mem_cons_of_mem _ hy))
    have hx := h x List.mem_cons_self
    rw [enc, List.length_cons, Nat.pow_succ]
    omega
theorem enc_inj : ∀ (l m : List Int), l.length = m.length → (∀ x ∈ l, 0 ≤ x ∧ x < 7) → (∀ x ∈ m, 0 ≤ x ∧ x < 7) → enc l = enc m → l = m
  | [], [], _, _, _, _ => rfl
  | x :: l, y :: m, hl, h1, h2, e => by
    have hx := h1 x List.mem_cons_self
    have hy := h2 y List.mem_cons_self
    rw [enc, enc] at e
    have e1 : x = y := by omega
    have e2 : enc l = enc m := by omega
    rw [e1, enc_inj l m (by simpa using hl) (fun z hz => h1 z (List.mem_cons_of_mem _ hz)) (fun z hz => h2 z (List.mem_cons_of_mem _ hz)) e2]
  | [], y :: m, hl, _, _, _ => by simp at hl
  | x :: l, [], hl, _, _, _ => by simp at hl
/-- A change of n places. -/
def Ch (n : Nat) (x : List Int) : Prop := Rt x ∧ x.length = n
theorem Ch.dig {n : Nat} {x : List Int} (h : Ch n x) (hn : n ≤ 7) : ∀ v ∈ x, 0 ≤ v ∧ v < 7 := fun v hv => by
  have := (h.1.mem v).1 hv
  have := h.2
  omega
theorem few {n : Nat} (hn : n ≤ 7) {L : List (List Int)} (hd : L.Nodup) (hp : ∀ x ∈ L, Ch n x) : L.length ≤ 823543 := by
  have h1 : (L.map enc).Nodup := by
    refine List.pairwise_map.2 ((List.Pairwise.imp_of_mem ?_ hd))
    intro a b ha hb hne e
    exact hne (enc_inj a b ((hp a ha).2.trans (hp b hb).2.symm) ((hp a ha).dig hn) ((hp b hb).dig hn) e)
  have h2 := Zdt (L.map enc) (List.range 823543) h1 (fun y hy => by
    obtain ⟨x, hx, rfl⟩ := List.mem_map.1 hy
    have h3 := enc_lt x ((hp x hx).dig hn)
    have h4 : 7 ^ x.length ≤ 7 ^ 7 := Nat.pow_le_pow_right (by decide) (by rw [(hp x hx).2]; exact hn)
    exact List.mem_range.2 (by omega))
  rw [List.length_map, List.length_range] at h2
  exact h2
/-- What comes of the one that changes nothing, and of l. -/
inductive Gen (l : List (List Int)) (n : Nat) : List Int → Prop
  | one : Gen l n (ids n)
  | mul {x p : List Int} : Gen l n x → p ∈ l → Gen l n (comp x p)
theorem Ch.comp {n : Nat} {x p : List Int} (hx : Ch n x) (hp : Ch n p) : Ch n (G.comp x p) := ⟨Zeq hx.1 hp.1 (hx.2.trans hp.2.symm), by rw [Zb]; exact hx.2⟩
theorem Ch.ids (n : Nat) : Ch n (G.ids n) := ⟨ids_Rt n, Zbl n⟩
section
variable {l : List (List Int)} {n : Nat} (hl : ∀ p ∈ l, Ch n p)
include hl
theorem Gen.ch {x : List Int} (h : Gen l n x) : Ch n x := by
  induction h with
  | one => exact Ch.ids n
  | mul _ hp ih => exact ih.comp (hl _ hp)
omit hl in
theorem assoc' {x y z : List Int} (hx : Ch n x) (hy : Ch n y) : comp (comp x y) z = comp x (comp y z) := comp_assoc hx.1 (hx.2.trans hy.2.symm)
theorem Gen.of {p : List Int} (hp : p ∈ l) : Gen l n p := by
  have := Gen.mul (Gen.one (l := l) (n := n)) hp
  rwa [ids_comp (hl p hp).2] at this
theorem Gen.behind {x y : List Int} (hx : Gen l n x) (hy : Gen l n y) : Gen l n (comp x y) := by
  induction hy with
  | one => rw [comp_ids (hx.ch hl).1 (hx.ch hl).2]; exact hx
  | mul hy hp ih =>
    rw [← assoc' (hx.ch hl) (hy.ch hl)]
    exact ih.mul hp
end
theorem Gen.mono {l m : List (List Int)} {n : Nat} (h : ∀ p ∈ l, p ∈ m) {x : List Int} (hx : Gen l n x) : Gen m n x := by
  induction hx with
  | one => exact Gen.one
  | mul _ hp ih => exact ih.mul (h _ hp)
theorem Zdd (x : List Int) : ∀ (l out : List (List Int)), out.Nodup → (Za7 x l out).Nodup
  | [], out, h => h
  | p :: l, out, h => by
    unfold Za7
    refine Zdd x l _ ?_
    split
    · exact h
    rename_i hn
    refine List.nodup_append.2 ⟨h, by simp, fun a ha b hb => ?_⟩
    obtain rfl := List.mem_singleton.1 hb
    exact fun e => hn (e ▸ ha)
theorem cl_loop_ev {l : List (List Int)} {n : Nat} (hn : n ≤ 7) (hl : ∀ p ∈ l, Ch n p) : ∀ (d i : Nat) (out : List (List Int)), d + i = 823544 → out.Nodup → (∀ x ∈ out, Gen l n x) → ids n ∈ out → (∀ j (hj : j < out.length), j < i → ∀ p ∈ l, comp out[j] p ∈ out) → i ≤ out.length →
    ∃ res, Ev (fun k => Zbq l k i out) res ∧ res.Nodup ∧ ∀ x, x ∈ res ↔ Gen l n x := by
  intro d
  induction d with
  | zero =>
    intro i out hd hnd hg hi hc hio
    have := few hn hnd (fun x hx => (hg x hx).ch hl)
    omega
  | succ d ih =>
    intro i out hd hnd hg hi hc hio
    by_cases hlt : i < out.length
    rotate_left
    · refine ⟨out, Ev.step (G := fun _ => some out) (fun k => by rw [Zbq, dif_neg hlt]) (Ev.const rfl), hnd, fun x => ⟨hg x, fun hx => ?_⟩⟩
      induction hx with
      | one => exact hi
      | mul _ hp ih2 =>
        obtain ⟨j, hj, rfl⟩ := List.mem_iff_getElem.1 ih2
        exact hc j hj (by omega) _ hp
    have hg' : ∀ x ∈ Za7 out[i] l out, Gen l n x := fun x hx => by
      rcases (Zbp out[i] x l out).1 hx with h | ⟨p, hp, rfl⟩
      · exact hg x h
      exact (hg _ (List.getElem_mem hlt)).mul hp
    have hnd' := Zdd out[i] l out hnd
    have hfew := few hn hnd' (fun x hx => (hg' x hx).ch hl)
    have hlen := Zci out[i] l out
    obtain ⟨res, h1, h2⟩ := ih (i + 1) (Za7 out[i] l out) (by omega) hnd' hg' ((Zbp _ _ _ _).2 (.inl hi)) (fun j hj hji p hp => by
      have hjo : j < out.length := by omega
      have e : (Za7 out[i] l out)[j] = out[j] := by
        have := Zc3 out[i] l out j hjo
        rw [List.getElem?_eq_getElem hj, List.getElem?_eq_getElem hjo] at this
        exact Option.some.inj this
      rw [e]
      by_cases hjj : j < i
      · exact (Zbp _ _ _ _).2 (.inl (hc j hjo hjj p hp))
      obtain rfl : j = i := by omega
      exact (Zbp _ _ _ _).2 (.inr ⟨p, hp, rfl⟩)) (by omega)
    exact ⟨res, Ev.step (fun k => by rw [Zbq, dif_pos hlt, if_pos (by omega)]) h1, h2⟩
/-- The list of all that l makes. -/
def IsCl (l : List (List Int)) (n : Nat) (g : List (List Int)) : Prop := SSL g ∧ ∀ x, x ∈ g ↔ Gen l n x
theorem IsCl.uniq {l m : List (List Int)} {n : Nat} {g h : List (List Int)} (hg : IsCl l n g) (hh : IsCl m n h) (hlm : ∀ p, p ∈ l ↔ p ∈ m) : g = h :=
  SSL.ext hg.1 hh.1 (fun x => (hg.2 x).trans (Iff.trans ⟨fun h => h.mono (fun p hp => (hlm p).1 hp), fun h => h.mono (fun p hp => (hlm p).2 hp)⟩ (hh.2 x).symm))
theorem Zdx {g : List (List Int)} (h : SSL g) : g.Nodup := h.imp (fun {a b} hab e => by subst e; rw [Zbg] at hab; cases hab)
theorem IsCl.few {l : List (List Int)} {n : Nat} {g : List (List Int)} (hg : IsCl l n g) (hn : n ≤ 7) (hl : ∀ p ∈ l, Ch n p) : g.length ≤ 823543 := G.few hn (Zdx hg.1) (fun x hx => ((hg.2 x).1 hx).ch hl)
theorem cl_ok_ch {l : List (List Int)} {n : Nat} (h : Zd5 l n = true) : ∀ p ∈ l, Ch n p := fun p hp => by
  have := List.all_eq_true.1 h p hp
  simp only [Bool.and_eq_true, decide_eq_true_iff] at this
  exact ⟨Zcg.1 this.2, by omega⟩
theorem cl_ok_of {l : List (List Int)} {n : Nat} (h : ∀ p ∈ l, Ch n p) : Zd5 l n = true := by
  unfold Zd5
  rw [List.all_eq_true]
  intro p hp
  rw [Bool.and_eq_true, decide_eq_true_iff]
  exact ⟨by have := (h p hp).2; omega, Zcg.2 (h p hp).1⟩
theorem close_ok {l : List (List Int)} {n : Nat} (hn : n ≤ 7) (hl : ∀ p ∈ l, Ch n p) : ∃ g, IsCl l n g ∧ Ev (fun k => Zas.f k l (n : Int)) (g, 0) := by
  obtain ⟨res, h1, h2, h3⟩ := cl_loop_ev hn hl 823544 0 [ids n] (by omega) (by simp) (fun x hx => by rw [List.mem_singleton.1 hx]; exact Gen.one) (by simp) (fun j _ hj => absurd hj (Nat.not_lt_zero _)) (Nat.zero_le _)
  have hf := few hn h2 (fun x hx => ((h3 x).1 hx).ch hl)
  refine ⟨sdL res, ⟨sdL_ss res, fun x => (Zd7 x res).trans (h3 x)⟩, ?_⟩
  refine Ev.eq (G := fun k => (Zbq l k 0 [ids n]).bind fun out => (Za8.f out).map fun s => (s, 0)) (fun k => by rw [Zas.f, if_neg (by omega), if_pos (cl_ok_of hl), Int.toNat_natCast]) ?_
  refine Ev.bind h1 (Ev.const ?_)
  rw [sorted_some (by omega) (fun x hx => by have := (((h3 x).1 hx).ch hl).2; omega)]
  rfl
theorem close_no {l : List (List Int)} {n : Int} (h : n < 0 ∨ 7 < n ∨ Zd5 l n = false) : Ev (fun k => Zas.f k l n) ([], 1) := by
  refine Ev.eq (G := fun _ => some ([], 1)) (fun k => ?_) (Ev.const rfl)
  unfold Zas.f
  split
  · rfl
  rename_i hc
  rw [if_neg]
  rcases h with h | h | h
  · omega
  · omega
  rw [h]; simp
/-! ### Those of some of them divide them -/
theorem inv_in {l : List (List Int)} {n : Nat} (hn : n ≤ 7) (hl : ∀ p ∈ l, Ch n p) {g : List (List Int)} (hg : IsCl l n g) {x : List Int} (hx : x ∈ g) : ∃ y ∈ g, comp x y = ids n := by
  have hxc := ((hg.2 x).1 hx).ch hl
  have h1 : (g.map (comp x)).Nodup := by
    refine List.pairwise_map.2 ((List.Pairwise.imp_of_mem ?_ (Zdx hg.1)))
    intro a b ha hb hne e
    refine hne (Zeb ((((hg.2 a).1 ha).ch hl).2.trans (((hg.2 b).1 hb).ch hl).2.symm) fun i hi => ?_)
    have hac := ((hg.2 a).1 ha).ch hl
    obtain ⟨j, hj, hji⟩ := Zfi (hxc.1 i (by have := hxc.2; have := hac.2; omega))
    have : rd (comp x a) (j : Int) = rd (comp x b) (j : Int) := congrArg (fun q => rd q (j : Int)) e
    rw [Zbt hj, Zbt hj, hji] at this
    exact this
  have h2 : ∀ y ∈ g.map (comp x), y ∈ g := fun y hy => by
    obtain ⟨z, hz, rfl⟩ := List.mem_map.1 hy
    exact (hg.2 _).2 (((hg.2 x).1 hx).behind hl ((hg.2 z).1 hz))
  have h3 : ids n ∈ g.map (comp x) := by
    refine Decidable.byContradiction fun hno => ?_
    have h4 := Zdt (ids n :: g.map (comp x)) g (List.nodup_cons.2 ⟨hno, h1⟩) (fun y hy => by
      rcases List.mem_cons.1 hy with rfl | hy
      · exact (hg.2 _).2 Gen.one
      exact h2 y hy)
    rw [List.length_cons, List.length_map] at h4
    omega
  obtain ⟨y, hy, e⟩ := List.mem_map.1 h3
  exact ⟨y, hy, e⟩
theorem split_len {α : Type} (p : α → Bool) : ∀ l : List α, (l.filter p).length + (l.filter fun x => !p x).length = l.length
  | [] => rfl
  | x :: l => by
    have ih := split_len p l
    cases h : p x <;> simp [List.filter_cons, h] <;> omega
theorem filter_out {α : Type} [BEq α] [LawfulBEq α] : ∀ (R C : List α), R.Nodup → C.Nodup → (∀ x ∈ C, x ∈ R) → (R.filter fun x => !C.contains x).length + C.length = R.length := by
  intro R C hR hC hs
  have h1 : (R.filter fun x => C.contains x).length = C.length := by
    refine Nat.le_antisymm (Zdt _ _ (hR.filter _) (fun x hx => by simpa using (List.mem_filter.1 hx).2)) (Zdt _ _ hC (fun x hx => List.mem_filter.2 ⟨hs x hx, by simpa using hx⟩))
  have h2 := split_len (fun x => C.contains x) R
  omega
theorem cosets {l : List (List Int)} {n : Nat} (hn : n ≤ 7) (hl : ∀ p ∈ l, Ch n p) {H : List (List Int)} (hH : IsCl l n H) : ∀ (d : Nat) (R : List (List Int)), R.length ≤ d → R.Nodup → (∀ x ∈ R, Ch n x) → (∀ x ∈ R, ∀ h ∈ H, comp x h ∈ R) → R.length % H.length = 0
  | 0, R, hd, _, _, _ => by
    have : R.length = 0 := by omega
    rw [this, Nat.zero_mod]
  | d + 1, [], _, _, _, _ => Nat.zero_mod _
  | d + 1, x :: R0, hd, hnd, hch, hcl => by
    have hmx : x ∈ x :: R0 := List.mem_cons_self
    generalize x :: R0 = R at *
    have hxc := hch x hmx
    have hcd : (H.map (comp x)).Nodup := by
      refine List.pairwise_map.2 ((List.Pairwise.imp_of_mem ?_ (Zdx hH.1)))
      intro a b ha hb hne e
      refine hne (Zeb ((((hH.2 a).1 ha).ch hl).2.trans (((hH.2 b).1 hb).ch hl).2.symm) fun i hi => ?_)
      have hac := ((hH.2 a).1 ha).ch hl
      obtain ⟨j, hj, hji⟩ := Zfi (hxc.1 i (by have := hxc.2; have := hac.2; omega))
      have : rd (comp x a) (j : Int) = rd (comp x b) (j : Int) := congrArg (fun q => rd q (j : Int)) e
      rw [Zbt hj, Zbt hj, hji] at this
      exact this
    have hcs : ∀ y ∈ H.map (comp x), y ∈ R := fun y hy => by
      obtain ⟨h, hh, rfl⟩ := List.mem_map.1 hy
      exact hcl x hmx h hh
    have hlen := filter_out R (H.map (comp x)) hnd hcd hcs
    rw [List.length_map] at hlen
    have hpos : 0 < H.length := List.length_pos_of_mem ((hH.2 _).2 Gen.one)
    have ih := cosets hn hl hH d (R.filter fun y => !(H.map (comp x)).contains y) (by omega) (hnd.filter _) (fun y hy => hch y (List.mem_filter.1 hy).1) (fun y hy h hh => by
      obtain ⟨hyR, hyC⟩ := List.mem_filter.1 hy
      refine List.mem_filter.2 ⟨hcl y hyR h hh, ?_⟩
      rw [Bool.not_eq_true'] at hyC ⊢
      cases hc : (H.map (comp x)).contains (comp y h)
      · rfl
      exfalso
      rw [List.contains_iff_mem] at hc
      obtain ⟨h', hh', e⟩ := List.mem_map.1 hc
      obtain ⟨z, hz, hhz⟩ := inv_in hn hl hH hh
      have hyc := hch y hyR
      have hhc := ((hH.2 h).1 hh).ch hl
      have hh'c := ((hH.2 h').1 hh').ch hl
      have e2 : comp x (comp h' z) = y := by
        rw [← assoc' hxc hh'c, e, assoc' hyc hhc, hhz, comp_ids hyc.1 hyc.2]
      have hm : y ∈ H.map (comp x) := List.mem_map.2 ⟨comp h' z, (hH.2 _).2 (((hH.2 h').1 hh').behind hl ((hH.2 z).1 hz)), e2⟩
      rw [← List.contains_iff_mem, hyC] at hm
      cases hm)
    rw [← hlen, Nat.add_mod_right]
    exact ih
theorem divides {l m : List (List Int)} {n : Nat} (hn : n ≤ 7) (hl : ∀ p ∈ l, Ch n p) (hm : ∀ p ∈ m, p ∈ l) {g h : List (List Int)} (hg : IsCl l n g) (hh : IsCl m n h) : g.length % h.length = 0 :=
  cosets hn (fun p hp => hl p (hm p hp)) hh g.length g (Nat.le_refl _) (Zdx hg.1) (fun x hx => ((hg.2 x).1 hx).ch hl) (fun x hx y hy => (hg.2 _).2 (((hg.2 x).1 hx).behind hl (((hh.2 y).1 hy).mono hm)))
end G
end Go.Proofs.Yteopgafbamipeaa.P
/- More changes make no fewer; the order of changes, and one twice, makes no difference: for any lists. -/
namespace Go.Proofs.Yteopgafbamipeaa.P
open Go.RowKit G Go.Proofs.YteopgafbamipeaaW.PrintWords Go.Proofs.YteopgafbamipeaaW.PrintLast Go.Proofs.YteopgafbamipeaaW.PrintMore
set_option linter.unusedVariables false
theorem and16 (n : Int) : bits .and .i64 n 65535 = n % 65536 := by
  have h1 : (BitVec.ofInt 64 65535).toNat = 2 ^ 16 - 1 := by decide
  have key : (BitVec.ofInt 64 n &&& BitVec.ofInt 64 65535).toNat = (n % ((2 ^ 64 : Nat) : Int)).toNat % 2 ^ 16 := by
    rw [BitVec.toNat_and, BitVec.toNat_ofInt, h1, Nat.and_two_pow_sub_one_eq_mod]
  show IntKind.i64.wrap ((BitVec.ofInt 64 n &&& BitVec.ofInt 64 65535).toNat : Nat) = n % 65536
  rw [key, IntKind.wrap_i64]
  omega
theorem tmod_of {a b : Int} (ha : 0 ≤ a) (hb : 0 < b) : Int.tmod a b = a % b := by
  rw [Int.tmod_eq_emod_of_nonneg ha]
theorem Zff (g : List (List Int)) (x : List Int) (hg : g.length ≤ 1000000) (hin : ∀ y ∈ g, y.length ≤ 1000000) : ∀ (d n : Nat), n + d = g.length → Ev (fun k => Zai.l0 k g x (n : Int)) (decide (x ∈ g.drop n))
  | 0, n, h => by
    rw [List.drop_of_length_le (by omega)]
    exact Ev.step (G := fun _ => some false) (fun k => by rw [Zai.l0, if_neg (by omega)]) (Ev.const (by simp))
  | d + 1, n, h => by
    have hn : n < g.length := by omega
    have hN := ref_Nums g[n] x (by have := hin _ (List.getElem_mem hn); omega)
    rw [List.drop_eq_getElem_cons hn]
    by_cases e : g[n] = x
    · rw [decide_eq_true e] at hN
      rw [decide_eq_true (List.mem_cons.2 (.inl e.symm))]
      refine Ev.step (fun k => by rw [Zai.l0, if_pos (by omega), if_pos (by omega), Zc6 g n hn]) (Ev.bind hN ?_)
      exact Ev.Zbi rfl (Ev.const rfl)
    rw [decide_eq_false e] at hN
    have e2 : decide (x ∈ g[n] :: g.drop (n + 1)) = decide (x ∈ g.drop (n + 1)) := by
      rw [decide_eq_decide, List.mem_cons]
      constructor
      · rintro (h | h)
        · exact absurd h.symm e
        exact h
      exact .inr
    rw [e2]
    refine Ev.step (fun k => by rw [Zai.l0, if_pos (by omega), if_pos (by omega), Zc6 g n hn, w1 (by omega)]) (Ev.bind hN ?_)
    exact Ev.Zcf (by simp) (Zff g x hg hin d (n + 1) (by omega))
theorem among_ev {g : List (List Int)} {x : List Int} (hg : g.length ≤ 1000000) (hin : ∀ y ∈ g, y.length ≤ 1000000) : Ev (fun k => Zai.f k g x) (decide (x ∈ g)) :=
  Zff g x hg hin g.length 0 (by omega)
theorem more_few (g few : List (List Int)) (hg : g.length ≤ 1000000) (hin : ∀ y ∈ g, y.length ≤ 1000000) (hs : ∀ y ∈ few, y ∈ g) (hf : few.length ≤ 1000000) : ∀ (d n : Nat), n + d = few.length → Ev (fun k => Zaa.l1 k g few (n : Int)) true
  | 0, n, h => Ev.step (fun k => by rw [Zaa.l1, if_neg (by omega)]) (Ev.bind (F := fun k => Zar.f k) (a := true) (Ev.const rfl) (Ev.const rfl))
  | d + 1, n, h => by
    have hn : n < few.length := by omega
    have ha := among_ev (x := few[n]) hg hin
    rw [decide_eq_true (hs _ (List.getElem_mem hn))] at ha
    refine Ev.step (fun k => by rw [Zaa.l1, if_pos (by omega), if_pos (by omega), Zc6 few n hn, w1 (by omega)]) (Ev.bind ha ?_)
    exact Ev.Zbi rfl (more_few g few hg hin hs hf d (n + 1) (by omega))
/-- Each twice, the last one first. -/
def dbl (l : List (List Int)) : Nat → List (List Int) → List (List Int)
  | 0, acc => acc
  | n + 1, acc => dbl l n (acc ++ [l.getD n []] ++ [l.getD n []])
theorem mem_dbl (l : List (List Int)) (x : List Int) : ∀ n acc, n ≤ l.length → (x ∈ dbl l n acc ↔ x ∈ acc ∨ x ∈ l.take n)
  | 0, acc, _ => by simp [dbl]
  | n + 1, acc, h => by
    rw [dbl, mem_dbl l x n _ (by omega), List.take_succ_eq_append_getElem (by omega)]
    rw [List.getD_eq_getElem?_getD, List.getElem?_eq_getElem (by omega)]
    simp only [List.mem_append, List.mem_singleton, Option.getD_some]
    constructor
    · rintro (((h | h) | h) | h)
      · exact .inl h
      · exact .inr (.inr h)
      · exact .inr (.inr h)
      exact .inr (.inl h)
    rintro (h | h | h)
    · exact .inl (.inl (.inl h))
    · exact .inr h
    exact .inl (.inr h)
theorem dbl_len (l : List (List Int)) : ∀ n acc, (dbl l n acc).length = acc.length + 2 * n
  | 0, acc => by simp [dbl]
  | n + 1, acc => by
    rw [dbl, dbl_len l n]
    simp
    omega
theorem more_loop (l : List (List Int)) (n : Nat) (a2 : Int) (hn : n ≤ 7) (hl : ∀ p ∈ l, Ch n p) (hlen : l.length ≤ 1000) (g : List (List Int)) (hg : IsCl l n g) : ∀ (i : Nat) (acc : List (List Int)), i ≤ l.length → acc.length + 2 * i ≤ 2000 → (∀ p, p ∈ dbl l i acc ↔ p ∈ l) → Ev (fun k => Zaa.l0 k l a2 (n : Int) g acc ((i : Int) - 1)) true
  | 0, acc, hi, ha, hm => by
    have hm' : ∀ p, p ∈ acc ↔ p ∈ l := hm
    obtain ⟨h, hh, hE⟩ := close_ok hn (l := acc) (fun p hp => hl p ((hm' p).1 hp))
    have hgh : g = h := hg.uniq hh (fun p => (hm' p).symm)
    subst hgh
    obtain ⟨c, hc⟩ : ∃ c : Nat, Int.tmod (Go.bits .and .i64 a2 65535) (wrap64 ((l.length : Int) + 1)) = (c : Int) ∧ c ≤ l.length := by
      rw [and16, w64 (by omega) (by omega), tmod_of (by omega) (by omega)]
      refine ⟨(a2 % 65536 % ((l.length : Int) + 1)).toNat, ?_, ?_⟩
      · have := Int.emod_nonneg (a2 % 65536) (show ((l.length : Int) + 1) ≠ 0 by omega)
        omega
      have := Int.emod_lt_of_pos (a2 % 65536) (show 0 < ((l.length : Int) + 1) by omega)
      omega
    have hch : ∀ p ∈ l.take c, Ch n p := fun p hp => hl p (List.mem_of_mem_take hp)
    obtain ⟨f, hf, hEf⟩ := close_ok hn hch
    have hfl := hf.few hn hch
    have hgl := hg.few hn hl
    have hpos : 0 < f.length := List.length_pos_of_mem ((hf.2 _).2 Gen.one)
    have hdiv := divides hn hl (fun p hp => List.mem_of_mem_take hp) hg hf
    have hgin : ∀ y ∈ g, y.length ≤ 1000000 := fun y hy => by have := (((hg.2 y).1 hy).ch hl).2; omega
    have hs : ∀ y ∈ f, y ∈ g := fun y hy => (hg.2 y).2 (((hf.2 y).1 hy).mono (fun p hp => List.mem_of_mem_take hp))
    refine Ev.step (fun k => by rw [Zaa.l0, if_neg (by omega), hc.1]) (Ev.bind hE ?_)
    refine Ev.Zcf (by rw [w64 (by omega) (by omega)]; omega) (Ev.Zbi (by omega) (Ev.Zbi (by have := hc.2; omega) ?_))
    rw [Int.toNat_natCast]
    refine Ev.bind hEf (Ev.Zbi rfl (Ev.Zbi rfl (Ev.bind (ref_Lists_eq rfl (by omega) (fun x hx => by have := hgin x hx; omega)) (Ev.Zbi rfl (Ev.Zcf (by show ¬ ((f.length : Int) < 1); omega) (Ev.Zcf (by show ¬ ((f.length : Int) = 0); omega) ?_))))))
    have e : (((g.length : Int) % (f.length : Int)) != 0) = false := by
      rw [bne_eq_false_iff_eq, ← Int.natCast_emod, hdiv]
      rfl
    show Ev (fun k => Zaa.j1 k g f (((g.length : Int) % (f.length : Int)) != 0)) true
    rw [e]
    exact Ev.step (G := fun k => Zaa.l1 k g f 0) (fun k => by rw [Zaa.j1, if_neg (by simp)]) (more_few g f (by omega) hgin hs (by omega) f.length 0 (by omega))
  | i + 1, acc, hi, ha, hm => by
    have hil : i < l.length := by omega
    have ei : ((i + 1 : Nat) : Int) - 1 = (i : Int) := by omega
    rw [ei]
    have e1 : l.getD i [] = l[i] := by rw [List.getD_eq_getElem?_getD, List.getElem?_eq_getElem hil]; rfl
    have ih := more_loop l n a2 hn hl hlen g hg i (acc ++ [l[i]] ++ [l[i]]) (by omega) (by simp; omega) (by rw [← e1]; exact hm)
    refine Ev.step (fun k => by rw [Zaa.l0, if_pos (by omega), if_pos (by omega), if_pos (by omega), if_pos (by omega), Option.bind_some, if_pos (by simp; omega), Zc6 l i hil, w64 (by omega) (by omega)]) ih
theorem more (l0 : List (List Int)) (a1 a2 : Int) (h0 : l0.length ≤ 6000000000000) (i0 : ∀ x ∈ l0, x.length ≤ 20000000000000) : Ev (fun k => Zaa.f k l0 a1 a2) true := by
  have hf : Ev (fun k => Zar.f k) true := Ev.const rfl
  have c0 := Zer 4 6 l0
  unfold Zaa.f
  obtain ⟨n, hn, hn7⟩ : ∃ n : Nat, Int.tmod (Go.bits .and .i64 a1 65535) 6 = (n : Int) ∧ n ≤ 5 := by
    rw [and16, tmod_of (by omega) (by omega)]
    exact ⟨(a1 % 65536 % 6).toNat, by omega, by omega⟩
  rw [hn]
  refine Ev.bind (small_ev h0 i0) ?_
  generalize cutL 4 6 l0 = l at *
  cases hok : Zd5 l n
  · refine Ev.bind (close_no (.inr (.inr hok))) ?_
    exact Ev.Zcf (by decide) (Ev.Zbi rfl (Ev.bind hf (Ev.const rfl)))
  have hl := cl_ok_ch hok
  obtain ⟨g, hg, hE⟩ := close_ok (n := n) (by omega) hl
  refine Ev.bind hE (Ev.Zbi rfl ?_)
  rw [w64 (by omega) (by omega)]
  exact more_loop l n a2 (by omega) hl (by omega) g hg l.length [] (Nat.le_refl _) (by simp; omega) (fun p => by rw [mem_dbl l p l.length [] (Nat.le_refl _), List.take_length]; simp)
theorem law_GroupMore (A0 : Option Addr) (c0 : Nat) (x0 : List (List Int)) (x1 x2 : Int) (W : World)
    (hC0 : (Kd.slice 3 (Kd.int .i64)).C W A0 x0.length x0) (hc0 : x0.length ≤ c0) (ok0 : x0.length * 24 ≤ 140737488351232 ∧ ∀ x ∈ x0, x.length * 8 ≤ 140737488351232 ∧ ∀ y ∈ x, (Lit.int .i64 y).wf = true) (ok1 : (Lit.int .i64 x1).wf = true) (ok2 : (Lit.int .i64 x2).wf = true) :
    Calls Try.prog 8 #[.slice A0 x0.length c0, .int .i64 x1, .int .i64 x2] W fun e W' => e = .returned (.bool true) ∧ Below W.heap.size W W' := by
  obtain ⟨k, hk⟩ := (more x0 x1 x2 (by omega) (fun x hx => by have := (ok0.2 x hx).1; omega)).out
  exact Zaa.calls k A0 c0 x0 x1 x2 true W hC0 hc0 hk
end Go.Proofs.Yteopgafbamipeaa.P
/- What a datum of a statement's arguments holds: a number, a text, a row, a struct, whatever is nested: its cells read as a value of the kind; and how long its rows are at most (by the weight of the whole). -/
namespace Go.Proofs.Yteopgafbamipeaa.P
open Go.RowKit Go.ChangeShapes Go.WideShapes Go.Proofs.YteopgafbamipeaaW.PrintWords
set_option linter.unusedVariables false

/-- Whatever reads as a datum of type t is a value of kind d, of which ok is true. -/
structure OpensZ {α : Type} (P : Program) (d : Kd α) (ok : α → Prop) (t : TypeId) : Prop where
  out : ∀ {H : Type} (enc : TypeId × Value → H) (w : World) (base : Nat) (sp : Nat → Bool) (held : Bool) (fuel : Nat) (cs : List Value) (x : DataW H × List MemPlace),
    DataW.trod enc P w base sp held fuel t cs = some x → (∀ n ∈ x.1.weights P t, n ≤ reachBytes) → ∃ v : α, d.K w v cs ∧ ok v
theorem OpensZ.int {P : Program} {t : TypeId} {k : IntKind} (ht : P.underlying t = some (.int k)) : OpensZ P (Kd.int k) (fun n => (Lit.int k n).wf = true) t := by
  refine ⟨?_⟩
  intro H enc w base sp held fuel cs x h hz
  obtain ⟨n, rfl, rfl, hw⟩ := DataW.trod_int ht h
  exact ⟨n, rfl, hw⟩
theorem OpensZ.bool {P : Program} {t : TypeId} (ht : P.underlying t = some .bool) : OpensZ P Kd.bool (fun _ => True) t := by
  refine ⟨?_⟩
  intro H enc w base sp held fuel cs x h hz
  obtain ⟨b, rfl, rfl⟩ := DataW.trod_bool ht h
  exact ⟨b, rfl, trivial⟩
theorem OpensZ.string {P : Program} {t : TypeId} (ht : P.underlying t = some .string) : OpensZ P Kd.string (fun s => s.size ≤ maxLen) t := by
  refine ⟨?_⟩
  intro H enc w base sp held fuel cs x h hz
  obtain ⟨s, rfl, rfl, hs⟩ := DataW.trod_string ht h
  exact ⟨s, rfl, hs⟩
theorem OpensZ.iso {α β : Type} {P : Program} {d : Kd α} {ok : α → Prop} {t : TypeId} (h : OpensZ P d ok t) (f : β → α) (g : α → β) (hfg : ∀ a, f (g a) = a) : OpensZ P (Kd.iso d f) (fun b => ok (f b)) t := by
  refine ⟨?_⟩
  intro H enc w base sp held fuel cs x hx hz
  obtain ⟨v, hK, hok⟩ := h.out enc w base sp held fuel cs x hx hz
  exact ⟨g v, by show d.K w (f (g v)) cs; rw [hfg]; exact hK, by show ok (f (g v)); rw [hfg]; exact hok⟩
theorem Zdy {H : Type} {P : Program} {t e : TypeId} (ht : P.underlying t = some (.slice e)) {el sp : List (DataW H)} : (DataW.slice el sp : DataW H).weights P t = (el.length + sp.length) * P.bytesOf e :: (DataW.weightsAll P e el ++ DataW.weightsAll P e sp) := by simp [DataW.weights, ht]
theorem weights_agg {H : Type} {P : Program} {t : TypeId} {fs : Array Field} (ht : P.underlying t = some (.struct fs)) {ps : List (DataW H)} : (DataW.agg ps : DataW H).weights P t = DataW.weightsEach P (fs.toList.map (·.type)) ps := by simp [DataW.weights, ht]
theorem Zdf {H : Type} {P : Program} {e : TypeId} {d : DataW H} : ∀ {l : List (DataW H)}, d ∈ l → ∀ {n : Nat}, n ∈ d.weights P e → n ∈ DataW.weightsAll P e l
  | x :: l, hd, n, hn => by
    simp only [DataW.weightsAll, List.mem_append]
    rcases List.mem_cons.1 hd with rfl | hd
    · exact .inl hn
    exact .inr (Zdf hd hn)
theorem choose_list {α : Type} {n : Nat} {R : Nat → α → Prop} (h : ∀ i, i < n → ∃ a, R i a) : ∃ l : List α, l.length = n ∧ ∀ i (hi : i < l.length), R i l[i] := by
  induction n with
  | zero => exact ⟨[], rfl, fun i hi => absurd hi (by simp)⟩
  | succ n ih =>
    obtain ⟨l, hl, hR⟩ := ih (fun i hi => h i (by omega))
    obtain ⟨a, ha⟩ := h n (by omega)
    refine ⟨l ++ [a], by simp [hl], fun i hi => ?_⟩
    rcases Nat.lt_or_ge i l.length with hlt | hge
    · rw [List.getElem_append_left hlt]
      exact hR i hlt
    have : i = l.length := by simp at hi; omega
    subst this
    rw [List.getElem_append_right (by omega)]
    simpa [hl] using ha
theorem addr_add (a : Addr) (i j : Nat) : (a.add i).add j = a.add (i + j) := by
  by_cases h : i = 0
  · subst h; simp [Addr.add]
  by_cases h2 : j = 0
  · subst h2; simp [Addr.add]
  simp [Addr.add, h, h2, Nat.add_assoc]
theorem OpensZ.row {α : Type} {P : Program} {d : Kd α} {ok : α → Prop} {t e : TypeId} {B : Nat} (ht : P.underlying t = some (.slice e)) (hc : P.cellsOf e = d.sz) (hB : P.bytesOf e = B) (h : OpensZ P d ok e) :
    OpensZ P (Kd.slice e d) (fun l => l.length * B ≤ 140737488351232 ∧ ∀ x ∈ l, ok x) t := by
  refine ⟨?_⟩
  intro H enc w base sp held fuel cs x hx hz
  rcases Go.Deep.open_slice ht hx with ⟨rfl, rfl⟩ | ⟨a, len, cap, m, n, D, Pl, rfl, hb, hl, hm, hmm, rfl, he⟩
  · exact ⟨[], ⟨none, 0, rfl, Nat.le_refl _, rfl, by simp, fun h => absurd h (by simp)⟩, by simp, fun x hx => by simp at hx⟩
  have hlm : len ≤ m := by rw [hmm]; split <;> omega
  have each : ∀ i, i < len → ∃ v : α, ok v ∧ ∃ c, c.length = d.sz ∧ d.K w v c ∧ ∀ j u, c[j]? = some u → w.cell? (a.add (i * d.sz + j)) = some u := fun i hi => by
    obtain ⟨cs', h1, h2⟩ := he i (by omega)
    obtain ⟨v, hK, hok⟩ := h.out enc w base sp held n cs' _ h2 (fun q hq => hz q (by
      rw [Zdy ht]
      refine List.mem_cons_of_mem _ (List.mem_append_left _ (Zdf (d := D i) (List.mem_map.2 ⟨i, List.mem_range.2 hi, rfl⟩) hq))))
    obtain ⟨_, hlen, hcell⟩ := World.cells?_some h1
    rw [hc] at hlen hcell
    refine ⟨v, hok, cs', hlen, hK, fun j u hu => ?_⟩
    have hj : j < d.sz := by rw [← hlen]; exact (List.getElem?_eq_some_iff.1 hu).1
    have := hcell j hj
    rw [hu] at this
    rw [← this, addr_add]
  obtain ⟨l, hll, hR⟩ := choose_list each
  have hmax : cap ≤ 9223372036854775807 := by unfold maxLen at hm; exact hm
  refine ⟨l, ⟨some a, cap, by rw [hll], by omega, rfl, by omega, fun _ => ⟨a, rfl, fun j p hp => ?_⟩⟩, ?_, fun x hx => ?_⟩
  · obtain ⟨hj, rfl⟩ := List.getElem?_eq_some_iff.1 hp
    obtain ⟨_, c, h1, h2, h3⟩ := hR j hj
    exact ⟨c, h1, h2, h3⟩
  · have h3 := hz ((len + (m - len)) * P.bytesOf e) (by rw [Zdy ht]; simp)
    rw [hB] at h3
    rw [hll]
    exact Nat.le_trans (Nat.mul_le_mul_right _ (by omega)) h3
  obtain ⟨i, hi, rfl⟩ := List.mem_iff_getElem.1 hx
  exact (hR i hi).1
/-- The fields from an offset on. -/
structure OpensZF {α : Type} (P : Program) (d : Kd α) (ok : α → Prop) (fs : List Field) (off : Nat) : Prop where
  out : ∀ {H : Type} (enc : TypeId × Value → H) (w : World) (base : Nat) (sp : Nat → Bool) (held : Bool) (fuel : Nat) (cs : List Value), cs.length = off + d.sz →
    (∀ f ∈ fs, ∃ x, DataW.trod enc P w base sp held fuel f.type ((cs.drop f.offset).take (P.cellsOf f.type)) = some x ∧ ∀ n ∈ x.1.weights P f.type, n ≤ reachBytes) → ∃ v : α, d.K w v (cs.drop off) ∧ ok v
theorem OpensZF.last {α : Type} {P : Program} {d : Kd α} {ok : α → Prop} {f : Field} {off : Nat} (ho : f.offset = off) (hc : P.cellsOf f.type = d.sz) (h : OpensZ P d ok f.type) : OpensZF P d ok [f] off := by
  refine ⟨?_⟩
  intro H enc w base sp held fuel cs hl hf
  obtain ⟨x, hx, hz⟩ := hf f (by simp)
  rw [ho, hc, List.take_of_length_le (by simp; omega)] at hx
  exact h.out enc w base sp held fuel _ x hx hz
theorem OpensZF.cons {α β : Type} {P : Program} {d : Kd α} {ok : α → Prop} {d' : Kd β} {ok' : β → Prop} {f : Field} {fs : List Field} {off : Nat} (ho : f.offset = off) (hc : P.cellsOf f.type = d.sz) (h : OpensZ P d ok f.type) (h' : OpensZF P d' ok' fs (off + d.sz)) :
    OpensZF P (Kd.pair d d') (fun z => ok z.1 ∧ ok' z.2) (f :: fs) off := by
  refine ⟨?_⟩
  intro H enc w base sp held fuel cs hl hf
  have hl' : cs.length = off + (d.sz + d'.sz) := hl
  obtain ⟨x, hx, hz⟩ := hf f (by simp)
  obtain ⟨v, hK, hok⟩ := h.out enc w base sp held fuel _ x hx hz
  obtain ⟨v', hK', hok'⟩ := h'.out enc w base sp held fuel cs (by omega) (fun g hg => hf g (List.mem_cons_of_mem _ hg))
  rw [ho, hc] at hK
  refine ⟨(v, v'), ⟨(cs.drop off).take d.sz, cs.drop (off + d.sz), ?_, hK, hK'⟩, hok, hok'⟩
  rw [← List.drop_drop, List.take_append_drop]
theorem OpensZ.struct {α : Type} {P : Program} {d : Kd α} {ok : α → Prop} {t : TypeId} {fs : List Field} (ht : P.underlying t = some (.struct fs.toArray)) (hc : P.cellsOf t = d.sz) (h : OpensZF P d ok fs 0) : OpensZ P d ok t := by
  refine ⟨?_⟩
  intro H enc w base sp held fuel cs x hx hz
  obtain ⟨xs, n, rfl, rfl, hl, hxl, hf⟩ := DataW.trod_struct ht hx
  have := h.out enc w base sp held n cs (by omega) (fun f hf' => by
    obtain ⟨i, hi, rfl⟩ := List.mem_iff_getElem.1 hf'
    have := hf i fs[i] (by simp [hi])
    have hix : i < xs.length := by simp at hxl; omega
    rw [List.getElem?_eq_getElem hix] at this
    refine ⟨xs[i], by simpa using this, fun q hq => hz q ?_⟩
    rw [weights_agg ht]
    exact DataW.weights_mem_each (j := i) (t := fs[i].type) (d := xs[i].1) (by simp [hi]) (by simp [hix]) q hq)
  simpa using this
/-- A slice that is an argument. -/
theorem OpensZ.arg {α H : Type} {P : Program} {d : Kd α} {ok : List α → Prop} {e t : TypeId} (h : OpensZ P (Kd.slice e d) ok t) {enc : TypeId × Value → H} {w : World} {base : Nat} {sp : Nat → Bool} {held : Bool} {A : Option Addr} {len cap : Nat} {dt : DataW H} {ps : List MemPlace}
    (hT : DataW.Trod enc P w base sp held t (.slice A len cap) dt ps) (hz : ∀ n ∈ dt.weights P t, n ≤ reachBytes) : ∃ l : List α, l.length = len ∧ l.length ≤ cap ∧ d.C w A l.length l ∧ ok l := by
  obtain ⟨fuel, hf⟩ := hT
  obtain ⟨l, ⟨A', c, hcs, hl, hC⟩, hok⟩ := h.out enc w base sp held fuel _ _ hf hz
  simp [Value.cells] at hcs
  obtain ⟨rfl, rfl, rfl⟩ := hcs
  exact ⟨l, rfl, hl, hC, hok⟩
theorem each_weights {H : Type} {P : Program} {ts : List TypeId} {ds : List (DataW H)} (h : (DataW.weightsEach P ts ds).all (· ≤ reachBytes) = true) {j : Nat} {t : TypeId} {d : DataW H} (ht : ts[j]? = some t) (hd : ds[j]? = some d) : ∀ n ∈ d.weights P t, n ≤ reachBytes := fun n hn => by
  have := List.all_eq_true.1 h n (DataW.weights_mem_each ht hd n hn)
  simpa using this
end Go.Proofs.Yteopgafbamipeaa.P
namespace Go.Proofs.Yteopgafbamipeaa.groupMore
open Go.ChangeShapes Go.WideShapes Go.ChangeAt Go.RowKit
open Go.ChangeMaps (open_string shut_string)
open Go.Proofs.Yteopgafbamipeaa.P
open Go.Proofs.YteopgafbamipeaaW.PrintWords
set_option linter.unusedVariables false
theorem own : ownKnob Try.prog.godebug = none := by kernel_rfl
theorem laidOut : laidOutB Try.prog = true := by kernel_rfl
theorem o_int : OpensZ Try.prog (Kd.int .i64) (fun n => (Lit.int .i64 n).wf = true) 3 := OpensZ.int Try.underlying3
theorem o_Lint : OpensZ Try.prog (Kd.slice 3 (Kd.int .i64)) (fun l => (List.length l * 8 ≤ 140737488351232 ∧ ∀ y1_ ∈ l, (Lit.int .i64 y1_).wf = true)) 22 := OpensZ.row Try.underlying22 (by kernel_rfl) (by kernel_rfl) o_int
theorem o_LLint : OpensZ Try.prog (Kd.slice 22 (Kd.slice 3 (Kd.int .i64))) (fun l => (List.length l * 24 ≤ 140737488351232 ∧ ∀ y1_ ∈ l, (List.length y1_ * 8 ≤ 140737488351232 ∧ ∀ y2_ ∈ y1_, (Lit.int .i64 y2_).wf = true))) 32 := OpensZ.row Try.underlying32 (by kernel_rfl) (by kernel_rfl) o_Lint
set_option maxRecDepth 100000 in
theorem lifted (os : Os) (started : os.Started) (H : Type) (enc : TypeId × Value → H) :
  ReturnsInHanded {} Try.checked os 8 .any (Rows.groupMoreSpec.pre6 enc Try.prog Try.f8 Rows.groupMoreRow.domain false) (Rows.groupMoreSpec.post enc Try.prog Try.f8 false true false false) := by
 refine returnsInHanded_of_change_sized (C := Try.checked) own started (by kernel_rfl) Try.func8
  (ChangeSpec.witness6 (enc := enc) (C := Try.checked) false ⟨#[], #[.slice none 0 0, .int .i64 0, .int .i64 0], []⟩ 8 (by kernel_rfl) (by kernel_rfl) (by kernel_rfl) (by kernel_rfl)) ?_
 intro W base args ds gs before hval0 hW hcnd hsz0 _
 have hsz : (DataW.weightsEach Try.prog (Try.f8.params.toList ++ Rows.groupMoreSpec.plain.varTypes Try.prog) (ds ++ gs)).all (· ≤ reachBytes) = true := hsz0
 have hval : ∀ (j : Nat) t v, Try.f8.params[j]? = some t → args[j]? = some v → Value.okWide Try.prog W .any base t v := hval0
 have hW' := hW
 obtain ⟨p, q, hA0, hV, rfl, hfz, hnd⟩ := hW
 have hA : DataW.TrodAll enc Try.prog W 0 (fun _ => true) true Try.f8.params.toList args.toList ds p := hA0
 rw [Try.params8] at hA hval hsz
 obtain ⟨v0, vs0, d0, ds0, p0, q0, hargs, rfl, rfl, h0, r0⟩ := trodAll_cons hA
 obtain ⟨v1, vs1, d1, ds1, p1, q1, rfl, rfl, rfl, h1, r1⟩ := trodAll_cons r0
 obtain ⟨v2, vs2, d2, ds2, p2, q2, rfl, rfl, rfl, h2, r2⟩ := trodAll_cons r1
 obtain ⟨rfl, rfl, rfl⟩ := trodAll_nil r2
 obtain rfl : args = #[v0, v1, v2] := by cases args; simp_all
 obtain ⟨rfl, rfl⟩ := trodVars_none hV
 have k0 := h0
 have lt0 : ∀ x ∈ p0, x.block < W.heap.size := by obtain ⟨m, hm⟩ := k0; exact DataW.trod_lt m _ _ _ hm
 obtain ⟨A0, len0, c0, rfl⟩ := okWide_slice Try.underlying32 (hval 0 32 v0 rfl rfl)
 obtain ⟨x0, rfl, hc0, hC0, ok0⟩ := OpensZ.arg o_LLint h0 (each_weights hsz (j := 0) (t := 32) rfl rfl)
 have k1 := h1
 have lt1 : ∀ x ∈ p1, x.block < W.heap.size := by obtain ⟨m, hm⟩ := k1; exact DataW.trod_lt m _ _ _ hm
 obtain ⟨x1, rfl, rfl, rfl, ok1⟩ := open_int Try.underlying3 (hval 1 3 v1 rfl rfl) h1
 have k2 := h2
 have lt2 : ∀ x ∈ p2, x.block < W.heap.size := by obtain ⟨m, hm⟩ := k2; exact DataW.trod_lt m _ _ _ hm
 obtain ⟨x2, rfl, rfl, rfl, ok2⟩ := open_int Try.underlying3 (hval 2 3 v2 rfl rfl) h2
 clear hA0 hval0 hsz0 hsz
 refine (P.law_GroupMore A0 c0 x0 x1 x2 W hC0 hc0 ok0 ok1 ok2).mono fun e W' ⟨he, bel⟩ => ?_
 subst he
 exact ⟨_, rfl, _, _, _, [], _, [], hW', trodAll_mk1 (shut_bool Try.underlying4 _), (trodAll_cons_mk (Below.trod laidOut (by kernel_rfl) (of_decide_eq_true (by kernel_rfl)) k0 bel lt0) (trodAll_cons_mk (Below.trod laidOut (by kernel_rfl) (of_decide_eq_true (by kernel_rfl)) k1 bel lt1) (trodAll_cons_mk (Below.trod laidOut (by kernel_rfl) (of_decide_eq_true (by kernel_rfl)) k2 bel lt2) trodAll_mk0))), rfl, bel.frame _, fun h => by cases h⟩
theorem over : Rows.groupMoreRow.holds Try.pinned (OpenSpec.ofChange Rows.groupMoreSpec) :=
 OpenClaim.holds_of_wide 8 Try.f8 rfl rfl rfl rfl rfl rfl rfl ⟨rfl, rfl, rfl, rfl, rfl⟩ rfl rfl rfl rfl rfl (by kernel_rfl) Try.func8 (by kernel_rfl)
  (of_decide_eq_true (by kernel_rfl)) (by unfold Func.isWrapper; first | (rw [if_pos (by decide +kernel)]; kernel_rfl) | (rw [if_neg (by decide +kernel)]; exact ⟨rfl, rfl⟩))
  (fun os started H enc _ => lifted os started H enc)
theorem proved : Rows.GroupMoreSaid := over
end Go.Proofs.Yteopgafbamipeaa.groupMore
namespace Go.Proofs.Yteopgafbamipeaa
/-- The row, under a short name, for the claim. -/
theorem groupMore_holds : Rows.GroupMoreSaid := groupMore.proved
end Go.Proofs.Yteopgafbamipeaa
