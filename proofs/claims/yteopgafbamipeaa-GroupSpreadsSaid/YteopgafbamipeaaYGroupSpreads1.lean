/- Proved: the statement GroupSpreads. Conditions: none but those of the statement. -/
import Derived.Test.YteopgafbamipeaaZ1
import Derived.Test.YteopgafbamipeaaZ2
import Derived.Test.YteopgafbamipeaaU1
import Derived.Deep.Slices
import Derived.ChangeArms
import Derived.DataReads
import Derived.SizedLaws
import Derived.Test.YteopgafbamipeaaRows
import Derived.WalkKit
import Derived.ProofKit
import Derived.OpenShut
import Derived.ShutString
import Derived.ChangeOld
import Derived.Below

namespace Go.Proofs.Yteopgafbamipeaa.P
open Go.RowKit Go.Proofs.YteopgafbamipeaaW.PrintWords Go.Proofs.YteopgafbamipeaaW.PrintLast Go.Proofs.YteopgafbamipeaaW.PrintMore
attribute [local go_sem] Zb9 Zca Zcp Zcq Zbw Zbx Zc Zcb
set_option linter.unusedVariables false
set_option linter.unusedSimpArgs false
/-! ### Zaj: function 38 -/
mutual
def Zaj.l0 : Nat → List Int → List Int → Int → Option (Int)
 | 0, _, _, _ => none
 | k + 1, x0, x1, x5 => if x5 < (x0.length : Int) then (Zaj.j1 k x0 x1 x5 (decide (x5 < (x1.length : Int)))) else (Zaj.j1 k x0 x1 x5 false)
def Zaj.j1 : Nat → List Int → List Int → Int → Bool → Option (Int)
 | 0, _, _, _, _ => none
 | k + 1, x0, x1, x5, x15 => if x15 = true then (if 0 ≤ x5 then (if x5 < (x0.length : Int) then (if x5 < (x1.length : Int) then (if (rd x0 x5) < (rd x1 x5) then (some (-1)) else (if (rd x0 x5) > (rd x1 x5) then (some 1) else (Zaj.l0 k x0 x1 (wrap64 (x5 + 1))))) else (none)) else (none)) else (none)) else (if (x0.length : Int) < (x1.length : Int) then (some (-1)) else (if (x0.length : Int) > (x1.length : Int) then (some 1) else (some 0)))
end
def Zaj.f (k : Nat) (l0 : List Int) (l1 : List Int) : Option (Int) := Zaj.l0 k l0 l1 0
theorem Zaj.Zbb : ∀ k, (∀ y0 y1 y2, LeO (Zaj.l0 k y0 y1 y2) (Zaj.l0 (k + 1) y0 y1 y2)) ∧ (∀ y0 y1 y2 y3, LeO (Zaj.j1 k y0 y1 y2 y3) (Zaj.j1 (k + 1) y0 y1 y2 y3))
 | 0 => ⟨fun _ _ _ r h => by simp [Zaj.l0] at h, fun _ _ _ _ r h => by simp [Zaj.j1] at h⟩
 | k + 1 => by
  obtain ⟨ih0, ih1⟩ := Zaj.Zbb k
  refine ⟨?_, ?_⟩
  ·intro y0 y1 y2
   unfold Zaj.l0
   repeat' first
   | (with_reducible exact ih0 _ _ _)
   | (with_reducible exact ih1 _ _ _ _)
   | (with_reducible exact LeO.refl _)
   | (with_reducible exact LeO.none _)
   | (with_reducible refine LeO.ite ?_ ?_)
   | (with_reducible refine LeO.bind ?_ (fun _ => ?_))
   | exact ih0 _ _ _
   | exact ih1 _ _ _ _
   | exact LeO.none _
   | refine LeO.ite ?_ ?_
   | refine LeO.bind ?_ (fun _ => ?_)
  intro y0 y1 y2 y3
  unfold Zaj.j1
  repeat' first
  | (with_reducible exact ih0 _ _ _)
  | (with_reducible exact ih1 _ _ _ _)
  | (with_reducible exact LeO.refl _)
  | (with_reducible exact LeO.none _)
  | (with_reducible refine LeO.ite ?_ ?_)
  | (with_reducible refine LeO.bind ?_ (fun _ => ?_))
  | exact ih0 _ _ _
  | exact ih1 _ _ _ _
  | exact LeO.none _
  | refine LeO.ite ?_ ?_
  | refine LeO.bind ?_ (fun _ => ?_)
theorem Zaj.mono : ∀ a0 a1 k, LeO (Zaj.f k a0 a1) (Zaj.f (k + 1) a0 a1) := by
 intro a0 a1 k
 obtain ⟨ih0, ih1⟩ := Zaj.Zbb k
 unfold Zaj.f
 repeat' first
   | (with_reducible exact ih0 _ _ _)
   | (with_reducible exact ih1 _ _ _ _)
   | (with_reducible exact LeO.refl _)
   | (with_reducible exact LeO.none _)
   | (with_reducible refine LeO.ite ?_ ?_)
   | (with_reducible refine LeO.bind ?_ (fun _ => ?_))
   | exact ih0 _ _ _
   | exact ih1 _ _ _ _
   | exact LeO.none _
   | refine LeO.ite ?_ ?_
   | refine LeO.bind ?_ (fun _ => ?_)
set_option maxHeartbeats 8000000 in
set_option maxRecDepth 100000 in
theorem Zaj.calls (k : Nat) (A0 : Option Addr) (c0 : Nat) (l0 : List Int) (A1 : Option Addr) (c1 : Nat) (l1 : List Int) (r : Int) (w : World) (hr0 : Kd.C (Kd.int .i64) w A0 l0.length l0) (hc0 : l0.length ≤ c0) (hr1 : Kd.C (Kd.int .i64) w A1 l1.length l1) (hc1 : l1.length ≤ c1) (h : Zaj.f k l0 l1 = some r) :
  Calls Try.prog 38 #[.slice A0 l0.length c0, .slice A1 l1.length c1] w fun e w' => e = .returned (.int .i64 r) ∧ Zat w w' := by
 have HR0 := Za.mk hr0
 have HC0 := Za.mk hc0
 clear hr0 hc0
 have HR1 := Za.mk hr1
 have HC1 := Za.mk hc1
 clear hr1 hc1
 have H : (Zaj.l0 k l0 l1 0) = some r := h
 clear h
 have H' := Za.mk H
 clear H
 go_enter Try.func38, Try.ntmps38
 go_wp2
 repeat (go_quiet (fail); try go_wp2)
 go_loopg [5] k (fun kq v5 w' => ∃ (x5_1 : Int), v5 = .int .i64 x5_1 ∧ Za (Zaj.l0 kq l0 l1 x5_1 = some r) ∧ Za (kq ≤ k) ∧ Zat w w')
 case atStart => exact ⟨(0), (by first | rfl | (simp; done) | (simp [*]; done)), H', ⟨Nat.le_refl _⟩, by repeat (first | exact Zat.refl _ | apply Zat.step)⟩
 case round =>
  clear H'
  try clear c1
  try clear p2
  obtain ⟨x5_1, rfl, HA, HK1, ⟨m1, rfl⟩⟩ := hrel
  cases gk with
  | zero => exact absurd HA.out (by simp [Zaj.l0])
  | succ k1 =>
   have H := HA.out
   clear HA
   simp only [Zaj.l0] at H
   have HC3 := Za.mk H
   clear H
   go_upto_region 2 with (fail)
   repeat (go_quiet (fail); go_upto_region 2 with (fail))
   go_cut [15] (fun v15 wc => ∃ (kq : Nat) (x15_2 : Bool), v15 = .bool x15_2 ∧ Za (Zaj.j1 kq l0 l1 x5_1 x15_2 = some r) ∧ Za (kq ≤ k1) ∧ Zat w wc)
   case first =>
    have H := HC3.out
    clear HC3
    by_cases c4 : x5_1 < (l0.length : Int)
    rotate_left
    ·rw [if_neg c4] at H
     have c4b0 : decide (x5_1 < (l0.length : Int)) = false := decide_eq_false c4
     clear c4
     (first | rw [c4b0] | (simp only [Za4, Za5]; rw [c4b0]) | skip)
     have H' := Za.mk H
     clear H
     go_wp2
     repeat (go_quiet (fail); try go_wp2)
     go_meet
     case rel => exact ⟨_, (false), (by first | rfl | (simp; done) | (simp [*]; done)), H', ⟨by have := HK1.out; first | omega | exact Nat.le_refl _⟩, by repeat (first | exact Zat.refl _ | apply Zat.step)⟩
    rw [if_pos c4] at H
    have c4b0 : decide (x5_1 < (l0.length : Int)) = true := decide_eq_true c4
    clear c4
    (first | rw [c4b0] | (simp only [Za4, Za5]; rw [c4b0]) | skip)
    have H' := Za.mk H
    clear H
    go_wp2
    repeat (go_quiet (fail); try go_wp2)
    go_meet
    case rel => exact ⟨_, (decide (x5_1 < (l1.length : Int))), (by first | rfl | (simp; done) | (simp [*]; done)), H', ⟨by have := HK1.out; first | omega | exact Nat.le_refl _⟩, by repeat (first | exact Zat.refl _ | apply Zat.step)⟩
   case rest =>
    clear HC3
    try clear c1
    try clear p2
    try clear c3
    try clear c4
    try clear c4b0
    try clear p2
    obtain ⟨kq, x15_2, rfl, HA, HJ2, ⟨mc2, rfl⟩⟩ := hcut
    cases kq with
    | zero => exact absurd HA.out (by simp [Zaj.j1])
    | succ kj2 =>
     have H := HA.out
     clear HA
     simp only [Zaj.j1] at H
     by_cases c5 : x15_2 = true
     rotate_left
     ·replace c5 := Bool.eq_false_iff.mpr c5
      subst c5
      have H1 : (if (l0.length : Int) < (l1.length : Int) then (some (-1)) else (if (l0.length : Int) > (l1.length : Int) then (some 1) else (some 0))) = some r := by rw [if_neg (show ¬ (false = true) by decide)] at H; exact H
      clear H
      have H := H1
      clear H1
      by_cases c11 : (l0.length : Int) < (l1.length : Int)
      ·rw [if_pos c11] at H
       have c11b0 : decide ((l0.length : Int) < (l1.length : Int)) = true := decide_eq_true c11
       have c11b1 : decide (l0.length < l1.length) = true := decide_eq_true (Int.ofNat_lt.mp c11)
       clear c11
       obtain rfl := Option.some.inj H
       go_wp2
       repeat (go_quiet (fail); try go_wp2)
       go_ret
       exact ⟨by first | rfl | (simp; done) | (simp [*]; done), by repeat (first | exact Zat.refl _ | apply Zat.step)⟩
      rw [if_neg c11] at H
      have c11b0 : decide ((l0.length : Int) < (l1.length : Int)) = false := decide_eq_false c11
      have c11b1 : decide (l0.length < l1.length) = false := decide_eq_false (fun h => c11 (Int.ofNat_lt.mpr h))
      clear c11
      by_cases c12 : (l0.length : Int) > (l1.length : Int)
      ·rw [if_pos c12] at H
       have c12b0 : decide ((l1.length : Int) < (l0.length : Int)) = true := decide_eq_true c12
       have c12b1 : decide (l1.length < l0.length) = true := decide_eq_true (Int.ofNat_lt.mp c12)
       clear c12
       obtain rfl := Option.some.inj H
       go_wp2
       repeat (go_quiet (fail); try go_wp2)
       go_ret
       exact ⟨by first | rfl | (simp; done) | (simp [*]; done), by repeat (first | exact Zat.refl _ | apply Zat.step)⟩
      rw [if_neg c12] at H
      have c12b0 : decide ((l1.length : Int) < (l0.length : Int)) = false := decide_eq_false c12
      have c12b1 : decide (l1.length < l0.length) = false := decide_eq_false (fun h => c12 (Int.ofNat_lt.mpr h))
      clear c12
      obtain rfl := Option.some.inj H
      go_wp2
      repeat (go_quiet (fail); try go_wp2)
      go_ret
      exact ⟨by first | rfl | (simp; done) | (simp [*]; done), by repeat (first | exact Zat.refl _ | apply Zat.step)⟩

     subst c5
     have H1 : (if 0 ≤ x5_1 then (if x5_1 < (l0.length : Int) then (if x5_1 < (l1.length : Int) then (if (rd l0 x5_1) < (rd l1 x5_1) then (some (-1)) else (if (rd l0 x5_1) > (rd l1 x5_1) then (some 1) else (Zaj.l0 kj2 l0 l1 (wrap64 (x5_1 + 1))))) else (none)) else (none)) else (none)) = some r := by rw [if_pos rfl] at H; exact H
     clear H
     have H := H1
     clear H1
     by_cases c6 : 0 ≤ x5_1
     rotate_left
     ·rw [if_neg c6] at H
      exact absurd H (by simp)
     rw [if_pos c6] at H
     have c6b0 : decide (0 ≤ x5_1) = true := decide_eq_true c6
     clear c6
     by_cases c7 : x5_1 < (l0.length : Int)
     rotate_left
     ·rw [if_neg c7] at H
      exact absurd H (by simp)
     rw [if_pos c7] at H
     have c7b0 : decide (x5_1 < (l0.length : Int)) = true := decide_eq_true c7
     clear c7
     by_cases c8 : x5_1 < (l1.length : Int)
     rotate_left
     ·rw [if_neg c8] at H
      exact absurd H (by simp)
     rw [if_pos c8] at H
     have c8b0 : decide (x5_1 < (l1.length : Int)) = true := decide_eq_true c8
     clear c8
     by_cases c9 : (rd l0 x5_1) < (rd l1 x5_1)
     ·rw [if_pos c9] at H
      have c9b0 : decide ((rd l0 x5_1) < (rd l1 x5_1)) = true := decide_eq_true c9
      clear c9
      obtain rfl := Option.some.inj H
      have p241 : 0 ≤ (x5_1 : Int) := of_decide_eq_true (by first | (with_reducible assumption) | assumption)
      have q241 : x5_1 < (l0.length : Int) := of_decide_eq_true (by first | (with_reducible assumption) | assumption)
      obtain ⟨ad241, e241, hx241_0⟩ := Kd.Zbm HR0.out x5_1 p241 q241
      cases e241
      replace p241 := eq_true p241
      replace q241 := eq_true q241
      have p242 : 0 ≤ (x5_1 : Int) := of_decide_eq_true (by first | (with_reducible assumption) | assumption)
      have q242 : x5_1 < (l1.length : Int) := of_decide_eq_true (by first | (with_reducible assumption) | assumption)
      obtain ⟨ad242, e242, hx242_0⟩ := Kd.Zbm HR1.out x5_1 p242 q242
      cases e242
      replace p242 := eq_true p242
      replace q242 := eq_true q242
      go_wp2
      repeat (go_quiet (fail); try go_wp2)
      go_ret
      exact ⟨by first | rfl | (simp; done) | (simp [*]; done), by repeat (first | exact Zat.refl _ | apply Zat.step)⟩
     rw [if_neg c9] at H
     have c9b0 : decide ((rd l0 x5_1) < (rd l1 x5_1)) = false := decide_eq_false c9
     clear c9
     by_cases c10 : (rd l0 x5_1) > (rd l1 x5_1)
     ·rw [if_pos c10] at H
      have c10b0 : decide ((rd l1 x5_1) < (rd l0 x5_1)) = true := decide_eq_true c10
      clear c10
      obtain rfl := Option.some.inj H
      have p241 : 0 ≤ (x5_1 : Int) := of_decide_eq_true (by first | (with_reducible assumption) | assumption)
      have q241 : x5_1 < (l0.length : Int) := of_decide_eq_true (by first | (with_reducible assumption) | assumption)
      obtain ⟨ad241, e241, hx241_0⟩ := Kd.Zbm HR0.out x5_1 p241 q241
      cases e241
      replace p241 := eq_true p241
      replace q241 := eq_true q241
      have p242 : 0 ≤ (x5_1 : Int) := of_decide_eq_true (by first | (with_reducible assumption) | assumption)
      have q242 : x5_1 < (l1.length : Int) := of_decide_eq_true (by first | (with_reducible assumption) | assumption)
      obtain ⟨ad242, e242, hx242_0⟩ := Kd.Zbm HR1.out x5_1 p242 q242
      cases e242
      replace p242 := eq_true p242
      replace q242 := eq_true q242
      have p243 : 0 ≤ (x5_1 : Int) := of_decide_eq_true (by first | (with_reducible assumption) | assumption)
      have q243 : x5_1 < (l0.length : Int) := of_decide_eq_true (by first | (with_reducible assumption) | assumption)
      obtain ⟨ad243, e243, hx243_0⟩ := Kd.Zbm HR0.out x5_1 p243 q243
      obtain rfl : ad241 = ad243 := (by injection e243)
      replace p243 := eq_true p243
      replace q243 := eq_true q243
      have p244 : 0 ≤ (x5_1 : Int) := of_decide_eq_true (by first | (with_reducible assumption) | assumption)
      have q244 : x5_1 < (l1.length : Int) := of_decide_eq_true (by first | (with_reducible assumption) | assumption)
      obtain ⟨ad244, e244, hx244_0⟩ := Kd.Zbm HR1.out x5_1 p244 q244
      obtain rfl : ad242 = ad244 := (by injection e244)
      replace p244 := eq_true p244
      replace q244 := eq_true q244
      go_wp2
      repeat (go_quiet (fail); try go_wp2)
      go_ret
      exact ⟨by first | rfl | (simp; done) | (simp [*]; done), by repeat (first | exact Zat.refl _ | apply Zat.step)⟩
     rw [if_neg c10] at H
     have c10b0 : decide ((rd l1 x5_1) < (rd l0 x5_1)) = false := decide_eq_false c10
     clear c10
     have H' := Za.mk H
     clear H
     have p241 : 0 ≤ (x5_1 : Int) := of_decide_eq_true (by first | (with_reducible assumption) | assumption)
     have q241 : x5_1 < (l0.length : Int) := of_decide_eq_true (by first | (with_reducible assumption) | assumption)
     obtain ⟨ad241, e241, hx241_0⟩ := Kd.Zbm HR0.out x5_1 p241 q241
     cases e241
     replace p241 := eq_true p241
     replace q241 := eq_true q241
     have p242 : 0 ≤ (x5_1 : Int) := of_decide_eq_true (by first | (with_reducible assumption) | assumption)
     have q242 : x5_1 < (l1.length : Int) := of_decide_eq_true (by first | (with_reducible assumption) | assumption)
     obtain ⟨ad242, e242, hx242_0⟩ := Kd.Zbm HR1.out x5_1 p242 q242
     cases e242
     replace p242 := eq_true p242
     replace q242 := eq_true q242
     have p243 : 0 ≤ (x5_1 : Int) := of_decide_eq_true (by first | (with_reducible assumption) | assumption)
     have q243 : x5_1 < (l0.length : Int) := of_decide_eq_true (by first | (with_reducible assumption) | assumption)
     obtain ⟨ad243, e243, hx243_0⟩ := Kd.Zbm HR0.out x5_1 p243 q243
     obtain rfl : ad241 = ad243 := (by injection e243)
     replace p243 := eq_true p243
     replace q243 := eq_true q243
     have p244 : 0 ≤ (x5_1 : Int) := of_decide_eq_true (by first | (with_reducible assumption) | assumption)
     have q244 : x5_1 < (l1.length : Int) := of_decide_eq_true (by first | (with_reducible assumption) | assumption)
     obtain ⟨ad244, e244, hx244_0⟩ := Kd.Zbm HR1.out x5_1 p244 q244
     obtain rfl : ad242 = ad244 := (by injection e244)
     replace p244 := eq_true p244
     replace q244 := eq_true q244
     go_wp2
     repeat (go_quiet (fail); try go_wp2)
     go_roundg kj2
     case measure => have := HK1.out; have := HJ2.out; omega
     case rel => exact ⟨(wrap64 (x5_1 + 1)), (by first | rfl | (simp; done) | (simp [*]; done)), H', ⟨by have := HK1.out; have := HJ2.out; omega⟩, by repeat (first | exact Zat.refl _ | apply Zat.step)⟩
end Go.Proofs.Yteopgafbamipeaa.P
/- secateurref09.Sorted: lists in order, each once, by putting one in after another; the rows are those that came in. -/
namespace Go.Proofs.Yteopgafbamipeaa.P
open Go.RowKit Go.Proofs.YteopgafbamipeaaW.PrintWords Go.Proofs.YteopgafbamipeaaW.PrintLast Go.Proofs.YteopgafbamipeaaW.PrintMore
set_option linter.unusedVariables false
set_option linter.unusedSimpArgs false

theorem at_fixed {w0 w : World} {A : Option Addr} {n : Nat} {xs : List (List Int)} (h : (Kd.fixed kInts w0).C w A n xs) (k : Nat) (hk : k < xs.length) :
    ∃ ad A0 c0, A = some ad ∧ w.cell? (ad.add k) = some (.slice A0 xs[k].length c0) ∧ xs[k].length ≤ c0 ∧ Kd.C (Kd.int .i64) w0 A0 xs[k].length xs[k] := by
  obtain ⟨ad, u, hA, hc, A0, c0, hu, hl, hC⟩ := at_one (d := Kd.fixed kInts w0) rfl h k hk
  obtain rfl : u = _ := List.singleton_inj.1 hu
  exact ⟨ad, A0, c0, hA, hc, hl, hC⟩
theorem fixed_K {w0 : World} {A0 : Option Addr} {c0 : Nat} {x : List Int} (hl : x.length ≤ c0) (hC : Kd.C (Kd.int .i64) w0 A0 x.length x) : kInts.K w0 x [.slice A0 x.length c0] := ⟨A0, c0, rfl, hl, hC⟩
/-- What stood fixed is read now. -/
theorem C_of_fixed {w0 w : World} {A : Option Addr} {n : Nat} {xs : List (List Int)} (hB : Below w0.heap.size w0 w) (h : (Kd.fixed kInts w0).C w A n xs) : kInts.C w A n xs :=
  ReadsRow.imp_ h (Below.refl _ w) (fun _ _ hp => kInts.K_below hB hp)

/-- What an element leads to lies in P, as it stood in w0. -/
def fixF (w0 : World) (P : Nat → Prop) : Kd (List Int) where
  sz := kInts.sz
  E := []
  K := fun _ x cs => Kd.FK kInts w0 P x cs
  M := fun _ _ _ x cs => Kd.FK kInts w0 P x cs
  K_len := fun h => kInts.K_len (Kd.Zcs h)
  K_one := fun h => kInts.K_one (Kd.Zcs h)
  K_below := fun _ h => h
  K_of_M := fun h => h
  M_mono := fun _ h => h
  M_bound := fun h => h
  M_move := fun _ h => h
  M_lower := fun _ h => h
theorem at_fixF {w0 w : World} {P : Nat → Prop} {A : Option Addr} {n : Nat} {xs : List (List Int)} (h : (fixF w0 P).C w A n xs) (k : Nat) (hk : k < xs.length) :
    ∃ ad A0 c0, A = some ad ∧ w.cell? (ad.add k) = some (.slice A0 xs[k].length c0) ∧ xs[k].length ≤ c0 ∧ Kd.C (Kd.int .i64) w0 A0 xs[k].length xs[k] ∧ Kd.FK kInts w0 P xs[k] [.slice A0 xs[k].length c0] := by
  obtain ⟨ad, u, hA, hc, hF⟩ := at_one (d := fixF w0 P) rfl h k hk
  obtain ⟨A0, c0, hu, hl, hC⟩ := Kd.Zcs hF
  obtain rfl : u = _ := List.singleton_inj.1 hu
  exact ⟨ad, A0, c0, hA, hc, hl, hC, hF⟩
theorem kInts_K_moved {W W' : World} {x : List Int} {cs : List Value} (hW : ∀ k, True → k < W.heap.size → W'.heap[k]? = W.heap[k]?) (h : kInts.K W x cs) : kInts.K W' x cs := by
  obtain ⟨A0, c0, rfl, hl, hC⟩ := h
  refine ⟨A0, c0, rfl, hl, hC.1, hC.2.1, fun hp => ?_⟩
  obtain ⟨ad, hA, hr⟩ := hC.2.2 hp
  refine ⟨ad, hA, fun j p hj => ?_⟩
  obtain ⟨c, hcl, hK, hcell⟩ := hr j p hj
  refine ⟨c, hcl, hK, fun i u hi => ?_⟩
  have h1 := hcell i u hi
  have h2 := World.block_lt_of_cell? W _ h1
  rw [← h1]
  exact World.cell?_of_block (hW _ trivial h2)

/-! ### Order -/
theorem order_l0 (a b : List Int) (ha : a.length ≤ 9223372036854775807) (hb : b.length ≤ 9223372036854775807) : ∀ (m n : Nat), n + m = a.length → n ≤ b.length → Ev (fun k => Zaj.l0 k a b (n : Int)) (lexCmp (a.drop n) (b.drop n)) := by
  have hend : ∀ n, (n = a.length ∨ n = b.length) → n ≤ a.length → n ≤ b.length → (if (a.length : Int) < (b.length : Int) then some (-1 : Int) else if (a.length : Int) > (b.length : Int) then some 1 else some 0) = some (lexCmp (a.drop n) (b.drop n)) := by
    intro n h h1 h2
    rcases h with rfl | rfl
    · rw [List.drop_of_length_le (Nat.le_refl _), Zf0]
      by_cases hlt : a.length < b.length
      rotate_left
      · rw [if_neg (by omega), if_neg (by omega), List.drop_of_length_le (by omega), if_pos rfl]
      rw [if_pos (by omega), if_neg (by intro e; have := congrArg List.length e; simp at this; omega)]
    rw [List.drop_of_length_le (Nat.le_refl b.length), Ze7]
    by_cases hlt : b.length < a.length
    rotate_left
    · rw [if_neg (by omega), if_neg (by omega), List.drop_of_length_le (by omega), if_pos rfl]
    rw [if_neg (by omega), if_pos (by omega), if_neg (by intro e; have := congrArg List.length e; simp at this; omega)]
  intro m
  induction m with
  | zero =>
    intro n h hn
    refine Ev.step (fun k => by rw [Zaj.l0, if_neg (by omega)]) ?_
    exact Ev.step (fun k => by rw [Zaj.j1, if_neg (by simp), hend n (.inl (by omega)) (by omega) hn]) (Ev.pure _)
  | succ m ih =>
    intro n h hn
    have hna : n < a.length := by omega
    by_cases hnb : n < b.length
    rotate_left
    · refine Ev.step (fun k => by rw [Zaj.l0, if_pos (by omega)]) ?_
      exact Ev.step (fun k => by rw [Zaj.j1, if_neg (by simp; omega), hend n (.inr (by omega)) (by omega) hn]) (Ev.pure _)
    refine Ev.step (fun k => by rw [Zaj.l0, if_pos (by omega)]) ?_
    rw [List.drop_eq_getElem_cons hna, List.drop_eq_getElem_cons hnb, Ze6]
    have h1 : wrap64 ((n : Int) + 1) = ((n + 1 : Nat) : Int) := by rw [w64 (by omega) (by omega)]; omega
    refine Ev.step (fun k => by rw [Zaj.j1, if_pos (by simp; omega), if_pos (by omega), if_pos (by omega), if_pos (by omega), Zdo a n hna, Zdo b n hnb, h1]) ?_
    by_cases c1 : a[n] < b[n]
    · simp only [if_pos c1]
      exact Ev.pure _
    by_cases c2 : b[n] < a[n]
    · simp only [if_neg c1, if_pos c2, gt_iff_lt]
      exact Ev.pure _
    simp only [if_neg c1, if_neg c2, gt_iff_lt]
    exact ih (n + 1) (by omega) (by omega)
theorem order_ev (a b : List Int) (ha : a.length ≤ 9223372036854775807) (hb : b.length ≤ 9223372036854775807) : Ev (fun k => Zaj.f k a b) (lexCmp a b) := order_l0 a b ha hb a.length 0 (by omega) (by omega)
theorem orderL (A0 : Option Addr) (c0 : Nat) (l0 : List Int) (A1 : Option Addr) (c1 : Nat) (l1 : List Int) (w : World) (hr0 : Kd.C (Kd.int .i64) w A0 l0.length l0) (hc0 : l0.length ≤ c0) (hr1 : Kd.C (Kd.int .i64) w A1 l1.length l1) (hc1 : l1.length ≤ c1) :
    Calls Try.prog 38 #[.slice A0 l0.length c0, .slice A1 l1.length c1] w fun e w' => e = .returned (.int .i64 (lexCmp l0 l1)) ∧ ∃ q, w' = w.drewN q := by
  obtain ⟨k, hk⟩ := (order_ev l0 l1 hr0.2.1 hr1.2.1).out
  refine (Zaj.calls k A0 c0 l0 A1 c1 l1 _ w hr0 hc0 hr1 hc1 hk).mono ?_
  rintro e w' ⟨rfl, ⟨nd, rfl⟩⟩
  exact ⟨rfl, nd, rfl⟩

/-! ### The insertion, as it goes -/
/-- x is not put: so far all of 'out' was ahead of it; or it is put (or was there). -/
def InsAt (x : List Int) (out : List (List Int)) (k : Nat) (put : Bool) (next : List (List Int)) : Prop :=
  if put then insL x out = next ++ out.drop k else next = out.take k ∧ insL x out = out.take k ++ insL x (out.drop k)
theorem InsAt.start (x : List Int) (out : List (List Int)) : InsAt x out 0 false [] := by simp [InsAt]
theorem InsAt.put {x : List Int} {out : List (List Int)} {k : Nat} {next : List (List Int)} (hk : k < out.length) (h : InsAt x out k true next) : InsAt x out (k + 1) true (next ++ [out[k]]) := by
  simp only [InsAt, if_true] at h ⊢
  rw [h, List.drop_eq_getElem_cons hk]
  simp
theorem InsAt.same {x : List Int} {out : List (List Int)} {k : Nat} {next : List (List Int)} (hk : k < out.length) (h : InsAt x out k false next) (hc : lexCmp x out[k] = 0) : InsAt x out (k + 1) true (next ++ [out[k]]) := by
  simp only [InsAt, Bool.false_eq_true, if_false, if_true] at h ⊢
  obtain ⟨rfl, h⟩ := h
  have e := Zdt.1 hc
  rw [h, List.drop_eq_getElem_cons hk, ← e]
  simp [insL, Zbr]
theorem InsAt.less {x : List Int} {out : List (List Int)} {k : Nat} {next : List (List Int)} (hk : k < out.length) (h : InsAt x out k false next) (hc : lexCmp x out[k] < 0) : InsAt x out (k + 1) true (next ++ [x] ++ [out[k]]) := by
  simp only [InsAt, Bool.false_eq_true, if_false, if_true] at h ⊢
  obtain ⟨rfl, h⟩ := h
  rw [h, List.drop_eq_getElem_cons hk]
  simp [insL, Zef.1 hc]
theorem InsAt.more {x : List Int} {out : List (List Int)} {k : Nat} {next : List (List Int)} (hk : k < out.length) (h : InsAt x out k false next) (hc : 0 < lexCmp x out[k]) : InsAt x out (k + 1) false (next ++ [out[k]]) := by
  simp only [InsAt, Bool.false_eq_true, if_false] at h ⊢
  obtain ⟨rfl, h⟩ := h
  have h1 : ¬ lexLt x out[k] = true := fun e => by have := Zef.2 e; omega
  have h2 : ¬ x = out[k] := fun e => by have := Zdt.2 e; omega
  refine ⟨(List.take_succ_eq_append_getElem hk).symm, ?_⟩
  rw [h, List.drop_eq_getElem_cons hk]
  have e : insL x (out[k] :: out.drop (k + 1)) = out[k] :: insL x (out.drop (k + 1)) := by rw [insL, if_neg h1, if_neg h2]
  rw [e, List.take_succ_eq_append_getElem hk, List.append_assoc]
  rfl
theorem InsAt.end1 {x : List Int} {out : List (List Int)} {next : List (List Int)} (h : InsAt x out out.length true next) : next = insL x out := by
  simp [InsAt] at h
  exact h.symm
theorem InsAt.end0 {x : List Int} {out : List (List Int)} {next : List (List Int)} (h : InsAt x out out.length false next) : next ++ [x] = insL x out := by
  simp [InsAt] at h
  rw [h.1, h.2]
  simp [insL]
/-- All put in, one after another. -/
def insAll (l : List (List Int)) : List (List Int) := l.foldl (fun acc x => insL x acc) []
theorem insAll_snoc (l : List (List Int)) (x : List Int) : insAll (l ++ [x]) = insL x (insAll l) := by simp [insAll]
theorem insAll_eq (l : List (List Int)) : insAll l = sdL l := by
  have h : ∀ (l acc : List (List Int)), SSL acc → SSL (l.foldl (fun acc x => insL x acc) acc) ∧ ∀ z, z ∈ l.foldl (fun acc x => insL x acc) acc ↔ z ∈ l ∨ z ∈ acc := by
    intro l
    induction l with
    | nil => intro acc h; exact ⟨h, fun z => by simp⟩
    | cons x l ih =>
      intro acc h
      obtain ⟨h1, h2⟩ := ih (insL x acc) (insL_ss x acc h)
      refine ⟨h1, fun z => (h2 z).trans ?_⟩
      rw [Zeu, List.mem_cons]
      constructor
      · rintro (h | h | h)
        · exact .inl (.inr h)
        · exact .inl (.inl h)
        exact .inr h
      rintro ((h | h) | h)
      · exact .inr (.inl h)
      · exact .inl h
      exact .inr (.inr h)
  obtain ⟨h1, h2⟩ := h l [] List.Pairwise.nil
  exact (sdL_eq h1 (fun z => by rw [h2 z]; simp)).symm
theorem insAll_length (l : List (List Int)) : (insAll l).length ≤ l.length := by rw [insAll_eq]; exact Zcz l

/-! ### The walk -/
set_option maxRecDepth 100000 in
set_option maxHeartbeats 8000000 in
theorem refSortedF (P : Nat → Prop) (A0 : Option Addr) (c0 : Nat) (l0 : List (List Int)) (w : World) (hr0 : (fixF w P).C w A0 l0.length l0) (hc0 : l0.length ≤ c0) (hl : l0.length < 1000000000) :
    Calls Try.prog 31 #[.slice A0 l0.length c0] w fun e w' => ∃ v0_ : Value, e = .returned (v0_) ∧ Kd.R (fixF w P) 22 w' w.heap.size (fun _ => True) v0_ (sdL l0) ∧ Below w.heap.size w w' := by
  have HR := Za.mk hr0
  have HB0 := Za.mk (Below.refl w.heap.size w)
  clear hr0
  go_enter Try.func31, Try.ntmps31
  go_wp2_with (first | ((with_reducible refine Zby (N := 9) rfl ?_); refine Kd.R_lit (fixF w P) _ 22 ?hg (N := 9) ?hd (xs := ([] : List (List Int))) (inner := []) (ok := fun _ => True) (okp := fun _ => True) ?hr ?hp (fun _ hk => hk) trivial (Below.refl w.heap.size w) (Nat.le_refl _) (by simp) ?_; (case hd => rfl); (case hg => rfl); (case hr => first | (go_simp; done) | (go_simp; rfl)); (case hp => exact (Reps.none _ _)); intro v1 w1 ho hb hg_ hnew_; have HO := Za.mk ho; have HB := Za.mk hb; clear ho hb hg_ hnew_))
  go_loopg [3, 4] l0.length (fun gg v3 s4 wr => ∃ i : Nat, i ≤ l0.length ∧ l0.length - i ≤ gg ∧ s4 = .int .i64 i ∧ Za (Kd.R (fixF w P) 22 wr w.heap.size (fun _ => True) v3 (insAll (l0.take i))) ∧ Za (Below w.heap.size w wr))
  case atStart => exact ⟨0, Nat.zero_le _, by omega, rfl, HO, HB⟩
  case round =>
    clear HO HB
    obtain ⟨i, hi, hg, rfl, HO, HB⟩ := hrel
    obtain ⟨wo, rfl⟩ : ∃ wo : World, wo = wr := ⟨_, rfl⟩
    by_cases hlt : i < l0.length
    rotate_left
    · obtain rfl : i = l0.length := by omega
      go_wp2
      go_ret
      have := HO.out
      rw [List.take_length, insAll_eq] at this
      exact ⟨_, rfl, this, HB.out⟩
    obtain ⟨ad, Ax, cx, rfl, hx, hcx, hCx, hFx⟩ := at_fixF HR.out i hlt
    have hx0 := Za.mk hx
    have HX := Za.mk hFx
    have HCX := Za.mk hCx
    have hins : Za (insAll (l0.take (i + 1)) = insL l0[i] (insAll (l0.take i))) := ⟨by rw [List.take_succ_eq_append_getElem hlt, insAll_snoc]⟩
    have hol : Za ((insAll (l0.take i)).length ≤ 1000000000) := ⟨by have := insAll_length (l0.take i); rw [List.length_take] at this; omega⟩
    clear hx hCx hFx
    generalize l0[i] = x at *
    generalize insAll (l0.take i) = out at *
    obtain ⟨Ao, co, rfl, hco, hCo⟩ := Kd.Zc3 HO.out
    have HCO := Za.mk hCo
    clear hCo
    have hol' : out.length ≤ 9223372036854775807 := by have := hol.out; omega
    have hxb : ∀ W, Below w.heap.size w W → W.cell? (ad.add i) = some (.slice Ax x.length cx) := fun W h => (h.cell (World.block_lt_of_cell? w _ hx0.out)).trans hx0.out
    have HXB := Za.mk hxb
    clear hxb
    go_wp2_with (first | ((with_reducible refine Zby (N := 16) rfl ?_); refine Kd.R_lit (fixF w P) _ 22 ?hg (N := 16) ?hd (xs := ([] : List (List Int))) (inner := []) (ok := fun _ => True) (okp := fun _ => True) ?hr ?hp (fun _ hk => hk) trivial (Below.refl wo.heap.size wo) (Nat.le_refl _) (by simp) ?_; (case hd => rfl); (case hg => rfl); (case hr => first | (go_simp; done) | (go_simp; rfl)); (case hp => exact (Reps.none _ _)); intro v5 w5 ho hb hg_ hnew_; have HN := Za.mk ho; have HBI := Za.mk hb; clear ho hb hg_ hnew_))
    go_loopg [5, 6, 7] out.length (fun g2 n5 s6 s7 wr => ∃ (k : Nat) (put : Bool) (next : List (List Int)), k ≤ out.length ∧ out.length - k ≤ g2 ∧ s7 = .int .i64 k ∧ s6 = .bool put ∧ Za (InsAt x out k put next) ∧ Za (next.length ≤ k + 1) ∧ Za (Kd.R (fixF w P) 22 wr wo.heap.size (fun _ => True) n5 next) ∧ Za (Below wo.heap.size wo wr))
    case atStart => exact ⟨0, false, [], Nat.zero_le _, by omega, rfl, rfl, ⟨InsAt.start x out⟩, ⟨by simp⟩, HN, HBI⟩
    case round =>
      clear HN HBI
      obtain ⟨k, put, next, hk, hg2, rfl, rfl, HI, HLN, HN, HBI⟩ := hrel
      have hBw : Below w.heap.size w wr := HB.out.trans (HBI.out.mono HB.out.size)
      have hx2 := HXB.out wr hBw
      by_cases hlk : k < out.length
      rotate_left
      · obtain rfl : k = out.length := by omega
        clear hBw
        cases put with
        | true =>
          go_wp2
          go_roundg (l0.length - (i + 1))
          case measure => omega
          case rel => exact ⟨i + 1, by omega, by omega, by go_num, ⟨by rw [hins.out, ← HI.out.end1]; exact Kd.Zb0 HN.out HB.out.size⟩, ⟨HB.out.trans (HBI.out.mono HB.out.size)⟩⟩
        | false =>
          go_wp2_with (first | ((with_reducible refine Zb (b := .append) (xs := #[.tmp 59, .tmp 64]) rfl ?_); at_builtin; go_loud (refine Kd.Zcg (fixF w P) (w0 := wo) wo.heap.size rfl (.tmp 59) (.tmp 64) 32 22 (.slice none 0 0) 24 rfl Try.underlying32 Zco rfl (Nat.lt_succ_self 0) (by omega) _ next x [.slice Ax x.length cx] (fun _ => True) (fun _ => False) rfl rfl ?aP (fun _ h => h.elim) ?aF ?aO ?aB ?aS ?aL ?_; (case aP => exact HX.out); (case aB => first | exact HBI.out | exact Zaa HBI.out _); (case aF => exact (fun _ _ => trivial)); (case aO => first | exact HN.out | exact Kd.R_drewN HN.out _); (case aS => first | exact HBI.out.size | exact (Zaa HBI.out _).size); (case aL => have := HLN.out; have := hol.out; (try simp only [List.length_append, List.length_cons, List.length_nil]); omega); intro v7 w7 ho2 hb2 hg2 hat2; have HN2 := Za.mk ho2; have HBI2 := Za.mk hb2; clear ho2 hb2 hg2 hat2)))
          go_roundg (l0.length - (i + 1))
          case measure => omega
          case rel => exact ⟨i + 1, by omega, by omega, by go_num, ⟨by rw [hins.out, ← HI.out.end0]; exact Kd.Zb0 HN2.out HB.out.size⟩, ⟨HB.out.trans (HBI2.out.mono HB.out.size)⟩⟩
      obtain ⟨ado, Ay, cy, rfl, hyo, hcy, hCy, hFy⟩ := at_fixF HCO.out k hlk
      have HYB : Za (∀ W, Below wo.heap.size wo W → W.cell? (ado.add k) = some (.slice Ay out[k].length cy)) := ⟨fun W h => (h.cell (World.block_lt_of_cell? wo _ hyo)).trans hyo⟩
      clear hyo
      have hy := HYB.out wr HBI.out
      have HY := Za.mk hFy
      clear hFy
      have HCC : Za (∀ n, Calls Try.prog 38 #[.slice Ax x.length cx, .slice Ay out[k].length cy] (wr.drewN n) fun e w' => e = .returned (.int .i64 (lexCmp x out[k])) ∧ ∃ q, w' = wr.drewN q) := ⟨fun n => by
        refine (orderL Ax cx x Ay cy out[k] (wr.drewN n) (Kd.Zar (Kd.Zar HCX.out hBw) (Zaa (Below.refl _ _) n)) hcx (Kd.Zar (Kd.Zar hCy hBw) (Zaa (Below.refl _ _) n)) hcy).mono ?_
        rintro e w' ⟨rfl, q, rfl⟩
        exact ⟨rfl, n + q, by rw [World.drewN_drewN]⟩⟩
      have HIp : Za (InsAt x out k true next → InsAt x out (k + 1) true (next ++ [out[k]])) := ⟨fun h => h.put hlk⟩
      have HIs : Za (lexCmp x out[k] = 0 → InsAt x out k false next → InsAt x out (k + 1) true (next ++ [out[k]])) := ⟨fun e h => h.same hlk e⟩
      have HIl : Za (lexCmp x out[k] < 0 → InsAt x out k false next → InsAt x out (k + 1) true (next ++ [x] ++ [out[k]])) := ⟨fun e h => h.less hlk e⟩
      have HIm : Za (0 < lexCmp x out[k] → InsAt x out k false next → InsAt x out (k + 1) false (next ++ [out[k]])) := ⟨fun e h => h.more hlk e⟩
      have hs3 : lexCmp x out[k] = -1 ∨ lexCmp x out[k] = 0 ∨ lexCmp x out[k] = 1 := by
        unfold lexCmp
        split
        · exact .inl rfl
        split
        · exact .inr (.inr rfl)
        exact .inr (.inl rfl)
      clear hCy hBw
      generalize out[k] = y at *
      generalize lexCmp x y = s at *
      cases put with
      | true =>
        clear hs3
        go_wp2_with (fail)
        go_quiet (first | exact HCC.out _)
        go_wp2_with (first | ((with_reducible refine Zb (b := .append) (xs := #[.tmp 50, .tmp 55]) rfl ?_); at_builtin; go_loud (refine Kd.Zcg (fixF w P) (w0 := wo) wo.heap.size rfl (.tmp 50) (.tmp 55) 32 22 (.slice none 0 0) 24 rfl Try.underlying32 Zco rfl (Nat.lt_succ_self 0) (by omega) _ next y [.slice Ay y.length cy] (fun _ => True) (fun _ => False) rfl rfl ?aP (fun _ h => h.elim) ?aF ?aO ?aB ?aS ?aL ?_; (case aP => exact HY.out); (case aB => first | exact HBI.out | exact Zaa HBI.out _); (case aF => exact (fun _ _ => trivial)); (case aO => first | exact HN.out | exact Kd.R_drewN HN.out _); (case aS => first | exact HBI.out.size | exact (Zaa HBI.out _).size); (case aL => have := HLN.out; have := hol.out; (try simp only [List.length_append, List.length_cons, List.length_nil]); omega); intro v7 w7 ho2 hb2 hg2 hat2; have HN2 := Za.mk ho2; have HBI2 := Za.mk hb2; clear ho2 hb2 hg2 hat2)))
        go_roundg (out.length - (k + 1))
        case measure => omega
        case rel => exact ⟨k + 1, true, next ++ [y], by omega, by omega, by go_num, rfl, ⟨HIp.out HI.out⟩, ⟨by have := HLN.out; simp; omega⟩, HN2, HBI2⟩
      | false =>
        rcases hs3 with rfl | rfl | rfl
        rotate_left
        · skip
          go_wp2_with (fail)
          go_quiet (first | exact HCC.out _)
          go_wp2_with (first | ((with_reducible refine Zb (b := .append) (xs := #[.tmp 50, .tmp 55]) rfl ?_); at_builtin; go_loud (refine Kd.Zcg (fixF w P) (w0 := wo) wo.heap.size rfl (.tmp 50) (.tmp 55) 32 22 (.slice none 0 0) 24 rfl Try.underlying32 Zco rfl (Nat.lt_succ_self 0) (by omega) _ next y [.slice Ay y.length cy] (fun _ => True) (fun _ => False) rfl rfl ?aP (fun _ h => h.elim) ?aF ?aO ?aB ?aS ?aL ?_; (case aP => exact HY.out); (case aB => first | exact HBI.out | exact Zaa HBI.out _); (case aF => exact (fun _ _ => trivial)); (case aO => first | exact HN.out | exact Kd.R_drewN HN.out _); (case aS => first | exact HBI.out.size | exact (Zaa HBI.out _).size); (case aL => have := HLN.out; have := hol.out; (try simp only [List.length_append, List.length_cons, List.length_nil]); omega); intro v7 w7 ho2 hb2 hg2 hat2; have HN2 := Za.mk ho2; have HBI2 := Za.mk hb2; clear ho2 hb2 hg2 hat2)))
          go_roundg (out.length - (k + 1))
          case measure => omega
          case rel => exact ⟨k + 1, true, next ++ [y], by omega, by omega, by go_num, rfl, ⟨by first | exact HIs.out rfl HI.out | exact HIs.out trivial HI.out⟩, ⟨by have := HLN.out; simp; omega⟩, HN2, HBI2⟩
        rotate_left
        · skip
          go_wp2_with (fail)
          go_quiet (first | exact HCC.out _)
          go_wp2_with (first | ((with_reducible refine Zb (b := .append) (xs := #[.tmp 43, .tmp 48]) rfl ?_); at_builtin; go_loud (refine Kd.Zcg (fixF w P) (w0 := wo) wo.heap.size rfl (.tmp 43) (.tmp 48) 32 22 (.slice none 0 0) 24 rfl Try.underlying32 Zco rfl (Nat.lt_succ_self 0) (by omega) _ next x [.slice Ax x.length cx] (fun _ => True) (fun _ => False) rfl rfl ?aP (fun _ h => h.elim) ?aF ?aO ?aB ?aS ?aL ?_; (case aP => exact HX.out); (case aB => first | exact HBI.out | exact Zaa HBI.out _); (case aF => exact (fun _ _ => trivial)); (case aO => first | exact HN.out | exact Kd.R_drewN HN.out _); (case aS => first | exact HBI.out.size | exact (Zaa HBI.out _).size); (case aL => have := HLN.out; have := hol.out; (try simp only [List.length_append, List.length_cons, List.length_nil]); omega); intro v6 w6 ho2 hb2 hg2 hat2; have hy6 := HYB.out w6 hb2; have HN1 := Za.mk ho2; have HBI1 := Za.mk hb2; clear ho2 hb2 hg2 hat2)) | ((with_reducible refine Zb (b := .append) (xs := #[.tmp 50, .tmp 55]) rfl ?_); at_builtin; go_loud (refine Kd.Zcg (fixF w P) (w0 := wo) wo.heap.size rfl (.tmp 50) (.tmp 55) 32 22 (.slice none 0 0) 24 rfl Try.underlying32 Zco rfl (Nat.lt_succ_self 0) (by omega) _ (next ++ [x]) y [.slice Ay y.length cy] (fun _ => True) (fun _ => False) rfl rfl ?aP (fun _ h => h.elim) ?aF ?aO ?aB ?aS ?aL ?_; (case aP => exact HY.out); (case aB => first | exact HBI1.out | exact Zaa HBI1.out _); (case aF => exact (fun _ _ => trivial)); (case aO => first | exact HN1.out | exact Kd.R_drewN HN1.out _); (case aS => first | exact HBI1.out.size | exact (Zaa HBI1.out _).size); (case aL => have := HLN.out; have := hol.out; (try simp only [List.length_append, List.length_cons, List.length_nil]); omega); intro v7 w7 ho2 hb2 hg2 hat2; have HN2 := Za.mk ho2; have HBI2 := Za.mk hb2; clear ho2 hb2 hg2 hat2)))
          go_roundg (out.length - (k + 1))
          case measure => omega
          case rel => exact ⟨k + 1, true, next ++ [x] ++ [y], by omega, by omega, by go_num, rfl, ⟨by first | exact HIl.out (by omega) HI.out | exact HIl.out trivial HI.out⟩, ⟨by have h_ := HI.out; simp only [InsAt, Bool.false_eq_true, if_false] at h_; have h2_ := congrArg List.length h_.1; rw [List.length_take] at h2_; simp; omega⟩, HN2, HBI2⟩
        skip
        go_wp2_with (fail)
        go_quiet (first | exact HCC.out _)
        go_wp2_with (first | ((with_reducible refine Zb (b := .append) (xs := #[.tmp 50, .tmp 55]) rfl ?_); at_builtin; go_loud (refine Kd.Zcg (fixF w P) (w0 := wo) wo.heap.size rfl (.tmp 50) (.tmp 55) 32 22 (.slice none 0 0) 24 rfl Try.underlying32 Zco rfl (Nat.lt_succ_self 0) (by omega) _ next y [.slice Ay y.length cy] (fun _ => True) (fun _ => False) rfl rfl ?aP (fun _ h => h.elim) ?aF ?aO ?aB ?aS ?aL ?_; (case aP => exact HY.out); (case aB => first | exact HBI.out | exact Zaa HBI.out _); (case aF => exact (fun _ _ => trivial)); (case aO => first | exact HN.out | exact Kd.R_drewN HN.out _); (case aS => first | exact HBI.out.size | exact (Zaa HBI.out _).size); (case aL => have := HLN.out; have := hol.out; (try simp only [List.length_append, List.length_cons, List.length_nil]); omega); intro v7 w7 ho2 hb2 hg2 hat2; have HN2 := Za.mk ho2; have HBI2 := Za.mk hb2; clear ho2 hb2 hg2 hat2)))
        go_roundg (out.length - (k + 1))
        case measure => omega
        case rel => exact ⟨k + 1, false, next ++ [y], by omega, by omega, by go_num, rfl, ⟨by first | exact HIm.out (by omega) HI.out | exact HIm.out trivial HI.out⟩, ⟨by have := HLN.out; simp; omega⟩, HN2, HBI2⟩
theorem refSortedL (A0 : Option Addr) (c0 : Nat) (l0 : List (List Int)) (w : World) (hr0 : Kd.C kInts w A0 l0.length l0) (hc0 : l0.length ≤ c0) (hl : l0.length < 1000000000) :
    Calls Try.prog 31 #[.slice A0 l0.length c0] w fun e w' => ∃ v0_ : Value, e = .returned (v0_) ∧ Kd.R (Kd.fixed kInts w) 22 w' w.heap.size (fun _ => True) v0_ (sdL l0) ∧ Below w.heap.size w w' := by
  refine (refSortedF (fun _ => True) A0 c0 l0 w (ReadsRow.imp_ hr0 (Below.refl _ w) (fun x cs h W' hW => kInts_K_moved hW h)) hc0 hl).mono ?_
  rintro e w' ⟨v, rfl, hR, hb⟩
  exact ⟨v, rfl, ⟨hR.1, hR.2.imp_ (fun x cs h => Kd.Zcs h)⟩, hb⟩
def Zbf.f (l0 : List (List Int)) : Option (List (List Int)) := if l0.length < 1000000000 then some (sdL l0) else none
end Go.Proofs.Yteopgafbamipeaa.P
/- secateurref09.Sorted: its contract, in the form that printed callers ask: the rows are those that came in. -/
namespace Go.Proofs.Yteopgafbamipeaa.P
open Go.RowKit Go.Proofs.YteopgafbamipeaaW.PrintWords Go.Proofs.YteopgafbamipeaaW.PrintLast Go.Proofs.YteopgafbamipeaaW.PrintMore
set_option linter.unusedVariables false
set_option linter.unusedSimpArgs false
theorem N_of_fixF {w w' : World} {P : Nat → Prop} {e : Nat} {v : Value} {xs : List (List Int)} (h : Kd.R (fixF w P) e w' w.heap.size (fun _ => True) v xs) (hb : Below w.heap.size w w') : Kd.N kInts e w' w.heap.size (fun k => P k ∨ w.heap.size ≤ k) v xs := by
  have hbase := Kd.Zbo h
  obtain ⟨h0, inner, ho, hr⟩ := h
  refine ⟨fun k hk => .inr (hbase k hk), Kd.chunks kInts.sz xs.length inner, Kd.Zbe _ _ _, ⟨fun k hk => hk.symm, inner, by rw [Kd.Zbe]; exact ho, Kd.reps_raw hr (fun x c hp => ⟨kInts.K_len (Kd.Zcs hp), kInts.K_one (Kd.Zcs hp)⟩)⟩, fun j x c hx hc => ?_⟩
  rw [Kd.Zci hc]
  have hF : Kd.FK kInts w P x ((inner.drop (j * kInts.sz)).take kInts.sz) := hr.2 j x hx
  exact Kd.Zdp (Kd.FK_step (Kd.Zer hF) (fun k hk _ => hb.block k hk.2)) (fun k hk => ⟨.inl hk.1, fun e_ => by have := hbase k e_.symm; omega⟩)
theorem Zbf.calls (P0_ : Nat → Prop) (A0 : Option Addr) (c0 : Nat) (l0 : List (List Int)) (r : List (List Int)) (w : World) (hs0 : Kd.V (Kd.slice 3 (Kd.int .i64)) 22 w w.heap.size (fun k_ => P0_ k_) (.slice A0 l0.length c0) l0) (h : Zbf.f l0 = some r) :
    Calls Try.prog 31 #[.slice A0 l0.length c0] w fun e w' => ∃ v0_ : Value, e = .returned (v0_) ∧ Kd.N (Kd.slice 3 (Kd.int .i64)) 22 w' w.heap.size (fun k_ => (P0_ k_ ∨ w.heap.size ≤ k_)) v0_ r ∧ Below w.heap.size w w' := by
  unfold Zbf.f at h
  split at h
  case isFalse => cases h
  case isTrue hl =>
    obtain rfl := Option.some.inj h
    obtain ⟨_, hc, hF⟩ := Kd.V_at hs0
    refine (refSortedF P0_ A0 c0 l0 w (Kd.F_rows hF) hc hl).mono ?_
    rintro e w' ⟨v, rfl, hR, hb⟩
    exact ⟨v, rfl, N_of_fixF hR hb, hb⟩
theorem Zfq {l : List (List Int)} (hl : l.length < 1000000000) : Zbf.f l = some (sdL l) := if_pos hl
end Go.Proofs.Yteopgafbamipeaa.P
namespace Go.Proofs.Yteopgafbamipeaa.P
open Go.RowKit Go.Proofs.YteopgafbamipeaaW.PrintWords Go.Proofs.YteopgafbamipeaaW.PrintLast Go.Proofs.YteopgafbamipeaaW.PrintMore
attribute [local go_sem] Zb9 Zca Zcp Zcq Zbw Zbx Zc Zcb
set_option linter.unusedVariables false
set_option linter.unusedSimpArgs false
/-! ### Zab: function 24 -/
mutual
def Zab.l0 : Nat → List (List Int) → List (List Int) → List (List Int) → Int → Option ((List (List Int)) × Int)
 | 0, _, _, _, _ => none
 | k + 1, x0, x1, x6, x7 => if x7 < (x0.length : Int) then (Zab.l1 k x0 x1 x6 x7 0) else ((Zbf.f x6).bind fun t298 => (some (t298, 0)))
def Zab.l1 : Nat → List (List Int) → List (List Int) → List (List Int) → Int → Int → Option ((List (List Int)) × Int)
 | 0, _, _, _, _, _ => none
 | k + 1, x0, x1, x6, x7, x8 => if x8 < (x1.length : Int) then (if 0 ≤ x7 then (if x7 < (x0.length : Int) then (if 0 ≤ x8 then (if ((Za1 x0 x7).length : Int) = ((Za1 x1 x8).length : Int) then ((Zak.f k (Za1 x1 x8)).bind fun t304 => (if t304 = true then ((Zah.f k (Za1 x0 x7) (Za1 x1 x8)).bind fun t307 => (if x6.length < 5864062014805 then (Zab.l1 k x0 x1 (x6 ++ [t307]) x7 (wrap64 (x8 + 1))) else (none))) else (some (([] : List (List Int)), 1)))) else (some (([] : List (List Int)), 1))) else (none)) else (none)) else (none)) else (Zab.l0 k x0 x1 x6 (wrap64 (x7 + 1)))
end
def Zab.f (k : Nat) (l0 : List (List Int)) (l1 : List (List Int)) : Option ((List (List Int)) × Int) := Zab.l0 k l0 l1 (([] : List (List Int))) 0
theorem Zab.Zbb : ∀ k, (∀ y0 y1 y2 y3, LeO (Zab.l0 k y0 y1 y2 y3) (Zab.l0 (k + 1) y0 y1 y2 y3)) ∧ (∀ y0 y1 y2 y3 y4, LeO (Zab.l1 k y0 y1 y2 y3 y4) (Zab.l1 (k + 1) y0 y1 y2 y3 y4))
 | 0 => ⟨fun _ _ _ _ r h => by simp [Zab.l0] at h, fun _ _ _ _ _ r h => by simp [Zab.l1] at h⟩
 | k + 1 => by
  obtain ⟨ih0, ih1⟩ := Zab.Zbb k
  refine ⟨?_, ?_⟩
  ·intro y0 y1 y2 y3
   unfold Zab.l0
   repeat' first
   | (with_reducible exact ih0 _ _ _ _)
   | (with_reducible exact ih1 _ _ _ _ _)
   | (with_reducible exact Zak.mono _ _)
   | (with_reducible exact Zah.mono _ _ _)
   | (with_reducible exact LeO.refl _)
   | (with_reducible exact LeO.none _)
   | (with_reducible refine LeO.ite ?_ ?_)
   | (with_reducible refine LeO.bind ?_ (fun _ => ?_))
   | exact ih0 _ _ _ _
   | exact ih1 _ _ _ _ _
   | exact Zak.mono _ _
   | exact Zah.mono _ _ _
   | exact LeO.none _
   | refine LeO.ite ?_ ?_
   | refine LeO.bind ?_ (fun _ => ?_)
  intro y0 y1 y2 y3 y4
  unfold Zab.l1
  repeat' first
  | (with_reducible exact ih0 _ _ _ _)
  | (with_reducible exact ih1 _ _ _ _ _)
  | (with_reducible exact Zak.mono _ _)
  | (with_reducible exact Zah.mono _ _ _)
  | (with_reducible exact LeO.refl _)
  | (with_reducible exact LeO.none _)
  | (with_reducible refine LeO.ite ?_ ?_)
  | (with_reducible refine LeO.bind ?_ (fun _ => ?_))
  | exact ih0 _ _ _ _
  | exact ih1 _ _ _ _ _
  | exact Zak.mono _ _
  | exact Zah.mono _ _ _
  | exact LeO.none _
  | refine LeO.ite ?_ ?_
  | refine LeO.bind ?_ (fun _ => ?_)
theorem Zab.mono : ∀ a0 a1 k, LeO (Zab.f k a0 a1) (Zab.f (k + 1) a0 a1) := by
 intro a0 a1 k
 obtain ⟨ih0, ih1⟩ := Zab.Zbb k
 unfold Zab.f
 repeat' first
   | (with_reducible exact ih0 _ _ _ _)
   | (with_reducible exact ih1 _ _ _ _ _)
   | (with_reducible exact Zak.mono _ _)
   | (with_reducible exact Zah.mono _ _ _)
   | (with_reducible exact LeO.refl _)
   | (with_reducible exact LeO.none _)
   | (with_reducible refine LeO.ite ?_ ?_)
   | (with_reducible refine LeO.bind ?_ (fun _ => ?_))
   | exact ih0 _ _ _ _
   | exact ih1 _ _ _ _ _
   | exact Zak.mono _ _
   | exact Zah.mono _ _ _
   | exact LeO.none _
   | refine LeO.ite ?_ ?_
   | refine LeO.bind ?_ (fun _ => ?_)
def Zab.T8 : Bool × List (List Nat × List Nat) := (true, [([], []), ([], []), ([0, 1], [0, 1]), ([2], [2]), ([3], [3]), ([], []), ([], []), ([5, 6], [5, 6]), ([7], [7]), ([8], [8]), ([4, 9], [4, 9]), ([10], [10]), ([11], [11]), ([11], [11]), ([12, 13, 11], [11, 12, 13]), ([14, 11], [11, 14]), ([15, 11, 11], [11, 15]), ([16, 11], [11, 16]), ([11, 17], [11, 17])])
def Zab.B8 : List Nat := [0, 0, 3, 7, 15, 0, 0, 96, 224, 480, 1023, 2047, 4095, 4095, 16383, 32767, 65535, 131071, 262143]
theorem Zab.tab8 : rtab .any (opsOf Try.f24 8) = Zab.T8 := by kernel_rfl
theorem Zab.bits8 : waitsOk Zab.T8.2 Zab.B8 = true := by kernel_rfl
def Zab.T10 : Bool × List (List Nat × List Nat) := (true, [([], []), ([], []), ([], []), ([1, 2], [1, 2]), ([3], [3]), ([], []), ([], []), ([5, 6], [5, 6]), ([7], [7]), ([4, 8], [4, 8]), ([9], [9]), ([0, 10, 9], [0, 10]), ([11, 11, 0, 1, 2, 3, 4, 5, 6, 7, 8, 9, 10, 11], [0, 11])])
def Zab.B10 : List Nat := [0, 0, 0, 6, 14, 0, 0, 96, 224, 510, 1022, 2047, 4095]
theorem Zab.tab10 : rtab .any (opsOf Try.f24 10) = Zab.T10 := by kernel_rfl
theorem Zab.bits10 : waitsOk Zab.T10.2 Zab.B10 = true := by kernel_rfl
set_option maxHeartbeats 8000000 in
set_option maxRecDepth 100000 in
theorem Zab.calls (k : Nat) (A0 : Option Addr) (c0 : Nat) (l0 : List (List Int)) (A1 : Option Addr) (c1 : Nat) (l1 : List (List Int)) (r1 : List (List Int)) (r2 : Int) (w : World) (hr0 : Kd.C (Kd.slice 3 (Kd.int .i64)) w A0 l0.length l0) (hc0 : l0.length ≤ c0) (hr1 : Kd.C (Kd.slice 3 (Kd.int .i64)) w A1 l1.length l1) (hc1 : l1.length ≤ c1) (h : Zab.f k l0 l1 = some (r1, r2)) :
  Calls Try.prog 24 #[.slice A0 l0.length c0, .slice A1 l1.length c1] w fun e w' => ∃ v0_ : Value, e = .returned (.tuple #[v0_, .int .i64 r2]) ∧ Kd.N (Kd.slice 3 (Kd.int .i64)) 22 w' w.heap.size (fun k_ => (w.heap.size ≤ k_)) v0_ r1 ∧ Below w.heap.size w w' := by
 have HR0 := Za.mk hr0
 have HC0 := Za.mk hc0
 clear hr0 hc0
 have HR1 := Za.mk hr1
 have HC1 := Za.mk hc1
 clear hr1 hc1
 have HB := Za.mk (Below.refl w.heap.size w)
 have H : (Zab.l0 k l0 l1 (([] : List (List Int))) 0) = some (r1, r2) := h
 clear h
 obtain ⟨y295, hy295⟩ : ∃ y_ : List (List Int), y_ = (([] : List (List Int))) := ⟨_, rfl⟩
 replace H : (Zab.l0 k l0 l1 y295 0) = some (r1, r2) := by first | (rw [hy295]; with_reducible exact H) | (have H2_ := (Option.bind_some _ _).symm.trans H; rw [hy295]; with_reducible exact H2_) | (have H2_ := (Option.bind_some _ _).symm.trans H; with_reducible exact H2_) | with_reducible exact H | (rw [hy295]; exact H) | exact H
 have Ny295 := Za.mk hy295
 clear hy295
 have H' := Za.mk H
 clear H
 go_enter Try.func24, Try.ntmps24
 go_wp2_with (first | ((with_reducible refine Zby (N := 9) rfl ?_); refine Kd.N_lit (Kd.slice 3 (Kd.int .i64)) _ 22 ?hg (N' := 9) ?hd (xs := ([] : List (List Int))) (inner := []) (ok := (fun k_ => (w.heap.size ≤ k_))) (okp := (fun k_ => (w.heap.size ≤ k_))) ?hr ?hp (fun _ hk => hk) ((show ∀ k_, w.heap.size ≤ k_ → (fun k_ => (w.heap.size ≤ k_)) k_ from fun k_ hk => (Nat.le_trans (Zau (by repeat (first | (with_reducible first | exact HB.out | apply Zad | apply Zaa | apply Zae) | exact HB.out))) hk)) _ (Nat.le_refl _)) (Below.refl _ _) (Nat.le_refl _) (by simp) ?_; (case hd => rfl); (case hg => rfl); (case hr => first | (go_simp; done) | (go_simp; rfl)); (case hp => exact (Reps.none _ _)); intro v296 w3 ho4 hb hg_ hnew_; clear hg_ hnew_; (first | rw [← Ny295.out] at ho4 | (simp only [Int.reduceToNat] at ho4; rw [← Ny295.out] at ho4)); have n0_ := Za.mk (Kd.Zcj ho4 (Zau (by repeat (first | (with_reducible first | exact HB.out | apply Zad | apply Zaa | apply Zae) | exact HB.out)))); have n1_ := Za.mk (Zan (by repeat (first | (with_reducible first | exact HB.out | apply Zad | apply Zaa | apply Zae) | exact HB.out)) hb); clear HB; have HO297 := n0_; have HB := n1_; clear n0_ n1_; clear hb ho4))
 go_loopg [6, 7] k (fun kq v6 v7 w' => ∃ (x6_1 : List (List Int)) (x7_1 : Int), v7 = .int .i64 x7_1 ∧ Za (Zab.l0 kq l0 l1 x6_1 x7_1 = some (r1, r2)) ∧ Za (kq ≤ k) ∧ Za (Kd.N (Kd.slice 3 (Kd.int .i64)) 22 w' w.heap.size (fun k_ => (w.heap.size ≤ k_)) v6 x6_1) ∧ Za (Below w.heap.size w w'))
 case atStart => exact ⟨(y295), (0), (by first | rfl | (simp; done) | (simp [*]; done)), H', ⟨Nat.le_refl _⟩, ⟨by (with_reducible repeat (first | apply Kd.N_alloc | apply Kd.Za6 | apply Kd.Za8)); exact HO297.out⟩, ⟨by repeat (first | (with_reducible first | exact HB.out | apply Zad | apply Zaa | apply Zae) | exact HB.out)⟩⟩
 case round =>
  clear H'
  try clear c1
  try clear c2
  try clear p2
  obtain ⟨x6_1, x7_1, rfl, HA, HK1, HO_6, HB⟩ := hrel
  cases gk with
  | zero => exact absurd HA.out (by simp [Zab.l0])
  | succ k1 =>
   have H := HA.out
   clear HA
   simp only [Zab.l0] at H
   by_cases c5 : x7_1 < (l0.length : Int)
   rotate_left
   ·rw [if_neg c5] at H
    have c5b0 : decide (x7_1 < (l0.length : Int)) = false := decide_eq_false c5
    clear c5
    replace H := Option.bind_eq_some_iff.mp H
    obtain ⟨t298, A220, H⟩ := H
    replace H : (some (t298, 0)) = some (r1, r2) := H
    have A22 := Za.mk A220
    clear A220
    simp only [Option.some.injEq, Prod.mk.injEq] at H
    obtain ⟨rfl, rfl⟩ := H
    obtain ⟨Ao23, co23, eo23⟩ := Kd.Zck HO_6.out
    subst eo23
    go_wp2_with (first | ((with_reducible refine Zav (f := 31) rfl ?_); refine Zbk (some 54) rfl rfl Try.func31 (by kernel_rfl) rfl #[.slice Ao23 x6_1.length co23] rfl (by (try simp only [List.map_toArray, List.map_cons, List.map_nil]); first | done | rfl | (simp only [List.length_drop, List.length_take]; rfl)) ?_; (with_reducible refine (Zbf.calls (fun k_ => (w.heap.size ≤ k_)) _ _ x6_1 t298 _ ?side1 A22.out).mono ?_); (case side1 => exact Kd.N_V (HO_6.out)); rintro e w24 ⟨v299, rfl, ho0, hb⟩; refine ⟨_, rfl, ?_⟩; have n0_ := Za.mk (Kd.Zbp (by (with_reducible repeat (first | apply Kd.N_alloc | apply Kd.Za6 | apply Kd.Za8)); exact HO_6.out) (by first | exact Kd.Zcc ho0 | exact Kd.Zb8 ho0 | exact Kd.Zbo ho0) hb); have n1_ := Za.mk (Kd.Zcj (Kd.Zbz (ok' := fun k_ => (w.heap.size ≤ k_)) ho0 (fun k_ hk_ => Or.elim hk_ (fun hs_ => hs_) (fun hn_ => (Nat.le_trans (Zau (by repeat (first | (with_reducible first | exact HB.out | apply Zad | apply Zaa | apply Zae) | exact HB.out))) hn_)))) (Zau (by repeat (first | (with_reducible first | exact HB.out | apply Zad | apply Zaa | apply Zae) | exact HB.out)))); have n2_ := Za.mk (Zan (by repeat (first | (with_reducible first | exact HB.out | apply Zad | apply Zaa | apply Zae) | exact HB.out)) hb); clear HO_6; clear HB; have HO_6 := n0_; have HO300 := n1_; have HB := n2_; clear n0_ n1_ n2_; (try clear hb); (try clear hb2); (try clear hk); (try clear hi); (try clear ho0)))
    go_ret2
    exact ⟨_, by first | rfl | (simp [Zaz, Za0] <;> rfl) | (simp [*, Zaz, Za0] <;> rfl), by (with_reducible repeat (first | apply Kd.N_alloc | apply Kd.Za6 | apply Kd.Za8)); exact HO300.out, by repeat (first | (with_reducible first | exact HB.out | apply Zad | apply Zaa | apply Zae) | exact HB.out)⟩

   rw [if_pos c5] at H
   have c5b0 : decide (x7_1 < (l0.length : Int)) = true := decide_eq_true c5
   clear c5
   have H' := Za.mk H
   clear H
   go_wp2
   go_loopg [6, 8] k1 (fun kq v6 v8 w' => ∃ (x6_2 : List (List Int)) (x8_2 : Int), v8 = .int .i64 x8_2 ∧ Za (Zab.l1 kq l0 l1 x6_2 x7_1 x8_2 = some (r1, r2)) ∧ Za (kq ≤ k1) ∧ Za (Kd.N (Kd.slice 3 (Kd.int .i64)) 22 w' w.heap.size (fun k_ => (w.heap.size ≤ k_)) v6 x6_2) ∧ Za (Below w.heap.size w w'))
   case atStart => exact ⟨(x6_1), (0), (by first | rfl | (simp; done) | (simp [*]; done)), H', ⟨Nat.le_refl _⟩, ⟨by (with_reducible repeat (first | apply Kd.N_alloc | apply Kd.Za6 | apply Kd.Za8)); exact HO_6.out⟩, ⟨by repeat (first | (with_reducible first | exact HB.out | apply Zad | apply Zaa | apply Zae) | exact HB.out)⟩⟩
   case round =>
    clear H'
    try clear c1
    try clear c2
    try clear p2
    try clear c5
    try clear c5b0
    try clear p2
    obtain ⟨x6_2, x8_2, rfl, HA, HK2, HO_6, HB⟩ := hrel
    cases gk with
    | zero => exact absurd HA.out (by simp [Zab.l1])
    | succ k2 =>
     have H := HA.out
     clear HA
     simp only [Zab.l1] at H
     by_cases c6 : x8_2 < (l1.length : Int)
     rotate_left
     ·rw [if_neg c6] at H
      have c6b0 : decide (x8_2 < (l1.length : Int)) = false := decide_eq_false c6
      clear c6
      have H' := Za.mk H
      clear H
      go_wp2
      go_roundg k2
      case measure => have := HK1.out; have := HK2.out; omega
      case rel => exact ⟨(x6_2), (wrap64 (x7_1 + 1)), (by first | rfl | (simp; done) | (simp [*]; done)), H', ⟨by have := HK1.out; have := HK2.out; omega⟩, ⟨by (with_reducible repeat (first | apply Kd.N_alloc | apply Kd.Za6 | apply Kd.Za8)); exact HO_6.out⟩, ⟨by repeat (first | (with_reducible first | exact HB.out | apply Zad | apply Zaa | apply Zae) | exact HB.out)⟩⟩
     rw [if_pos c6] at H
     have c6b0 : decide (x8_2 < (l1.length : Int)) = true := decide_eq_true c6
     clear c6
     by_cases c7 : 0 ≤ x7_1
     rotate_left
     ·rw [if_neg c7] at H
      exact absurd H (by simp)
     rw [if_pos c7] at H
     have c7b0 : decide (0 ≤ x7_1) = true := decide_eq_true c7
     clear c7
     by_cases c8 : x7_1 < (l0.length : Int)
     rotate_left
     ·rw [if_neg c8] at H
      exact absurd H (by simp)
     rw [if_pos c8] at H
     have c8b0 : decide (x7_1 < (l0.length : Int)) = true := decide_eq_true c8
     clear c8
     by_cases c9 : 0 ≤ x8_2
     rotate_left
     ·rw [if_neg c9] at H
      exact absurd H (by simp)
     rw [if_pos c9] at H
     have c9b0 : decide (0 ≤ x8_2) = true := decide_eq_true c9
     clear c9
     by_cases c10 : ((Za1 l0 x7_1).length : Int) = ((Za1 l1 x8_2).length : Int)
     rotate_left
     ·rw [if_neg c10] at H
      have c10b0 : (((Za1 l0 x7_1).length : Int) == ((Za1 l1 x8_2).length : Int)) = false := beq_eq_false_iff_ne.mpr c10
      have c10b1 : (((Za1 l0 x7_1).length : Int) != ((Za1 l1 x8_2).length : Int)) = true := bne_iff_ne.mpr c10
      have c10b2 : ((Za1 l0 x7_1).length == (Za1 l1 x8_2).length) = false := by first | simpa using c10 | (simp at c10 ⊢; omega)
      simp only [Option.some.injEq, Prod.mk.injEq] at H
      obtain ⟨rfl, rfl⟩ := H
      try go_wp2
      have n0_ := Za.mk (Kd.Za8 HO_6.out)
      have n1_ := Za.mk (Zae HB.out)
      clear HO_6
      clear HB
      have HO_6 := n0_
      have HB := n1_
      clear n0_ n1_
      have p301 : 0 ≤ (x7_1 : Int) := of_decide_eq_true (by first | (with_reducible assumption) | assumption)
      have q301 : x7_1 < (l0.length : Int) := of_decide_eq_true (by first | (with_reducible assumption) | assumption)
      obtain ⟨ad301, A301_0, c301_0, e301, hx301_0, hl301_0, hi301_0⟩ := Zcr HR0.out x7_1 p301 q301
      have hw301_0 := hx301_0
      cases e301
      replace hx301_0 := (HB.out.cell (World.block_lt_of_cell? w _ hx301_0)).trans hx301_0
      have HR301_0 := Za.mk hi301_0
      have HC301_0 := Za.mk hl301_0
      clear hi301_0 hl301_0
      replace p301 := eq_true p301
      replace q301 := eq_true q301
      have p302 : 0 ≤ (x8_2 : Int) := of_decide_eq_true (by first | (with_reducible assumption) | assumption)
      have q302 : x8_2 < (l1.length : Int) := of_decide_eq_true (by first | (with_reducible assumption) | assumption)
      obtain ⟨ad302, A302_0, c302_0, e302, hx302_0, hl302_0, hi302_0⟩ := Zcr HR1.out x8_2 p302 q302
      have hw302_0 := hx302_0
      cases e302
      replace hx302_0 := (HB.out.cell (World.block_lt_of_cell? w _ hx302_0)).trans hx302_0
      have HR302_0 := Za.mk hi302_0
      have HC302_0 := Za.mk hl302_0
      clear hi302_0 hl302_0
      replace p302 := eq_true p302
      replace q302 := eq_true q302
      refine Zf3 (n := 19) (S := fun w' => w'.cell? (ad301.add (x7_1).toNat) = some (.slice A301_0 (Za1 l0 x7_1).length c301_0) ∧ w'.cell? (ad302.add (x8_2).toNat) = some (.slice A302_0 (Za1 l1 x8_2).length c302_0)) (ds := []) #[false, false, false, false, false, false, false, false, false, false, false, false, false, false, false, false, false, false, false] (by kernel_rfl) rfl rfl ⟨((HB.out.cell (World.block_lt_of_cell? w _ hw301_0)).trans hw301_0), ((HB.out.cell (World.block_lt_of_cell? w _ hw302_0)).trans hw302_0)⟩ (fun hHeld => ?_); refine Zc1 Zab.tab8 Zab.bits8 (fun HT_ HW_ => ?_)
      generalize wr.drew = w21 at HO_6 HB HR301_0 HR302_0 hx301_0 hx302_0 hHeld ⊢
      refine Zba (i := 0) (N := some 22) (v := ?_) (a' := ?_) #[true, false, false, false, false, false, false, false, false, false, false, false, false, false, false, false, false, false, false] rfl rfl (Za3 HT_.out (by kernel_rfl)) (fun _ _ _ h => h) (Or.inl ⟨by rfl, ?_⟩) ?_ ?_
      rotate_left
      ·intro w'
       go_simp
       with_reducible rfl
      rotate_left
      ·simp only [Act.put, List.setIfInBounds_toArray, List.set_cons_zero, List.set_cons_succ, Za4, Za5]
       rfl
      refine Zba (i := 1) (N := some 23) (v := ?_) (a' := ?_) #[true, true, false, false, false, false, false, false, false, false, false, false, false, false, false, false, false, false, false] rfl rfl (Za3 HT_.out (by kernel_rfl)) (fun _ _ _ h => h) (Or.inl ⟨by rfl, ?_⟩) ?_ ?_
      rotate_left
      ·intro w'
       go_simp
       with_reducible rfl
      rotate_left
      ·simp only [Act.put, List.setIfInBounds_toArray, List.set_cons_zero, List.set_cons_succ, Za4, Za5]
       rfl
      refine Zba (i := 2) (N := some 24) (v := ?_) (a' := ?_) #[true, true, true, false, false, false, false, false, false, false, false, false, false, false, false, false, false, false, false] rfl rfl (Za3 HT_.out (by kernel_rfl)) (fun _ _ _ h => h) (Or.inl ⟨by rfl, ?_⟩) ?_ ?_
      rotate_left
      ·intro w'
       go_simp
       with_reducible rfl
      rotate_left
      ·simp only [Act.put, List.setIfInBounds_toArray, List.set_cons_zero, List.set_cons_succ, Za4, Za5]
       rfl
      refine Zba (i := 5) (N := some 27) (v := ?_) (a' := ?_) #[true, true, true, false, false, true, false, false, false, false, false, false, false, false, false, false, false, false, false] rfl rfl (Za3 HT_.out (by kernel_rfl)) (fun _ _ _ h => h) (Or.inl ⟨by rfl, ?_⟩) ?_ ?_
      rotate_left
      ·intro w'
       go_simp
       with_reducible rfl
      rotate_left
      ·simp only [Act.put, List.setIfInBounds_toArray, List.set_cons_zero, List.set_cons_succ, Za4, Za5]
       rfl
      refine Zba (i := 6) (N := some 28) (v := ?_) (a' := ?_) #[true, true, true, false, false, true, true, false, false, false, false, false, false, false, false, false, false, false, false] rfl rfl (Za3 HT_.out (by kernel_rfl)) (fun _ _ _ h => h) (Or.inl ⟨by rfl, ?_⟩) ?_ ?_
      rotate_left
      ·intro w'
       go_simp
       with_reducible rfl
      rotate_left
      ·simp only [Act.put, List.setIfInBounds_toArray, List.set_cons_zero, List.set_cons_succ, Za4, Za5]
       rfl
      refine Zba (i := 7) (N := some 29) (v := ?_) (a' := ?_) #[true, true, true, false, false, true, true, true, false, false, false, false, false, false, false, false, false, false, false] rfl rfl (Za3 HT_.out (by kernel_rfl)) (fun _ _ _ h => h) (Or.inl ⟨by rfl, ?_⟩) ?_ ?_
      rotate_left
      ·intro w'
       go_simp
       with_reducible rfl
      rotate_left
      ·simp only [Act.put, List.setIfInBounds_toArray, List.set_cons_zero, List.set_cons_succ, Za4, Za5]
       rfl
      refine Zdi (i := 3) (N := some 25) (v := ?_) (a' := ?_) #[true, true, true, true, false, true, true, true, false, false, false, false, false, false, false, false, false, false, false] rfl rfl (Zbt HT_.out HW_.out (by kernel_rfl)) (fun _ _ _ h => h) (Or.inl ⟨by rfl, ?_⟩) hHeld ?_ ?_
      rotate_left
      ·rintro w' ⟨s0, s1⟩
       go_simp
       with_reducible rfl
      rotate_left
      ·simp only [Act.put, List.setIfInBounds_toArray, List.set_cons_zero, List.set_cons_succ, Za4, Za5]
       rfl
      refine Zba (i := 4) (N := some 26) (v := ?_) (a' := ?_) #[true, true, true, true, true, true, true, true, false, false, false, false, false, false, false, false, false, false, false] rfl rfl (Za3 HT_.out (by kernel_rfl)) (fun _ _ _ h => h) (Or.inl ⟨by rfl, ?_⟩) ?_ ?_
      rotate_left
      ·intro w'
       go_simp
       with_reducible rfl
      rotate_left
      ·simp only [Act.put, List.setIfInBounds_toArray, List.set_cons_zero, List.set_cons_succ, Za4, Za5]
       rfl
      refine Zdi (i := 8) (N := some 30) (v := ?_) (a' := ?_) #[true, true, true, true, true, true, true, true, true, false, false, false, false, false, false, false, false, false, false] rfl rfl (Zbt HT_.out HW_.out (by kernel_rfl)) (fun _ _ _ h => h) (Or.inl ⟨by rfl, ?_⟩) hHeld ?_ ?_
      rotate_left
      ·rintro w' ⟨s0, s1⟩
       go_simp
       with_reducible rfl
      rotate_left
      ·simp only [Act.put, List.setIfInBounds_toArray, List.set_cons_zero, List.set_cons_succ, Za4, Za5]
       rfl
      refine Zba (i := 9) (N := some 31) (v := ?_) (a' := ?_) #[true, true, true, true, true, true, true, true, true, true, false, false, false, false, false, false, false, false, false] rfl rfl (Za3 HT_.out (by kernel_rfl)) (fun _ _ _ h => h) (Or.inl ⟨by rfl, ?_⟩) ?_ ?_
      rotate_left
      ·intro w'
       go_simp
       with_reducible rfl
      rotate_left
      ·simp only [Act.put, List.setIfInBounds_toArray, List.set_cons_zero, List.set_cons_succ, Za4, Za5]
       rfl
      refine Zba (i := 10) (N := some 32) (v := ?_) (a' := ?_) #[true, true, true, true, true, true, true, true, true, true, true, false, false, false, false, false, false, false, false] rfl rfl (Za3 HT_.out (by kernel_rfl)) (fun _ _ _ h => h) (Or.inl ⟨by rfl, ?_⟩) ?_ ?_
      rotate_left
      ·intro w'
       go_simp
       with_reducible rfl
      rotate_left
      ·simp only [Act.put, List.setIfInBounds_toArray, List.set_cons_zero, List.set_cons_succ, Za4, Za5]
       rfl
      refine Zba (i := 11) (N := some 33) (v := ?_) (a' := ?_) #[true, true, true, true, true, true, true, true, true, true, true, true, false, false, false, false, false, false, false] rfl rfl (Za3 HT_.out (by kernel_rfl)) (fun _ _ _ h => h) (Or.inl ⟨by rfl, ?_⟩) ?_ ?_
      rotate_left
      ·intro w'
       go_simp
       with_reducible rfl
      rotate_left
      ·simp only [Act.put, List.setIfInBounds_toArray, List.set_cons_zero, List.set_cons_succ, Za4, Za5]
       rfl
      refine Zba (i := 12) (N := some 34) (v := undef) (a' := ?_) #[true, true, true, true, true, true, true, true, true, true, true, true, true, false, false, false, false, false, false] rfl rfl (Za3 HT_.out (by kernel_rfl)) (fun _ _ _ h => h) (Or.inr ⟨by rfl, rfl⟩) ?_ ?_
      rotate_left
      ·simp only [Act.put, List.setIfInBounds_toArray, List.set_cons_zero, List.set_cons_succ, Za4, Za5]
       rfl
      refine Zba (i := 13) (N := some 35) (v := undef) (a' := ?_) #[true, true, true, true, true, true, true, true, true, true, true, true, true, true, false, false, false, false, false] rfl rfl (Za3 HT_.out (by kernel_rfl)) (fun _ _ _ h => h) (Or.inr ⟨by rfl, rfl⟩) ?_ ?_
      rotate_left
      ·simp only [Act.put, List.setIfInBounds_toArray, List.set_cons_zero, List.set_cons_succ, Za4, Za5]
       rfl
      refine Zba (i := 14) (N := some 36) (v := undef) (a' := ?_) #[true, true, true, true, true, true, true, true, true, true, true, true, true, true, true, false, false, false, false] rfl rfl (Za3 HT_.out (by kernel_rfl)) (fun _ _ _ h => h) (Or.inr ⟨by rfl, rfl⟩) ?_ ?_
      rotate_left
      ·simp only [Act.put, List.setIfInBounds_toArray, List.set_cons_zero, List.set_cons_succ, Za4, Za5]
       rfl
      refine Zba (i := 15) (N := some 37) (v := undef) (a' := ?_) #[true, true, true, true, true, true, true, true, true, true, true, true, true, true, true, true, false, false, false] rfl rfl (Za3 HT_.out (by kernel_rfl)) (fun _ _ _ h => h) (Or.inr ⟨by rfl, rfl⟩) ?_ ?_
      rotate_left
      ·simp only [Act.put, List.setIfInBounds_toArray, List.set_cons_zero, List.set_cons_succ, Za4, Za5]
       rfl
      refine Zba (i := 16) (N := some 38) (v := undef) (a' := ?_) #[true, true, true, true, true, true, true, true, true, true, true, true, true, true, true, true, true, false, false] rfl rfl (Za3 HT_.out (by kernel_rfl)) (fun _ _ _ h => h) (Or.inr ⟨by rfl, rfl⟩) ?_ ?_
      rotate_left
      ·simp only [Act.put, List.setIfInBounds_toArray, List.set_cons_zero, List.set_cons_succ, Za4, Za5]
       rfl
      refine Zba (i := 17) (N := some 39) (v := undef) (a' := ?_) #[true, true, true, true, true, true, true, true, true, true, true, true, true, true, true, true, true, true, false] rfl rfl (Za3 HT_.out (by kernel_rfl)) (fun _ _ _ h => h) (Or.inr ⟨by rfl, rfl⟩) ?_ ?_
      rotate_left
      ·simp only [Act.put, List.setIfInBounds_toArray, List.set_cons_zero, List.set_cons_succ, Za4, Za5]
       rfl
      refine Zba (i := 18) (N := some 40) (v := ?_) (a' := ?_) #[true, true, true, true, true, true, true, true, true, true, true, true, true, true, true, true, true, true, true] rfl rfl (Za3 HT_.out (by kernel_rfl)) (fun _ _ _ h => h) (Or.inl ⟨by rfl, ?_⟩) ?_ ?_
      rotate_left
      ·intro w'
       go_simp
       with_reducible rfl
      rotate_left
      ·simp only [Act.put, List.setIfInBounds_toArray, List.set_cons_zero, List.set_cons_succ, Za4, Za5]
       rfl
      refine done_ (Zee HT_.out (by kernel_rfl)) ?_
      try go_wp2
      go_ret2
      exact ⟨_, by first | rfl | (simp [Zaz, Za0] <;> rfl) | (simp [*, Zaz, Za0] <;> rfl), by first | exact Kd.Zdq _ _ _ _ _ | exact Kd.Zfo _ _ _ _ _ | exact Kd.V_nil _ _ _ _ _ | exact Kd.Q_nil _ _ _ _ _ | exact Kd.Zdy _ _ _ _ _, by repeat (first | (with_reducible first | exact HB.out | apply Zad | apply Zaa | apply Zae) | exact HB.out)⟩
     rw [if_pos c10] at H
     have c10b0 : (((Za1 l0 x7_1).length : Int) == ((Za1 l1 x8_2).length : Int)) = true := beq_iff_eq.mpr c10
     have c10b1 : (((Za1 l0 x7_1).length : Int) != ((Za1 l1 x8_2).length : Int)) = false := bne_eq_false_iff_eq.mpr c10
     have c10b2 : ((Za1 l0 x7_1).length == (Za1 l1 x8_2).length) = true := by first | simpa using c10 | (simp at c10 ⊢; omega)
     clear c10
     replace H := Option.bind_eq_some_iff.mp H
     obtain ⟨t304, A110, H⟩ := H
     replace H : (if t304 = true then ((Zah.f k2 (Za1 l0 x7_1) (Za1 l1 x8_2)).bind fun t307 => (if x6_2.length < 5864062014805 then (Zab.l1 k2 l0 l1 (x6_2 ++ [t307]) x7_1 (wrap64 (x8_2 + 1))) else (none))) else (some (([] : List (List Int)), 1))) = some (r1, r2) := H
     have A11 := Za.mk A110
     clear A110
     by_cases c12 : t304 = true
     rotate_left
     ·replace c12 := Bool.eq_false_iff.mpr c12
      subst c12
      have H1 : (some (([] : List (List Int)), 1)) = some (r1, r2) := by rw [if_neg (show ¬ (false = true) by decide)] at H; exact H
      clear H
      have H := H1
      clear H1
      simp only [Option.some.injEq, Prod.mk.injEq] at H
      obtain ⟨rfl, rfl⟩ := H
      try go_wp2
      have n0_ := Za.mk (Kd.Za8 HO_6.out)
      have n1_ := Za.mk (Zae HB.out)
      clear HO_6
      clear HB
      have HO_6 := n0_
      have HB := n1_
      clear n0_ n1_
      have p301 : 0 ≤ (x7_1 : Int) := of_decide_eq_true (by first | (with_reducible assumption) | assumption)
      have q301 : x7_1 < (l0.length : Int) := of_decide_eq_true (by first | (with_reducible assumption) | assumption)
      obtain ⟨ad301, A301_0, c301_0, e301, hx301_0, hl301_0, hi301_0⟩ := Zcr HR0.out x7_1 p301 q301
      have hw301_0 := hx301_0
      cases e301
      replace hx301_0 := (HB.out.cell (World.block_lt_of_cell? w _ hx301_0)).trans hx301_0
      have HR301_0 := Za.mk hi301_0
      have HC301_0 := Za.mk hl301_0
      clear hi301_0 hl301_0
      replace p301 := eq_true p301
      replace q301 := eq_true q301
      have p302 : 0 ≤ (x8_2 : Int) := of_decide_eq_true (by first | (with_reducible assumption) | assumption)
      have q302 : x8_2 < (l1.length : Int) := of_decide_eq_true (by first | (with_reducible assumption) | assumption)
      obtain ⟨ad302, A302_0, c302_0, e302, hx302_0, hl302_0, hi302_0⟩ := Zcr HR1.out x8_2 p302 q302
      have hw302_0 := hx302_0
      cases e302
      replace hx302_0 := (HB.out.cell (World.block_lt_of_cell? w _ hx302_0)).trans hx302_0
      have HR302_0 := Za.mk hi302_0
      have HC302_0 := Za.mk hl302_0
      clear hi302_0 hl302_0
      replace p302 := eq_true p302
      replace q302 := eq_true q302
      have p303 : 0 ≤ (x8_2 : Int) := of_decide_eq_true (by first | (with_reducible assumption) | assumption)
      have q303 : x8_2 < (l1.length : Int) := of_decide_eq_true (by first | (with_reducible assumption) | assumption)
      obtain ⟨ad303, A303_0, c303_0, e303, hx303_0, hl303_0, hi303_0⟩ := Zcr HR1.out x8_2 p303 q303
      have hw303_0 := hx303_0
      obtain rfl : ad302 = ad303 := (by injection e303)
      replace hx303_0 := (HB.out.cell (World.block_lt_of_cell? w _ hx303_0)).trans hx303_0
      have HR303_0 := Za.mk hi303_0
      have HC303_0 := Za.mk hl303_0
      clear hi303_0 hl303_0
      replace p303 := eq_true p303
      replace q303 := eq_true q303
      have ea_ := Option.some.inj (hx302_0.symm.trans hx303_0)
      injection ea_ with ea_ en_ ec_
      subst ea_
      subst ec_
      clear en_
      refine Zf3 (n := 19) (S := fun w' => w'.cell? (ad301.add (x7_1).toNat) = some (.slice A301_0 (Za1 l0 x7_1).length c301_0) ∧ w'.cell? (ad302.add (x8_2).toNat) = some (.slice A302_0 (Za1 l1 x8_2).length c302_0) ∧ w'.cell? (ad302.add (x8_2).toNat) = some (.slice A302_0 (Za1 l1 x8_2).length c302_0)) (ds := []) #[false, false, false, false, false, false, false, false, false, false, false, false, false, false, false, false, false, false, false] (by kernel_rfl) rfl rfl ⟨((HB.out.cell (World.block_lt_of_cell? w _ hw301_0)).trans hw301_0), ((HB.out.cell (World.block_lt_of_cell? w _ hw302_0)).trans hw302_0), ((HB.out.cell (World.block_lt_of_cell? w _ hw303_0)).trans hw303_0)⟩ (fun hHeld => ?_); refine Zc1 Zab.tab8 Zab.bits8 (fun HT_ HW_ => ?_)
      generalize wr.drew = w20 at HO_6 HB HR301_0 HR302_0 HR303_0 hx301_0 hx302_0 hx303_0 hHeld ⊢
      refine Zba (i := 0) (N := some 22) (v := ?_) (a' := ?_) #[true, false, false, false, false, false, false, false, false, false, false, false, false, false, false, false, false, false, false] rfl rfl (Za3 HT_.out (by kernel_rfl)) (fun _ _ _ h => h) (Or.inl ⟨by rfl, ?_⟩) ?_ ?_
      rotate_left
      ·intro w'
       go_simp
       with_reducible rfl
      rotate_left
      ·simp only [Act.put, List.setIfInBounds_toArray, List.set_cons_zero, List.set_cons_succ, Za4, Za5]
       rfl
      refine Zba (i := 1) (N := some 23) (v := ?_) (a' := ?_) #[true, true, false, false, false, false, false, false, false, false, false, false, false, false, false, false, false, false, false] rfl rfl (Za3 HT_.out (by kernel_rfl)) (fun _ _ _ h => h) (Or.inl ⟨by rfl, ?_⟩) ?_ ?_
      rotate_left
      ·intro w'
       go_simp
       with_reducible rfl
      rotate_left
      ·simp only [Act.put, List.setIfInBounds_toArray, List.set_cons_zero, List.set_cons_succ, Za4, Za5]
       rfl
      refine Zba (i := 2) (N := some 24) (v := ?_) (a' := ?_) #[true, true, true, false, false, false, false, false, false, false, false, false, false, false, false, false, false, false, false] rfl rfl (Za3 HT_.out (by kernel_rfl)) (fun _ _ _ h => h) (Or.inl ⟨by rfl, ?_⟩) ?_ ?_
      rotate_left
      ·intro w'
       go_simp
       with_reducible rfl
      rotate_left
      ·simp only [Act.put, List.setIfInBounds_toArray, List.set_cons_zero, List.set_cons_succ, Za4, Za5]
       rfl
      refine Zba (i := 5) (N := some 27) (v := ?_) (a' := ?_) #[true, true, true, false, false, true, false, false, false, false, false, false, false, false, false, false, false, false, false] rfl rfl (Za3 HT_.out (by kernel_rfl)) (fun _ _ _ h => h) (Or.inl ⟨by rfl, ?_⟩) ?_ ?_
      rotate_left
      ·intro w'
       go_simp
       with_reducible rfl
      rotate_left
      ·simp only [Act.put, List.setIfInBounds_toArray, List.set_cons_zero, List.set_cons_succ, Za4, Za5]
       rfl
      refine Zba (i := 6) (N := some 28) (v := ?_) (a' := ?_) #[true, true, true, false, false, true, true, false, false, false, false, false, false, false, false, false, false, false, false] rfl rfl (Za3 HT_.out (by kernel_rfl)) (fun _ _ _ h => h) (Or.inl ⟨by rfl, ?_⟩) ?_ ?_
      rotate_left
      ·intro w'
       go_simp
       with_reducible rfl
      rotate_left
      ·simp only [Act.put, List.setIfInBounds_toArray, List.set_cons_zero, List.set_cons_succ, Za4, Za5]
       rfl
      refine Zba (i := 7) (N := some 29) (v := ?_) (a' := ?_) #[true, true, true, false, false, true, true, true, false, false, false, false, false, false, false, false, false, false, false] rfl rfl (Za3 HT_.out (by kernel_rfl)) (fun _ _ _ h => h) (Or.inl ⟨by rfl, ?_⟩) ?_ ?_
      rotate_left
      ·intro w'
       go_simp
       with_reducible rfl
      rotate_left
      ·simp only [Act.put, List.setIfInBounds_toArray, List.set_cons_zero, List.set_cons_succ, Za4, Za5]
       rfl
      refine Zdi (i := 3) (N := some 25) (v := ?_) (a' := ?_) #[true, true, true, true, false, true, true, true, false, false, false, false, false, false, false, false, false, false, false] rfl rfl (Zbt HT_.out HW_.out (by kernel_rfl)) (fun _ _ _ h => h) (Or.inl ⟨by rfl, ?_⟩) hHeld ?_ ?_
      rotate_left
      ·rintro w' ⟨s0, s1, s2⟩
       go_simp
       with_reducible rfl
      rotate_left
      ·simp only [Act.put, List.setIfInBounds_toArray, List.set_cons_zero, List.set_cons_succ, Za4, Za5]
       rfl
      refine Zba (i := 4) (N := some 26) (v := ?_) (a' := ?_) #[true, true, true, true, true, true, true, true, false, false, false, false, false, false, false, false, false, false, false] rfl rfl (Za3 HT_.out (by kernel_rfl)) (fun _ _ _ h => h) (Or.inl ⟨by rfl, ?_⟩) ?_ ?_
      rotate_left
      ·intro w'
       go_simp
       with_reducible rfl
      rotate_left
      ·simp only [Act.put, List.setIfInBounds_toArray, List.set_cons_zero, List.set_cons_succ, Za4, Za5]
       rfl
      refine Zdi (i := 8) (N := some 30) (v := ?_) (a' := ?_) #[true, true, true, true, true, true, true, true, true, false, false, false, false, false, false, false, false, false, false] rfl rfl (Zbt HT_.out HW_.out (by kernel_rfl)) (fun _ _ _ h => h) (Or.inl ⟨by rfl, ?_⟩) hHeld ?_ ?_
      rotate_left
      ·rintro w' ⟨s0, s1, s2⟩
       go_simp
       with_reducible rfl
      rotate_left
      ·simp only [Act.put, List.setIfInBounds_toArray, List.set_cons_zero, List.set_cons_succ, Za4, Za5]
       rfl
      refine Zba (i := 9) (N := some 31) (v := ?_) (a' := ?_) #[true, true, true, true, true, true, true, true, true, true, false, false, false, false, false, false, false, false, false] rfl rfl (Za3 HT_.out (by kernel_rfl)) (fun _ _ _ h => h) (Or.inl ⟨by rfl, ?_⟩) ?_ ?_
      rotate_left
      ·intro w'
       go_simp
       with_reducible rfl
      rotate_left
      ·simp only [Act.put, List.setIfInBounds_toArray, List.set_cons_zero, List.set_cons_succ, Za4, Za5]
       rfl
      refine Zba (i := 10) (N := some 32) (v := ?_) (a' := ?_) #[true, true, true, true, true, true, true, true, true, true, true, false, false, false, false, false, false, false, false] rfl rfl (Za3 HT_.out (by kernel_rfl)) (fun _ _ _ h => h) (Or.inl ⟨by rfl, ?_⟩) ?_ ?_
      rotate_left
      ·intro w'
       go_simp
       with_reducible rfl
      rotate_left
      ·simp only [Act.put, List.setIfInBounds_toArray, List.set_cons_zero, List.set_cons_succ, Za4, Za5]
       rfl
      refine Zba (i := 11) (N := some 33) (v := ?_) (a' := ?_) #[true, true, true, true, true, true, true, true, true, true, true, true, false, false, false, false, false, false, false] rfl rfl (Za3 HT_.out (by kernel_rfl)) (fun _ _ _ h => h) (Or.inl ⟨by rfl, ?_⟩) ?_ ?_
      rotate_left
      ·intro w'
       go_simp
       with_reducible rfl
      rotate_left
      ·simp only [Act.put, List.setIfInBounds_toArray, List.set_cons_zero, List.set_cons_succ, Za4, Za5]
       rfl
      refine Zba (i := 12) (N := some 34) (v := ?_) (a' := ?_) #[true, true, true, true, true, true, true, true, true, true, true, true, true, false, false, false, false, false, false] rfl rfl (Za3 HT_.out (by kernel_rfl)) (fun _ _ _ h => h) (Or.inl ⟨by rfl, ?_⟩) ?_ ?_
      rotate_left
      ·intro w'
       go_simp
       with_reducible rfl
      rotate_left
      ·simp only [Act.put, List.setIfInBounds_toArray, List.set_cons_zero, List.set_cons_succ, Za4, Za5]
       rfl
      refine Zba (i := 13) (N := some 35) (v := ?_) (a' := ?_) #[true, true, true, true, true, true, true, true, true, true, true, true, true, true, false, false, false, false, false] rfl rfl (Za3 HT_.out (by kernel_rfl)) (fun _ _ _ h => h) (Or.inl ⟨by rfl, ?_⟩) ?_ ?_
      rotate_left
      ·intro w'
       go_simp
       with_reducible rfl
      rotate_left
      ·simp only [Act.put, List.setIfInBounds_toArray, List.set_cons_zero, List.set_cons_succ, Za4, Za5]
       rfl
      refine Zba (i := 14) (N := some 36) (v := ?_) (a' := ?_) #[true, true, true, true, true, true, true, true, true, true, true, true, true, true, true, false, false, false, false] rfl rfl (Za3 HT_.out (by kernel_rfl)) (fun _ _ _ h => h) (Or.inl ⟨by rfl, ?_⟩) ?_ ?_
      rotate_left
      ·intro w'
       go_simp
       with_reducible rfl
      rotate_left
      ·simp only [Act.put, List.setIfInBounds_toArray, List.set_cons_zero, List.set_cons_succ, Za4, Za5]
       rfl
      refine Zdi (i := 15) (N := some 37) (v := ?_) (a' := ?_) #[true, true, true, true, true, true, true, true, true, true, true, true, true, true, true, true, false, false, false] rfl rfl (Zbt HT_.out HW_.out (by kernel_rfl)) (fun _ _ _ h => h) (Or.inl ⟨by rfl, ?_⟩) hHeld ?_ ?_
      rotate_left
      ·rintro w' ⟨s0, s1, s2⟩
       go_simp
       with_reducible rfl
      rotate_left
      ·simp only [Act.put, List.setIfInBounds_toArray, List.set_cons_zero, List.set_cons_succ, Za4, Za5]
       rfl
      refine one_ (i := 16) (N := some 38) #[true, true, true, true, true, true, true, true, true, true, true, true, true, true, true, true, true, false, false] rfl rfl (Zdn HT_.out (by kernel_rfl)) (by decide) (fun K hK => ?_)
      refine goes_ Try.func15 (by kernel_rfl) rfl #[.slice A302_0 (Za1 l1 x8_2).length c302_0] (by rfl) rfl rfl (by (try simp only [List.map_toArray, List.map_cons, List.map_nil]); first | done | rfl | (simp only [List.length_drop, List.length_take]; rfl)) ?_
      with_reducible refine (Zak.calls k2 _ _ (Za1 l1 x8_2) false _ ?side1 ?side2 A11.out).mono ?_
      (case side1 => repeat (first | exact (Kd.Zar HR303_0.out HB.out) | (with_reducible refine Kd.Za2 ?_ _) | (with_reducible refine Kd.C_drewN ?_ _) | (with_reducible refine Kd.C_drew ?_)))
      (case side2 => exact HC303_0.out)
      rintro e w' ⟨rfl, ⟨nd, rfl⟩⟩
      refine ⟨_, rfl, ?_⟩
      refine hK.out _ _ ⟨((HB.out.cell (World.block_lt_of_cell? w _ hw301_0)).trans hw301_0), ((HB.out.cell (World.block_lt_of_cell? w _ hw302_0)).trans hw302_0), ((HB.out.cell (World.block_lt_of_cell? w _ hw303_0)).trans hw303_0)⟩ (fun hHeld => ?_)
      clear hK K
      refine norm_ (a' := ?_) ?_ ?_
      rotate_left
      ·show Act.put _ (some 38) _ = _
       simp only [Act.put, List.setIfInBounds_toArray, List.set_cons_zero, List.set_cons_succ, Za4, Za5]
       rfl
      refine Zba (i := 17) (N := some 39) (v := ?_) (a' := ?_) #[true, true, true, true, true, true, true, true, true, true, true, true, true, true, true, true, true, true, false] rfl rfl (Za3 HT_.out (by kernel_rfl)) (fun _ _ _ h => h) (Or.inl ⟨by rfl, ?_⟩) ?_ ?_
      rotate_left
      ·intro w'
       go_simp
       with_reducible rfl
      rotate_left
      ·simp only [Act.put, List.setIfInBounds_toArray, List.set_cons_zero, List.set_cons_succ, Za4, Za5]
       rfl
      refine Zba (i := 18) (N := some 40) (v := ?_) (a' := ?_) #[true, true, true, true, true, true, true, true, true, true, true, true, true, true, true, true, true, true, true] rfl rfl (Za3 HT_.out (by kernel_rfl)) (fun _ _ _ h => h) (Or.inl ⟨by rfl, ?_⟩) ?_ ?_
      rotate_left
      ·intro w'
       go_simp
       with_reducible rfl
      rotate_left
      ·simp only [Act.put, List.setIfInBounds_toArray, List.set_cons_zero, List.set_cons_succ, Za4, Za5]
       rfl
      refine done_ (Zee HT_.out (by kernel_rfl)) ?_
      try go_wp2
      go_ret2
      exact ⟨_, by first | rfl | (simp [Zaz, Za0] <;> rfl) | (simp [*, Zaz, Za0] <;> rfl), by first | exact Kd.Zdq _ _ _ _ _ | exact Kd.Zfo _ _ _ _ _ | exact Kd.V_nil _ _ _ _ _ | exact Kd.Q_nil _ _ _ _ _ | exact Kd.Zdy _ _ _ _ _, by repeat (first | (with_reducible first | exact HB.out | apply Zad | apply Zaa | apply Zae) | exact HB.out)⟩
     subst c12
     have H1 : ((Zah.f k2 (Za1 l0 x7_1) (Za1 l1 x8_2)).bind fun t307 => (if x6_2.length < 5864062014805 then (Zab.l1 k2 l0 l1 (x6_2 ++ [t307]) x7_1 (wrap64 (x8_2 + 1))) else (none))) = some (r1, r2) := by rw [if_pos rfl] at H; exact H
     clear H
     have H := H1
     clear H1
     replace H := Option.bind_eq_some_iff.mp H
     obtain ⟨t307, A130, H⟩ := H
     replace H : (if x6_2.length < 5864062014805 then (Zab.l1 k2 l0 l1 (x6_2 ++ [t307]) x7_1 (wrap64 (x8_2 + 1))) else (none)) = some (r1, r2) := H
     have A13 := Za.mk A130
     clear A130
     by_cases c14 : x6_2.length < 5864062014805
     rotate_left
     ·rw [if_neg c14] at H
      exact absurd H (by simp)
     rw [if_pos c14] at H
     have LMc14 := Za.mk c14
     clear c14
     obtain ⟨y310, hy310⟩ : ∃ y_ : List (List Int), y_ = (x6_2 ++ [t307]) := ⟨_, rfl⟩
     replace H : (Zab.l1 k2 l0 l1 y310 x7_1 (wrap64 (x8_2 + 1))) = some (r1, r2) := by first | (rw [hy310]; with_reducible exact H) | (have H2_ := (Option.bind_some _ _).symm.trans H; rw [hy310]; with_reducible exact H2_) | (have H2_ := (Option.bind_some _ _).symm.trans H; with_reducible exact H2_) | with_reducible exact H | (rw [hy310]; exact H) | exact H
     have Ny310 := Za.mk hy310
     clear hy310
     have H' := Za.mk H
     clear H
     try go_wp2
     have n0_ := Za.mk (Kd.Za8 HO_6.out)
     have n1_ := Za.mk (Zae HB.out)
     clear HO_6
     clear HB
     have HO_6 := n0_
     have HB := n1_
     clear n0_ n1_
     have p301 : 0 ≤ (x7_1 : Int) := of_decide_eq_true (by first | (with_reducible assumption) | assumption)
     have q301 : x7_1 < (l0.length : Int) := of_decide_eq_true (by first | (with_reducible assumption) | assumption)
     obtain ⟨ad301, A301_0, c301_0, e301, hx301_0, hl301_0, hi301_0⟩ := Zcr HR0.out x7_1 p301 q301
     have hw301_0 := hx301_0
     cases e301
     replace hx301_0 := (HB.out.cell (World.block_lt_of_cell? w _ hx301_0)).trans hx301_0
     have HR301_0 := Za.mk hi301_0
     have HC301_0 := Za.mk hl301_0
     clear hi301_0 hl301_0
     replace p301 := eq_true p301
     replace q301 := eq_true q301
     have p302 : 0 ≤ (x8_2 : Int) := of_decide_eq_true (by first | (with_reducible assumption) | assumption)
     have q302 : x8_2 < (l1.length : Int) := of_decide_eq_true (by first | (with_reducible assumption) | assumption)
     obtain ⟨ad302, A302_0, c302_0, e302, hx302_0, hl302_0, hi302_0⟩ := Zcr HR1.out x8_2 p302 q302
     have hw302_0 := hx302_0
     cases e302
     replace hx302_0 := (HB.out.cell (World.block_lt_of_cell? w _ hx302_0)).trans hx302_0
     have HR302_0 := Za.mk hi302_0
     have HC302_0 := Za.mk hl302_0
     clear hi302_0 hl302_0
     replace p302 := eq_true p302
     replace q302 := eq_true q302
     have p303 : 0 ≤ (x8_2 : Int) := of_decide_eq_true (by first | (with_reducible assumption) | assumption)
     have q303 : x8_2 < (l1.length : Int) := of_decide_eq_true (by first | (with_reducible assumption) | assumption)
     obtain ⟨ad303, A303_0, c303_0, e303, hx303_0, hl303_0, hi303_0⟩ := Zcr HR1.out x8_2 p303 q303
     have hw303_0 := hx303_0
     obtain rfl : ad302 = ad303 := (by injection e303)
     replace hx303_0 := (HB.out.cell (World.block_lt_of_cell? w _ hx303_0)).trans hx303_0
     have HR303_0 := Za.mk hi303_0
     have HC303_0 := Za.mk hl303_0
     clear hi303_0 hl303_0
     replace p303 := eq_true p303
     replace q303 := eq_true q303
     have ea_ := Option.some.inj (hx302_0.symm.trans hx303_0)
     injection ea_ with ea_ en_ ec_
     subst ea_
     subst ec_
     clear en_
     refine Zf3 (n := 19) (S := fun w' => w'.cell? (ad301.add (x7_1).toNat) = some (.slice A301_0 (Za1 l0 x7_1).length c301_0) ∧ w'.cell? (ad302.add (x8_2).toNat) = some (.slice A302_0 (Za1 l1 x8_2).length c302_0) ∧ w'.cell? (ad302.add (x8_2).toNat) = some (.slice A302_0 (Za1 l1 x8_2).length c302_0)) (ds := []) #[false, false, false, false, false, false, false, false, false, false, false, false, false, false, false, false, false, false, false] (by kernel_rfl) rfl rfl ⟨((HB.out.cell (World.block_lt_of_cell? w _ hw301_0)).trans hw301_0), ((HB.out.cell (World.block_lt_of_cell? w _ hw302_0)).trans hw302_0), ((HB.out.cell (World.block_lt_of_cell? w _ hw303_0)).trans hw303_0)⟩ (fun hHeld => ?_); refine Zc1 Zab.tab8 Zab.bits8 (fun HT_ HW_ => ?_)
     generalize wr.drew = w15 at HO_6 HB HR301_0 HR302_0 HR303_0 hx301_0 hx302_0 hx303_0 hHeld ⊢
     refine Zba (i := 0) (N := some 22) (v := ?_) (a' := ?_) #[true, false, false, false, false, false, false, false, false, false, false, false, false, false, false, false, false, false, false] rfl rfl (Za3 HT_.out (by kernel_rfl)) (fun _ _ _ h => h) (Or.inl ⟨by rfl, ?_⟩) ?_ ?_
     rotate_left
     ·intro w'
      go_simp
      with_reducible rfl
     rotate_left
     ·simp only [Act.put, List.setIfInBounds_toArray, List.set_cons_zero, List.set_cons_succ, Za4, Za5]
      rfl
     refine Zba (i := 1) (N := some 23) (v := ?_) (a' := ?_) #[true, true, false, false, false, false, false, false, false, false, false, false, false, false, false, false, false, false, false] rfl rfl (Za3 HT_.out (by kernel_rfl)) (fun _ _ _ h => h) (Or.inl ⟨by rfl, ?_⟩) ?_ ?_
     rotate_left
     ·intro w'
      go_simp
      with_reducible rfl
     rotate_left
     ·simp only [Act.put, List.setIfInBounds_toArray, List.set_cons_zero, List.set_cons_succ, Za4, Za5]
      rfl
     refine Zba (i := 2) (N := some 24) (v := ?_) (a' := ?_) #[true, true, true, false, false, false, false, false, false, false, false, false, false, false, false, false, false, false, false] rfl rfl (Za3 HT_.out (by kernel_rfl)) (fun _ _ _ h => h) (Or.inl ⟨by rfl, ?_⟩) ?_ ?_
     rotate_left
     ·intro w'
      go_simp
      with_reducible rfl
     rotate_left
     ·simp only [Act.put, List.setIfInBounds_toArray, List.set_cons_zero, List.set_cons_succ, Za4, Za5]
      rfl
     refine Zba (i := 5) (N := some 27) (v := ?_) (a' := ?_) #[true, true, true, false, false, true, false, false, false, false, false, false, false, false, false, false, false, false, false] rfl rfl (Za3 HT_.out (by kernel_rfl)) (fun _ _ _ h => h) (Or.inl ⟨by rfl, ?_⟩) ?_ ?_
     rotate_left
     ·intro w'
      go_simp
      with_reducible rfl
     rotate_left
     ·simp only [Act.put, List.setIfInBounds_toArray, List.set_cons_zero, List.set_cons_succ, Za4, Za5]
      rfl
     refine Zba (i := 6) (N := some 28) (v := ?_) (a' := ?_) #[true, true, true, false, false, true, true, false, false, false, false, false, false, false, false, false, false, false, false] rfl rfl (Za3 HT_.out (by kernel_rfl)) (fun _ _ _ h => h) (Or.inl ⟨by rfl, ?_⟩) ?_ ?_
     rotate_left
     ·intro w'
      go_simp
      with_reducible rfl
     rotate_left
     ·simp only [Act.put, List.setIfInBounds_toArray, List.set_cons_zero, List.set_cons_succ, Za4, Za5]
      rfl
     refine Zba (i := 7) (N := some 29) (v := ?_) (a' := ?_) #[true, true, true, false, false, true, true, true, false, false, false, false, false, false, false, false, false, false, false] rfl rfl (Za3 HT_.out (by kernel_rfl)) (fun _ _ _ h => h) (Or.inl ⟨by rfl, ?_⟩) ?_ ?_
     rotate_left
     ·intro w'
      go_simp
      with_reducible rfl
     rotate_left
     ·simp only [Act.put, List.setIfInBounds_toArray, List.set_cons_zero, List.set_cons_succ, Za4, Za5]
      rfl
     refine Zdi (i := 3) (N := some 25) (v := ?_) (a' := ?_) #[true, true, true, true, false, true, true, true, false, false, false, false, false, false, false, false, false, false, false] rfl rfl (Zbt HT_.out HW_.out (by kernel_rfl)) (fun _ _ _ h => h) (Or.inl ⟨by rfl, ?_⟩) hHeld ?_ ?_
     rotate_left
     ·rintro w' ⟨s0, s1, s2⟩
      go_simp
      with_reducible rfl
     rotate_left
     ·simp only [Act.put, List.setIfInBounds_toArray, List.set_cons_zero, List.set_cons_succ, Za4, Za5]
      rfl
     refine Zba (i := 4) (N := some 26) (v := ?_) (a' := ?_) #[true, true, true, true, true, true, true, true, false, false, false, false, false, false, false, false, false, false, false] rfl rfl (Za3 HT_.out (by kernel_rfl)) (fun _ _ _ h => h) (Or.inl ⟨by rfl, ?_⟩) ?_ ?_
     rotate_left
     ·intro w'
      go_simp
      with_reducible rfl
     rotate_left
     ·simp only [Act.put, List.setIfInBounds_toArray, List.set_cons_zero, List.set_cons_succ, Za4, Za5]
      rfl
     refine Zdi (i := 8) (N := some 30) (v := ?_) (a' := ?_) #[true, true, true, true, true, true, true, true, true, false, false, false, false, false, false, false, false, false, false] rfl rfl (Zbt HT_.out HW_.out (by kernel_rfl)) (fun _ _ _ h => h) (Or.inl ⟨by rfl, ?_⟩) hHeld ?_ ?_
     rotate_left
     ·rintro w' ⟨s0, s1, s2⟩
      go_simp
      with_reducible rfl
     rotate_left
     ·simp only [Act.put, List.setIfInBounds_toArray, List.set_cons_zero, List.set_cons_succ, Za4, Za5]
      rfl
     refine Zba (i := 9) (N := some 31) (v := ?_) (a' := ?_) #[true, true, true, true, true, true, true, true, true, true, false, false, false, false, false, false, false, false, false] rfl rfl (Za3 HT_.out (by kernel_rfl)) (fun _ _ _ h => h) (Or.inl ⟨by rfl, ?_⟩) ?_ ?_
     rotate_left
     ·intro w'
      go_simp
      with_reducible rfl
     rotate_left
     ·simp only [Act.put, List.setIfInBounds_toArray, List.set_cons_zero, List.set_cons_succ, Za4, Za5]
      rfl
     refine Zba (i := 10) (N := some 32) (v := ?_) (a' := ?_) #[true, true, true, true, true, true, true, true, true, true, true, false, false, false, false, false, false, false, false] rfl rfl (Za3 HT_.out (by kernel_rfl)) (fun _ _ _ h => h) (Or.inl ⟨by rfl, ?_⟩) ?_ ?_
     rotate_left
     ·intro w'
      go_simp
      with_reducible rfl
     rotate_left
     ·simp only [Act.put, List.setIfInBounds_toArray, List.set_cons_zero, List.set_cons_succ, Za4, Za5]
      rfl
     refine Zba (i := 11) (N := some 33) (v := ?_) (a' := ?_) #[true, true, true, true, true, true, true, true, true, true, true, true, false, false, false, false, false, false, false] rfl rfl (Za3 HT_.out (by kernel_rfl)) (fun _ _ _ h => h) (Or.inl ⟨by rfl, ?_⟩) ?_ ?_
     rotate_left
     ·intro w'
      go_simp
      with_reducible rfl
     rotate_left
     ·simp only [Act.put, List.setIfInBounds_toArray, List.set_cons_zero, List.set_cons_succ, Za4, Za5]
      rfl
     refine Zba (i := 12) (N := some 34) (v := ?_) (a' := ?_) #[true, true, true, true, true, true, true, true, true, true, true, true, true, false, false, false, false, false, false] rfl rfl (Za3 HT_.out (by kernel_rfl)) (fun _ _ _ h => h) (Or.inl ⟨by rfl, ?_⟩) ?_ ?_
     rotate_left
     ·intro w'
      go_simp
      with_reducible rfl
     rotate_left
     ·simp only [Act.put, List.setIfInBounds_toArray, List.set_cons_zero, List.set_cons_succ, Za4, Za5]
      rfl
     refine Zba (i := 13) (N := some 35) (v := ?_) (a' := ?_) #[true, true, true, true, true, true, true, true, true, true, true, true, true, true, false, false, false, false, false] rfl rfl (Za3 HT_.out (by kernel_rfl)) (fun _ _ _ h => h) (Or.inl ⟨by rfl, ?_⟩) ?_ ?_
     rotate_left
     ·intro w'
      go_simp
      with_reducible rfl
     rotate_left
     ·simp only [Act.put, List.setIfInBounds_toArray, List.set_cons_zero, List.set_cons_succ, Za4, Za5]
      rfl
     refine Zba (i := 14) (N := some 36) (v := ?_) (a' := ?_) #[true, true, true, true, true, true, true, true, true, true, true, true, true, true, true, false, false, false, false] rfl rfl (Za3 HT_.out (by kernel_rfl)) (fun _ _ _ h => h) (Or.inl ⟨by rfl, ?_⟩) ?_ ?_
     rotate_left
     ·intro w'
      go_simp
      with_reducible rfl
     rotate_left
     ·simp only [Act.put, List.setIfInBounds_toArray, List.set_cons_zero, List.set_cons_succ, Za4, Za5]
      rfl
     refine Zdi (i := 15) (N := some 37) (v := ?_) (a' := ?_) #[true, true, true, true, true, true, true, true, true, true, true, true, true, true, true, true, false, false, false] rfl rfl (Zbt HT_.out HW_.out (by kernel_rfl)) (fun _ _ _ h => h) (Or.inl ⟨by rfl, ?_⟩) hHeld ?_ ?_
     rotate_left
     ·rintro w' ⟨s0, s1, s2⟩
      go_simp
      with_reducible rfl
     rotate_left
     ·simp only [Act.put, List.setIfInBounds_toArray, List.set_cons_zero, List.set_cons_succ, Za4, Za5]
      rfl
     refine one_ (i := 16) (N := some 38) #[true, true, true, true, true, true, true, true, true, true, true, true, true, true, true, true, true, false, false] rfl rfl (Zdn HT_.out (by kernel_rfl)) (by decide) (fun K hK => ?_)
     refine goes_ Try.func15 (by kernel_rfl) rfl #[.slice A302_0 (Za1 l1 x8_2).length c302_0] (by rfl) rfl rfl (by (try simp only [List.map_toArray, List.map_cons, List.map_nil]); first | done | rfl | (simp only [List.length_drop, List.length_take]; rfl)) ?_
     with_reducible refine (Zak.calls k2 _ _ (Za1 l1 x8_2) true _ ?side1 ?side2 A11.out).mono ?_
     (case side1 => repeat (first | exact (Kd.Zar HR303_0.out HB.out) | (with_reducible refine Kd.Za2 ?_ _) | (with_reducible refine Kd.C_drewN ?_ _) | (with_reducible refine Kd.C_drew ?_)))
     (case side2 => exact HC303_0.out)
     rintro e w' ⟨rfl, ⟨nd, rfl⟩⟩
     refine ⟨_, rfl, ?_⟩
     refine hK.out _ _ ⟨((HB.out.cell (World.block_lt_of_cell? w _ hw301_0)).trans hw301_0), ((HB.out.cell (World.block_lt_of_cell? w _ hw302_0)).trans hw302_0), ((HB.out.cell (World.block_lt_of_cell? w _ hw303_0)).trans hw303_0)⟩ (fun hHeld => ?_)
     clear hK K
     refine norm_ (a' := ?_) ?_ ?_
     rotate_left
     ·show Act.put _ (some 38) _ = _
      simp only [Act.put, List.setIfInBounds_toArray, List.set_cons_zero, List.set_cons_succ, Za4, Za5]
      rfl
     refine Zba (i := 17) (N := some 39) (v := ?_) (a' := ?_) #[true, true, true, true, true, true, true, true, true, true, true, true, true, true, true, true, true, true, false] rfl rfl (Za3 HT_.out (by kernel_rfl)) (fun _ _ _ h => h) (Or.inl ⟨by rfl, ?_⟩) ?_ ?_
     rotate_left
     ·intro w'
      go_simp
      with_reducible rfl
     rotate_left
     ·simp only [Act.put, List.setIfInBounds_toArray, List.set_cons_zero, List.set_cons_succ, Za4, Za5]
      rfl
     refine Zba (i := 18) (N := some 40) (v := ?_) (a' := ?_) #[true, true, true, true, true, true, true, true, true, true, true, true, true, true, true, true, true, true, true] rfl rfl (Za3 HT_.out (by kernel_rfl)) (fun _ _ _ h => h) (Or.inl ⟨by rfl, ?_⟩) ?_ ?_
     rotate_left
     ·intro w'
      go_simp
      with_reducible rfl
     rotate_left
     ·simp only [Act.put, List.setIfInBounds_toArray, List.set_cons_zero, List.set_cons_succ, Za4, Za5]
      rfl
     refine done_ (Zee HT_.out (by kernel_rfl)) ?_
     try go_wp2
     (try (rw [Zfw w15]; generalize hq_ : World.drewN w15 _ = w15; have n0_ : Za (Kd.N (Kd.slice 3 (Kd.int .i64)) 22 w15 w.heap.size (fun k_ => (w.heap.size ≤ k_)) u6 x6_2) := ⟨by rw [← hq_]; exact (by (with_reducible repeat (first | apply Kd.N_alloc | apply Kd.Za6 | apply Kd.Za8)); exact HO_6.out)⟩; have n1_ : Za (Below w.heap.size w w15) := ⟨by rw [← hq_]; exact (by repeat (first | (with_reducible first | exact HB.out | apply Zad | apply Zaa | apply Zae) | exact HB.out))⟩; clear HO_6 HB hq_; have HO_6 := n0_; have HB := n1_; clear n0_ n1_))
     have n0_ := Za.mk (Kd.Za8 HO_6.out)
     have n1_ := Za.mk (Zae HB.out)
     clear HO_6
     clear HB
     have HO_6 := n0_
     have HB := n1_
     clear n0_ n1_
     have p305 : 0 ≤ (x7_1 : Int) := of_decide_eq_true (by first | (with_reducible assumption) | assumption)
     have q305 : x7_1 < (l0.length : Int) := of_decide_eq_true (by first | (with_reducible assumption) | assumption)
     obtain ⟨ad305, A305_0, c305_0, e305, hx305_0, hl305_0, hi305_0⟩ := Zcr HR0.out x7_1 p305 q305
     have hw305_0 := hx305_0
     obtain rfl : ad301 = ad305 := (by injection e305)
     replace hx305_0 := (HB.out.cell (World.block_lt_of_cell? w _ hx305_0)).trans hx305_0
     have HR305_0 := Za.mk hi305_0
     have HC305_0 := Za.mk hl305_0
     clear hi305_0 hl305_0
     replace p305 := eq_true p305
     replace q305 := eq_true q305
     have p306 : 0 ≤ (x8_2 : Int) := of_decide_eq_true (by first | (with_reducible assumption) | assumption)
     have q306 : x8_2 < (l1.length : Int) := of_decide_eq_true (by first | (with_reducible assumption) | assumption)
     obtain ⟨ad306, A306_0, c306_0, e306, hx306_0, hl306_0, hi306_0⟩ := Zcr HR1.out x8_2 p306 q306
     have hw306_0 := hx306_0
     obtain rfl : ad302 = ad306 := (by injection e306)
     replace hx306_0 := (HB.out.cell (World.block_lt_of_cell? w _ hx306_0)).trans hx306_0
     have HR306_0 := Za.mk hi306_0
     have HC306_0 := Za.mk hl306_0
     clear hi306_0 hl306_0
     replace p306 := eq_true p306
     replace q306 := eq_true q306
     refine Zf3 (n := 13) (S := fun w' => w'.cell? (ad301.add (x7_1).toNat) = some (.slice A305_0 (Za1 l0 x7_1).length c305_0) ∧ w'.cell? (ad302.add (x8_2).toNat) = some (.slice A306_0 (Za1 l1 x8_2).length c306_0)) (ds := []) #[false, false, false, false, false, false, false, false, false, false, false, false, false] (by kernel_rfl) rfl rfl ⟨((HB.out.cell (World.block_lt_of_cell? w _ hw305_0)).trans hw305_0), ((HB.out.cell (World.block_lt_of_cell? w _ hw306_0)).trans hw306_0)⟩ (fun hHeld => ?_); refine Zc1 Zab.tab10 Zab.bits10 (fun HT_ HW_ => ?_)
     generalize w15.drew = w16 at HO_6 HB HR305_0 HR306_0 hx305_0 hx306_0 hHeld ⊢
     refine Zba (i := 0) (N := some 41) (v := ?_) (a' := ?_) #[true, false, false, false, false, false, false, false, false, false, false, false, false] rfl rfl (Za3 HT_.out (by kernel_rfl)) (fun _ _ _ h => h) (Or.inl ⟨by rfl, ?_⟩) ?_ ?_
     rotate_left
     ·intro w'
      go_simp
      with_reducible rfl
     rotate_left
     ·simp only [Act.put, List.setIfInBounds_toArray, List.set_cons_zero, List.set_cons_succ, Za4, Za5]
      rfl
     refine Zba (i := 1) (N := some 42) (v := ?_) (a' := ?_) #[true, true, false, false, false, false, false, false, false, false, false, false, false] rfl rfl (Za3 HT_.out (by kernel_rfl)) (fun _ _ _ h => h) (Or.inl ⟨by rfl, ?_⟩) ?_ ?_
     rotate_left
     ·intro w'
      go_simp
      with_reducible rfl
     rotate_left
     ·simp only [Act.put, List.setIfInBounds_toArray, List.set_cons_zero, List.set_cons_succ, Za4, Za5]
      rfl
     refine Zba (i := 2) (N := some 43) (v := ?_) (a' := ?_) #[true, true, true, false, false, false, false, false, false, false, false, false, false] rfl rfl (Za3 HT_.out (by kernel_rfl)) (fun _ _ _ h => h) (Or.inl ⟨by rfl, ?_⟩) ?_ ?_
     rotate_left
     ·intro w'
      go_simp
      with_reducible rfl
     rotate_left
     ·simp only [Act.put, List.setIfInBounds_toArray, List.set_cons_zero, List.set_cons_succ, Za4, Za5]
      rfl
     refine Zba (i := 3) (N := some 44) (v := ?_) (a' := ?_) #[true, true, true, true, false, false, false, false, false, false, false, false, false] rfl rfl (Za3 HT_.out (by kernel_rfl)) (fun _ _ _ h => h) (Or.inl ⟨by rfl, ?_⟩) ?_ ?_
     rotate_left
     ·intro w'
      go_simp
      with_reducible rfl
     rotate_left
     ·simp only [Act.put, List.setIfInBounds_toArray, List.set_cons_zero, List.set_cons_succ, Za4, Za5]
      rfl
     refine Zba (i := 5) (N := some 46) (v := ?_) (a' := ?_) #[true, true, true, true, false, true, false, false, false, false, false, false, false] rfl rfl (Za3 HT_.out (by kernel_rfl)) (fun _ _ _ h => h) (Or.inl ⟨by rfl, ?_⟩) ?_ ?_
     rotate_left
     ·intro w'
      go_simp
      with_reducible rfl
     rotate_left
     ·simp only [Act.put, List.setIfInBounds_toArray, List.set_cons_zero, List.set_cons_succ, Za4, Za5]
      rfl
     refine Zba (i := 6) (N := some 47) (v := ?_) (a' := ?_) #[true, true, true, true, false, true, true, false, false, false, false, false, false] rfl rfl (Za3 HT_.out (by kernel_rfl)) (fun _ _ _ h => h) (Or.inl ⟨by rfl, ?_⟩) ?_ ?_
     rotate_left
     ·intro w'
      go_simp
      with_reducible rfl
     rotate_left
     ·simp only [Act.put, List.setIfInBounds_toArray, List.set_cons_zero, List.set_cons_succ, Za4, Za5]
      rfl
     refine Zba (i := 7) (N := some 48) (v := ?_) (a' := ?_) #[true, true, true, true, false, true, true, true, false, false, false, false, false] rfl rfl (Za3 HT_.out (by kernel_rfl)) (fun _ _ _ h => h) (Or.inl ⟨by rfl, ?_⟩) ?_ ?_
     rotate_left
     ·intro w'
      go_simp
      with_reducible rfl
     rotate_left
     ·simp only [Act.put, List.setIfInBounds_toArray, List.set_cons_zero, List.set_cons_succ, Za4, Za5]
      rfl
     refine Zdi (i := 4) (N := some 45) (v := ?_) (a' := ?_) #[true, true, true, true, true, true, true, true, false, false, false, false, false] rfl rfl (Zbt HT_.out HW_.out (by kernel_rfl)) (fun _ _ _ h => h) (Or.inl ⟨by rfl, ?_⟩) hHeld ?_ ?_
     rotate_left
     ·rintro w' ⟨s0, s1⟩
      go_simp
      with_reducible rfl
     rotate_left
     ·simp only [Act.put, List.setIfInBounds_toArray, List.set_cons_zero, List.set_cons_succ, Za4, Za5]
      rfl
     refine Zdi (i := 8) (N := some 49) (v := ?_) (a' := ?_) #[true, true, true, true, true, true, true, true, true, false, false, false, false] rfl rfl (Zbt HT_.out HW_.out (by kernel_rfl)) (fun _ _ _ h => h) (Or.inl ⟨by rfl, ?_⟩) hHeld ?_ ?_
     rotate_left
     ·rintro w' ⟨s0, s1⟩
      go_simp
      with_reducible rfl
     rotate_left
     ·simp only [Act.put, List.setIfInBounds_toArray, List.set_cons_zero, List.set_cons_succ, Za4, Za5]
      rfl
     refine one_ (i := 9) (N := some 50) #[true, true, true, true, true, true, true, true, true, true, false, false, false] rfl rfl (Zdn HT_.out (by kernel_rfl)) (by decide) (fun K hK => ?_)
     refine goes_ Try.func17 (by kernel_rfl) rfl #[.slice A305_0 (Za1 l0 x7_1).length c305_0, .slice A306_0 (Za1 l1 x8_2).length c306_0] (by rfl) rfl rfl (by (try simp only [List.map_toArray, List.map_cons, List.map_nil]); first | done | rfl | (simp only [List.length_drop, List.length_take]; rfl)) ?_
     with_reducible refine (Zah.calls k2 _ _ (Za1 l0 x7_1) _ _ (Za1 l1 x8_2) t307 _ ?side1 ?side2 ?side3 ?side4 A13.out).mono ?_
     (case side1 => repeat (first | exact (Kd.Zar HR305_0.out HB.out) | (with_reducible refine Kd.Za2 ?_ _) | (with_reducible refine Kd.C_drewN ?_ _) | (with_reducible refine Kd.C_drew ?_)))
     (case side2 => exact HC305_0.out)
     (case side3 => repeat (first | exact (Kd.Zar HR306_0.out HB.out) | (with_reducible refine Kd.Za2 ?_ _) | (with_reducible refine Kd.C_drewN ?_ _) | (with_reducible refine Kd.C_drew ?_)))
     (case side4 => exact HC306_0.out)
     rintro e w17 ⟨v308, rfl, ho0, hb⟩
     refine ⟨_, rfl, ?_⟩
     have n0_ := Za.mk (Kd.Zbp (by (with_reducible repeat (first | apply Kd.N_alloc | apply Kd.Za6 | apply Kd.Za8)); exact HO_6.out) (Kd.Zbo ho0) hb)
     have n1_ := Za.mk (Kd.Zb0 (Kd.R_newM (M := fun k_ => (w.heap.size ≤ k_)) ho0 (Zau (by repeat (first | (with_reducible first | exact HB.out | apply Zad | apply Zaa | apply Zae) | exact HB.out))) (fun k_ h_ => h_)) (Zau (by repeat (first | (with_reducible first | exact HB.out | apply Zad | apply Zaa | apply Zae) | exact HB.out))))
     have n2_ := Za.mk (Zan (by repeat (first | (with_reducible first | exact HB.out | apply Zad | apply Zaa | apply Zae) | exact HB.out)) hb)
     clear HO_6
     clear HB
     have HO_6 := n0_
     have HO309 := n1_
     have HB := n2_
     clear n0_ n1_ n2_
     (try clear hb)
     (try clear hb2)
     (try clear hk)
     (try clear hi)
     (try clear ho0)
     obtain ⟨Ao19, co19, eo19⟩ := Kd.Zcm HO309.out
     (first | subst eo19 | (injection eo19 with f1_ f2_ f3_; have f4_ := f1_.symm; have f5_ := f3_.symm; clear f1_ f2_ f3_; subst f4_; subst f5_))
     refine hK.out _ _ ⟨((HB.out.cell (World.block_lt_of_cell? w _ hw305_0)).trans hw305_0), ((HB.out.cell (World.block_lt_of_cell? w _ hw306_0)).trans hw306_0)⟩ (fun hHeld => ?_)
     clear hK K
     refine norm_ (a' := ?_) ?_ ?_
     rotate_left
     ·show Act.put _ (some 50) _ = _
      simp only [Act.put, List.setIfInBounds_toArray, List.set_cons_zero, List.set_cons_succ, Za4, Za5]
      rfl
     refine one_ (i := 10) (N := some 51) #[true, true, true, true, true, true, true, true, true, true, true, false, false] rfl rfl (Zdn HT_.out (by kernel_rfl)) (by decide) (fun K hK => ?_)
     refine value_ (w1 := ?_) (v := ?_) (by rfl) rfl ?_ ?_
     rotate_left 2
     ·go_simp
      constructor
      ·rfl
      rfl
     refine hK.out _ _ ⟨(World.cell?_alloc_lt _ _ _ (World.block_lt_of_cell? _ _ (((HB.out.cell (World.block_lt_of_cell? w _ hw305_0)).trans hw305_0)))).trans (((HB.out.cell (World.block_lt_of_cell? w _ hw305_0)).trans hw305_0)), (World.cell?_alloc_lt _ _ _ (World.block_lt_of_cell? _ _ (((HB.out.cell (World.block_lt_of_cell? w _ hw306_0)).trans hw306_0)))).trans (((HB.out.cell (World.block_lt_of_cell? w _ hw306_0)).trans hw306_0))⟩ (fun hHeld => ?_)
     clear hK K
     refine norm_ (a' := ?_) ?_ ?_
     rotate_left
     ·show Act.put _ (some 51) _ = _
      simp only [Act.put, List.setIfInBounds_toArray, List.set_cons_zero, List.set_cons_succ, Za4, Za5]
      rfl
     refine one_ (i := 11) (N := some 52) #[true, true, true, true, true, true, true, true, true, true, true, true, false] rfl rfl (Zdn HT_.out (by kernel_rfl)) (by decide) (fun K hK => ?_)
     refine Kd.N_append_step (Kd.slice 3 (Kd.int .i64)) (w0 := w) w.heap.size (by rfl) (.tmp 41) (.tmp 51) 32 22 (.slice none 0 0) 24 rfl Try.underlying32 Zco rfl (by decide) (by omega) u6 x6_2 t307 [.slice Ao19 t307.length co19] (fun k_ => (w.heap.size ≤ k_)) (fun k_ => ((fun k_ => (w.heap.size ≤ k_))) k_ ∧ some k_ ≠ (u6 : Value).ownBlock) rfl rfl ?aP (fun _ hk => hk) ?aF ?aO ?aB ?aS ?aL ?_
     (case aP => exact (by obtain ⟨Aq_, cq_, eq_⟩ := Kd.Zcm HO309.out; (try subst eq_); exact Kd.FK_slice_mk (Kd.Zbs (Kd.Zbl (ok' := (fun k_ => ((fun k_ => (w.heap.size ≤ k_))) k_ ∧ some k_ ≠ (u6 : Value).ownBlock)) (Kd.Zb3 (HO309.out) (Kd.N_typed HO_6.out) (by decide)) (fun k_ hk => ⟨hk.1.1, hk.2⟩))).2.1 (Kd.R_F (Kd.Zbl (ok' := (fun k_ => ((fun k_ => (w.heap.size ≤ k_))) k_ ∧ some k_ ≠ (u6 : Value).ownBlock)) (Kd.Zb3 (HO309.out) (Kd.N_typed HO_6.out) (by decide)) (fun k_ hk => ⟨hk.1.1, hk.2⟩)))))
     (case aB => exact (by repeat (first | (with_reducible first | exact HB.out | apply Zad | apply Zaa | apply Zae) | exact HB.out)))
     (case aF => exact (fun k_ hk => (Nat.le_trans (Zau (by repeat (first | (with_reducible first | exact HB.out | apply Zad | apply Zaa | apply Zae) | exact HB.out))) hk)))
     (case aO => exact (by (with_reducible repeat (first | apply Kd.N_alloc | apply Kd.Za6 | apply Kd.Za8)); exact Kd.Zbz HO_6.out (fun _ hk => hk.1)))
     (case aS => exact (Zau (by repeat (first | (with_reducible first | exact HB.out | apply Zad | apply Zaa | apply Zae) | exact HB.out))))
     (case aL => have := LMc14.out; omega)
     intro v311 w18 ho hb hg hat
     rw [← Ny310.out] at ho
     have n0_ := Za.mk (hb)
     have n1_ := Za.mk (ho)
     clear HB
     clear HO_6
     clear HO309
     have HB := n0_
     have HO312 := n1_
     clear n0_ n1_
     clear ho hb hg hat
     refine hK.out _ _ ⟨((HB.out.cell (World.block_lt_of_cell? w _ hw305_0)).trans hw305_0), ((HB.out.cell (World.block_lt_of_cell? w _ hw306_0)).trans hw306_0)⟩ (fun hHeld => ?_)
     clear hK K
     refine norm_ (a' := ?_) ?_ ?_
     rotate_left
     ·show Act.put _ (some 52) _ = _
      simp only [Act.put, List.setIfInBounds_toArray, List.set_cons_zero, List.set_cons_succ, Za4, Za5]
      rfl
     refine Zba (i := 12) (N := some 6) (v := ?_) (a' := ?_) #[true, true, true, true, true, true, true, true, true, true, true, true, true] rfl rfl (Za3 HT_.out (by kernel_rfl)) (fun _ _ _ h => h) (Or.inl ⟨by rfl, ?_⟩) ?_ ?_
     rotate_left
     ·intro w'
      go_simp
      with_reducible rfl
     rotate_left
     ·simp only [Act.put, List.setIfInBounds_toArray, List.set_cons_zero, List.set_cons_succ, Za4, Za5]
      rfl
     refine done_ (Zee HT_.out (by kernel_rfl)) ?_
     try go_wp2
     go_roundg k2
     case measure => have := HK1.out; have := HK2.out; omega
     case rel => exact ⟨(y310), (wrap64 (x8_2 + 1)), (by first | rfl | (simp; done) | (simp [*]; done)), H', ⟨by have := HK1.out; have := HK2.out; omega⟩, ⟨by (with_reducible repeat (first | apply Kd.N_alloc | apply Kd.Za6 | apply Kd.Za8)); exact HO312.out⟩, ⟨by repeat (first | (with_reducible first | exact HB.out | apply Zad | apply Zaa | apply Zae) | exact HB.out)⟩⟩
/-! ### Zac: function 5 -/
mutual
def Zac.j0 : Nat → List (List Int) → List (List Int) → Bool → Option (Bool)
 | 0, _, _, _ => none
 | k + 1, x0, x1, x38 => if x38 = true then (none) else (Zac.l0 k x0 x1 0)
def Zac.l0 : Nat → List (List Int) → List (List Int) → Int → Option (Bool)
 | 0, _, _, _ => none
 | k + 1, x0, x1, x9 => if x9 < (x0.length : Int) then (if 0 ≤ x9 then ((Za9.f k (Za1 x0 x9) x1).bind fun bt330 => (if x9 ≤ (wrap64 (x9 + 1)) then (if (wrap64 (x9 + 1)) ≤ (x0.length : Int) then ((Zab.f k ((x0.take ((wrap64 (x9 + 1)) : Int).toNat).drop (x9 : Int).toNat) x1).bind fun bt339 => (if bt330.2 = bt339.2 then ((Zag.f k bt330.1 bt339.1).bind fun t343 => (if t343 = true then (Zac.l0 k x0 x1 (wrap64 (x9 + 1))) else (none))) else (none))) else (none)) else (none))) else (none)) else ((Zax.f k).bind fun t328 => (some t328))
end
def Zac.f (k : Nat) (l0 : List (List Int)) (l1 : List (List Int)) : Option (Bool) := (Zaf.f k l0).bind fun t313 => ((Zaf.f k l1).bind fun t316 => ((Zas.f k t313 t316).bind fun bt319 => ((Zab.f k t313 t316).bind fun bt323 => (if bt319.2 = bt323.2 then ((Zag.f k bt319.1 bt323.1).bind fun t327 => (Zac.j0 k t313 t316 (!t327))) else (Zac.j0 k t313 t316 true)))))
theorem Zac.Zbb : ∀ k, (∀ y0 y1 y2, LeO (Zac.j0 k y0 y1 y2) (Zac.j0 (k + 1) y0 y1 y2)) ∧ (∀ y0 y1 y2, LeO (Zac.l0 k y0 y1 y2) (Zac.l0 (k + 1) y0 y1 y2))
 | 0 => ⟨fun _ _ _ r h => by simp [Zac.j0] at h, fun _ _ _ r h => by simp [Zac.l0] at h⟩
 | k + 1 => by
  obtain ⟨ih0, ih1⟩ := Zac.Zbb k
  refine ⟨?_, ?_⟩
  ·intro y0 y1 y2
   unfold Zac.j0
   repeat' first
   | (with_reducible exact ih0 _ _ _)
   | (with_reducible exact ih1 _ _ _)
   | (with_reducible exact Za9.mono _ _ _)
   | (with_reducible exact Zas.mono _ _ _)
   | (with_reducible exact Zax.mono _)
   | (with_reducible exact Zaf.mono _ _)
   | (with_reducible exact Zag.mono _ _ _)
   | (with_reducible exact Zab.mono _ _ _)
   | (with_reducible exact LeO.refl _)
   | (with_reducible exact LeO.none _)
   | (with_reducible refine LeO.ite ?_ ?_)
   | (with_reducible refine LeO.bind ?_ (fun _ => ?_))
   | exact ih0 _ _ _
   | exact ih1 _ _ _
   | exact Za9.mono _ _ _
   | exact Zas.mono _ _ _
   | exact Zax.mono _
   | exact Zaf.mono _ _
   | exact Zag.mono _ _ _
   | exact Zab.mono _ _ _
   | exact LeO.none _
   | refine LeO.ite ?_ ?_
   | refine LeO.bind ?_ (fun _ => ?_)
  intro y0 y1 y2
  unfold Zac.l0
  repeat' first
  | (with_reducible exact ih0 _ _ _)
  | (with_reducible exact ih1 _ _ _)
  | (with_reducible exact Za9.mono _ _ _)
  | (with_reducible exact Zas.mono _ _ _)
  | (with_reducible exact Zax.mono _)
  | (with_reducible exact Zaf.mono _ _)
  | (with_reducible exact Zag.mono _ _ _)
  | (with_reducible exact Zab.mono _ _ _)
  | (with_reducible exact LeO.refl _)
  | (with_reducible exact LeO.none _)
  | (with_reducible refine LeO.ite ?_ ?_)
  | (with_reducible refine LeO.bind ?_ (fun _ => ?_))
  | exact ih0 _ _ _
  | exact ih1 _ _ _
  | exact Za9.mono _ _ _
  | exact Zas.mono _ _ _
  | exact Zax.mono _
  | exact Zaf.mono _ _
  | exact Zag.mono _ _ _
  | exact Zab.mono _ _ _
  | exact LeO.none _
  | refine LeO.ite ?_ ?_
  | refine LeO.bind ?_ (fun _ => ?_)
theorem Zac.mono : ∀ a0 a1 k, LeO (Zac.f k a0 a1) (Zac.f (k + 1) a0 a1) := by
 intro a0 a1 k
 obtain ⟨ih0, ih1⟩ := Zac.Zbb k
 unfold Zac.f
 repeat' first
   | (with_reducible exact ih0 _ _ _)
   | (with_reducible exact ih1 _ _ _)
   | (with_reducible exact Za9.mono _ _ _)
   | (with_reducible exact Zas.mono _ _ _)
   | (with_reducible exact Zax.mono _)
   | (with_reducible exact Zaf.mono _ _)
   | (with_reducible exact Zag.mono _ _ _)
   | (with_reducible exact Zab.mono _ _ _)
   | (with_reducible exact LeO.refl _)
   | (with_reducible exact LeO.none _)
   | (with_reducible refine LeO.ite ?_ ?_)
   | (with_reducible refine LeO.bind ?_ (fun _ => ?_))
   | exact ih0 _ _ _
   | exact ih1 _ _ _
   | exact Za9.mono _ _ _
   | exact Zas.mono _ _ _
   | exact Zax.mono _
   | exact Zaf.mono _ _
   | exact Zag.mono _ _ _
   | exact Zab.mono _ _ _
   | exact LeO.none _
   | refine LeO.ite ?_ ?_
   | refine LeO.bind ?_ (fun _ => ?_)
set_option maxHeartbeats 8000000 in
set_option maxRecDepth 100000 in
theorem Zac.calls (k : Nat) (A0 : Option Addr) (c0 : Nat) (l0 : List (List Int)) (A1 : Option Addr) (c1 : Nat) (l1 : List (List Int)) (r : Bool) (w : World) (hr0 : Kd.C (Kd.slice 3 (Kd.int .i64)) w A0 l0.length l0) (hc0 : l0.length ≤ c0) (hr1 : Kd.C (Kd.slice 3 (Kd.int .i64)) w A1 l1.length l1) (hc1 : l1.length ≤ c1) (h : Zac.f k l0 l1 = some r) :
  Calls Try.prog 5 #[.slice A0 l0.length c0, .slice A1 l1.length c1] w fun e w' => e = .returned (.bool r) ∧ Below w.heap.size w w' := by
 have HR0 := Za.mk hr0
 have HC0 := Za.mk hc0
 clear hr0 hc0
 have HR1 := Za.mk hr1
 have HC1 := Za.mk hc1
 clear hr1 hc1
 have HB := Za.mk (Below.refl w.heap.size w)
 have H : ((Zaf.f k l0).bind fun t313 => ((Zaf.f k l1).bind fun t316 => ((Zas.f k t313 t316).bind fun bt319 => ((Zab.f k t313 t316).bind fun bt323 => (if bt319.2 = bt323.2 then ((Zag.f k bt319.1 bt323.1).bind fun t327 => (Zac.j0 k t313 t316 (!t327))) else (Zac.j0 k t313 t316 true)))))) = some r := h
 clear h
 replace H := Option.bind_eq_some_iff.mp H
 obtain ⟨t313, A30, H⟩ := H
 replace H : ((Zaf.f k l1).bind fun t316 => ((Zas.f k t313 t316).bind fun bt319 => ((Zab.f k t313 t316).bind fun bt323 => (if bt319.2 = bt323.2 then ((Zag.f k bt319.1 bt323.1).bind fun t327 => (Zac.j0 k t313 t316 (!t327))) else (Zac.j0 k t313 t316 true))))) = some r := H
 have A3 := Za.mk A30
 clear A30
 replace H := Option.bind_eq_some_iff.mp H
 obtain ⟨t316, A40, H⟩ := H
 replace H : ((Zas.f k t313 t316).bind fun bt319 => ((Zab.f k t313 t316).bind fun bt323 => (if bt319.2 = bt323.2 then ((Zag.f k bt319.1 bt323.1).bind fun t327 => (Zac.j0 k t313 t316 (!t327))) else (Zac.j0 k t313 t316 true)))) = some r := H
 have A4 := Za.mk A40
 clear A40
 replace H := Option.bind_eq_some_iff.mp H
 obtain ⟨⟨t319, t322⟩, A50, H⟩ := H
 replace H : ((Zab.f k t313 t316).bind fun bt323 => (if t322 = bt323.2 then ((Zag.f k t319 bt323.1).bind fun t327 => (Zac.j0 k t313 t316 (!t327))) else (Zac.j0 k t313 t316 true))) = some r := H
 have A5 := Za.mk A50
 clear A50
 replace H := Option.bind_eq_some_iff.mp H
 obtain ⟨⟨t323, t326⟩, A60, H⟩ := H
 replace H : (if t322 = t326 then ((Zag.f k t319 t323).bind fun t327 => (Zac.j0 k t313 t316 (!t327))) else (Zac.j0 k t313 t316 true)) = some r := H
 have A6 := Za.mk A60
 clear A60
 have HC7 := Za.mk H
 clear H
 go_enter Try.func5, Try.ntmps5
 go_upto_region 5 with (first | ((with_reducible refine Zav (f := 18) rfl ?_); refine Zbk (some 15) rfl rfl Try.func18 (by kernel_rfl) rfl #[.slice A0 l0.length c0] rfl (by (try simp only [List.map_toArray, List.map_cons, List.map_nil]); first | done | rfl | (simp only [List.length_drop, List.length_take]; rfl)) ?_; (with_reducible refine (Zaf.calls k _ _ l0 t313 _ ?side1 ?side2 A3.out).mono ?_); (case side1 => repeat (first | exact HR0.out | (with_reducible refine Kd.Za2 ?_ _) | (with_reducible refine Kd.C_drewN ?_ _) | (with_reducible refine Kd.C_drew ?_))); (case side2 => exact HC0.out); rintro e w8 ⟨v314, rfl, ho0, hb⟩; refine ⟨_, rfl, ?_⟩; have n0_ := Za.mk (Kd.Zcj (Kd.Zbz (ok' := fun k_ => True) (Kd.S_N (Kd.Zc9 ho0)) (fun k_ hk_ => trivial)) (Zau (by repeat (first | (with_reducible first | exact HB.out | apply Zad | apply Zaa | apply Zae) | exact HB.out)))); have n1_ := Za.mk (Zan (by repeat (first | (with_reducible first | exact HB.out | apply Zad | apply Zaa | apply Zae) | exact HB.out)) hb); clear HB; have HO315 := n0_; have HB := n1_; clear n0_ n1_; (try clear hb); (try clear hb2); (try clear hk); (try clear hi); (try clear ho0)) | ((with_reducible refine Zav (f := 18) rfl ?_); refine Zbk (some 17) rfl rfl Try.func18 (by kernel_rfl) rfl #[.slice A1 l1.length c1] rfl (by (try simp only [List.map_toArray, List.map_cons, List.map_nil]); first | done | rfl | (simp only [List.length_drop, List.length_take]; rfl)) ?_; (with_reducible refine (Zaf.calls k _ _ l1 t316 _ ?side1 ?side2 A4.out).mono ?_); (case side1 => repeat (first | exact (Kd.Zar HR1.out HB.out) | (with_reducible refine Kd.Za2 ?_ _) | (with_reducible refine Kd.C_drewN ?_ _) | (with_reducible refine Kd.C_drew ?_))); (case side2 => exact HC1.out); rintro e w9 ⟨v317, rfl, ho0, hb⟩; refine ⟨_, rfl, ?_⟩; have n0_ := Za.mk (Kd.Zbp (by (with_reducible repeat (first | apply Kd.N_alloc | apply Kd.Za6 | apply Kd.Za8)); exact HO315.out) (by first | exact Kd.Zcc ho0 | exact Kd.Zb8 ho0 | exact Kd.Zbo ho0) hb); have n1_ := Za.mk (Kd.Zcj (Kd.Zbz (ok' := fun k_ => some k_ ≠ (v314 : Value).ownBlock) (Kd.S_N (Kd.Zc9 ho0)) (fun k_ hk_ => (Kd.fresh' (Kd.N_lt (by (with_reducible repeat (first | apply Kd.N_alloc | apply Kd.Za6 | apply Kd.Za8)); exact HO315.out)) k_ hk_.2.1))) (Zau (by repeat (first | (with_reducible first | exact HB.out | apply Zad | apply Zaa | apply Zae) | exact HB.out)))); have n2_ := Za.mk (Zan (by repeat (first | (with_reducible first | exact HB.out | apply Zad | apply Zaa | apply Zae) | exact HB.out)) hb); clear HO315; clear HB; have HO315 := n0_; have HO318 := n1_; have HB := n2_; clear n0_ n1_ n2_; (try clear hb); (try clear hb2); (try clear hk); (try clear hi); (try clear ho0); obtain ⟨Ao10, co10, eo10⟩ := Kd.Zck HO315.out; subst eo10; obtain ⟨Ao11, co11, eo11⟩ := Kd.Zck HO318.out; subst eo11) | ((with_reducible refine Zav (f := 23) rfl ?_); refine Zbk (some 21) rfl rfl Try.func23 (by kernel_rfl) rfl #[.slice Ao10 t313.length co10, .slice Ao11 t316.length co11] rfl (by (try simp only [List.map_toArray, List.map_cons, List.map_nil]); first | done | rfl | (simp only [List.length_drop, List.length_take]; rfl)) ?_; (with_reducible refine (Zas.calls k _ _ t313 _ _ t316 t319 t322 _ ?side1 ?side2 ?side3 ?side4 A5.out).mono ?_); (case side1 => repeat (first | exact (Kd.Zbc HO315.out).2.2 | (with_reducible refine Kd.Za2 ?_ _) | (with_reducible refine Kd.C_drewN ?_ _) | (with_reducible refine Kd.C_drew ?_))); (case side2 => exact (Kd.Zbc HO315.out).2.1); (case side3 => repeat (first | exact (Kd.Zbc HO318.out).2.2 | (with_reducible refine Kd.Za2 ?_ _) | (with_reducible refine Kd.C_drewN ?_ _) | (with_reducible refine Kd.C_drew ?_))); (case side4 => exact (Kd.Zbc HO318.out).2.1); rintro e w12 ⟨v320, rfl, ho0, hb⟩; refine ⟨_, rfl, ?_⟩; have n0_ := Za.mk (Kd.Zbp (by (with_reducible repeat (first | apply Kd.N_alloc | apply Kd.Za6 | apply Kd.Za8)); exact HO315.out) (by first | exact Kd.Zcc ho0 | exact Kd.Zb8 ho0 | exact Kd.Zbo ho0) hb); have n1_ := Za.mk (Kd.Zbp (by (with_reducible repeat (first | apply Kd.N_alloc | apply Kd.Za6 | apply Kd.Za8)); exact HO318.out) (by first | exact Kd.Zcc ho0 | exact Kd.Zb8 ho0 | exact Kd.Zbo ho0) hb); have n2_ := Za.mk (Kd.Zcj (Kd.Zbz (ok' := fun k_ => some k_ ≠ (.slice Ao10 t313.length co10 : Value).ownBlock ∧ some k_ ≠ (.slice Ao11 t316.length co11 : Value).ownBlock) ho0 (fun k_ hk_ => ⟨(Kd.fresh' (Kd.N_lt (by (with_reducible repeat (first | apply Kd.N_alloc | apply Kd.Za6 | apply Kd.Za8)); exact HO315.out)) k_ hk_), (Kd.fresh' (Kd.N_lt (by (with_reducible repeat (first | apply Kd.N_alloc | apply Kd.Za6 | apply Kd.Za8)); exact HO318.out)) k_ hk_)⟩)) (Zau (by repeat (first | (with_reducible first | exact HB.out | apply Zad | apply Zaa | apply Zae) | exact HB.out)))); have n3_ := Za.mk (Zan (by repeat (first | (with_reducible first | exact HB.out | apply Zad | apply Zaa | apply Zae) | exact HB.out)) hb); clear HO315; clear HO318; clear HB; have HO315 := n0_; have HO318 := n1_; have HO321 := n2_; have HB := n3_; clear n0_ n1_ n2_ n3_; (try clear hb); (try clear hb2); (try clear hk); (try clear hi); (try clear ho0)) | ((with_reducible refine Zav (f := 24) rfl ?_); refine Zbk (some 27) rfl rfl Try.func24 (by kernel_rfl) rfl #[.slice Ao10 t313.length co10, .slice Ao11 t316.length co11] rfl (by (try simp only [List.map_toArray, List.map_cons, List.map_nil]); first | done | rfl | (simp only [List.length_drop, List.length_take]; rfl)) ?_; (with_reducible refine (Zab.calls k _ _ t313 _ _ t316 t323 t326 _ ?side1 ?side2 ?side3 ?side4 A6.out).mono ?_); (case side1 => repeat (first | exact (Kd.Zbc HO315.out).2.2 | (with_reducible refine Kd.Za2 ?_ _) | (with_reducible refine Kd.C_drewN ?_ _) | (with_reducible refine Kd.C_drew ?_))); (case side2 => exact (Kd.Zbc HO315.out).2.1); (case side3 => repeat (first | exact (Kd.Zbc HO318.out).2.2 | (with_reducible refine Kd.Za2 ?_ _) | (with_reducible refine Kd.C_drewN ?_ _) | (with_reducible refine Kd.C_drew ?_))); (case side4 => exact (Kd.Zbc HO318.out).2.1); rintro e w13 ⟨v324, rfl, ho0, hb⟩; refine ⟨_, rfl, ?_⟩; have n0_ := Za.mk (Kd.Zbp (by (with_reducible repeat (first | apply Kd.N_alloc | apply Kd.Za6 | apply Kd.Za8)); exact HO315.out) (by first | exact Kd.Zcc ho0 | exact Kd.Zb8 ho0 | exact Kd.Zbo ho0) hb); have n1_ := Za.mk (Kd.Zbp (by (with_reducible repeat (first | apply Kd.N_alloc | apply Kd.Za6 | apply Kd.Za8)); exact HO318.out) (by first | exact Kd.Zcc ho0 | exact Kd.Zb8 ho0 | exact Kd.Zbo ho0) hb); have n2_ := Za.mk (Kd.Zbp (by (with_reducible repeat (first | apply Kd.N_alloc | apply Kd.Za6 | apply Kd.Za8)); exact HO321.out) (by first | exact Kd.Zcc ho0 | exact Kd.Zb8 ho0 | exact Kd.Zbo ho0) hb); have n3_ := Za.mk (Kd.Zcj (Kd.Zbz (ok' := fun k_ => some k_ ≠ (.slice Ao10 t313.length co10 : Value).ownBlock ∧ some k_ ≠ (.slice Ao11 t316.length co11 : Value).ownBlock ∧ some k_ ≠ (v320 : Value).ownBlock) ho0 (fun k_ hk_ => ⟨(Kd.fresh' (Kd.N_lt (by (with_reducible repeat (first | apply Kd.N_alloc | apply Kd.Za6 | apply Kd.Za8)); exact HO315.out)) k_ hk_), (Kd.fresh' (Kd.N_lt (by (with_reducible repeat (first | apply Kd.N_alloc | apply Kd.Za6 | apply Kd.Za8)); exact HO318.out)) k_ hk_), (Kd.fresh' (Kd.N_lt (by (with_reducible repeat (first | apply Kd.N_alloc | apply Kd.Za6 | apply Kd.Za8)); exact HO321.out)) k_ hk_)⟩)) (Zau (by repeat (first | (with_reducible first | exact HB.out | apply Zad | apply Zaa | apply Zae) | exact HB.out)))); have n4_ := Za.mk (Zan (by repeat (first | (with_reducible first | exact HB.out | apply Zad | apply Zaa | apply Zae) | exact HB.out)) hb); clear HO315; clear HO318; clear HO321; clear HB; have HO315 := n0_; have HO318 := n1_; have HO321 := n2_; have HO325 := n3_; have HB := n4_; clear n0_ n1_ n2_ n3_ n4_; (try clear hb); (try clear hb2); (try clear hk); (try clear hi); (try clear ho0)))
 (try simp only [Act.put, List.setIfInBounds_toArray, List.set_cons_zero, List.set_cons_succ])
 go_cut [38] (fun v38 wc => ∃ (kq : Nat) (x38_6 : Bool), v38 = .bool x38_6 ∧ Za (Zac.j0 kq t313 t316 x38_6 = some r) ∧ Za (kq ≤ k) ∧ Za (Kd.N (Kd.slice 3 (Kd.int .i64)) 22 wc w.heap.size (fun k_ => some k_ ≠ ((.slice Ao11 t316.length co11) : Value).ownBlock) (.slice Ao10 t313.length co10) t313) ∧ Za (Kd.N (Kd.slice 3 (Kd.int .i64)) 22 wc w.heap.size (fun k_ => some k_ ≠ ((.slice Ao10 t313.length co10) : Value).ownBlock) (.slice Ao11 t316.length co11) t316) ∧ Za (Below w.heap.size w wc))
 case first =>
  have H := HC7.out
  clear HC7
  by_cases c14 : t322 = t326
  rotate_left
  ·rw [if_neg c14] at H
   have c14b0 : (t322 == t326) = false := beq_eq_false_iff_ne.mpr c14
   have c14b1 : (t322 != t326) = true := bne_iff_ne.mpr c14
   (first | rw [c14b0] | (simp only [Za4, Za5]; rw [c14b0]) | skip)
   have H' := Za.mk H
   clear H
   go_wp2
   go_meet
   case rel => exact ⟨_, (true), (by first | rfl | (simp; done) | (simp [*]; done)), H', ⟨by first | omega | exact Nat.le_refl _⟩, ⟨by (with_reducible repeat (first | apply Kd.N_alloc | apply Kd.Za6 | apply Kd.Za8)); exact Kd.Zbz HO315.out (fun _ hk => hk.1.1.2)⟩, ⟨by (with_reducible repeat (first | apply Kd.N_alloc | apply Kd.Za6 | apply Kd.Za8)); exact Kd.Zbz HO318.out (fun _ hk => hk.1.1)⟩, ⟨by repeat (first | (with_reducible first | exact HB.out | apply Zad | apply Zaa | apply Zae) | exact HB.out)⟩⟩
  rw [if_pos c14] at H
  have c14b0 : (t322 == t326) = true := beq_iff_eq.mpr c14
  have c14b1 : (t322 != t326) = false := bne_eq_false_iff_eq.mpr c14
  clear c14
  (first | rw [c14b0] | (simp only [Za4, Za5]; rw [c14b0]) | skip)
  replace H := Option.bind_eq_some_iff.mp H
  obtain ⟨t327, A150, H⟩ := H
  replace H : (Zac.j0 k t313 t316 (!t327)) = some r := H
  have A15 := Za.mk A150
  clear A150
  have H' := Za.mk H
  clear H
  obtain ⟨Ao16, co16, eo16⟩ := Kd.Zck HO321.out
  subst eo16
  obtain ⟨Ao17, co17, eo17⟩ := Kd.Zck HO325.out
  subst eo17
  go_wp2_with (first | (go_at_call 22; (with_reducible refine (Zag.calls k _ _ t319 _ _ t323 t327 _ ?side1 ?side2 ?side3 ?side4 A15.out).mono ?_); (case side1 => repeat (first | exact (Kd.Zbc HO321.out).2.2 | (with_reducible refine Kd.Za2 ?_ _) | (with_reducible refine Kd.C_drewN ?_ _) | (with_reducible refine Kd.C_drew ?_))); (case side2 => exact (Kd.Zbc HO321.out).2.1); (case side3 => repeat (first | exact (Kd.Zbc HO325.out).2.2 | (with_reducible refine Kd.Za2 ?_ _) | (with_reducible refine Kd.C_drewN ?_ _) | (with_reducible refine Kd.C_drew ?_))); (case side4 => exact (Kd.Zbc HO325.out).2.1); rintro e w' ⟨rfl, ⟨nd, rfl⟩⟩))
  go_meet
  case rel => exact ⟨_, (!t327), (by first | rfl | (simp; done) | (simp [*]; done)), H', ⟨by first | omega | exact Nat.le_refl _⟩, ⟨by (with_reducible repeat (first | apply Kd.N_alloc | apply Kd.Za6 | apply Kd.Za8)); exact Kd.Zbz HO315.out (fun _ hk => hk.1.1.2)⟩, ⟨by (with_reducible repeat (first | apply Kd.N_alloc | apply Kd.Za6 | apply Kd.Za8)); exact Kd.Zbz HO318.out (fun _ hk => hk.1.1)⟩, ⟨by repeat (first | (with_reducible first | exact HB.out | apply Zad | apply Zaa | apply Zae) | exact HB.out)⟩⟩
 case rest =>
  clear HC7
  try clear c1
  try clear c2
  try clear p2
  try clear c5
  try clear c14
  try clear c14b0
  try clear c14b1
  obtain ⟨kq, x38_6, rfl, HA, HJ6, HO_0, HO_1, HB⟩ := hcut
  cases kq with
  | zero => exact absurd HA.out (by simp [Zac.j0])
  | succ kj6 =>
   have H := HA.out
   clear HA
   simp only [Zac.j0] at H
   by_cases c18 : x38_6 = true
   ·subst c18
    have H1 : (none) = some r := by rw [if_pos rfl] at H; exact H
    clear H
    have H := H1
    clear H1
    exact absurd H (by simp)
   replace c18 := Bool.eq_false_iff.mpr c18
   subst c18
   have H1 : (Zac.l0 kj6 t313 t316 0) = some r := by rw [if_neg (show ¬ (false = true) by decide)] at H; exact H
   clear H
   have H := H1
   clear H1
   have H' := Za.mk H
   clear H
   go_wp2
   go_loopg [9] kj6 (fun kq v9 w' => ∃ (x9_2 : Int), v9 = .int .i64 x9_2 ∧ Za (Zac.l0 kq t313 t316 x9_2 = some r) ∧ Za (kq ≤ kj6) ∧ Za (Kd.N (Kd.slice 3 (Kd.int .i64)) 22 w' w.heap.size (fun k_ => some k_ ≠ ((.slice Ao11 t316.length co11) : Value).ownBlock) (.slice Ao10 t313.length co10) t313) ∧ Za (Kd.N (Kd.slice 3 (Kd.int .i64)) 22 w' w.heap.size (fun k_ => some k_ ≠ ((.slice Ao10 t313.length co10) : Value).ownBlock) (.slice Ao11 t316.length co11) t316) ∧ Za (Below w.heap.size w w'))
   case atStart => exact ⟨(0), (by first | rfl | (simp; done) | (simp [*]; done)), H', ⟨Nat.le_refl _⟩, ⟨by (with_reducible repeat (first | apply Kd.N_alloc | apply Kd.Za6 | apply Kd.Za8)); exact HO_0.out⟩, ⟨by (with_reducible repeat (first | apply Kd.N_alloc | apply Kd.Za6 | apply Kd.Za8)); exact HO_1.out⟩, ⟨by repeat (first | (with_reducible first | exact HB.out | apply Zad | apply Zaa | apply Zae) | exact HB.out)⟩⟩
   case round =>
    clear H'
    try clear c1
    try clear c2
    try clear p2
    try clear c5
    try clear c14
    try clear c14b0
    try clear c14b1
    try clear c18
    try clear p2
    obtain ⟨x9_2, rfl, HA, HK2, HO_0, HO_1, HB⟩ := hrel
    cases gk with
    | zero => exact absurd HA.out (by simp [Zac.l0])
    | succ k2 =>
     have H := HA.out
     clear HA
     simp only [Zac.l0] at H
     by_cases c19 : x9_2 < (t313.length : Int)
     rotate_left
     ·rw [if_neg c19] at H
      have c19b0 : decide (x9_2 < (t313.length : Int)) = false := decide_eq_false c19
      clear c19
      replace H := Option.bind_eq_some_iff.mp H
      obtain ⟨t328, A340, H⟩ := H
      replace H : (some t328) = some r := H
      have A34 := Za.mk A340
      clear A340
      obtain rfl := Option.some.inj H
      go_wp2_with (first | ((with_reducible refine Zav (f := 16) rfl ?_); refine Zbk (some 73) rfl rfl Try.func16 (by kernel_rfl) rfl #[] rfl (by (try simp only [List.map_toArray, List.map_cons, List.map_nil]); first | done | rfl | (simp only [List.length_drop, List.length_take]; rfl)) ?_; (with_reducible refine (Zax.calls k2  t328 _ A34.out).mono ?_); rintro e w35 ⟨rfl, hb⟩; refine ⟨_, rfl, ?_⟩; have n0_ := Za.mk (Kd.Zex (by (with_reducible repeat (first | apply Kd.N_alloc | apply Kd.Za6 | apply Kd.Za8)); exact HO_0.out) hb); have n1_ := Za.mk (Kd.Zex (by (with_reducible repeat (first | apply Kd.N_alloc | apply Kd.Za6 | apply Kd.Za8)); exact HO_1.out) hb); have n2_ := Za.mk (Zan (by repeat (first | (with_reducible first | exact HB.out | apply Zad | apply Zaa | apply Zae) | exact HB.out)) hb); clear HO_0; clear HO_1; clear HB; have HO_0 := n0_; have HO_1 := n1_; have HB := n2_; clear n0_ n1_ n2_; (try clear hb); (try clear hb2); (try clear hk); (try clear hi)))
      go_ret
      exact ⟨by first | rfl | (simp [Zaz, Za0] <;> rfl) | (simp [*, Zaz, Za0] <;> rfl), by repeat (first | (with_reducible first | exact HB.out | apply Zad | apply Zaa | apply Zae) | exact HB.out)⟩

     rw [if_pos c19] at H
     have c19b0 : decide (x9_2 < (t313.length : Int)) = true := decide_eq_true c19
     clear c19
     by_cases c20 : 0 ≤ x9_2
     rotate_left
     ·rw [if_neg c20] at H
      exact absurd H (by simp)
     rw [if_pos c20] at H
     have c20b0 : decide (0 ≤ x9_2) = true := decide_eq_true c20
     clear c20
     replace H := Option.bind_eq_some_iff.mp H
     obtain ⟨⟨t330, t331⟩, A210, H⟩ := H
     replace H : (if x9_2 ≤ (wrap64 (x9_2 + 1)) then (if (wrap64 (x9_2 + 1)) ≤ (t313.length : Int) then ((Zab.f k2 ((t313.take ((wrap64 (x9_2 + 1)) : Int).toNat).drop (x9_2 : Int).toNat) t316).bind fun bt339 => (if t331 = bt339.2 then ((Zag.f k2 t330 bt339.1).bind fun t343 => (if t343 = true then (Zac.l0 k2 t313 t316 (wrap64 (x9_2 + 1))) else (none))) else (none))) else (none)) else (none)) = some r := H
     have A21 := Za.mk A210
     clear A210
     have c22b0 := eq_true (of_decide_eq_true (by first | (with_reducible assumption) | assumption) : 0 ≤ x9_2)
     by_cases c23 : x9_2 ≤ (wrap64 (x9_2 + 1))
     rotate_left
     ·rw [if_neg c23] at H
      exact absurd H (by simp)
     rw [if_pos c23] at H
     have c23b0 := eq_true c23
     have c23b1 : decide (x9_2 ≤ (wrap64 (x9_2 + 1))) = true := decide_eq_true c23
     by_cases c24 : (wrap64 (x9_2 + 1)) ≤ (t313.length : Int)
     rotate_left
     ·rw [if_neg c24] at H
      exact absurd H (by simp)
     rw [if_pos c24] at H
     have c24b0 := eq_true c24
     have c24b1 : decide ((wrap64 (x9_2 + 1)) ≤ (t313.length : Int)) = true := decide_eq_true c24
     obtain ⟨y334, hy334⟩ : ∃ y_ : List (List Int), y_ = ((t313.take ((wrap64 (x9_2 + 1)) : Int).toNat).drop (x9_2 : Int).toNat) := ⟨_, rfl⟩
     replace H : ((Zab.f k2 y334 t316).bind fun bt339 => (if t331 = bt339.2 then ((Zag.f k2 t330 bt339.1).bind fun t343 => (if t343 = true then (Zac.l0 k2 t313 t316 (wrap64 (x9_2 + 1))) else (none))) else (none))) = some r := by first | (rw [hy334]; with_reducible exact H) | (have H2_ := (Option.bind_some _ _).symm.trans H; rw [hy334]; with_reducible exact H2_) | (have H2_ := (Option.bind_some _ _).symm.trans H; with_reducible exact H2_) | with_reducible exact H | (rw [hy334]; exact H) | exact H
     have Ny334 := Za.mk hy334
     clear hy334
     replace H := Option.bind_eq_some_iff.mp H
     obtain ⟨⟨t339, t342⟩, A250, H⟩ := H
     replace H : (if t331 = t342 then ((Zag.f k2 t330 t339).bind fun t343 => (if t343 = true then (Zac.l0 k2 t313 t316 (wrap64 (x9_2 + 1))) else (none))) else (none)) = some r := H
     have A25 := Za.mk A250
     clear A250
     by_cases c26 : t331 = t342
     rotate_left
     ·rw [if_neg c26] at H
      exact absurd H (by simp)
     rw [if_pos c26] at H
     have c26b0 : (t331 == t342) = true := beq_iff_eq.mpr c26
     have c26b1 : (t331 != t342) = false := bne_eq_false_iff_eq.mpr c26
     clear c26
     replace H := Option.bind_eq_some_iff.mp H
     obtain ⟨t343, A270, H⟩ := H
     replace H : (if t343 = true then (Zac.l0 k2 t313 t316 (wrap64 (x9_2 + 1))) else (none)) = some r := H
     have A27 := Za.mk A270
     clear A270
     by_cases c28 : t343 = true
     rotate_left
     ·replace c28 := Bool.eq_false_iff.mpr c28
      subst c28
      have H1 : (none) = some r := by rw [if_neg (show ¬ (false = true) by decide)] at H; exact H
      clear H
      have H := H1
      clear H1
      exact absurd H (by simp)
     subst c28
     have H1 : (Zac.l0 k2 t313 t316 (wrap64 (x9_2 + 1))) = some r := by rw [if_pos rfl] at H; exact H
     clear H
     have H := H1
     clear H1
     have H' := Za.mk H
     clear H
     have p329 : 0 ≤ (x9_2 : Int) := of_decide_eq_true (by first | (with_reducible assumption) | assumption)
     have q329 : x9_2 < (t313.length : Int) := of_decide_eq_true (by first | (with_reducible assumption) | assumption)
     obtain ⟨ad329, A329_0, c329_0, e329, hx329_0, hl329_0, hi329_0⟩ := Zcr (Kd.Zbc HO_0.out).2.2 x9_2 p329 q329
     cases e329
     obtain ⟨ce329, hce329, hMe329, hcc329⟩ := Kd.N_get HO_0.out [] x9_2 p329 (by first | exact q329 | exact of_decide_eq_true (by first | (with_reducible assumption) | assumption) | (have e_ := (Kd.Zbc HO_0.out).1; omega))
     obtain ⟨ua329_0, uc329_0, rfl, ul329_0, ge329_0⟩ := Kd.FK_slice_open hMe329
     have hv329_0 := hcc329 0 _ rfl
     rw [Nat.add_zero, show ((Kd.slice 3 (Kd.int .i64))).sz = 1 from rfl, Nat.mul_one] at hv329_0
     replace hv329_0 := Option.some.inj (hv329_0.symm.trans hx329_0)
     injection hv329_0 with hva_ hvn_ hvc_
     rw [hva_] at ge329_0
     rw [hvc_] at ul329_0
     have HL329_0 := Za.mk (show Kd.V (Kd.int .i64) 3 _ w.heap.size _ _ (Za1 t313 x9_2) from Kd.V_mk ul329_0 ge329_0)
     clear hva_ hvn_ hvc_ ge329_0 ul329_0
     clear hcc329 hce329
     have HR329_0 := Za.mk hi329_0
     have HC329_0 := Za.mk hl329_0
     clear hi329_0 hl329_0
     replace p329 := eq_true p329
     replace q329 := eq_true q329
     go_wp2_with (first | ((with_reducible refine Zav (f := 25) rfl ?_); refine Zbk (some 51) rfl rfl Try.func25 (by kernel_rfl) rfl #[.slice A329_0 (Za1 t313 x9_2).length c329_0, .slice Ao11 t316.length co11] rfl (by (try simp only [List.map_toArray, List.map_cons, List.map_nil]); first | done | rfl | (simp only [List.length_drop, List.length_take]; rfl)) ?_; (with_reducible refine (Za9.calls k2 _ _ (Za1 t313 x9_2) _ _ t316 t330 t331 _ ?side1 ?side2 ?side3 ?side4 A21.out).mono ?_); (case side1 => repeat (first | exact (by repeat (first | (with_reducible exact HR329_0.out) | (with_reducible refine Kd.Za2 ?_ _) | (with_reducible refine Kd.C_drewN ?_ _) | (with_reducible refine Kd.C_drew ?_) | exact HR329_0.out)) | (with_reducible refine Kd.Za2 ?_ _) | (with_reducible refine Kd.C_drewN ?_ _) | (with_reducible refine Kd.C_drew ?_))); (case side2 => exact HC329_0.out); (case side3 => repeat (first | exact (Kd.Zbc HO_1.out).2.2 | (with_reducible refine Kd.Za2 ?_ _) | (with_reducible refine Kd.C_drewN ?_ _) | (with_reducible refine Kd.C_drew ?_))); (case side4 => exact (Kd.Zbc HO_1.out).2.1); rintro e w29 ⟨v332, rfl, ho0, hb⟩; refine ⟨_, rfl, ?_⟩; have n0_ := Za.mk (Kd.Zbp (by (with_reducible repeat (first | apply Kd.N_alloc | apply Kd.Za6 | apply Kd.Za8)); exact HO_0.out) (by first | exact Kd.Zcc ho0 | exact Kd.Zb8 ho0 | exact Kd.Zbo ho0) hb); have n1_ := Za.mk (Kd.Zbp (by (with_reducible repeat (first | apply Kd.N_alloc | apply Kd.Za6 | apply Kd.Za8)); exact HO_1.out) (by first | exact Kd.Zcc ho0 | exact Kd.Zb8 ho0 | exact Kd.Zbo ho0) hb); have n2_ := Za.mk (Kd.V_elder' (by (with_reducible repeat (first | apply Kd.V_alloc | apply Kd.V_drewN | apply Kd.V_drew)); exact HL329_0.out) (by first | exact Kd.Zcc ho0 | exact Kd.Zb8 ho0 | exact Kd.Zbo ho0) hb); have n3_ := Za.mk (Kd.Zcj (Kd.Zbz (ok' := fun k_ => some k_ ≠ (.slice (some ad329) t313.length co10 : Value).ownBlock ∧ some k_ ≠ (.slice Ao11 t316.length co11 : Value).ownBlock) (Kd.S_N (Kd.Zc9 ho0)) (fun k_ hk_ => ⟨(Kd.fresh' (Kd.N_lt (by (with_reducible repeat (first | apply Kd.N_alloc | apply Kd.Za6 | apply Kd.Za8)); exact HO_0.out)) k_ hk_.2.1), (Kd.fresh' (Kd.N_lt (by (with_reducible repeat (first | apply Kd.N_alloc | apply Kd.Za6 | apply Kd.Za8)); exact HO_1.out)) k_ hk_.2.1)⟩)) (Zau (by repeat (first | (with_reducible first | exact HB.out | apply Zad | apply Zaa | apply Zae) | exact HB.out)))); have n4_ := Za.mk (Kd.Zar (by repeat (first | (with_reducible exact HR329_0.out) | (with_reducible refine Kd.Za2 ?_ _) | (with_reducible refine Kd.C_drewN ?_ _) | (with_reducible refine Kd.C_drew ?_) | exact HR329_0.out)) hb); have n5_ := Za.mk (Zan (by repeat (first | (with_reducible first | exact HB.out | apply Zad | apply Zaa | apply Zae) | exact HB.out)) hb); clear HO_0; clear HO_1; clear HL329_0; clear HR329_0; clear HB; have HO_0 := n0_; have HO_1 := n1_; have HL329_0 := n2_; have HO333 := n3_; have HR329_0 := n4_; have HB := n5_; clear n0_ n1_ n2_ n3_ n4_ n5_; (try clear hb); (try clear hb2); (try clear hk); (try clear hi); (try clear ho0); have q30 : ((wrap64 (x9_2 + 1)) : Int) ≤ ((t313.length : Int) : Int) := of_decide_eq_true (by first | (with_reducible assumption) | assumption); obtain ⟨i030, hi030, _, hsz30, _⟩ := info_parts Zco; have hroom30 : t313.length ≤ co10 := (Kd.Zbc HO_0.out).2.1; have hC30 : Kd.F (Kd.slice 3 (Kd.int .i64)) _ _ (some ad329) t313.length t313 := (Kd.V_at (base := w.heap.size) (Kd.N_V HO_0.out)).2.2; have ql30 : (x9_2 : Int) ≤ ((wrap64 (x9_2 + 1)) : Int) := of_decide_eq_true (by first | (with_reducible assumption) | assumption); have q030 : (0 : Int) ≤ (x9_2 : Int) := of_decide_eq_true (by first | (with_reducible assumption) | assumption); have hcut30 := cut_mid (P := Try.prog) 32 22 .i64 .i64 Try.underlying32 hi030 1 hsz30 (some ad329) t313.length co10 x9_2 (wrap64 (x9_2 + 1)) q030 ql30 q30 hroom30; have hr30 := Kd.F_mid (lo := (x9_2 : Int).toNat) (hi := ((wrap64 (x9_2 + 1)) : Int).toNat) (c := co10) hC30 (by omega) (by omega) hroom30; obtain ⟨A30, hA30⟩ : ∃ A1, A1 = (if co10 = (x9_2 : Int).toNat then (some ad329) else ((some ad329) : Option Addr).map (·.add ((x9_2 : Int).toNat * 1))) := ⟨_, rfl⟩; obtain ⟨c30, hc30⟩ : ∃ c1, c1 = co10 - (x9_2 : Int).toNat := ⟨_, rfl⟩; have hy30 : y334.length = ((wrap64 (x9_2 + 1)) : Int).toNat - (x9_2 : Int).toNat := (by rw [Ny334.out, List.length_drop, List.length_take] <;> omega); rw [show ((t313).take ((wrap64 (x9_2 + 1)) : Int).toNat).drop (x9_2 : Int).toNat = y334 from Ny334.out.symm] at hr30; replace hr30 : Kd.F (Kd.slice 3 (Kd.int .i64)) _ _ A30 y334.length y334 := (by rw [hA30]; exact hr30); rw [← hy30, ← hA30, ← hc30] at hcut30; have HO338 := Za.mk (show Kd.V (Kd.slice 3 (Kd.int .i64)) 22 _ w.heap.size _ (.slice A30 y334.length c30) y334 from Kd.V_mk (by rw [hy30, hc30]; exact Nat.sub_le_sub_right (Nat.le_trans (by omega) hroom30) _) hr30); have HC338 := Za.mk (show y334.length ≤ c30 from by rw [hy30, hc30]; exact Nat.sub_le_sub_right (Nat.le_trans (by omega) hroom30) _); clear hr30 hC30 hroom30 hi030 hsz30 hc30; have KY30 := Za.mk hy30; have KA30 := Za.mk hA30; clear hy30 hA30; replace q30 := eq_true q30) | ((with_reducible refine Zav (f := 24) rfl ?_); refine Zbk (some 61) rfl rfl Try.func24 (by kernel_rfl) rfl #[.slice A30 y334.length c30, .slice Ao11 t316.length co11] rfl (by (try simp only [List.map_toArray, List.map_cons, List.map_nil]); first | done | rfl | (simp only [List.length_drop, List.length_take]; rfl)) ?_; (with_reducible refine (Zab.calls k2 _ _ y334 _ _ t316 t339 t342 _ ?side1 ?side2 ?side3 ?side4 A25.out).mono ?_); (case side1 => repeat (first | exact (Kd.V_reads' HO338.out).2.2 | (with_reducible refine Kd.Za2 ?_ _) | (with_reducible refine Kd.C_drewN ?_ _) | (with_reducible refine Kd.C_drew ?_))); (case side2 => exact (Kd.V_reads' HO338.out).2.1); (case side3 => repeat (first | exact (Kd.Zbc HO_1.out).2.2 | (with_reducible refine Kd.Za2 ?_ _) | (with_reducible refine Kd.C_drewN ?_ _) | (with_reducible refine Kd.C_drew ?_))); (case side4 => exact (Kd.Zbc HO_1.out).2.1); rintro e w31 ⟨v340, rfl, ho0, hb⟩; refine ⟨_, rfl, ?_⟩; have n0_ := Za.mk (Kd.Zbp (by (with_reducible repeat (first | apply Kd.N_alloc | apply Kd.Za6 | apply Kd.Za8)); exact HO_0.out) (by first | exact Kd.Zcc ho0 | exact Kd.Zb8 ho0 | exact Kd.Zbo ho0) hb); have n1_ := Za.mk (Kd.Zbp (by (with_reducible repeat (first | apply Kd.N_alloc | apply Kd.Za6 | apply Kd.Za8)); exact HO_1.out) (by first | exact Kd.Zcc ho0 | exact Kd.Zb8 ho0 | exact Kd.Zbo ho0) hb); have n2_ := Za.mk (Kd.V_elder' (by (with_reducible repeat (first | apply Kd.V_alloc | apply Kd.V_drewN | apply Kd.V_drew)); exact HL329_0.out) (by first | exact Kd.Zcc ho0 | exact Kd.Zb8 ho0 | exact Kd.Zbo ho0) hb); have n3_ := Za.mk (Kd.Zbp (by (with_reducible repeat (first | apply Kd.N_alloc | apply Kd.Za6 | apply Kd.Za8)); exact HO333.out) (by first | exact Kd.Zcc ho0 | exact Kd.Zb8 ho0 | exact Kd.Zbo ho0) hb); have n4_ := Za.mk (Kd.V_elder' (by (with_reducible repeat (first | apply Kd.V_alloc | apply Kd.V_drewN | apply Kd.V_drew)); exact HO338.out) (by first | exact Kd.Zcc ho0 | exact Kd.Zb8 ho0 | exact Kd.Zbo ho0) hb); have n5_ := Za.mk (Kd.Zcj (Kd.Zbz (ok' := fun k_ => some k_ ≠ (.slice (some ad329) t313.length co10 : Value).ownBlock ∧ some k_ ≠ (.slice Ao11 t316.length co11 : Value).ownBlock ∧ some k_ ≠ (v332 : Value).ownBlock) ho0 (fun k_ hk_ => ⟨(Kd.fresh' (Kd.N_lt (by (with_reducible repeat (first | apply Kd.N_alloc | apply Kd.Za6 | apply Kd.Za8)); exact HO_0.out)) k_ hk_), (Kd.fresh' (Kd.N_lt (by (with_reducible repeat (first | apply Kd.N_alloc | apply Kd.Za6 | apply Kd.Za8)); exact HO_1.out)) k_ hk_), (Kd.fresh' (Kd.N_lt (by (with_reducible repeat (first | apply Kd.N_alloc | apply Kd.Za6 | apply Kd.Za8)); exact HO333.out)) k_ hk_)⟩)) (Zau (by repeat (first | (with_reducible first | exact HB.out | apply Zad | apply Zaa | apply Zae) | exact HB.out)))); have n6_ := Za.mk (Kd.Zar (by repeat (first | (with_reducible exact HR329_0.out) | (with_reducible refine Kd.Za2 ?_ _) | (with_reducible refine Kd.C_drewN ?_ _) | (with_reducible refine Kd.C_drew ?_) | exact HR329_0.out)) hb); have n7_ := Za.mk (Zan (by repeat (first | (with_reducible first | exact HB.out | apply Zad | apply Zaa | apply Zae) | exact HB.out)) hb); clear HO_0; clear HO_1; clear HL329_0; clear HO333; clear HO338; clear HR329_0; clear HB; have HO_0 := n0_; have HO_1 := n1_; have HL329_0 := n2_; have HO333 := n3_; have HO338 := n4_; have HO341 := n5_; have HR329_0 := n6_; have HB := n7_; clear n0_ n1_ n2_ n3_ n4_ n5_ n6_ n7_; (try clear hb); (try clear hb2); (try clear hk); (try clear hi); (try clear ho0); obtain ⟨Ao32, co32, eo32⟩ := Kd.Zck HO333.out; subst eo32; obtain ⟨Ao33, co33, eo33⟩ := Kd.Zck HO341.out; subst eo33) | (go_at_call 22; (with_reducible refine (Zag.calls k2 _ _ t330 _ _ t339 true _ ?side1 ?side2 ?side3 ?side4 A27.out).mono ?_); (case side1 => repeat (first | exact (Kd.Zbc HO333.out).2.2 | (with_reducible refine Kd.Za2 ?_ _) | (with_reducible refine Kd.C_drewN ?_ _) | (with_reducible refine Kd.C_drew ?_))); (case side2 => exact (Kd.Zbc HO333.out).2.1); (case side3 => repeat (first | exact (Kd.Zbc HO341.out).2.2 | (with_reducible refine Kd.Za2 ?_ _) | (with_reducible refine Kd.C_drewN ?_ _) | (with_reducible refine Kd.C_drew ?_))); (case side4 => exact (Kd.Zbc HO341.out).2.1); rintro e w' ⟨rfl, ⟨nd, rfl⟩⟩))
     go_roundg k2
     case measure => have := HJ6.out; have := HK2.out; omega
     case rel => exact ⟨(wrap64 (x9_2 + 1)), (by first | rfl | (simp; done) | (simp [*]; done)), H', ⟨by have := HJ6.out; have := HK2.out; omega⟩, ⟨by (with_reducible repeat (first | apply Kd.N_alloc | apply Kd.Za6 | apply Kd.Za8)); exact Kd.Zbz HO_0.out (fun _ hk => hk.1.1)⟩, ⟨by (with_reducible repeat (first | apply Kd.N_alloc | apply Kd.Za6 | apply Kd.Za8)); exact Kd.Zbz HO_1.out (fun _ hk => hk.1.1)⟩, ⟨by repeat (first | (with_reducible first | exact HB.out | apply Zad | apply Zaa | apply Zae) | exact HB.out)⟩⟩
end Go.Proofs.Yteopgafbamipeaa.P
/- Values spread by changes: the functions of group and of its reference, in plain words. -/
namespace Go.Proofs.Yteopgafbamipeaa.P
open Go.RowKit Go.Proofs.YteopgafbamipeaaW.PrintWords Go.Proofs.YteopgafbamipeaaW.PrintLast Go.Proofs.YteopgafbamipeaaW.PrintMore
set_option linter.unusedVariables false
set_option linter.unusedSimpArgs false
namespace G
/-- May all of l move the values a? -/
def okA (a : List Int) (l : List (List Int)) : Bool := l.all fun p => decide (a.length = p.length) && rtB p
theorem Zfb {a : List Int} {l : List (List Int)} : okA a l = true ↔ ∀ p ∈ l, a.length = p.length ∧ Rt p := by
  unfold okA
  rw [List.all_eq_true]
  constructor
  · intro h p hp
    have := h p hp
    rw [Bool.and_eq_true, decide_eq_true_iff] at this
    exact ⟨this.1, Zb7.1 this.2⟩
  intro h p hp
  rw [Bool.and_eq_true, decide_eq_true_iff]
  exact ⟨(h p hp).1, Zb7.2 (h p hp).2⟩
theorem okA_no {a : List Int} {l : List (List Int)} {p : List Int} (hp : p ∈ l) (h : ¬ (a.length = p.length ∧ rtB p = true)) : okA a l = false := by
  cases e : okA a l
  · rfl
  have := Zfb.1 e p hp
  exact absurd ⟨this.1, Zb7.2 this.2⟩ h
def allR (a : List Int) (l : List (List Int)) : List (List Int) × Int := if okA a l = true then (l.map (sc a), 0) else ([], 1)
theorem all_loop (a : List Int) (l : List (List Int)) (hl : l.length ≤ 1000000) (hin : ∀ p ∈ l, p.length ≤ 1000000) : ∀ (d n : Nat), n + d = l.length → okA a (l.take n) = true → Ev (fun k => Zaw.l0 k a ((l.take n).map (sc a)) l (l.length : Int) (n : Int)) (allR a l)
  | 0, n, h, hok => by
    obtain rfl : n = l.length := by omega
    rw [List.take_length] at hok ⊢
    exact Ev.step (G := fun _ => some (l.map (sc a), 0)) (fun k => by rw [Zaw.l0, if_neg (by omega)]) (Ev.const (by rw [allR, if_pos hok]))
  | d + 1, n, h, hok => by
    have hn : n < l.length := by omega
    have hv := values_ev (a := a) (hin _ (List.getElem_mem hn))
    by_cases hc : a.length = l[n].length ∧ rtB l[n] = true
    rotate_left
    · rw [show vl a l[n] = ([], 1) from if_neg hc] at hv
      have e : allR a l = ([], 1) := if_neg (by rw [okA_no (List.getElem_mem hn) hc]; simp)
      rw [e]
      refine Ev.step (fun k => by rw [Zaw.l0, if_pos (by omega), if_pos (by omega), if_pos (by omega), Zb6 l n hn]) (Ev.bind hv ?_)
      exact Ev.Zc5 (by simp) (Ev.const rfl)
    rw [show vl a l[n] = (sc a l[n], 0) from if_pos hc] at hv
    have hb5 : ((l.take n).map (sc a)).length < 5864062014805 := by rw [List.length_map, List.length_take]; omega
    refine Ev.step (fun k => by rw [Zaw.l0, if_pos (by omega), if_pos (by omega), if_pos (by omega), Zb6 l n hn, w1 (by omega)]) (Ev.bind hv (Ev.Zbn rfl (Ev.Zbn hb5 ?_)))
    have ih := all_loop a l hl hin d (n + 1) (by omega) (by
      rw [Zfb] at hok ⊢
      intro p hp
      rw [List.take_succ_eq_append_getElem hn] at hp
      rcases List.mem_append.1 hp with hp | hp
      · exact hok p hp
      obtain rfl := List.mem_singleton.1 hp
      exact ⟨hc.1, Zb7.1 hc.2⟩)
    rw [List.take_succ_eq_append_getElem hn, List.map_append] at ih
    exact ih
theorem all_ev {a : List Int} {l : List (List Int)} (hl : l.length ≤ 1000000) (hin : ∀ p ∈ l, p.length ≤ 1000000) : Ev (fun k => Zaw.f k a l) (allR a l) :=
  all_loop a l hl hin l.length 0 (by omega) rfl
theorem Zfi {l : List (List Int)} (hl : l.length ≤ 1000000) (hin : ∀ x ∈ l, x.length ≤ 1000000) : Ev (fun _ => Zbd.f l) (sdL l) :=
  Ev.const (sorted_some (by omega) (fun x hx => by have := hin x hx; omega))
theorem ref_sorted_ev {l : List (List Int)} (hl : l.length ≤ 1000000) : Ev (fun _ => Zbf.f l) (sdL l) := Ev.const (Zfq (by omega))
theorem sdL_nil : sdL [] = [] := List.length_eq_zero_iff.1 (Nat.le_zero.1 (Zcz []))
theorem moved_in {a : List Int} {l : List (List Int)} (hok : okA a l = true) (hin : ∀ p ∈ l, p.length ≤ 1000000) : ∀ x ∈ l.map (sc a), x.length ≤ 1000000 := by
  intro x hx
  obtain ⟨p, hp, rfl⟩ := List.mem_map.1 hx
  rw [sc_len (Zfb.1 hok p hp).2]
  exact hin p hp
def orb (a : List Int) (l : List (List Int)) : List (List Int) × Int := if okA a l = true then (sdL (l.map (sc a)), 0) else ([], 1)
theorem orbit_ev {a : List Int} {l : List (List Int)} (hl : l.length ≤ 1000000) (hin : ∀ p ∈ l, p.length ≤ 1000000) : Ev (fun k => Za9.f k a l) (orb a l) := by
  unfold Za9.f
  refine Ev.bind (all_ev hl hin) ?_
  cases hok : okA a l
  · rw [show allR a l = ([], 1) from if_neg (by rw [hok]; simp), show orb a l = ([], 1) from if_neg (by rw [hok]; simp)]
    refine Ev.bind (Zfi (l := []) (by simp) (fun x hx => by cases hx)) (Ev.const (by rw [sdL_nil]))
  rw [show allR a l = (l.map (sc a), 0) from if_pos hok, show orb a l = (sdL (l.map (sc a)), 0) from if_pos hok]
  exact Ev.bind (Zfi (by simpa using hl) (moved_in hok hin)) (Ev.const rfl)
/-- All that changes make of each of some values. -/
def spr (ls l : List (List Int)) : List (List Int) := ls.flatMap fun a => l.map (sc a)
theorem spr_len : ∀ (ls l : List (List Int)), (spr ls l).length = ls.length * l.length
  | [], l => by simp [spr]
  | a :: ls, l => by
    have := spr_len ls l
    unfold spr at this ⊢
    rw [List.flatMap_cons, List.length_append, this, List.length_map, List.length_cons, Nat.add_mul, Nat.one_mul, Nat.add_comm]
theorem spr_snoc (ls l : List (List Int)) (a : List Int) : spr (ls ++ [a]) l = spr ls l ++ l.map (sc a) := by simp [spr]
theorem mem_spr {ls l : List (List Int)} {x : List Int} : x ∈ spr ls l ↔ ∃ a ∈ ls, ∃ p ∈ l, sc a p = x := by simp [spr, List.mem_flatMap]
def okS (ls l : List (List Int)) : Bool := ls.all fun a => okA a l
def spS (ls l : List (List Int)) : List (List Int) × Int := if okS ls l = true then (sdL (spr ls l), 0) else ([], 1)
theorem Zfc {ls l : List (List Int)} : okS ls l = true ↔ ∀ a ∈ ls, okA a l = true := by
  unfold okS
  rw [List.all_eq_true]
theorem spr_in {ls l : List (List Int)} (hok : okS ls l = true) (hin : ∀ p ∈ l, p.length ≤ 1000000) : ∀ x ∈ spr ls l, x.length ≤ 1000000 := by
  intro x hx
  obtain ⟨a, ha, p, hp, rfl⟩ := mem_spr.1 hx
  rw [sc_len (Zfb.1 (Zfc.1 hok a ha) p hp).2]
  exact hin p hp
theorem Zdh {ls l : List (List Int)} (ha : ls.length ≤ 1000) (hl : l.length ≤ 1000) : (spr ls l).length ≤ 1000000 := by
  rw [spr_len]
  exact Nat.mul_le_mul ha hl
theorem Zfj (ls l : List (List Int)) (ha : ls.length ≤ 1000) (hl : l.length ≤ 1000) (hin : ∀ p ∈ l, p.length ≤ 1000000) : ∀ (d n : Nat), n + d = ls.length → okS (ls.take n) l = true → Ev (fun k => Zas.l0 k l (spr (ls.take n) l) ls (ls.length : Int) (n : Int)) (spS ls l)
  | 0, n, h, hok => by
    obtain rfl : n = ls.length := by omega
    rw [List.take_length] at hok ⊢
    rw [show spS ls l = (sdL (spr ls l), 0) from if_pos hok]
    exact Ev.step (fun k => by rw [Zas.l0, if_neg (by omega)]) (Ev.bind (Zfi (Zdh ha hl) (spr_in hok hin)) (Ev.const rfl))
  | d + 1, n, h, hok => by
    have hn : n < ls.length := by omega
    have hv := all_ev (a := ls[n]) (l := l) (by omega) hin
    cases hc : okA ls[n] l
    · rw [show allR ls[n] l = ([], 1) from if_neg (by rw [hc]; simp)] at hv
      have e : spS ls l = ([], 1) := if_neg (fun h => by rw [Zfc.1 h _ (List.getElem_mem hn)] at hc; cases hc)
      rw [e]
      refine Ev.step (fun k => by rw [Zas.l0, if_pos (by omega), if_pos (by omega), if_pos (by omega), Zb6 ls n hn]) (Ev.bind hv ?_)
      exact Ev.Zc5 (by simp) (Ev.const rfl)
    rw [show allR ls[n] l = (l.map (sc ls[n]), 0) from if_pos hc] at hv
    have hsm := Zdh (ls := ls.take n) (l := l) (by rw [List.length_take]; omega) hl
    have hb5 : (spr (ls.take n) l).length + (l.map (sc ls[n])).length < 5864062014805 := by rw [List.length_map]; omega
    refine Ev.step (fun k => by rw [Zas.l0, if_pos (by omega), if_pos (by omega), if_pos (by omega), Zb6 ls n hn, w1 (by omega)]) (Ev.bind hv (Ev.Zbn rfl (Ev.Zbn hb5 ?_)))
    have ih := Zfj ls l ha hl hin d (n + 1) (by omega) (by
      rw [Zfc] at hok ⊢
      intro p hp
      rw [List.take_succ_eq_append_getElem hn] at hp
      rcases List.mem_append.1 hp with hp | hp
      · exact hok p hp
      obtain rfl := List.mem_singleton.1 hp
      exact hc)
    rw [List.take_succ_eq_append_getElem hn, spr_snoc] at ih
    exact ih
theorem spread_ev {ls l : List (List Int)} (ha : ls.length ≤ 1000) (hl : l.length ≤ 1000) (hin : ∀ p ∈ l, p.length ≤ 1000000) : Ev (fun k => Zas.f k ls l) (spS ls l) :=
  Zfj ls l ha hl hin ls.length 0 (by omega) rfl
/-- The document's. -/
theorem Zd7 (ls l : List (List Int)) (n : Nat) (hn : n < ls.length) (ha : ls.length ≤ 1000) (hl : l.length ≤ 1000) (hin : ∀ p ∈ l, p.length ≤ 1000000) (acc : List (List Int)) (hacc : acc.length ≤ 1000000) (R : List (List Int) × Int)
    (hnext : okA ls[n] l = true → Ev (fun k => Zab.l0 k ls l (acc ++ l.map (sc ls[n])) ((n + 1 : Nat) : Int)) R) (hbad : okA ls[n] l = false → R = ([], 1)) :
    ∀ (d m : Nat), m + d = l.length → okA ls[n] (l.take m) = true → Ev (fun k => Zab.l1 k ls l (acc ++ (l.take m).map (sc ls[n])) (n : Int) (m : Int)) R
  | 0, m, h, hok => by
    obtain rfl : m = l.length := by omega
    rw [List.take_length] at hok ⊢
    exact Ev.step (fun k => by rw [Zab.l1, if_neg (by omega), w1 (by omega)]) (hnext hok)
  | d + 1, m, h, hok => by
    have hm : m < l.length := by omega
    have hlm := hin _ (List.getElem_mem hm)
    by_cases h1 : ls[n].length = l[m].length
    rotate_left
    · have e := hbad (okA_no (List.getElem_mem hm) (fun h => h1 h.1))
      rw [e]
      exact Ev.step (G := fun _ => some ([], 1)) (fun k => by rw [Zab.l1, if_pos (by omega), if_pos (by omega), if_pos (by omega), if_pos (by omega), Zb6 ls n hn, Zb6 l m hm, if_neg (by omega)]) (Ev.const rfl)
    cases h2 : rtB l[m]
    · have e := hbad (okA_no (List.getElem_mem hm) (by rw [h2]; simp))
      rw [e]
      have hr := Zen hlm
      rw [h2] at hr
      refine Ev.step (fun k => by rw [Zab.l1, if_pos (by omega), if_pos (by omega), if_pos (by omega), if_pos (by omega), Zb6 ls n hn, Zb6 l m hm, if_pos (by omega)]) (Ev.bind hr ?_)
      exact Ev.Zc5 (by simp) (Ev.const rfl)
    have hr := Zen hlm
    rw [h2] at hr
    have hb5 : (acc ++ (l.take m).map (sc ls[n])).length < 5864062014805 := by rw [List.length_append, List.length_map, List.length_take]; omega
    refine Ev.step (fun k => by rw [Zab.l1, if_pos (by omega), if_pos (by omega), if_pos (by omega), if_pos (by omega), Zb6 ls n hn, Zb6 l m hm, if_pos (by omega), w1 (by omega)]) (Ev.bind hr (Ev.Zbn rfl (Ev.bind (ref_values_ev (a := ls[n]) (Zb7.1 h2) h1 hlm) (Ev.Zbn hb5 ?_))))
    have ih := Zd7 ls l n hn ha hl hin acc hacc R hnext hbad d (m + 1) (by omega) (by
      rw [Zfb] at hok ⊢
      intro p hp
      rw [List.take_succ_eq_append_getElem hm] at hp
      rcases List.mem_append.1 hp with hp | hp
      · exact hok p hp
      obtain rfl := List.mem_singleton.1 hp
      exact ⟨h1, Zb7.1 h2⟩)
    rw [List.take_succ_eq_append_getElem hm, List.map_append, ← List.append_assoc] at ih
    exact ih
theorem Zde (ls l : List (List Int)) (ha : ls.length ≤ 1000) (hl : l.length ≤ 1000) (hin : ∀ p ∈ l, p.length ≤ 1000000) : ∀ (d n : Nat), n + d = ls.length → okS (ls.take n) l = true → Ev (fun k => Zab.l0 k ls l (spr (ls.take n) l) (n : Int)) (spS ls l)
  | 0, n, h, hok => by
    obtain rfl : n = ls.length := by omega
    rw [List.take_length] at hok ⊢
    rw [show spS ls l = (sdL (spr ls l), 0) from if_pos hok]
    exact Ev.step (fun k => by rw [Zab.l0, if_neg (by omega)]) (Ev.bind (ref_sorted_ev (Zdh ha hl)) (Ev.const rfl))
  | d + 1, n, h, hok => by
    have hn : n < ls.length := by omega
    have hsm := Zdh (ls := ls.take n) (l := l) (by rw [List.length_take]; omega) hl
    refine Ev.step (G := fun k => Zab.l1 k ls l (spr (ls.take n) l) (n : Int) 0) (fun k => by rw [Zab.l0, if_pos (by omega)]) ?_
    have hh := Zd7 ls l n hn ha hl hin (spr (ls.take n) l) hsm (spS ls l) (fun hc => by
      have ih := Zde ls l ha hl hin d (n + 1) (by omega) (by
        rw [Zfc] at hok ⊢
        intro p hp
        rw [List.take_succ_eq_append_getElem hn] at hp
        rcases List.mem_append.1 hp with hp | hp
        · exact hok p hp
        obtain rfl := List.mem_singleton.1 hp
        exact hc)
      rw [List.take_succ_eq_append_getElem hn, spr_snoc] at ih
      exact ih) (fun hc => if_neg (fun h => by rw [Zfc.1 h _ (List.getElem_mem hn)] at hc; cases hc)) l.length 0 (by omega) rfl
    simpa using hh
theorem Zd6 {ls l : List (List Int)} (ha : ls.length ≤ 1000) (hl : l.length ≤ 1000) (hin : ∀ p ∈ l, p.length ≤ 1000000) : Ev (fun k => Zab.f k ls l) (spS ls l) :=
  Zde ls l ha hl hin ls.length 0 (by omega) rfl
theorem spS_len {ls l : List (List Int)} (ha : ls.length ≤ 1000) (hl : l.length ≤ 1000) (hin : ∀ p ∈ l, p.length ≤ 1000000) : (spS ls l).1.length ≤ 1000000 ∧ ∀ x ∈ (spS ls l).1, x.length ≤ 1000000 := by
  unfold spS
  split
  · rename_i h
    exact ⟨Nat.le_trans (Zcz _) (Zdh ha hl), sd_in (spr_in h hin)⟩
  simp
end G
end Go.Proofs.Yteopgafbamipeaa.P
/- All that any changes make of any values, of one and of each of some, or that one is none, is as the document says: for any lists. -/
namespace Go.Proofs.Yteopgafbamipeaa.P
open Go.RowKit G Go.Proofs.YteopgafbamipeaaW.PrintWords Go.Proofs.YteopgafbamipeaaW.PrintLast Go.Proofs.YteopgafbamipeaaW.PrintMore
set_option linter.unusedVariables false
theorem spS_one (a : List Int) (l : List (List Int)) : spS [a] l = orb a l := by
  unfold spS orb okS spr
  simp
theorem cut_one {α : Type} (ls : List α) (n : Nat) (h : n < ls.length) : (ls.take (((n + 1 : Nat) : Int)).toNat).drop ((n : Int)).toNat = [ls[n]] := by
  rw [Int.toNat_natCast, Int.toNat_natCast, List.take_succ_eq_append_getElem h, List.drop_append_of_le_length (by rw [List.length_take]; omega)]
  rw [List.drop_of_length_le (by rw [List.length_take]; omega)]
  rfl
theorem Zeo (ls l : List (List Int)) (ha : ls.length ≤ 1000) (hl : l.length ≤ 1000) (hin : ∀ p ∈ l, p.length ≤ 1000000) : ∀ (d n : Nat), n + d = ls.length → Ev (fun k => Zac.l0 k ls l (n : Int)) true
  | 0, n, h => Ev.step (fun k => by rw [Zac.l0, if_neg (by omega)]) (Ev.bind (F := fun k => Zax.f k) (a := true) (Ev.const rfl) (Ev.const rfl))
  | d + 1, n, h => by
    have hn : n < ls.length := by omega
    have hs := Zd6 (ls := [ls[n]]) (l := l) (by simp) hl hin
    rw [spS_one] at hs
    have hlen := spS_len (ls := [ls[n]]) (l := l) (by simp) hl hin
    rw [spS_one] at hlen
    refine Ev.step (fun k => by rw [Zac.l0, if_pos (by omega), if_pos (by omega), Zb6 ls n hn, w1 (by omega), cut_one ls n hn]) (Ev.bind (orbit_ev (a := ls[n]) (by omega) hin) ?_)
    refine Ev.Zbn (by omega) (Ev.Zbn (by omega) (Ev.bind hs (Ev.Zbn rfl (Ev.bind (Zem rfl (by omega) (fun x hx => by have := hlen.2 x hx; omega)) (Ev.Zbn rfl ?_)))))
    exact Zeo ls l ha hl hin d (n + 1) (by omega)
theorem spreads (l0 l1 : List (List Int)) (h0 : l0.length ≤ 6000000000000) (i0 : ∀ x ∈ l0, x.length ≤ 20000000000000) (h1 : l1.length ≤ 6000000000000) (i1 : ∀ x ∈ l1, x.length ≤ 20000000000000) : Ev (fun k => Zac.f k l0 l1) true := by
  have c0 := Zds 4 6 l0
  have c1 := Zds 4 6 l1
  have hin : ∀ p ∈ cutL 4 6 l1, p.length ≤ 1000000 := fun p hp => by have := cutL_in hp; omega
  unfold Zac.f
  have hlen := spS_len (ls := cutL 4 6 l0) (l := cutL 4 6 l1) (by omega) (by omega) hin
  refine Ev.bind (small_ev h0 i0) (Ev.bind (small_ev h1 i1) (Ev.bind (spread_ev (by omega) (by omega) hin) (Ev.bind (Zd6 (by omega) (by omega) hin) (Ev.Zbn rfl (Ev.bind (Zem rfl (by omega) (fun x hx => by have := hlen.2 x hx; omega)) ?_)))))
  refine Ev.step (fun k => by rw [Zac.j0, if_neg (by simp)]) ?_
  exact Zeo _ _ (by omega) (by omega) hin _ 0 (by rw [Nat.zero_add])
theorem Zeq (A0 : Option Addr) (c0 : Nat) (x0 : List (List Int)) (A1 : Option Addr) (c1 : Nat) (x1 : List (List Int)) (W : World)
    (hC0 : (Kd.slice 3 (Kd.int .i64)).C W A0 x0.length x0) (hc0 : x0.length ≤ c0) (ok0 : x0.length * 24 ≤ 140737488351232 ∧ ∀ x ∈ x0, x.length * 8 ≤ 140737488351232 ∧ ∀ y ∈ x, (Lit.int .i64 y).wf = true)
    (hC1 : (Kd.slice 3 (Kd.int .i64)).C W A1 x1.length x1) (hc1 : x1.length ≤ c1) (ok1 : x1.length * 24 ≤ 140737488351232 ∧ ∀ x ∈ x1, x.length * 8 ≤ 140737488351232 ∧ ∀ y ∈ x, (Lit.int .i64 y).wf = true) :
    Calls Try.prog 5 #[.slice A0 x0.length c0, .slice A1 x1.length c1] W fun e W' => e = .returned (.bool true) ∧ Below W.heap.size W W' := by
  obtain ⟨k, hk⟩ := (spreads x0 x1 (by omega) (fun x hx => by have := (ok0.2 x hx).1; omega) (by omega) (fun x hx => by have := (ok1.2 x hx).1; omega)).out
  exact Zac.calls k A0 c0 x0 A1 c1 x1 true W hC0 hc0 hC1 hc1 hk
end Go.Proofs.Yteopgafbamipeaa.P
/- What a datum of a statement's arguments holds: a number, a text, a row, a struct, whatever is nested: its cells read as a value of the kind; and how long its rows are at most (by the weight of the whole). -/
namespace Go.Proofs.Yteopgafbamipeaa.P
open Go.RowKit Go.ChangeShapes Go.WideShapes Go.Proofs.YteopgafbamipeaaW.PrintWords
set_option linter.unusedVariables false

/-- Whatever reads as a datum of type t is a value of kind d, of which ok is true. -/
structure OpensZ {α : Type} (P : Program) (d : Kd α) (ok : α → Prop) (t : TypeId) : Prop where
  out : ∀ {H : Type} (enc : TypeId × Value → H) (w : World) (base : Nat) (sp : Nat → Bool) (held : Bool) (fuel : Nat) (cs : List Value) (x : DataW H × List MemPlace),
    DataW.trod enc P w base sp held fuel t cs = some x → (∀ n ∈ x.1.weights P t, n ≤ reachBytes) → ∃ v : α, d.K w v cs ∧ ok v
theorem OpensZ.int {P : Program} {t : TypeId} {k : IntKind} (ht : P.underlying t = some (.int k)) : OpensZ P (Kd.int k) (fun n => (Lit.int k n).wf = true) t := by
  refine ⟨?_⟩
  intro H enc w base sp held fuel cs x h hz
  obtain ⟨n, rfl, rfl, hw⟩ := DataW.trod_int ht h
  exact ⟨n, rfl, hw⟩
theorem OpensZ.bool {P : Program} {t : TypeId} (ht : P.underlying t = some .bool) : OpensZ P Kd.bool (fun _ => True) t := by
  refine ⟨?_⟩
  intro H enc w base sp held fuel cs x h hz
  obtain ⟨b, rfl, rfl⟩ := DataW.trod_bool ht h
  exact ⟨b, rfl, trivial⟩
theorem OpensZ.string {P : Program} {t : TypeId} (ht : P.underlying t = some .string) : OpensZ P Kd.string (fun s => s.size ≤ maxLen) t := by
  refine ⟨?_⟩
  intro H enc w base sp held fuel cs x h hz
  obtain ⟨s, rfl, rfl, hs⟩ := DataW.trod_string ht h
  exact ⟨s, rfl, hs⟩
theorem OpensZ.iso {α β : Type} {P : Program} {d : Kd α} {ok : α → Prop} {t : TypeId} (h : OpensZ P d ok t) (f : β → α) (g : α → β) (hfg : ∀ a, f (g a) = a) : OpensZ P (Kd.iso d f) (fun b => ok (f b)) t := by
  refine ⟨?_⟩
  intro H enc w base sp held fuel cs x hx hz
  obtain ⟨v, hK, hok⟩ := h.out enc w base sp held fuel cs x hx hz
  exact ⟨g v, by show d.K w (f (g v)) cs; rw [hfg]; exact hK, by show ok (f (g v)); rw [hfg]; exact hok⟩
theorem Ze {H : Type} {P : Program} {t e : TypeId} (ht : P.underlying t = some (.slice e)) {el sp : List (DataW H)} : (DataW.slice el sp : DataW H).weights P t = (el.length + sp.length) * P.bytesOf e :: (DataW.weightsAll P e el ++ DataW.weightsAll P e sp) := by simp [DataW.weights, ht]
theorem weights_agg {H : Type} {P : Program} {t : TypeId} {fs : Array Field} (ht : P.underlying t = some (.struct fs)) {ps : List (DataW H)} : (DataW.agg ps : DataW H).weights P t = DataW.weightsEach P (fs.toList.map (·.type)) ps := by simp [DataW.weights, ht]
theorem Zdm {H : Type} {P : Program} {e : TypeId} {d : DataW H} : ∀ {l : List (DataW H)}, d ∈ l → ∀ {n : Nat}, n ∈ d.weights P e → n ∈ DataW.weightsAll P e l
  | x :: l, hd, n, hn => by
    simp only [DataW.weightsAll, List.mem_append]
    rcases List.mem_cons.1 hd with rfl | hd
    · exact .inl hn
    exact .inr (Zdm hd hn)
theorem choose_list {α : Type} {n : Nat} {R : Nat → α → Prop} (h : ∀ i, i < n → ∃ a, R i a) : ∃ l : List α, l.length = n ∧ ∀ i (hi : i < l.length), R i l[i] := by
  induction n with
  | zero => exact ⟨[], rfl, fun i hi => absurd hi (by simp)⟩
  | succ n ih =>
    obtain ⟨l, hl, hR⟩ := ih (fun i hi => h i (by omega))
    obtain ⟨a, ha⟩ := h n (by omega)
    refine ⟨l ++ [a], by simp [hl], fun i hi => ?_⟩
    rcases Nat.lt_or_ge i l.length with hlt | hge
    · rw [List.getElem_append_left hlt]
      exact hR i hlt
    have : i = l.length := by simp at hi; omega
    subst this
    rw [List.getElem_append_right (by omega)]
    simpa [hl] using ha
theorem addr_add (a : Addr) (i j : Nat) : (a.add i).add j = a.add (i + j) := by
  by_cases h : i = 0
  · subst h; simp [Addr.add]
  by_cases h2 : j = 0
  · subst h2; simp [Addr.add]
  simp [Addr.add, h, h2, Nat.add_assoc]
theorem OpensZ.row {α : Type} {P : Program} {d : Kd α} {ok : α → Prop} {t e : TypeId} {B : Nat} (ht : P.underlying t = some (.slice e)) (hc : P.cellsOf e = d.sz) (hB : P.bytesOf e = B) (h : OpensZ P d ok e) :
    OpensZ P (Kd.slice e d) (fun l => l.length * B ≤ 140737488351232 ∧ ∀ x ∈ l, ok x) t := by
  refine ⟨?_⟩
  intro H enc w base sp held fuel cs x hx hz
  rcases Go.Deep.open_slice ht hx with ⟨rfl, rfl⟩ | ⟨a, len, cap, m, n, D, Pl, rfl, hb, hl, hm, hmm, rfl, he⟩
  · exact ⟨[], ⟨none, 0, rfl, Nat.le_refl _, rfl, by simp, fun h => absurd h (by simp)⟩, by simp, fun x hx => by simp at hx⟩
  have hlm : len ≤ m := by rw [hmm]; split <;> omega
  have each : ∀ i, i < len → ∃ v : α, ok v ∧ ∃ c, c.length = d.sz ∧ d.K w v c ∧ ∀ j u, c[j]? = some u → w.cell? (a.add (i * d.sz + j)) = some u := fun i hi => by
    obtain ⟨cs', h1, h2⟩ := he i (by omega)
    obtain ⟨v, hK, hok⟩ := h.out enc w base sp held n cs' _ h2 (fun q hq => hz q (by
      rw [Ze ht]
      refine List.mem_cons_of_mem _ (List.mem_append_left _ (Zdm (d := D i) (List.mem_map.2 ⟨i, List.mem_range.2 hi, rfl⟩) hq))))
    obtain ⟨_, hlen, hcell⟩ := World.cells?_some h1
    rw [hc] at hlen hcell
    refine ⟨v, hok, cs', hlen, hK, fun j u hu => ?_⟩
    have hj : j < d.sz := by rw [← hlen]; exact (List.getElem?_eq_some_iff.1 hu).1
    have := hcell j hj
    rw [hu] at this
    rw [← this, addr_add]
  obtain ⟨l, hll, hR⟩ := choose_list each
  have hmax : cap ≤ 9223372036854775807 := by unfold maxLen at hm; exact hm
  refine ⟨l, ⟨some a, cap, by rw [hll], by omega, rfl, by omega, fun _ => ⟨a, rfl, fun j p hp => ?_⟩⟩, ?_, fun x hx => ?_⟩
  · obtain ⟨hj, rfl⟩ := List.getElem?_eq_some_iff.1 hp
    obtain ⟨_, c, h1, h2, h3⟩ := hR j hj
    exact ⟨c, h1, h2, h3⟩
  · have h3 := hz ((len + (m - len)) * P.bytesOf e) (by rw [Ze ht]; simp)
    rw [hB] at h3
    rw [hll]
    exact Nat.le_trans (Nat.mul_le_mul_right _ (by omega)) h3
  obtain ⟨i, hi, rfl⟩ := List.mem_iff_getElem.1 hx
  exact (hR i hi).1
/-- The fields from an offset on. -/
structure OpensZF {α : Type} (P : Program) (d : Kd α) (ok : α → Prop) (fs : List Field) (off : Nat) : Prop where
  out : ∀ {H : Type} (enc : TypeId × Value → H) (w : World) (base : Nat) (sp : Nat → Bool) (held : Bool) (fuel : Nat) (cs : List Value), cs.length = off + d.sz →
    (∀ f ∈ fs, ∃ x, DataW.trod enc P w base sp held fuel f.type ((cs.drop f.offset).take (P.cellsOf f.type)) = some x ∧ ∀ n ∈ x.1.weights P f.type, n ≤ reachBytes) → ∃ v : α, d.K w v (cs.drop off) ∧ ok v
theorem OpensZF.last {α : Type} {P : Program} {d : Kd α} {ok : α → Prop} {f : Field} {off : Nat} (ho : f.offset = off) (hc : P.cellsOf f.type = d.sz) (h : OpensZ P d ok f.type) : OpensZF P d ok [f] off := by
  refine ⟨?_⟩
  intro H enc w base sp held fuel cs hl hf
  obtain ⟨x, hx, hz⟩ := hf f (by simp)
  rw [ho, hc, List.take_of_length_le (by simp; omega)] at hx
  exact h.out enc w base sp held fuel _ x hx hz
theorem OpensZF.cons {α β : Type} {P : Program} {d : Kd α} {ok : α → Prop} {d' : Kd β} {ok' : β → Prop} {f : Field} {fs : List Field} {off : Nat} (ho : f.offset = off) (hc : P.cellsOf f.type = d.sz) (h : OpensZ P d ok f.type) (h' : OpensZF P d' ok' fs (off + d.sz)) :
    OpensZF P (Kd.pair d d') (fun z => ok z.1 ∧ ok' z.2) (f :: fs) off := by
  refine ⟨?_⟩
  intro H enc w base sp held fuel cs hl hf
  have hl' : cs.length = off + (d.sz + d'.sz) := hl
  obtain ⟨x, hx, hz⟩ := hf f (by simp)
  obtain ⟨v, hK, hok⟩ := h.out enc w base sp held fuel _ x hx hz
  obtain ⟨v', hK', hok'⟩ := h'.out enc w base sp held fuel cs (by omega) (fun g hg => hf g (List.mem_cons_of_mem _ hg))
  rw [ho, hc] at hK
  refine ⟨(v, v'), ⟨(cs.drop off).take d.sz, cs.drop (off + d.sz), ?_, hK, hK'⟩, hok, hok'⟩
  rw [← List.drop_drop, List.take_append_drop]
theorem OpensZ.struct {α : Type} {P : Program} {d : Kd α} {ok : α → Prop} {t : TypeId} {fs : List Field} (ht : P.underlying t = some (.struct fs.toArray)) (hc : P.cellsOf t = d.sz) (h : OpensZF P d ok fs 0) : OpensZ P d ok t := by
  refine ⟨?_⟩
  intro H enc w base sp held fuel cs x hx hz
  obtain ⟨xs, n, rfl, rfl, hl, hxl, hf⟩ := DataW.trod_struct ht hx
  have := h.out enc w base sp held n cs (by omega) (fun f hf' => by
    obtain ⟨i, hi, rfl⟩ := List.mem_iff_getElem.1 hf'
    have := hf i fs[i] (by simp [hi])
    have hix : i < xs.length := by simp at hxl; omega
    rw [List.getElem?_eq_getElem hix] at this
    refine ⟨xs[i], by simpa using this, fun q hq => hz q ?_⟩
    rw [weights_agg ht]
    exact DataW.weights_mem_each (j := i) (t := fs[i].type) (d := xs[i].1) (by simp [hi]) (by simp [hix]) q hq)
  simpa using this
/-- A slice that is an argument. -/
theorem OpensZ.arg {α H : Type} {P : Program} {d : Kd α} {ok : List α → Prop} {e t : TypeId} (h : OpensZ P (Kd.slice e d) ok t) {enc : TypeId × Value → H} {w : World} {base : Nat} {sp : Nat → Bool} {held : Bool} {A : Option Addr} {len cap : Nat} {dt : DataW H} {ps : List MemPlace}
    (hT : DataW.Trod enc P w base sp held t (.slice A len cap) dt ps) (hz : ∀ n ∈ dt.weights P t, n ≤ reachBytes) : ∃ l : List α, l.length = len ∧ l.length ≤ cap ∧ d.C w A l.length l ∧ ok l := by
  obtain ⟨fuel, hf⟩ := hT
  obtain ⟨l, ⟨A', c, hcs, hl, hC⟩, hok⟩ := h.out enc w base sp held fuel _ _ hf hz
  simp [Value.cells] at hcs
  obtain ⟨rfl, rfl, rfl⟩ := hcs
  exact ⟨l, rfl, hl, hC, hok⟩
theorem Zek {H : Type} {P : Program} {ts : List TypeId} {ds : List (DataW H)} (h : (DataW.weightsEach P ts ds).all (· ≤ reachBytes) = true) {j : Nat} {t : TypeId} {d : DataW H} (ht : ts[j]? = some t) (hd : ds[j]? = some d) : ∀ n ∈ d.weights P t, n ≤ reachBytes := fun n hn => by
  have := List.all_eq_true.1 h n (DataW.weights_mem_each ht hd n hn)
  simpa using this
end Go.Proofs.Yteopgafbamipeaa.P
namespace Go.Proofs.Yteopgafbamipeaa.groupSpreads
open Go.ChangeShapes Go.WideShapes Go.ChangeAt Go.RowKit
open Go.ChangeMaps (open_string shut_string)
open Go.Proofs.Yteopgafbamipeaa.P
open Go.Proofs.YteopgafbamipeaaW.PrintWords
set_option linter.unusedVariables false
theorem own : ownKnob Try.prog.godebug = none := by kernel_rfl
theorem laidOut : laidOutB Try.prog = true := by kernel_rfl
theorem o_int : OpensZ Try.prog (Kd.int .i64) (fun n => (Lit.int .i64 n).wf = true) 3 := OpensZ.int Try.underlying3
theorem o_Lint : OpensZ Try.prog (Kd.slice 3 (Kd.int .i64)) (fun l => (List.length l * 8 ≤ 140737488351232 ∧ ∀ y1_ ∈ l, (Lit.int .i64 y1_).wf = true)) 22 := OpensZ.row Try.underlying22 (by kernel_rfl) (by kernel_rfl) o_int
theorem o_LLint : OpensZ Try.prog (Kd.slice 22 (Kd.slice 3 (Kd.int .i64))) (fun l => (List.length l * 24 ≤ 140737488351232 ∧ ∀ y1_ ∈ l, (List.length y1_ * 8 ≤ 140737488351232 ∧ ∀ y2_ ∈ y1_, (Lit.int .i64 y2_).wf = true))) 32 := OpensZ.row Try.underlying32 (by kernel_rfl) (by kernel_rfl) o_Lint
set_option maxRecDepth 100000 in
theorem lifted (os : Os) (started : os.Started) (H : Type) (enc : TypeId × Value → H) :
  ReturnsInHanded {} Try.checked os 5 .any (Rows.groupSpreadsSpec.pre6 enc Try.prog Try.f5 Rows.groupSpreadsRow.domain false) (Rows.groupSpreadsSpec.post enc Try.prog Try.f5 false true false false) := by
 refine returnsInHanded_of_change_sized (C := Try.checked) own started (by kernel_rfl) Try.func5
  (ChangeSpec.witness6 (enc := enc) (C := Try.checked) false ⟨#[], #[.slice none 0 0, .slice none 0 0], []⟩ 8 (by kernel_rfl) (by kernel_rfl) (by kernel_rfl) (by kernel_rfl)) ?_
 intro W base args ds gs before hval0 hW hcnd hsz0 _
 have hsz : (DataW.weightsEach Try.prog (Try.f5.params.toList ++ Rows.groupSpreadsSpec.plain.varTypes Try.prog) (ds ++ gs)).all (· ≤ reachBytes) = true := hsz0
 have hval : ∀ (j : Nat) t v, Try.f5.params[j]? = some t → args[j]? = some v → Value.okWide Try.prog W .any base t v := hval0
 have hW' := hW
 obtain ⟨p, q, hA0, hV, rfl, hfz, hnd⟩ := hW
 have hA : DataW.TrodAll enc Try.prog W 0 (fun _ => true) true Try.f5.params.toList args.toList ds p := hA0
 rw [Try.params5] at hA hval hsz
 obtain ⟨v0, vs0, d0, ds0, p0, q0, hargs, rfl, rfl, h0, r0⟩ := trodAll_cons hA
 obtain ⟨v1, vs1, d1, ds1, p1, q1, rfl, rfl, rfl, h1, r1⟩ := trodAll_cons r0
 obtain ⟨rfl, rfl, rfl⟩ := trodAll_nil r1
 obtain rfl : args = #[v0, v1] := by cases args; simp_all
 obtain ⟨rfl, rfl⟩ := trodVars_none hV
 have k0 := h0
 have lt0 : ∀ x ∈ p0, x.block < W.heap.size := by obtain ⟨m, hm⟩ := k0; exact DataW.trod_lt m _ _ _ hm
 obtain ⟨A0, len0, c0, rfl⟩ := okWide_slice Try.underlying32 (hval 0 32 v0 rfl rfl)
 obtain ⟨x0, rfl, hc0, hC0, ok0⟩ := OpensZ.arg o_LLint h0 (Zek hsz (j := 0) (t := 32) rfl rfl)
 have k1 := h1
 have lt1 : ∀ x ∈ p1, x.block < W.heap.size := by obtain ⟨m, hm⟩ := k1; exact DataW.trod_lt m _ _ _ hm
 obtain ⟨A1, len1, c1, rfl⟩ := okWide_slice Try.underlying32 (hval 1 32 v1 rfl rfl)
 obtain ⟨x1, rfl, hc1, hC1, ok1⟩ := OpensZ.arg o_LLint h1 (Zek hsz (j := 1) (t := 32) rfl rfl)
 clear hA0 hval0 hsz0 hsz
 refine (P.Zeq A0 c0 x0 A1 c1 x1 W hC0 hc0 ok0 hC1 hc1 ok1).mono fun e W' ⟨he, bel⟩ => ?_
 subst he
 exact ⟨_, rfl, _, _, _, [], _, [], hW', trodAll_mk1 (shut_bool Try.underlying4 _), (trodAll_cons_mk (Below.trod laidOut (by kernel_rfl) (of_decide_eq_true (by kernel_rfl)) k0 bel lt0) (trodAll_cons_mk (Below.trod laidOut (by kernel_rfl) (of_decide_eq_true (by kernel_rfl)) k1 bel lt1) trodAll_mk0)), rfl, bel.frame _, fun h => by cases h⟩
theorem over : Rows.groupSpreadsRow.holds Try.pinned (OpenSpec.ofChange Rows.groupSpreadsSpec) :=
 OpenClaim.holds_of_wide 5 Try.f5 rfl rfl rfl rfl rfl rfl rfl ⟨rfl, rfl, rfl, rfl, rfl⟩ rfl rfl rfl rfl rfl (by kernel_rfl) Try.func5 (by kernel_rfl)
  (of_decide_eq_true (by kernel_rfl)) (by unfold Func.isWrapper; first | (rw [if_pos (by decide +kernel)]; kernel_rfl) | (rw [if_neg (by decide +kernel)]; exact ⟨rfl, rfl⟩))
  (fun os started H enc _ => lifted os started H enc)
theorem proved : Rows.GroupSpreadsSaid := over
end Go.Proofs.Yteopgafbamipeaa.groupSpreads
namespace Go.Proofs.Yteopgafbamipeaa
/-- The row, under a short name, for the claim. -/
theorem groupSpreads_holds : Rows.GroupSpreadsSaid := groupSpreads.proved
end Go.Proofs.Yteopgafbamipeaa
