/- Proved: the statement GroupTwo. Conditions: none but those of the statement. -/
import Derived.Test.YteopgafbamipeaaZ1
import Derived.Test.YteopgafbamipeaaZ2
import Derived.Test.YteopgafbamipeaaRows
import Derived.WalkKit
import Derived.ProofKit
import Derived.OpenShut
import Derived.ShutString
import Derived.ChangeOld
import Derived.Below
import Derived.SizedLaws
import Derived.Test.YteopgafbamipeaaU1

namespace Go.Proofs.Yteopgafbamipeaa.P
open Go.RowKit Go.Proofs.YteopgafbamipeaaW.PrintWords Go.Proofs.YteopgafbamipeaaW.PrintLast Go.Proofs.YteopgafbamipeaaW.PrintMore
attribute [local go_sem] Zca Zcc Zc2 Zc3 Zby Zbz Zcb Zcd
set_option linter.unusedVariables false
set_option linter.unusedSimpArgs false
/-! ### Zaf: function 10 -/
mutual
def Zaf.j0 : Nat → List Int → List Int → Bool → Option (List Int × Int)
 | 0, _, _, _ => none
 | k + 1, x0, x1, x22 => if x22 = true then (some (([] : List Int), 1)) else (Zaf.l0 k x0 x1 (([] : List Int)) 0)
def Zaf.l0 : Nat → List Int → List Int → List Int → Int → Option (List Int × Int)
 | 0, _, _, _, _ => none
 | k + 1, x0, x1, x6, x7 => if x7 < (x0.length : Int) then (if 0 ≤ x7 then (if 0 ≤ (rd x0 x7) then (if (rd x0 x7) < (x1.length : Int) then (if x6.length < 17592186044416 then (Zaf.l0 k x0 x1 (x6 ++ [rd x1 (rd x0 x7)]) (wrap64 (x7 + 1))) else (none)) else (none)) else (none)) else (none)) else (some (x6, 0))
end
def Zaf.f (k : Nat) (l0 : List Int) (l1 : List Int) : Option (List Int × Int) := if (l0.length : Int) = (l1.length : Int) then ((Zad.f k l0).bind fun t110 => (if t110 = true then ((Zad.f k l1).bind fun t111 => (Zaf.j0 k l0 l1 (!t111))) else (Zaf.j0 k l0 l1 true))) else (Zaf.j0 k l0 l1 true)
theorem Zaf.Za7 : ∀ k, (∀ y0 y1 y2, LeO (Zaf.j0 k y0 y1 y2) (Zaf.j0 (k + 1) y0 y1 y2)) ∧ (∀ y0 y1 y2 y3, LeO (Zaf.l0 k y0 y1 y2 y3) (Zaf.l0 (k + 1) y0 y1 y2 y3))
 | 0 => ⟨fun _ _ _ r h => by simp [Zaf.j0] at h, fun _ _ _ _ r h => by simp [Zaf.l0] at h⟩
 | k + 1 => by
  obtain ⟨ih0, ih1⟩ := Zaf.Za7 k
  refine ⟨?_, ?_⟩
  ·intro y0 y1 y2
   unfold Zaf.j0
   repeat' first
   | (with_reducible exact ih0 _ _ _)
   | (with_reducible exact ih1 _ _ _ _)
   | (with_reducible exact Zad.mono _ _)
   | (with_reducible exact LeO.refl _)
   | (with_reducible exact LeO.none _)
   | (with_reducible refine LeO.ite ?_ ?_)
   | (with_reducible refine LeO.bind ?_ (fun _ => ?_))
   | exact ih0 _ _ _
   | exact ih1 _ _ _ _
   | exact Zad.mono _ _
   | exact LeO.none _
   | refine LeO.ite ?_ ?_
   | refine LeO.bind ?_ (fun _ => ?_)
  intro y0 y1 y2 y3
  unfold Zaf.l0
  repeat' first
  | (with_reducible exact ih0 _ _ _)
  | (with_reducible exact ih1 _ _ _ _)
  | (with_reducible exact Zad.mono _ _)
  | (with_reducible exact LeO.refl _)
  | (with_reducible exact LeO.none _)
  | (with_reducible refine LeO.ite ?_ ?_)
  | (with_reducible refine LeO.bind ?_ (fun _ => ?_))
  | exact ih0 _ _ _
  | exact ih1 _ _ _ _
  | exact Zad.mono _ _
  | exact LeO.none _
  | refine LeO.ite ?_ ?_
  | refine LeO.bind ?_ (fun _ => ?_)
theorem Zaf.mono : ∀ a0 a1 k, LeO (Zaf.f k a0 a1) (Zaf.f (k + 1) a0 a1) := by
 intro a0 a1 k
 obtain ⟨ih0, ih1⟩ := Zaf.Za7 k
 unfold Zaf.f
 repeat' first
   | (with_reducible exact ih0 _ _ _)
   | (with_reducible exact ih1 _ _ _ _)
   | (with_reducible exact Zad.mono _ _)
   | (with_reducible exact LeO.refl _)
   | (with_reducible exact LeO.none _)
   | (with_reducible refine LeO.ite ?_ ?_)
   | (with_reducible refine LeO.bind ?_ (fun _ => ?_))
   | exact ih0 _ _ _
   | exact ih1 _ _ _ _
   | exact Zad.mono _ _
   | exact LeO.none _
   | refine LeO.ite ?_ ?_
   | refine LeO.bind ?_ (fun _ => ?_)
set_option maxHeartbeats 8000000 in
set_option maxRecDepth 100000 in
theorem Zaf.calls (k : Nat) (A0 : Option Addr) (c0 : Nat) (l0 : List Int) (A1 : Option Addr) (c1 : Nat) (l1 : List Int) (r1 : List Int) (r2 : Int) (w : World) (hr0 : Kd.C (Kd.int .i64) w A0 l0.length l0) (hc0 : l0.length ≤ c0) (hr1 : Kd.C (Kd.int .i64) w A1 l1.length l1) (hc1 : l1.length ≤ c1) (h : Zaf.f k l0 l1 = some (r1, r2)) :
  Calls Try.prog 10 #[.slice A0 l0.length c0, .slice A1 l1.length c1] w fun e w' => ∃ v0_ : Value, e = .returned (.tuple #[v0_, .int .i64 r2]) ∧ Kd.R (Kd.int .i64) 3 w' w.heap.size (fun _ => True) v0_ r1 ∧ Below w.heap.size w w' := by
 have HR0 := Zaa.mk hr0
 have HC0 := Zaa.mk hc0
 clear hr0 hc0
 have HR1 := Zaa.mk hr1
 have HC1 := Zaa.mk hc1
 clear hr1 hc1
 have HB := Zaa.mk (Below.refl w.heap.size w)
 have H : (if (l0.length : Int) = (l1.length : Int) then ((Zad.f k l0).bind fun t110 => (if t110 = true then ((Zad.f k l1).bind fun t111 => (Zaf.j0 k l0 l1 (!t111))) else (Zaf.j0 k l0 l1 true))) else (Zaf.j0 k l0 l1 true)) = some (r1, r2) := h
 clear h
 have HC3 := Zaa.mk H
 clear H
 go_enter Try.func10, Try.ntmps10
 go_upto_region 1 with (fail)
 go_cut [22] (fun v22 wc => ∃ (kq : Nat) (x22_2 : Bool), v22 = .bool x22_2 ∧ Zaa (Zaf.j0 kq l0 l1 x22_2 = some (r1, r2)) ∧ Zaa (kq ≤ k) ∧ Zaa (Below w.heap.size w wc))
 case first =>
  have H := HC3.out
  clear HC3
  by_cases c4 : (l0.length : Int) = (l1.length : Int)
  rotate_left
  ·rw [if_neg c4] at H
   have c4b0 : ((l0.length : Int) == (l1.length : Int)) = false := beq_eq_false_iff_ne.mpr c4
   have c4b1 : ((l0.length : Int) != (l1.length : Int)) = true := bne_iff_ne.mpr c4
   have c4b2 : (l0.length == l1.length) = false := by first | simpa using c4 | (simp at c4 ⊢; omega)
   (first | rw [c4b0] | (simp only [Zb5, Zci]; rw [c4b0]) | skip)
   have H' := Zaa.mk H
   clear H
   go_wp2
   go_meet
   case rel => exact ⟨_, (true), (by first | rfl | (simp; done) | (simp [*]; done)), H', ⟨by first | omega | exact Nat.le_refl _⟩, ⟨by repeat (first | (with_reducible first | exact HB.out | apply Zae | apply Zab | apply Zag) | exact HB.out)⟩⟩
  rw [if_pos c4] at H
  have c4b0 : ((l0.length : Int) == (l1.length : Int)) = true := beq_iff_eq.mpr c4
  have c4b1 : ((l0.length : Int) != (l1.length : Int)) = false := bne_eq_false_iff_eq.mpr c4
  have c4b2 : (l0.length == l1.length) = true := by first | simpa using c4 | (simp at c4 ⊢; omega)
  clear c4
  (first | rw [c4b0] | (simp only [Zb5, Zci]; rw [c4b0]) | skip)
  replace H := Option.bind_eq_some_iff.mp H
  obtain ⟨t110, A50, H⟩ := H
  replace H : (if t110 = true then ((Zad.f k l1).bind fun t111 => (Zaf.j0 k l0 l1 (!t111))) else (Zaf.j0 k l0 l1 true)) = some (r1, r2) := H
  have A5 := Zaa.mk A50
  clear A50
  by_cases c6 : t110 = true
  rotate_left
  ·replace c6 := Bool.eq_false_iff.mpr c6
   subst c6
   have H1 : (Zaf.j0 k l0 l1 true) = some (r1, r2) := by rw [if_neg (show ¬ (false = true) by decide)] at H; exact H
   clear H
   have H := H1
   clear H1
   have H' := Zaa.mk H
   clear H
   go_wp2_with (first | (go_at_call 15; (with_reducible refine (Zad.calls k _ _ l0 false _ ?side1 ?side2 A5.out).mono ?_); (case side1 => repeat (first | exact (Kd.Zap HR0.out HB.out) | (with_reducible refine Kd.Zat ?_ _) | (with_reducible refine Kd.C_drewN ?_ _) | (with_reducible refine Kd.C_drew ?_))); (case side2 => exact HC0.out); rintro e w' ⟨rfl, ⟨nd, rfl⟩⟩))
   go_meet
   case rel => exact ⟨_, (true), (by first | rfl | (simp; done) | (simp [*]; done)), H', ⟨by first | omega | exact Nat.le_refl _⟩, ⟨by repeat (first | (with_reducible first | exact HB.out | apply Zae | apply Zab | apply Zag) | exact HB.out)⟩⟩
  subst c6
  have H1 : ((Zad.f k l1).bind fun t111 => (Zaf.j0 k l0 l1 (!t111))) = some (r1, r2) := by rw [if_pos rfl] at H; exact H
  clear H
  have H := H1
  clear H1
  replace H := Option.bind_eq_some_iff.mp H
  obtain ⟨t111, A70, H⟩ := H
  replace H : (Zaf.j0 k l0 l1 (!t111)) = some (r1, r2) := H
  have A7 := Zaa.mk A70
  clear A70
  have H' := Zaa.mk H
  clear H
  go_wp2_with (first | (go_at_call 15; (with_reducible refine (Zad.calls k _ _ l0 true _ ?side1 ?side2 A5.out).mono ?_); (case side1 => repeat (first | exact (Kd.Zap HR0.out HB.out) | (with_reducible refine Kd.Zat ?_ _) | (with_reducible refine Kd.C_drewN ?_ _) | (with_reducible refine Kd.C_drew ?_))); (case side2 => exact HC0.out); rintro e w' ⟨rfl, ⟨nd, rfl⟩⟩) | (go_at_call 15; (with_reducible refine (Zad.calls k _ _ l1 t111 _ ?side1 ?side2 A7.out).mono ?_); (case side1 => repeat (first | exact (Kd.Zap HR1.out (by repeat (first | (with_reducible first | exact HB.out | apply Zae | apply Zab | apply Zag) | exact HB.out))) | (with_reducible refine Kd.Zat ?_ _) | (with_reducible refine Kd.C_drewN ?_ _) | (with_reducible refine Kd.C_drew ?_))); (case side2 => exact HC1.out); rintro e w' ⟨rfl, ⟨nd, rfl⟩⟩))
  go_meet
  case rel => exact ⟨_, (!t111), (by first | rfl | (simp; done) | (simp [*]; done)), H', ⟨by first | omega | exact Nat.le_refl _⟩, ⟨by repeat (first | (with_reducible first | exact HB.out | apply Zae | apply Zab | apply Zag) | exact HB.out)⟩⟩
 case rest =>
  clear HC3
  try clear c1
  try clear p2
  try clear c4
  try clear c4b0
  try clear c4b1
  try clear c4b2
  try clear c6
  obtain ⟨kq, x22_2, rfl, HA, HJ2, HB⟩ := hcut
  cases kq with
  | zero => exact absurd HA.out (by simp [Zaf.j0])
  | succ kj2 =>
   have H := HA.out
   clear HA
   simp only [Zaf.j0] at H
   by_cases c8 : x22_2 = true
   ·subst c8
    have H1 : (some (([] : List Int), 1)) = some (r1, r2) := by rw [if_pos rfl] at H; exact H
    clear H
    have H := H1
    clear H1
    simp only [Option.some.injEq, Prod.mk.injEq] at H
    obtain ⟨rfl, rfl⟩ := H
    go_wp2
    go_ret2
    exact ⟨_, by first | rfl | (simp [Zaw, Zax] <;> rfl) | (simp [*, Zaw, Zax] <;> rfl), by first | exact Kd.Zc6 _ _ _ _ _ | exact Kd.Zel _ _ _ _ _ | exact Kd.V_nil _ _ _ _ _ | exact Kd.Q_nil _ _ _ _ _ | exact Kd.Zcz _ _ _ _ _, by repeat (first | (with_reducible first | exact HB.out | apply Zae | apply Zab | apply Zag) | exact HB.out)⟩
   replace c8 := Bool.eq_false_iff.mpr c8
   subst c8
   have H1 : (Zaf.l0 kj2 l0 l1 (([] : List Int)) 0) = some (r1, r2) := by rw [if_neg (show ¬ (false = true) by decide)] at H; exact H
   clear H
   have H := H1
   clear H1
   obtain ⟨y112, hy112⟩ : ∃ y_ : List Int, y_ = (([] : List Int)) := ⟨_, rfl⟩
   replace H : (Zaf.l0 kj2 l0 l1 y112 0) = some (r1, r2) := by first | (rw [hy112]; with_reducible exact H) | (have H2_ := (Option.bind_some _ _).symm.trans H; rw [hy112]; with_reducible exact H2_) | (have H2_ := (Option.bind_some _ _).symm.trans H; with_reducible exact H2_) | with_reducible exact H | (rw [hy112]; exact H) | exact H
   have Ny112 := Zaa.mk hy112
   clear hy112
   have H' := Zaa.mk H
   clear H
   go_wp2_with (first | ((with_reducible refine Zbw (N := 23) rfl ?_); refine Kd.R_lit (Kd.int .i64) _ 3 ?hg (N := 23) ?hd (xs := ([] : List Int)) (inner := []) (ok := fun _ => True) (okp := fun _ => True) ?hr ?hp (fun _ hk => hk) trivial (Below.refl _ _) (Nat.le_refl _) (by simp) ?_; (case hd => rfl); (case hg => rfl); (case hr => first | (go_simp; done) | (go_simp; rfl)); (case hp => exact (Reps.none _ _)); intro v113 w9 ho10 hb hg_ hnew_; clear hg_ hnew_; (first | rw [← Ny112.out] at ho10 | (simp only [Int.reduceToNat] at ho10; rw [← Ny112.out] at ho10)); have n0_ := Zaa.mk (Kd.Zbh ho10 (Zaz (by repeat (first | (with_reducible first | exact HB.out | apply Zae | apply Zab | apply Zag) | exact HB.out)))); have n1_ := Zaa.mk (Zao (by repeat (first | (with_reducible first | exact HB.out | apply Zae | apply Zab | apply Zag) | exact HB.out)) hb); clear HB; have HO114 := n0_; have HB := n1_; clear n0_ n1_; clear hb ho10))
   go_loopg [6, 7] kj2 (fun kq v6 v7 w' => ∃ (x6_2 : List Int) (x7_2 : Int), v7 = .int .i64 x7_2 ∧ Zaa (Zaf.l0 kq l0 l1 x6_2 x7_2 = some (r1, r2)) ∧ Zaa (kq ≤ kj2) ∧ Zaa (Kd.R (Kd.int .i64) 3 w' w.heap.size (fun _ => True) v6 x6_2) ∧ Zaa (Below w.heap.size w w'))
   case atStart => exact ⟨(y112), (0), (by first | rfl | (simp; done) | (simp [*]; done)), H', ⟨Nat.le_refl _⟩, ⟨by (with_reducible repeat (first | apply Kd.Za1 | apply Kd.Za2 | apply Kd.Za4)); exact HO114.out⟩, ⟨by repeat (first | (with_reducible first | exact HB.out | apply Zae | apply Zab | apply Zag) | exact HB.out)⟩⟩
   case round =>
    clear H'
    try clear c1
    try clear p2
    try clear c4
    try clear c4b0
    try clear c4b1
    try clear c4b2
    try clear c6
    try clear c8
    try clear c10
    try clear p2
    obtain ⟨x6_2, x7_2, rfl, HA, HK2, HO_6, HB⟩ := hrel
    cases gk with
    | zero => exact absurd HA.out (by simp [Zaf.l0])
    | succ k2 =>
     have H := HA.out
     clear HA
     simp only [Zaf.l0] at H
     by_cases c11 : x7_2 < (l0.length : Int)
     rotate_left
     ·rw [if_neg c11] at H
      have c11b0 : decide (x7_2 < (l0.length : Int)) = false := decide_eq_false c11
      clear c11
      simp only [Option.some.injEq, Prod.mk.injEq] at H
      obtain ⟨rfl, rfl⟩ := H
      go_wp2
      go_ret2
      exact ⟨_, by first | rfl | (simp [Zaw, Zax] <;> rfl) | (simp [*, Zaw, Zax] <;> rfl), by (with_reducible repeat (first | apply Kd.Za1 | apply Kd.Za2 | apply Kd.Za4)); exact HO_6.out, by repeat (first | (with_reducible first | exact HB.out | apply Zae | apply Zab | apply Zag) | exact HB.out)⟩

     rw [if_pos c11] at H
     have c11b0 : decide (x7_2 < (l0.length : Int)) = true := decide_eq_true c11
     clear c11
     by_cases c12 : 0 ≤ x7_2
     rotate_left
     ·rw [if_neg c12] at H
      exact absurd H (by simp)
     rw [if_pos c12] at H
     have c12b0 : decide (0 ≤ x7_2) = true := decide_eq_true c12
     clear c12
     by_cases c13 : 0 ≤ (rd l0 x7_2)
     rotate_left
     ·rw [if_neg c13] at H
      exact absurd H (by simp)
     rw [if_pos c13] at H
     have c13b0 : decide (0 ≤ (rd l0 x7_2)) = true := decide_eq_true c13
     clear c13
     by_cases c14 : (rd l0 x7_2) < (l1.length : Int)
     rotate_left
     ·rw [if_neg c14] at H
      exact absurd H (by simp)
     rw [if_pos c14] at H
     have c14b0 : decide ((rd l0 x7_2) < (l1.length : Int)) = true := decide_eq_true c14
     clear c14
     by_cases c15 : x6_2.length < 17592186044416
     rotate_left
     ·rw [if_neg c15] at H
      exact absurd H (by simp)
     rw [if_pos c15] at H
     have LMc15 := Zaa.mk c15
     clear c15
     obtain ⟨y117, hy117⟩ : ∃ y_ : List Int, y_ = (x6_2 ++ [rd l1 (rd l0 x7_2)]) := ⟨_, rfl⟩
     replace H : (Zaf.l0 k2 l0 l1 y117 (wrap64 (x7_2 + 1))) = some (r1, r2) := by first | (rw [hy117]; with_reducible exact H) | (have H2_ := (Option.bind_some _ _).symm.trans H; rw [hy117]; with_reducible exact H2_) | (have H2_ := (Option.bind_some _ _).symm.trans H; with_reducible exact H2_) | with_reducible exact H | (rw [hy117]; exact H) | exact H
     have Ny117 := Zaa.mk hy117
     clear hy117
     have H' := Zaa.mk H
     clear H
     have p115 : 0 ≤ (x7_2 : Int) := of_decide_eq_true (by first | (with_reducible assumption) | assumption)
     have q115 : x7_2 < (l0.length : Int) := of_decide_eq_true (by first | (with_reducible assumption) | assumption)
     obtain ⟨ad115, e115, hx115_0⟩ := Kd.Zbj HR0.out x7_2 p115 q115
     cases e115
     replace hx115_0 := (HB.out.cell (World.block_lt_of_cell? w _ hx115_0)).trans hx115_0
     replace p115 := eq_true p115
     replace q115 := eq_true q115
     have p116 : 0 ≤ ((rd l0 x7_2) : Int) := of_decide_eq_true (by first | (with_reducible assumption) | assumption)
     have q116 : (rd l0 x7_2) < (l1.length : Int) := of_decide_eq_true (by first | (with_reducible assumption) | assumption)
     obtain ⟨ad116, e116, hx116_0⟩ := Kd.Zbj HR1.out (rd l0 x7_2) p116 q116
     cases e116
     replace hx116_0 := (HB.out.cell (World.block_lt_of_cell? w _ hx116_0)).trans hx116_0
     replace p116 := eq_true p116
     replace q116 := eq_true q116
     go_wp2_with (first | ((with_reducible refine Zbe (b := .append) (xs := #[.tmp 30, .tmp 38]) rfl ?_); at_builtin; refine Kd.R_append (Kd.int .i64) (w0 := w) w.heap.size rfl (.tmp 30) (.tmp 38) 22 3 (.int .i64 0) 8 rfl Try.underlying22 info3 rfl (by decide) (by omega) u6 x6_2 (rd l1 (rd l0 x7_2)) [.int .i64 (rd l1 (rd l0 x7_2))] (fun _ => True) (fun _ => False) rfl rfl ?aP (fun _ hk => hk.elim) ?aF ?aO ?aB ?aS ?aL ?_; (case aP => exact rfl); (case aB => exact (by repeat (first | (with_reducible first | exact HB.out | apply Zae | apply Zab | apply Zag) | exact HB.out))); (case aF => exact (fun _ _ => trivial)); (case aO => exact (by (with_reducible repeat (first | apply Kd.Za1 | apply Kd.Za2 | apply Kd.Za4)); exact HO_6.out)); (case aS => exact (Zaz (by repeat (first | (with_reducible first | exact HB.out | apply Zae | apply Zab | apply Zag) | exact HB.out)))); (case aL => have := LMc15.out; omega); intro v118 w16 ho hb hg hat; rw [← Ny117.out] at ho; have n0_ := Zaa.mk (hb); have n1_ := Zaa.mk (ho); clear HB; clear HO_6; have HB := n0_; have HO119 := n1_; clear n0_ n1_; clear ho hb hg hat))
     go_roundg k2
     case measure => have := HJ2.out; have := HK2.out; omega
     case rel => exact ⟨(y117), (wrap64 (x7_2 + 1)), (by first | rfl | (simp; done) | (simp [*]; done)), H', ⟨by have := HJ2.out; have := HK2.out; omega⟩, ⟨by (with_reducible repeat (first | apply Kd.Za1 | apply Kd.Za2 | apply Kd.Za4)); exact HO119.out⟩, ⟨by repeat (first | (with_reducible first | exact HB.out | apply Zae | apply Zab | apply Zag) | exact HB.out)⟩⟩
/-! ### Zai: function 12 -/
def Zai.l0 : Nat → List Int → List Int → Int → Option (List Int × Int)
 | 0, _, _, _ => none
 | k + 1, x0, x4, x5 => if x5 < (x0.length : Int) then (if 0 ≤ x5 then (if 0 ≤ (rd x0 x5) then (if (rd x0 x5) < (x4.length : Int) then (Zai.l0 k x0 (x4.set ((rd x0 x5) : Int).toNat x5) (wrap64 (x5 + 1))) else (none)) else (none)) else (none)) else (some (x4, 0))
def Zai.f (k : Nat) (l0 : List Int) : Option (List Int × Int) := (Zad.f k l0).bind fun t126 => (if t126 = true then (if 0 ≤ (l0.length : Int) then (if ((l0.length : Int) : Int).toNat ≤ 35184372088832 then (Zai.l0 k l0 (List.replicate ((l0.length : Int) : Int).toNat 0) 0) else (none)) else (none)) else (some (([] : List Int), 1)))
theorem Zai.Za7 : ∀ k, (∀ y0 y1 y2, LeO (Zai.l0 k y0 y1 y2) (Zai.l0 (k + 1) y0 y1 y2))
 | 0 => fun _ _ _ r h => by simp [Zai.l0] at h
 | k + 1 => by
  have ih0 := Zai.Za7 k
  intro y0 y1 y2
  unfold Zai.l0
  repeat' first
  | (with_reducible exact ih0 _ _ _)
  | (with_reducible exact Zad.mono _ _)
  | (with_reducible exact LeO.refl _)
  | (with_reducible exact LeO.none _)
  | (with_reducible refine LeO.ite ?_ ?_)
  | (with_reducible refine LeO.bind ?_ (fun _ => ?_))
  | exact ih0 _ _ _
  | exact Zad.mono _ _
  | exact LeO.none _
  | refine LeO.ite ?_ ?_
  | refine LeO.bind ?_ (fun _ => ?_)
theorem Zai.mono : ∀ a0 k, LeO (Zai.f k a0) (Zai.f (k + 1) a0) := by
 intro a0 k
 have ih0 := Zai.Za7 k
 unfold Zai.f
 repeat' first
   | (with_reducible exact ih0 _ _ _)
   | (with_reducible exact Zad.mono _ _)
   | (with_reducible exact LeO.refl _)
   | (with_reducible exact LeO.none _)
   | (with_reducible refine LeO.ite ?_ ?_)
   | (with_reducible refine LeO.bind ?_ (fun _ => ?_))
   | exact ih0 _ _ _
   | exact Zad.mono _ _
   | exact LeO.none _
   | refine LeO.ite ?_ ?_
   | refine LeO.bind ?_ (fun _ => ?_)
set_option maxHeartbeats 8000000 in
set_option maxRecDepth 100000 in
theorem Zai.calls (k : Nat) (A0 : Option Addr) (c0 : Nat) (l0 : List Int) (r1 : List Int) (r2 : Int) (w : World) (hr0 : Kd.C (Kd.int .i64) w A0 l0.length l0) (hc0 : l0.length ≤ c0) (h : Zai.f k l0 = some (r1, r2)) :
  Calls Try.prog 12 #[.slice A0 l0.length c0] w fun e w' => ∃ v0_ : Value, e = .returned (.tuple #[v0_, .int .i64 r2]) ∧ Kd.R (Kd.int .i64) 3 w' w.heap.size (fun _ => True) v0_ r1 ∧ Below w.heap.size w w' := by
 have HR0 := Zaa.mk hr0
 have HC0 := Zaa.mk hc0
 clear hr0 hc0
 have HB := Zaa.mk (Below.refl w.heap.size w)
 have H : ((Zad.f k l0).bind fun t126 => (if t126 = true then (if 0 ≤ (l0.length : Int) then (if ((l0.length : Int) : Int).toNat ≤ 35184372088832 then (Zai.l0 k l0 (List.replicate ((l0.length : Int) : Int).toNat 0) 0) else (none)) else (none)) else (some (([] : List Int), 1)))) = some (r1, r2) := h
 clear h
 replace H := Option.bind_eq_some_iff.mp H
 obtain ⟨t126, A20, H⟩ := H
 replace H : (if t126 = true then (if 0 ≤ (l0.length : Int) then (if ((l0.length : Int) : Int).toNat ≤ 35184372088832 then (Zai.l0 k l0 (List.replicate ((l0.length : Int) : Int).toNat 0) 0) else (none)) else (none)) else (some (([] : List Int), 1))) = some (r1, r2) := H
 have A2 := Zaa.mk A20
 clear A20
 by_cases c3 : t126 = true
 rotate_left
 ·replace c3 := Bool.eq_false_iff.mpr c3
  subst c3
  have H1 : (some (([] : List Int), 1)) = some (r1, r2) := by rw [if_neg (show ¬ (false = true) by decide)] at H; exact H
  clear H
  have H := H1
  clear H1
  simp only [Option.some.injEq, Prod.mk.injEq] at H
  obtain ⟨rfl, rfl⟩ := H
  go_enter Try.func12, Try.ntmps12
  go_wp2_with (first | ((with_reducible refine Zas (f := 15) rfl ?_); refine Zbc (some 7) rfl rfl Try.func15 (by kernel_rfl) rfl #[.slice A0 l0.length c0] rfl (by (try simp only [List.map_toArray, List.map_cons, List.map_nil]); first | done | rfl | (simp only [List.length_drop, List.length_take]; rfl)) ?_; (with_reducible refine (Zad.calls k _ _ l0 false _ ?side1 ?side2 A2.out).mono ?_); (case side1 => repeat (first | exact HR0.out | (with_reducible refine Kd.Zat ?_ _) | (with_reducible refine Kd.C_drewN ?_ _) | (with_reducible refine Kd.C_drew ?_))); (case side2 => exact HC0.out); rintro e w' ⟨rfl, ⟨nd, rfl⟩⟩; refine ⟨_, rfl, ?_⟩))
  go_ret2
  exact ⟨_, by first | rfl | (simp [Zaw, Zax] <;> rfl) | (simp [*, Zaw, Zax] <;> rfl), by first | exact Kd.Zc6 _ _ _ _ _ | exact Kd.Zel _ _ _ _ _ | exact Kd.V_nil _ _ _ _ _ | exact Kd.Q_nil _ _ _ _ _ | exact Kd.Zcz _ _ _ _ _, by repeat (first | (with_reducible first | exact HB.out | apply Zae | apply Zab | apply Zag) | exact HB.out)⟩

 subst c3
 have H1 : (if 0 ≤ (l0.length : Int) then (if ((l0.length : Int) : Int).toNat ≤ 35184372088832 then (Zai.l0 k l0 (List.replicate ((l0.length : Int) : Int).toNat 0) 0) else (none)) else (none)) = some (r1, r2) := by rw [if_pos rfl] at H; exact H
 clear H
 have H := H1
 clear H1
 by_cases c4 : 0 ≤ (l0.length : Int)
 rotate_left
 ·rw [if_neg c4] at H
  exact absurd H (by simp)
 rw [if_pos c4] at H
 have c4b0 := eq_true c4
 have c4b1 : decide (0 ≤ (l0.length : Int)) = true := decide_eq_true c4
 clear c4
 by_cases c5 : ((l0.length : Int) : Int).toNat ≤ 35184372088832
 rotate_left
 ·rw [if_neg c5] at H
  exact absurd H (by simp)
 rw [if_pos c5] at H
 have c5b0 := eq_true c5
 have c5b1 : decide (((l0.length : Int) : Int).toNat ≤ 35184372088832) = true := decide_eq_true c5
 clear c5
 obtain ⟨y127, hy127⟩ : ∃ y_ : List Int, y_ = (List.replicate ((l0.length : Int) : Int).toNat 0) := ⟨_, rfl⟩
 replace H : (Zai.l0 k l0 y127 0) = some (r1, r2) := by first | (rw [hy127]; with_reducible exact H) | (have H2_ := (Option.bind_some _ _).symm.trans H; rw [hy127]; with_reducible exact H2_) | (have H2_ := (Option.bind_some _ _).symm.trans H; with_reducible exact H2_) | with_reducible exact H | (rw [hy127]; exact H) | exact H
 have Ny127 := Zaa.mk hy127
 clear hy127
 have H' := Zaa.mk H
 clear H
 go_enter Try.func12, Try.ntmps12
 go_wp2_with (first | ((with_reducible refine Zas (f := 15) rfl ?_); refine Zbc (some 7) rfl rfl Try.func15 (by kernel_rfl) rfl #[.slice A0 l0.length c0] rfl (by (try simp only [List.map_toArray, List.map_cons, List.map_nil]); first | done | rfl | (simp only [List.length_drop, List.length_take]; rfl)) ?_; (with_reducible refine (Zad.calls k _ _ l0 true _ ?side1 ?side2 A2.out).mono ?_); (case side1 => repeat (first | exact HR0.out | (with_reducible refine Kd.Zat ?_ _) | (with_reducible refine Kd.C_drewN ?_ _) | (with_reducible refine Kd.C_drew ?_))); (case side2 => exact HC0.out); rintro e w' ⟨rfl, ⟨nd, rfl⟩⟩; refine ⟨_, rfl, ?_⟩) | ((with_reducible refine Zbw (N := 11) rfl ?_); refine Kd.R_make (Kd.int .i64) _ 3 rfl (N := 11) rfl 22 _ _ rfl (l0.length : Int) rfl rfl Try.underlying22 (.int .i64 0) 8 info3 rfl (by decide) (by omega) 0 (ok := fun _ => True) (okp := fun _ => True) rfl (fun _ hk => hk) trivial (of_decide_eq_true (by first | (with_reducible assumption) | assumption)) (Nat.le_trans (Nat.mul_le_mul_right _ (of_decide_eq_true (by first | (with_reducible assumption) | assumption) : (l0.length : Int).toNat ≤ 35184372088832)) (by omega)) (Below.refl _ _) (Nat.le_refl _) ?_; intro v128 w6 ho7 hb hg_ hnew_; clear hg_ hnew_; (first | rw [← Ny127.out] at ho7 | (simp only [Int.reduceToNat] at ho7; rw [← Ny127.out] at ho7)); have n0_ := Zaa.mk (Kd.Zbh ho7 (Zaz (by repeat (first | (with_reducible first | exact HB.out | apply Zae | apply Zab | apply Zag) | exact HB.out)))); have n1_ := Zaa.mk (Zao (by repeat (first | (with_reducible first | exact HB.out | apply Zae | apply Zab | apply Zag) | exact HB.out)) hb); clear HB; have HO129 := n0_; have HB := n1_; clear n0_ n1_; clear hb ho7))
 go_loopg [5] k (fun kq v5 w' => ∃ (x4_1 : List Int) (x5_1 : Int), v5 = .int .i64 x5_1 ∧ Zaa (Zai.l0 kq l0 x4_1 x5_1 = some (r1, r2)) ∧ Zaa (kq ≤ k) ∧ Zaa (Kd.R (Kd.int .i64) 3 w' w.heap.size (fun _ => True) v128 x4_1) ∧ Zaa (Below w.heap.size w w'))
 case atStart => exact ⟨(y127), (0), (by first | rfl | (simp; done) | (simp [*]; done)), H', ⟨Nat.le_refl _⟩, ⟨by (with_reducible repeat (first | apply Kd.Za1 | apply Kd.Za2 | apply Kd.Za4)); exact HO129.out⟩, ⟨by repeat (first | (with_reducible first | exact HB.out | apply Zae | apply Zab | apply Zag) | exact HB.out)⟩⟩
 case round =>
  clear H'
  try clear c1
  try clear p2
  try clear c3
  try clear c4
  try clear c4b0
  try clear c4b1
  try clear c5
  try clear c5b0
  try clear c5b1
  obtain ⟨x4_1, x5_1, rfl, HA, HK1, HO_4, HB⟩ := hrel
  cases gk with
  | zero => exact absurd HA.out (by simp [Zai.l0])
  | succ k1 =>
   have H := HA.out
   clear HA
   simp only [Zai.l0] at H
   by_cases c8 : x5_1 < (l0.length : Int)
   rotate_left
   ·rw [if_neg c8] at H
    have c8b0 : decide (x5_1 < (l0.length : Int)) = false := decide_eq_false c8
    clear c8
    simp only [Option.some.injEq, Prod.mk.injEq] at H
    obtain ⟨rfl, rfl⟩ := H
    go_wp2
    go_ret2
    exact ⟨_, by first | rfl | (simp [Zaw, Zax] <;> rfl) | (simp [*, Zaw, Zax] <;> rfl), by (with_reducible repeat (first | apply Kd.Za1 | apply Kd.Za2 | apply Kd.Za4)); exact HO_4.out, by repeat (first | (with_reducible first | exact HB.out | apply Zae | apply Zab | apply Zag) | exact HB.out)⟩
   rw [if_pos c8] at H
   have c8b0 : decide (x5_1 < (l0.length : Int)) = true := decide_eq_true c8
   clear c8
   by_cases c9 : 0 ≤ x5_1
   rotate_left
   ·rw [if_neg c9] at H
    exact absurd H (by simp)
   rw [if_pos c9] at H
   have c9b0 : decide (0 ≤ x5_1) = true := decide_eq_true c9
   clear c9
   by_cases c10 : 0 ≤ (rd l0 x5_1)
   rotate_left
   ·rw [if_neg c10] at H
    exact absurd H (by simp)
   rw [if_pos c10] at H
   have c10b0 : decide (0 ≤ (rd l0 x5_1)) = true := decide_eq_true c10
   clear c10
   by_cases c11 : (rd l0 x5_1) < (x4_1.length : Int)
   rotate_left
   ·rw [if_neg c11] at H
    exact absurd H (by simp)
   rw [if_pos c11] at H
   have c11b0 : decide ((rd l0 x5_1) < (x4_1.length : Int)) = true := decide_eq_true c11
   clear c11
   obtain ⟨y131, hy131⟩ : ∃ y_ : List Int, y_ = (x4_1.set ((rd l0 x5_1) : Int).toNat x5_1) := ⟨_, rfl⟩
   replace H : (Zai.l0 k1 l0 y131 (wrap64 (x5_1 + 1))) = some (r1, r2) := by first | (rw [hy131]; with_reducible exact H) | (have H2_ := (Option.bind_some _ _).symm.trans H; rw [hy131]; with_reducible exact H2_) | (have H2_ := (Option.bind_some _ _).symm.trans H; with_reducible exact H2_) | with_reducible exact H | (rw [hy131]; exact H) | exact H
   have Ny131 := Zaa.mk hy131
   clear hy131
   have H' := Zaa.mk H
   clear H
   have p130 : 0 ≤ (x5_1 : Int) := of_decide_eq_true (by first | (with_reducible assumption) | assumption)
   have q130 : x5_1 < (l0.length : Int) := of_decide_eq_true (by first | (with_reducible assumption) | assumption)
   obtain ⟨ad130, e130, hx130_0⟩ := Kd.Zbj HR0.out x5_1 p130 q130
   cases e130
   replace hx130_0 := (HB.out.cell (World.block_lt_of_cell? w _ hx130_0)).trans hx130_0
   replace p130 := eq_true p130
   replace q130 := eq_true q130
   have p12 : 0 ≤ ((rd l0 x5_1) : Int) := of_decide_eq_true (by first | (with_reducible assumption) | assumption)
   have q12 : ((rd l0 x5_1) : Int) < ((x4_1.length : Int) : Int) := of_decide_eq_true (by first | (with_reducible assumption) | assumption)
   obtain ⟨go12, co12, eo12, gb12, gl12, cl12, HG12⟩ := Kd.R_form HO_4.out (by omega)
   (first | cases eo12 | (injection eo12 with ea_ en_ ec_; (first | subst ea_ | (injection ea_ with ea_; subst ea_)); subst ec_; clear en_))
   have GB12 := Zaa.mk gb12
   have GG12 := Zaa.mk HG12
   clear gb12 gl12 HG12
   obtain ⟨hx12_0, hf12_0⟩ := Kd.Zdy 0 HO_4.out ((rd l0 x5_1) : Int) p12 q12
   replace p12 := eq_true p12
   replace q12 := eq_true q12
   have HP13 := Kd.R_putg HO_4.out ((rd l0 x5_1) : Int) x5_1
   go_wp2_with (first | ((with_reducible refine Zdi (t := 3) (p := 24) rfl ?_); refine Zc5 (t := 3) (p := 24) (v := ?vo_w14) (w1 := (wr.setCell ⟨go12, ((rd l0 x5_1) : Int).toNat, none⟩ (.int .i64 x5_1))) ?hg ?ho ?hn ?hr ?_; (case ho => rfl); (case hg => rfl); (case hn => rfl); (case hr => first | (go_simp; done) | (go_simp; rfl)); intro w14 hw; have hg : wr.grownBy w14 (some go12) := (by rw [hw]; exact HP13.2); have hp_ : Kd.R (Kd.int .i64) 3 w14 w.heap.size (fun _ => True) (.slice (some ⟨go12, 0, none⟩) x4_1.length co12) y131 := (by rw [hw, Ny131.out]; exact HP13.1); clear HP13; have n0_ := Zaa.mk (hp_); have n1_ := Zaa.mk ((by rw [hw]; exact Zcm (HB.out) GB12.out : Below w.heap.size w w14)); clear HO_4; clear HB; have HO_4 := n0_; have HB := n1_; clear n0_ n1_; clear hg hw hp_))
   go_roundg k1
   case measure => have := HK1.out; omega
   case rel => exact ⟨(y131), (wrap64 (x5_1 + 1)), (by first | rfl | (simp; done) | (simp [*]; done)), H', ⟨by have := HK1.out; omega⟩, ⟨by (with_reducible repeat (first | apply Kd.Za1 | apply Kd.Za2 | apply Kd.Za4)); exact HO_4.out⟩, ⟨by repeat (first | (with_reducible first | exact HB.out | apply Zae | apply Zab | apply Zag) | exact HB.out)⟩⟩
/-! ### Zah: function 17 -/
def Zah.l0 : Nat → List Int → List Int → List Int → Int → Option (List Int)
 | 0, _, _, _, _ => none
 | k + 1, x0, x1, x5, x6 => if x6 < (x0.length : Int) then (if 0 ≤ x6 then (if x6 < (x1.length : Int) then (if 0 ≤ (rd x1 x6) then (if (rd x1 x6) < (x5.length : Int) then (Zah.l0 k x0 x1 (x5.set ((rd x1 x6) : Int).toNat (rd x0 x6)) (wrap64 (x6 + 1))) else (none)) else (none)) else (none)) else (none)) else (some x5)
def Zah.f (k : Nat) (l0 : List Int) (l1 : List Int) : Option (List Int) := if 0 ≤ (l0.length : Int) then (if ((l0.length : Int) : Int).toNat ≤ 35184372088832 then (Zah.l0 k l0 l1 (List.replicate ((l0.length : Int) : Int).toNat 0) 0) else (none)) else (none)
theorem Zah.Za7 : ∀ k, (∀ y0 y1 y2 y3, LeO (Zah.l0 k y0 y1 y2 y3) (Zah.l0 (k + 1) y0 y1 y2 y3))
 | 0 => fun _ _ _ _ r h => by simp [Zah.l0] at h
 | k + 1 => by
  have ih0 := Zah.Za7 k
  intro y0 y1 y2 y3
  unfold Zah.l0
  repeat' first
  | (with_reducible exact ih0 _ _ _ _)
  | (with_reducible exact LeO.refl _)
  | (with_reducible exact LeO.none _)
  | (with_reducible refine LeO.ite ?_ ?_)
  | (with_reducible refine LeO.bind ?_ (fun _ => ?_))
  | exact ih0 _ _ _ _
  | exact LeO.none _
  | refine LeO.ite ?_ ?_
  | refine LeO.bind ?_ (fun _ => ?_)
theorem Zah.mono : ∀ a0 a1 k, LeO (Zah.f k a0 a1) (Zah.f (k + 1) a0 a1) := by
 intro a0 a1 k
 have ih0 := Zah.Za7 k
 unfold Zah.f
 repeat' first
   | (with_reducible exact ih0 _ _ _ _)
   | (with_reducible exact LeO.refl _)
   | (with_reducible exact LeO.none _)
   | (with_reducible refine LeO.ite ?_ ?_)
   | (with_reducible refine LeO.bind ?_ (fun _ => ?_))
   | exact ih0 _ _ _ _
   | exact LeO.none _
   | refine LeO.ite ?_ ?_
   | refine LeO.bind ?_ (fun _ => ?_)
def Zah.T5 : Bool × List (List Nat × List Nat) := (true, [([], []), ([], []), ([], []), ([1, 2], [1, 2]), ([3], [3]), ([], []), ([], []), ([5, 6], [5, 6]), ([7], [7]), ([0, 4, 0, 1, 2, 3, 4, 5, 6, 7, 8], [0, 4]), ([9, 8, 0, 1, 2, 3, 4, 5, 6, 7, 8], [8, 9])])
def Zah.B5 : List Nat := [0, 0, 0, 6, 14, 0, 0, 96, 224, 511, 1023]
theorem Zah.tab5 : rtab .any (opsOf Try.f17 5) = Zah.T5 := by kernel_rfl
theorem Zah.bits5 : waitsOk Zah.T5.2 Zah.B5 = true := by kernel_rfl
set_option maxHeartbeats 8000000 in
set_option maxRecDepth 100000 in
theorem Zah.calls (k : Nat) (A0 : Option Addr) (c0 : Nat) (l0 : List Int) (A1 : Option Addr) (c1 : Nat) (l1 : List Int) (r : List Int) (w : World) (hr0 : Kd.C (Kd.int .i64) w A0 l0.length l0) (hc0 : l0.length ≤ c0) (hr1 : Kd.C (Kd.int .i64) w A1 l1.length l1) (hc1 : l1.length ≤ c1) (h : Zah.f k l0 l1 = some r) :
  Calls Try.prog 17 #[.slice A0 l0.length c0, .slice A1 l1.length c1] w fun e w' => ∃ v0_ : Value, e = .returned (v0_) ∧ Kd.R (Kd.int .i64) 3 w' w.heap.size (fun _ => True) v0_ r ∧ Below w.heap.size w w' := by
 have HR0 := Zaa.mk hr0
 have HC0 := Zaa.mk hc0
 clear hr0 hc0
 have HR1 := Zaa.mk hr1
 have HC1 := Zaa.mk hc1
 clear hr1 hc1
 have HB := Zaa.mk (Below.refl w.heap.size w)
 have H : (if 0 ≤ (l0.length : Int) then (if ((l0.length : Int) : Int).toNat ≤ 35184372088832 then (Zah.l0 k l0 l1 (List.replicate ((l0.length : Int) : Int).toNat 0) 0) else (none)) else (none)) = some r := h
 clear h
 by_cases c3 : 0 ≤ (l0.length : Int)
 rotate_left
 ·rw [if_neg c3] at H
  exact absurd H (by simp)

 rw [if_pos c3] at H
 have c3b0 := eq_true c3
 have c3b1 : decide (0 ≤ (l0.length : Int)) = true := decide_eq_true c3
 clear c3
 by_cases c4 : ((l0.length : Int) : Int).toNat ≤ 35184372088832
 rotate_left
 ·rw [if_neg c4] at H
  exact absurd H (by simp)
 rw [if_pos c4] at H
 have c4b0 := eq_true c4
 have c4b1 : decide (((l0.length : Int) : Int).toNat ≤ 35184372088832) = true := decide_eq_true c4
 clear c4
 obtain ⟨y175, hy175⟩ : ∃ y_ : List Int, y_ = (List.replicate ((l0.length : Int) : Int).toNat 0) := ⟨_, rfl⟩
 replace H : (Zah.l0 k l0 l1 y175 0) = some r := by first | (rw [hy175]; with_reducible exact H) | (have H2_ := (Option.bind_some _ _).symm.trans H; rw [hy175]; with_reducible exact H2_) | (have H2_ := (Option.bind_some _ _).symm.trans H; with_reducible exact H2_) | with_reducible exact H | (rw [hy175]; exact H) | exact H
 have Ny175 := Zaa.mk hy175
 clear hy175
 have H' := Zaa.mk H
 clear H
 go_enter Try.func17, Try.ntmps17
 go_wp2_with (first | ((with_reducible refine Zbw (N := 9) rfl ?_); refine Kd.R_make (Kd.int .i64) _ 3 rfl (N := 9) rfl 22 _ _ rfl (l0.length : Int) rfl rfl Try.underlying22 (.int .i64 0) 8 info3 rfl (by decide) (by omega) 0 (ok := fun _ => True) (okp := fun _ => True) rfl (fun _ hk => hk) trivial (of_decide_eq_true (by first | (with_reducible assumption) | assumption)) (Nat.le_trans (Nat.mul_le_mul_right _ (of_decide_eq_true (by first | (with_reducible assumption) | assumption) : (l0.length : Int).toNat ≤ 35184372088832)) (by omega)) (Below.refl _ _) (Nat.le_refl _) ?_; intro v176 w5 ho6 hb hg_ hnew_; clear hg_ hnew_; (first | rw [← Ny175.out] at ho6 | (simp only [Int.reduceToNat] at ho6; rw [← Ny175.out] at ho6)); have n0_ := Zaa.mk (Kd.Zbh ho6 (Zaz (by repeat (first | (with_reducible first | exact HB.out | apply Zae | apply Zab | apply Zag) | exact HB.out)))); have n1_ := Zaa.mk (Zao (by repeat (first | (with_reducible first | exact HB.out | apply Zae | apply Zab | apply Zag) | exact HB.out)) hb); clear HB; have HO177 := n0_; have HB := n1_; clear n0_ n1_; clear hb ho6))
 go_loopg [6] k (fun kq v6 w' => ∃ (x5_1 : List Int) (x6_1 : Int), v6 = .int .i64 x6_1 ∧ Zaa (Zah.l0 kq l0 l1 x5_1 x6_1 = some r) ∧ Zaa (kq ≤ k) ∧ Zaa (Kd.R (Kd.int .i64) 3 w' w.heap.size (fun _ => True) v176 x5_1) ∧ Zaa (Below w.heap.size w w'))
 case atStart => exact ⟨(y175), (0), (by first | rfl | (simp; done) | (simp [*]; done)), H', ⟨Nat.le_refl _⟩, ⟨by (with_reducible repeat (first | apply Kd.Za1 | apply Kd.Za2 | apply Kd.Za4)); exact HO177.out⟩, ⟨by repeat (first | (with_reducible first | exact HB.out | apply Zae | apply Zab | apply Zag) | exact HB.out)⟩⟩
 case round =>
  clear H'
  try clear c1
  try clear p2
  try clear c3
  try clear c3b0
  try clear c3b1
  try clear c4
  try clear c4b0
  try clear c4b1
  obtain ⟨x5_1, x6_1, rfl, HA, HK1, HO_5, HB⟩ := hrel
  cases gk with
  | zero => exact absurd HA.out (by simp [Zah.l0])
  | succ k1 =>
   have H := HA.out
   clear HA
   simp only [Zah.l0] at H
   by_cases c7 : x6_1 < (l0.length : Int)
   rotate_left
   ·rw [if_neg c7] at H
    have c7b0 : decide (x6_1 < (l0.length : Int)) = false := decide_eq_false c7
    clear c7
    obtain rfl := Option.some.inj H
    go_wp2
    go_ret
    exact ⟨_, by first | rfl | (simp [Zaw, Zax] <;> rfl) | (simp [*, Zaw, Zax] <;> rfl), by (with_reducible repeat (first | apply Kd.Za1 | apply Kd.Za2 | apply Kd.Za4)); exact HO_5.out, by repeat (first | (with_reducible first | exact HB.out | apply Zae | apply Zab | apply Zag) | exact HB.out)⟩
   rw [if_pos c7] at H
   have c7b0 : decide (x6_1 < (l0.length : Int)) = true := decide_eq_true c7
   clear c7
   by_cases c8 : 0 ≤ x6_1
   rotate_left
   ·rw [if_neg c8] at H
    exact absurd H (by simp)
   rw [if_pos c8] at H
   have c8b0 : decide (0 ≤ x6_1) = true := decide_eq_true c8
   clear c8
   by_cases c9 : x6_1 < (l1.length : Int)
   rotate_left
   ·rw [if_neg c9] at H
    exact absurd H (by simp)
   rw [if_pos c9] at H
   have c9b0 : decide (x6_1 < (l1.length : Int)) = true := decide_eq_true c9
   clear c9
   by_cases c10 : 0 ≤ (rd l1 x6_1)
   rotate_left
   ·rw [if_neg c10] at H
    exact absurd H (by simp)
   rw [if_pos c10] at H
   have c10b0 : decide (0 ≤ (rd l1 x6_1)) = true := decide_eq_true c10
   clear c10
   by_cases c11 : (rd l1 x6_1) < (x5_1.length : Int)
   rotate_left
   ·rw [if_neg c11] at H
    exact absurd H (by simp)
   rw [if_pos c11] at H
   have c11b0 : decide ((rd l1 x6_1) < (x5_1.length : Int)) = true := decide_eq_true c11
   clear c11
   obtain ⟨y180, hy180⟩ : ∃ y_ : List Int, y_ = (x5_1.set ((rd l1 x6_1) : Int).toNat (rd l0 x6_1)) := ⟨_, rfl⟩
   replace H : (Zah.l0 k1 l0 l1 y180 (wrap64 (x6_1 + 1))) = some r := by first | (rw [hy180]; with_reducible exact H) | (have H2_ := (Option.bind_some _ _).symm.trans H; rw [hy180]; with_reducible exact H2_) | (have H2_ := (Option.bind_some _ _).symm.trans H; with_reducible exact H2_) | with_reducible exact H | (rw [hy180]; exact H) | exact H
   have Ny180 := Zaa.mk hy180
   clear hy180
   have H' := Zaa.mk H
   clear H
   try go_wp2
   have n0_ := Zaa.mk (Kd.Za4 HO_5.out)
   have n1_ := Zaa.mk (Zag HB.out)
   clear HO_5
   clear HB
   have HO_5 := n0_
   have HB := n1_
   clear n0_ n1_
   have p178 : 0 ≤ (x6_1 : Int) := of_decide_eq_true (by first | (with_reducible assumption) | assumption)
   have q178 : x6_1 < (l1.length : Int) := of_decide_eq_true (by first | (with_reducible assumption) | assumption)
   obtain ⟨ad178, e178, hx178_0⟩ := Kd.Zbj HR1.out x6_1 p178 q178
   have hw178_0 := hx178_0
   cases e178
   replace hx178_0 := (HB.out.cell (World.block_lt_of_cell? w _ hx178_0)).trans hx178_0
   replace p178 := eq_true p178
   replace q178 := eq_true q178
   have p179 : 0 ≤ (x6_1 : Int) := of_decide_eq_true (by first | (with_reducible assumption) | assumption)
   have q179 : x6_1 < (l0.length : Int) := of_decide_eq_true (by first | (with_reducible assumption) | assumption)
   obtain ⟨ad179, e179, hx179_0⟩ := Kd.Zbj HR0.out x6_1 p179 q179
   have hw179_0 := hx179_0
   cases e179
   replace hx179_0 := (HB.out.cell (World.block_lt_of_cell? w _ hx179_0)).trans hx179_0
   replace p179 := eq_true p179
   replace q179 := eq_true q179
   have p12 : 0 ≤ ((rd l1 x6_1) : Int) := of_decide_eq_true (by first | (with_reducible assumption) | assumption)
   have q12 : ((rd l1 x6_1) : Int) < ((x5_1.length : Int) : Int) := of_decide_eq_true (by first | (with_reducible assumption) | assumption)
   obtain ⟨go12, co12, eo12, gb12, gl12, cl12, HG12⟩ := Kd.R_form HO_5.out (by omega)
   (first | cases eo12 | (injection eo12 with ea_ en_ ec_; (first | subst ea_ | (injection ea_ with ea_; subst ea_)); subst ec_; clear en_))
   have GB12 := Zaa.mk gb12
   have GG12 := Zaa.mk HG12
   clear gb12 gl12 HG12
   obtain ⟨hx12_0, hf12_0⟩ := Kd.Zdy 0 HO_5.out ((rd l1 x6_1) : Int) p12 q12
   replace p12 := eq_true p12
   replace q12 := eq_true q12
   have HP14 := Kd.R_putn HO_5.out ((rd l1 x6_1) : Int) (rd l0 x6_1)
   rw [← Ny180.out] at HP14
   have HQ14 := Zaa.mk HP14
   clear HP14
   refine start_ (n := 11) (S := fun w' => w'.cell? (ad178.add (x6_1).toNat) = some (.int .i64 (rd l1 x6_1)) ∧ w'.cell? (ad179.add (x6_1).toNat) = some (.int .i64 (rd l0 x6_1))) (ds := [10]) #[false, false, false, false, false, false, false, false, false, false, false] (by kernel_rfl) rfl rfl ⟨((HB.out.cell (World.block_lt_of_cell? w _ hw178_0)).trans hw178_0), ((HB.out.cell (World.block_lt_of_cell? w _ hw179_0)).trans hw179_0)⟩ (fun hHeld => ?_); refine with_tabW Zah.tab5 Zah.bits5 (fun HT_ HW_ => ?_)
   generalize wr.drew = w13 at HO_5 HB GG12 HQ14 hf12_0 hx12_0 hx178_0 hx179_0 hHeld ⊢
   refine pure_ (i := 0) (N := some 16) (v := ?_) (a' := ?_) #[true, false, false, false, false, false, false, false, false, false, false] rfl rfl (Zdo HT_.out (by kernel_rfl)) (fun _ _ _ h => h) (Or.inl ⟨by rfl, ?_⟩) ?_ ?_
   rotate_left
   ·intro w'
    go_simp
    with_reducible rfl
   rotate_left
   ·simp only [Act.put, List.setIfInBounds_toArray, List.set_cons_zero, List.set_cons_succ, Zb5, Zci]
    rfl
   refine pure_ (i := 1) (N := some 17) (v := ?_) (a' := ?_) #[true, true, false, false, false, false, false, false, false, false, false] rfl rfl (Zdo HT_.out (by kernel_rfl)) (fun _ _ _ h => h) (Or.inl ⟨by rfl, ?_⟩) ?_ ?_
   rotate_left
   ·intro w'
    go_simp
    with_reducible rfl
   rotate_left
   ·simp only [Act.put, List.setIfInBounds_toArray, List.set_cons_zero, List.set_cons_succ, Zb5, Zci]
    rfl
   refine pure_ (i := 2) (N := some 18) (v := ?_) (a' := ?_) #[true, true, true, false, false, false, false, false, false, false, false] rfl rfl (Zdo HT_.out (by kernel_rfl)) (fun _ _ _ h => h) (Or.inl ⟨by rfl, ?_⟩) ?_ ?_
   rotate_left
   ·intro w'
    go_simp
    with_reducible rfl
   rotate_left
   ·simp only [Act.put, List.setIfInBounds_toArray, List.set_cons_zero, List.set_cons_succ, Zb5, Zci]
    rfl
   refine pure_ (i := 3) (N := some 19) (v := ?_) (a' := ?_) #[true, true, true, true, false, false, false, false, false, false, false] rfl rfl (Zdo HT_.out (by kernel_rfl)) (fun _ _ _ h => h) (Or.inl ⟨by rfl, ?_⟩) ?_ ?_
   rotate_left
   ·intro w'
    go_simp
    with_reducible rfl
   rotate_left
   ·simp only [Act.put, List.setIfInBounds_toArray, List.set_cons_zero, List.set_cons_succ, Zb5, Zci]
    rfl
   refine pure_ (i := 5) (N := some 21) (v := ?_) (a' := ?_) #[true, true, true, true, false, true, false, false, false, false, false] rfl rfl (Zdo HT_.out (by kernel_rfl)) (fun _ _ _ h => h) (Or.inl ⟨by rfl, ?_⟩) ?_ ?_
   rotate_left
   ·intro w'
    go_simp
    with_reducible rfl
   rotate_left
   ·simp only [Act.put, List.setIfInBounds_toArray, List.set_cons_zero, List.set_cons_succ, Zb5, Zci]
    rfl
   refine pure_ (i := 6) (N := some 22) (v := ?_) (a' := ?_) #[true, true, true, true, false, true, true, false, false, false, false] rfl rfl (Zdo HT_.out (by kernel_rfl)) (fun _ _ _ h => h) (Or.inl ⟨by rfl, ?_⟩) ?_ ?_
   rotate_left
   ·intro w'
    go_simp
    with_reducible rfl
   rotate_left
   ·simp only [Act.put, List.setIfInBounds_toArray, List.set_cons_zero, List.set_cons_succ, Zb5, Zci]
    rfl
   refine pure_ (i := 7) (N := some 23) (v := ?_) (a' := ?_) #[true, true, true, true, false, true, true, true, false, false, false] rfl rfl (Zdo HT_.out (by kernel_rfl)) (fun _ _ _ h => h) (Or.inl ⟨by rfl, ?_⟩) ?_ ?_
   rotate_left
   ·intro w'
    go_simp
    with_reducible rfl
   rotate_left
   ·simp only [Act.put, List.setIfInBounds_toArray, List.set_cons_zero, List.set_cons_succ, Zb5, Zci]
    rfl
   refine take_ (i := 4) (N := some 20) (v := ?_) (a' := ?_) #[true, true, true, true, true, true, true, true, false, false, false] rfl rfl (take_ofW HT_.out HW_.out (by kernel_rfl)) (fun _ _ _ h => h) (Or.inl ⟨by rfl, ?_⟩) hHeld ?_ ?_
   rotate_left
   ·rintro w' ⟨s0, s1⟩
    go_simp
    with_reducible rfl
   rotate_left
   ·simp only [Act.put, List.setIfInBounds_toArray, List.set_cons_zero, List.set_cons_succ, Zb5, Zci]
    rfl
   refine take_ (i := 8) (N := some 24) (v := ?_) (a' := ?_) #[true, true, true, true, true, true, true, true, true, false, false] rfl rfl (take_ofW HT_.out HW_.out (by kernel_rfl)) (fun _ _ _ h => h) (Or.inl ⟨by rfl, ?_⟩) hHeld ?_ ?_
   rotate_left
   ·rintro w' ⟨s0, s1⟩
    go_simp
    with_reducible rfl
   rotate_left
   ·simp only [Act.put, List.setIfInBounds_toArray, List.set_cons_zero, List.set_cons_succ, Zb5, Zci]
    rfl
   refine pure_ (i := 9) (N := some 25) (v := ?_) (a' := ?_) #[true, true, true, true, true, true, true, true, true, true, false] rfl rfl (Zdo HT_.out (by kernel_rfl)) (fun _ _ _ h => h) (Or.inl ⟨by rfl, ?_⟩) ?_ ?_
   rotate_left
   ·intro w'
    go_simp
    with_reducible rfl
   rotate_left
   ·simp only [Act.put, List.setIfInBounds_toArray, List.set_cons_zero, List.set_cons_succ, Zb5, Zci]
    rfl
   refine last_ (i := 10) (N := none) #[true, true, true, true, true, true, true, true, true, true, true] rfl rfl (one_of HT_.out (by kernel_rfl)) (by decide) (fun K hK => ?_)
   refine skip_ (w1 := ?_) (by rfl) rfl ?_ ?_
   rotate_left
   ·go_simp
    rfl
   refine hK.out _ _ ?_
   clear hK K
   refine done_ (done_of HT_.out (by kernel_rfl)) ?_
   try go_wp2
   go_roundg k1
   case measure => have := HK1.out; omega
   case rel => exact ⟨(y180), (wrap64 (x6_1 + 1)), (by first | rfl | (simp; done) | (simp [*]; done)), H', ⟨by have := HK1.out; omega⟩, ⟨by (with_reducible repeat (first | apply Kd.Za1 | apply Kd.Za2 | apply Kd.Za4)); exact HQ14.out⟩, ⟨by repeat (first | (with_reducible first | exact HB.out | apply Zae | apply Zab | apply Zag | refine Zcm ?_ GB12.out) | exact HB.out)⟩⟩
/-! ### Za: function 3 -/
def Za.j0 : Nat → List Int → List Int → List Int → Int → Bool → Option (Bool)
 | 0, _, _, _, _, _ => none
 | k + 1, x0, x2, x15, x16, x93 => if x93 = true then (none) else (if x16 = 0 then ((Zah.f k x2 x0).bind fun t207 => ((Zac.f k x15 t207).bind fun t210 => (if t210 = true then ((Zar.f k).bind fun t211 => (some t211)) else (none)))) else (if x16 = 1 then (if (x15.length : Int) = 0 then ((Zar.f k).bind fun t212 => (some t212)) else (none)) else (none)))
def Za.f (k : Nat) (l0 : List Int) (l1 : List Int) (l2 : List Int) : Option (Bool) := if 0 ≤ (mn (l0.length : Int) 30) then (if (mn (l0.length : Int) 30) ≤ (l0.length : Int) then (if 0 ≤ (mn (l1.length : Int) 30) then (if (mn (l1.length : Int) 30) ≤ (l1.length : Int) then (if 0 ≤ (mn (l2.length : Int) 30) then (if (mn (l2.length : Int) 30) ≤ (l2.length : Int) then ((Zaj.f k (l0.take ((mn (l0.length : Int) 30) : Int).toNat) (l1.take ((mn (l1.length : Int) 30) : Int).toNat)).bind fun bt184 => ((Zaf.f k (l0.take ((mn (l0.length : Int) 30) : Int).toNat) (l1.take ((mn (l1.length : Int) 30) : Int).toNat)).bind fun bt188 => ((Zaq.f k (l0.take ((mn (l0.length : Int) 30) : Int).toNat)).bind fun bt192 => ((Zai.f k (l0.take ((mn (l0.length : Int) 30) : Int).toNat)).bind fun bt196 => ((Zak.f k (l2.take ((mn (l2.length : Int) 30) : Int).toNat) (l0.take ((mn (l0.length : Int) 30) : Int).toNat)).bind fun bt200 => (if bt184.2 = bt188.2 then ((Zac.f k bt184.1 bt188.1).bind fun t204 => (if t204 = true then (if bt192.2 = bt196.2 then ((Zac.f k bt192.1 bt196.1).bind fun t205 => (if t205 = true then (if ((l2.take ((mn (l2.length : Int) 30) : Int).toNat).length : Int) = ((l0.take ((mn (l0.length : Int) 30) : Int).toNat).length : Int) then ((Zad.f k (l0.take ((mn (l0.length : Int) 30) : Int).toNat)).bind fun t206 => (Za.j0 k (l0.take ((mn (l0.length : Int) 30) : Int).toNat) (l2.take ((mn (l2.length : Int) 30) : Int).toNat) bt200.1 bt200.2 ((bt200.2 == 0) != t206))) else (Za.j0 k (l0.take ((mn (l0.length : Int) 30) : Int).toNat) (l2.take ((mn (l2.length : Int) 30) : Int).toNat) bt200.1 bt200.2 ((bt200.2 == 0) != false))) else (Za.j0 k (l0.take ((mn (l0.length : Int) 30) : Int).toNat) (l2.take ((mn (l2.length : Int) 30) : Int).toNat) bt200.1 bt200.2 true))) else (Za.j0 k (l0.take ((mn (l0.length : Int) 30) : Int).toNat) (l2.take ((mn (l2.length : Int) 30) : Int).toNat) bt200.1 bt200.2 true)) else (Za.j0 k (l0.take ((mn (l0.length : Int) 30) : Int).toNat) (l2.take ((mn (l2.length : Int) 30) : Int).toNat) bt200.1 bt200.2 true))) else (Za.j0 k (l0.take ((mn (l0.length : Int) 30) : Int).toNat) (l2.take ((mn (l2.length : Int) 30) : Int).toNat) bt200.1 bt200.2 true))))))) else (none)) else (none)) else (none)) else (none)) else (none)) else (none)
theorem Za.Za7 : ∀ k, (∀ y0 y1 y2 y3 y4, LeO (Za.j0 k y0 y1 y2 y3 y4) (Za.j0 (k + 1) y0 y1 y2 y3 y4))
 | 0 => fun _ _ _ _ _ r h => by simp [Za.j0] at h
 | k + 1 => by
  have ih0 := Za.Za7 k
  intro y0 y1 y2 y3 y4
  unfold Za.j0
  repeat' first
  | (with_reducible exact ih0 _ _ _ _ _)
  | (with_reducible exact Zaq.mono _ _)
  | (with_reducible exact Zaj.mono _ _ _)
  | (with_reducible exact Zak.mono _ _ _)
  | (with_reducible exact Zar.mono _)
  | (with_reducible exact Zac.mono _ _ _)
  | (with_reducible exact Zad.mono _ _)
  | (with_reducible exact Zah.mono _ _ _)
  | (with_reducible exact Zai.mono _ _)
  | (with_reducible exact Zaf.mono _ _ _)
  | (with_reducible exact LeO.refl _)
  | (with_reducible exact LeO.none _)
  | (with_reducible refine LeO.ite ?_ ?_)
  | (with_reducible refine LeO.bind ?_ (fun _ => ?_))
  | exact ih0 _ _ _ _ _
  | exact Zaq.mono _ _
  | exact Zaj.mono _ _ _
  | exact Zak.mono _ _ _
  | exact Zar.mono _
  | exact Zac.mono _ _ _
  | exact Zad.mono _ _
  | exact Zah.mono _ _ _
  | exact Zai.mono _ _
  | exact Zaf.mono _ _ _
  | exact LeO.none _
  | refine LeO.ite ?_ ?_
  | refine LeO.bind ?_ (fun _ => ?_)
theorem Za.mono : ∀ a0 a1 a2 k, LeO (Za.f k a0 a1 a2) (Za.f (k + 1) a0 a1 a2) := by
 intro a0 a1 a2 k
 have ih0 := Za.Za7 k
 unfold Za.f
 repeat' first
   | (with_reducible exact ih0 _ _ _ _ _)
   | (with_reducible exact Zaq.mono _ _)
   | (with_reducible exact Zaj.mono _ _ _)
   | (with_reducible exact Zak.mono _ _ _)
   | (with_reducible exact Zar.mono _)
   | (with_reducible exact Zac.mono _ _ _)
   | (with_reducible exact Zad.mono _ _)
   | (with_reducible exact Zah.mono _ _ _)
   | (with_reducible exact Zai.mono _ _)
   | (with_reducible exact Zaf.mono _ _ _)
   | (with_reducible exact LeO.refl _)
   | (with_reducible exact LeO.none _)
   | (with_reducible refine LeO.ite ?_ ?_)
   | (with_reducible refine LeO.bind ?_ (fun _ => ?_))
   | exact ih0 _ _ _ _ _
   | exact Zaq.mono _ _
   | exact Zaj.mono _ _ _
   | exact Zak.mono _ _ _
   | exact Zar.mono _
   | exact Zac.mono _ _ _
   | exact Zad.mono _ _
   | exact Zah.mono _ _ _
   | exact Zai.mono _ _
   | exact Zaf.mono _ _ _
   | exact LeO.none _
   | refine LeO.ite ?_ ?_
   | refine LeO.bind ?_ (fun _ => ?_)
set_option maxHeartbeats 8000000 in
set_option maxRecDepth 100000 in
theorem Za.calls (k : Nat) (A0 : Option Addr) (c0 : Nat) (l0 : List Int) (A1 : Option Addr) (c1 : Nat) (l1 : List Int) (A2 : Option Addr) (c2 : Nat) (l2 : List Int) (r : Bool) (w : World) (hr0 : Kd.C (Kd.int .i64) w A0 l0.length l0) (hc0 : l0.length ≤ c0) (hr1 : Kd.C (Kd.int .i64) w A1 l1.length l1) (hc1 : l1.length ≤ c1) (hr2 : Kd.C (Kd.int .i64) w A2 l2.length l2) (hc2 : l2.length ≤ c2) (h : Za.f k l0 l1 l2 = some r) :
  Calls Try.prog 3 #[.slice A0 l0.length c0, .slice A1 l1.length c1, .slice A2 l2.length c2] w fun e w' => e = .returned (.bool r) ∧ Below w.heap.size w w' := by
 have HR0 := Zaa.mk hr0
 have HC0 := Zaa.mk hc0
 clear hr0 hc0
 have HR1 := Zaa.mk hr1
 have HC1 := Zaa.mk hc1
 clear hr1 hc1
 have HR2 := Zaa.mk hr2
 have HC2 := Zaa.mk hc2
 clear hr2 hc2
 have HB := Zaa.mk (Below.refl w.heap.size w)
 have H : (if 0 ≤ (mn (l0.length : Int) 30) then (if (mn (l0.length : Int) 30) ≤ (l0.length : Int) then (if 0 ≤ (mn (l1.length : Int) 30) then (if (mn (l1.length : Int) 30) ≤ (l1.length : Int) then (if 0 ≤ (mn (l2.length : Int) 30) then (if (mn (l2.length : Int) 30) ≤ (l2.length : Int) then ((Zaj.f k (l0.take ((mn (l0.length : Int) 30) : Int).toNat) (l1.take ((mn (l1.length : Int) 30) : Int).toNat)).bind fun bt184 => ((Zaf.f k (l0.take ((mn (l0.length : Int) 30) : Int).toNat) (l1.take ((mn (l1.length : Int) 30) : Int).toNat)).bind fun bt188 => ((Zaq.f k (l0.take ((mn (l0.length : Int) 30) : Int).toNat)).bind fun bt192 => ((Zai.f k (l0.take ((mn (l0.length : Int) 30) : Int).toNat)).bind fun bt196 => ((Zak.f k (l2.take ((mn (l2.length : Int) 30) : Int).toNat) (l0.take ((mn (l0.length : Int) 30) : Int).toNat)).bind fun bt200 => (if bt184.2 = bt188.2 then ((Zac.f k bt184.1 bt188.1).bind fun t204 => (if t204 = true then (if bt192.2 = bt196.2 then ((Zac.f k bt192.1 bt196.1).bind fun t205 => (if t205 = true then (if ((l2.take ((mn (l2.length : Int) 30) : Int).toNat).length : Int) = ((l0.take ((mn (l0.length : Int) 30) : Int).toNat).length : Int) then ((Zad.f k (l0.take ((mn (l0.length : Int) 30) : Int).toNat)).bind fun t206 => (Za.j0 k (l0.take ((mn (l0.length : Int) 30) : Int).toNat) (l2.take ((mn (l2.length : Int) 30) : Int).toNat) bt200.1 bt200.2 ((bt200.2 == 0) != t206))) else (Za.j0 k (l0.take ((mn (l0.length : Int) 30) : Int).toNat) (l2.take ((mn (l2.length : Int) 30) : Int).toNat) bt200.1 bt200.2 ((bt200.2 == 0) != false))) else (Za.j0 k (l0.take ((mn (l0.length : Int) 30) : Int).toNat) (l2.take ((mn (l2.length : Int) 30) : Int).toNat) bt200.1 bt200.2 true))) else (Za.j0 k (l0.take ((mn (l0.length : Int) 30) : Int).toNat) (l2.take ((mn (l2.length : Int) 30) : Int).toNat) bt200.1 bt200.2 true)) else (Za.j0 k (l0.take ((mn (l0.length : Int) 30) : Int).toNat) (l2.take ((mn (l2.length : Int) 30) : Int).toNat) bt200.1 bt200.2 true))) else (Za.j0 k (l0.take ((mn (l0.length : Int) 30) : Int).toNat) (l2.take ((mn (l2.length : Int) 30) : Int).toNat) bt200.1 bt200.2 true))))))) else (none)) else (none)) else (none)) else (none)) else (none)) else (none)) = some r := h
 clear h
 obtain ⟨ji4, hji4⟩ : ∃ j_ : Int, (mn (l0.length : Int) 30) = j_ := ⟨_, rfl⟩
 replace H : (if 0 ≤ (ji4) then (if (ji4) ≤ (l0.length : Int) then (if 0 ≤ (mn (l1.length : Int) 30) then (if (mn (l1.length : Int) 30) ≤ (l1.length : Int) then (if 0 ≤ (mn (l2.length : Int) 30) then (if (mn (l2.length : Int) 30) ≤ (l2.length : Int) then ((Zaj.f k (l0.take ((ji4) : Int).toNat) (l1.take ((mn (l1.length : Int) 30) : Int).toNat)).bind fun bt184 => ((Zaf.f k (l0.take ((ji4) : Int).toNat) (l1.take ((mn (l1.length : Int) 30) : Int).toNat)).bind fun bt188 => ((Zaq.f k (l0.take ((ji4) : Int).toNat)).bind fun bt192 => ((Zai.f k (l0.take ((ji4) : Int).toNat)).bind fun bt196 => ((Zak.f k (l2.take ((mn (l2.length : Int) 30) : Int).toNat) (l0.take ((ji4) : Int).toNat)).bind fun bt200 => (if bt184.2 = bt188.2 then ((Zac.f k bt184.1 bt188.1).bind fun t204 => (if t204 = true then (if bt192.2 = bt196.2 then ((Zac.f k bt192.1 bt196.1).bind fun t205 => (if t205 = true then (if ((l2.take ((mn (l2.length : Int) 30) : Int).toNat).length : Int) = ((l0.take ((ji4) : Int).toNat).length : Int) then ((Zad.f k (l0.take ((ji4) : Int).toNat)).bind fun t206 => (Za.j0 k (l0.take ((ji4) : Int).toNat) (l2.take ((mn (l2.length : Int) 30) : Int).toNat) bt200.1 bt200.2 ((bt200.2 == 0) != t206))) else (Za.j0 k (l0.take ((ji4) : Int).toNat) (l2.take ((mn (l2.length : Int) 30) : Int).toNat) bt200.1 bt200.2 ((bt200.2 == 0) != false))) else (Za.j0 k (l0.take ((ji4) : Int).toNat) (l2.take ((mn (l2.length : Int) 30) : Int).toNat) bt200.1 bt200.2 true))) else (Za.j0 k (l0.take ((ji4) : Int).toNat) (l2.take ((mn (l2.length : Int) 30) : Int).toNat) bt200.1 bt200.2 true)) else (Za.j0 k (l0.take ((ji4) : Int).toNat) (l2.take ((mn (l2.length : Int) 30) : Int).toNat) bt200.1 bt200.2 true))) else (Za.j0 k (l0.take ((ji4) : Int).toNat) (l2.take ((mn (l2.length : Int) 30) : Int).toNat) bt200.1 bt200.2 true))))))) else (none)) else (none)) else (none)) else (none)) else (none)) else (none)) = some r := by first | (rw [hji4] at H; exact H) | (simp only [hji4] at H ⊢; exact H)
 (try (have hji4h : ji4 ≤ 30 := by (rw [← hji4]; unfold mn; (repeat' split) <;> omega)))
 (try (have hji4g : ji4 ≤ 64 := by omega))
 (try (have hji4l : 0 ≤ ji4 := by (rw [← hji4]; unfold mn; (repeat' split) <;> omega)))
 (try (have hji4m : 0 ≤ ji4 := by omega))
 have hji4_ : (if 30 < (l0.length : Int) then 30 else (l0.length : Int)) = ji4 := hji4
 by_cases c5 : 0 ≤ (ji4)
 rotate_left
 ·rw [if_neg c5] at H
  exact absurd H (by simp)

 rw [if_pos c5] at H
 have c5b0 := eq_true c5
 have c5b1 : decide (0 ≤ (ji4)) = true := decide_eq_true c5
 clear c5
 by_cases c6 : (ji4) ≤ (l0.length : Int)
 rotate_left
 ·rw [if_neg c6] at H
  exact absurd H (by simp)
 rw [if_pos c6] at H
 have c6b0 := eq_true c6
 have c6b1 : decide ((ji4) ≤ (l0.length : Int)) = true := decide_eq_true c6
 clear c6
 obtain ⟨ji7, hji7⟩ : ∃ j_ : Int, (mn (l1.length : Int) 30) = j_ := ⟨_, rfl⟩
 replace H : (if 0 ≤ (ji7) then (if (ji7) ≤ (l1.length : Int) then (if 0 ≤ (mn (l2.length : Int) 30) then (if (mn (l2.length : Int) 30) ≤ (l2.length : Int) then ((Zaj.f k (l0.take ((ji4) : Int).toNat) (l1.take ((ji7) : Int).toNat)).bind fun bt184 => ((Zaf.f k (l0.take ((ji4) : Int).toNat) (l1.take ((ji7) : Int).toNat)).bind fun bt188 => ((Zaq.f k (l0.take ((ji4) : Int).toNat)).bind fun bt192 => ((Zai.f k (l0.take ((ji4) : Int).toNat)).bind fun bt196 => ((Zak.f k (l2.take ((mn (l2.length : Int) 30) : Int).toNat) (l0.take ((ji4) : Int).toNat)).bind fun bt200 => (if bt184.2 = bt188.2 then ((Zac.f k bt184.1 bt188.1).bind fun t204 => (if t204 = true then (if bt192.2 = bt196.2 then ((Zac.f k bt192.1 bt196.1).bind fun t205 => (if t205 = true then (if ((l2.take ((mn (l2.length : Int) 30) : Int).toNat).length : Int) = ((l0.take ((ji4) : Int).toNat).length : Int) then ((Zad.f k (l0.take ((ji4) : Int).toNat)).bind fun t206 => (Za.j0 k (l0.take ((ji4) : Int).toNat) (l2.take ((mn (l2.length : Int) 30) : Int).toNat) bt200.1 bt200.2 ((bt200.2 == 0) != t206))) else (Za.j0 k (l0.take ((ji4) : Int).toNat) (l2.take ((mn (l2.length : Int) 30) : Int).toNat) bt200.1 bt200.2 ((bt200.2 == 0) != false))) else (Za.j0 k (l0.take ((ji4) : Int).toNat) (l2.take ((mn (l2.length : Int) 30) : Int).toNat) bt200.1 bt200.2 true))) else (Za.j0 k (l0.take ((ji4) : Int).toNat) (l2.take ((mn (l2.length : Int) 30) : Int).toNat) bt200.1 bt200.2 true)) else (Za.j0 k (l0.take ((ji4) : Int).toNat) (l2.take ((mn (l2.length : Int) 30) : Int).toNat) bt200.1 bt200.2 true))) else (Za.j0 k (l0.take ((ji4) : Int).toNat) (l2.take ((mn (l2.length : Int) 30) : Int).toNat) bt200.1 bt200.2 true))))))) else (none)) else (none)) else (none)) else (none)) = some r := by first | (rw [hji7] at H; exact H) | (simp only [hji7] at H ⊢; exact H)
 (try (have hji7h : ji7 ≤ 30 := by (rw [← hji7]; unfold mn; (repeat' split) <;> omega)))
 (try (have hji7g : ji7 ≤ 64 := by omega))
 (try (have hji7l : 0 ≤ ji7 := by (rw [← hji7]; unfold mn; (repeat' split) <;> omega)))
 (try (have hji7m : 0 ≤ ji7 := by omega))
 have hji7_ : (if 30 < (l1.length : Int) then 30 else (l1.length : Int)) = ji7 := hji7
 by_cases c8 : 0 ≤ (ji7)
 rotate_left
 ·rw [if_neg c8] at H
  exact absurd H (by simp)
 rw [if_pos c8] at H
 have c8b0 := eq_true c8
 have c8b1 : decide (0 ≤ (ji7)) = true := decide_eq_true c8
 clear c8
 by_cases c9 : (ji7) ≤ (l1.length : Int)
 rotate_left
 ·rw [if_neg c9] at H
  exact absurd H (by simp)
 rw [if_pos c9] at H
 have c9b0 := eq_true c9
 have c9b1 : decide ((ji7) ≤ (l1.length : Int)) = true := decide_eq_true c9
 clear c9
 obtain ⟨ji10, hji10⟩ : ∃ j_ : Int, (mn (l2.length : Int) 30) = j_ := ⟨_, rfl⟩
 replace H : (if 0 ≤ (ji10) then (if (ji10) ≤ (l2.length : Int) then ((Zaj.f k (l0.take ((ji4) : Int).toNat) (l1.take ((ji7) : Int).toNat)).bind fun bt184 => ((Zaf.f k (l0.take ((ji4) : Int).toNat) (l1.take ((ji7) : Int).toNat)).bind fun bt188 => ((Zaq.f k (l0.take ((ji4) : Int).toNat)).bind fun bt192 => ((Zai.f k (l0.take ((ji4) : Int).toNat)).bind fun bt196 => ((Zak.f k (l2.take ((ji10) : Int).toNat) (l0.take ((ji4) : Int).toNat)).bind fun bt200 => (if bt184.2 = bt188.2 then ((Zac.f k bt184.1 bt188.1).bind fun t204 => (if t204 = true then (if bt192.2 = bt196.2 then ((Zac.f k bt192.1 bt196.1).bind fun t205 => (if t205 = true then (if ((l2.take ((ji10) : Int).toNat).length : Int) = ((l0.take ((ji4) : Int).toNat).length : Int) then ((Zad.f k (l0.take ((ji4) : Int).toNat)).bind fun t206 => (Za.j0 k (l0.take ((ji4) : Int).toNat) (l2.take ((ji10) : Int).toNat) bt200.1 bt200.2 ((bt200.2 == 0) != t206))) else (Za.j0 k (l0.take ((ji4) : Int).toNat) (l2.take ((ji10) : Int).toNat) bt200.1 bt200.2 ((bt200.2 == 0) != false))) else (Za.j0 k (l0.take ((ji4) : Int).toNat) (l2.take ((ji10) : Int).toNat) bt200.1 bt200.2 true))) else (Za.j0 k (l0.take ((ji4) : Int).toNat) (l2.take ((ji10) : Int).toNat) bt200.1 bt200.2 true)) else (Za.j0 k (l0.take ((ji4) : Int).toNat) (l2.take ((ji10) : Int).toNat) bt200.1 bt200.2 true))) else (Za.j0 k (l0.take ((ji4) : Int).toNat) (l2.take ((ji10) : Int).toNat) bt200.1 bt200.2 true))))))) else (none)) else (none)) = some r := by first | (rw [hji10] at H; exact H) | (simp only [hji10] at H ⊢; exact H)
 (try (have hji10h : ji10 ≤ 30 := by (rw [← hji10]; unfold mn; (repeat' split) <;> omega)))
 (try (have hji10g : ji10 ≤ 64 := by omega))
 (try (have hji10l : 0 ≤ ji10 := by (rw [← hji10]; unfold mn; (repeat' split) <;> omega)))
 (try (have hji10m : 0 ≤ ji10 := by omega))
 have hji10_ : (if 30 < (l2.length : Int) then 30 else (l2.length : Int)) = ji10 := hji10
 by_cases c11 : 0 ≤ (ji10)
 rotate_left
 ·rw [if_neg c11] at H
  exact absurd H (by simp)
 rw [if_pos c11] at H
 have c11b0 := eq_true c11
 have c11b1 : decide (0 ≤ (ji10)) = true := decide_eq_true c11
 clear c11
 by_cases c12 : (ji10) ≤ (l2.length : Int)
 rotate_left
 ·rw [if_neg c12] at H
  exact absurd H (by simp)
 rw [if_pos c12] at H
 have c12b0 := eq_true c12
 have c12b1 : decide ((ji10) ≤ (l2.length : Int)) = true := decide_eq_true c12
 clear c12
 replace H := Option.bind_eq_some_iff.mp H
 obtain ⟨⟨t184, t185⟩, A130, H⟩ := H
 replace H : ((Zaf.f k (l0.take ((ji4) : Int).toNat) (l1.take ((ji7) : Int).toNat)).bind fun bt188 => ((Zaq.f k (l0.take ((ji4) : Int).toNat)).bind fun bt192 => ((Zai.f k (l0.take ((ji4) : Int).toNat)).bind fun bt196 => ((Zak.f k (l2.take ((ji10) : Int).toNat) (l0.take ((ji4) : Int).toNat)).bind fun bt200 => (if t185 = bt188.2 then ((Zac.f k t184 bt188.1).bind fun t204 => (if t204 = true then (if bt192.2 = bt196.2 then ((Zac.f k bt192.1 bt196.1).bind fun t205 => (if t205 = true then (if ((l2.take ((ji10) : Int).toNat).length : Int) = ((l0.take ((ji4) : Int).toNat).length : Int) then ((Zad.f k (l0.take ((ji4) : Int).toNat)).bind fun t206 => (Za.j0 k (l0.take ((ji4) : Int).toNat) (l2.take ((ji10) : Int).toNat) bt200.1 bt200.2 ((bt200.2 == 0) != t206))) else (Za.j0 k (l0.take ((ji4) : Int).toNat) (l2.take ((ji10) : Int).toNat) bt200.1 bt200.2 ((bt200.2 == 0) != false))) else (Za.j0 k (l0.take ((ji4) : Int).toNat) (l2.take ((ji10) : Int).toNat) bt200.1 bt200.2 true))) else (Za.j0 k (l0.take ((ji4) : Int).toNat) (l2.take ((ji10) : Int).toNat) bt200.1 bt200.2 true)) else (Za.j0 k (l0.take ((ji4) : Int).toNat) (l2.take ((ji10) : Int).toNat) bt200.1 bt200.2 true))) else (Za.j0 k (l0.take ((ji4) : Int).toNat) (l2.take ((ji10) : Int).toNat) bt200.1 bt200.2 true)))))) = some r := H
 have A13 := Zaa.mk A130
 clear A130
 replace H := Option.bind_eq_some_iff.mp H
 obtain ⟨⟨t188, t189⟩, A140, H⟩ := H
 replace H : ((Zaq.f k (l0.take ((ji4) : Int).toNat)).bind fun bt192 => ((Zai.f k (l0.take ((ji4) : Int).toNat)).bind fun bt196 => ((Zak.f k (l2.take ((ji10) : Int).toNat) (l0.take ((ji4) : Int).toNat)).bind fun bt200 => (if t185 = t189 then ((Zac.f k t184 t188).bind fun t204 => (if t204 = true then (if bt192.2 = bt196.2 then ((Zac.f k bt192.1 bt196.1).bind fun t205 => (if t205 = true then (if ((l2.take ((ji10) : Int).toNat).length : Int) = ((l0.take ((ji4) : Int).toNat).length : Int) then ((Zad.f k (l0.take ((ji4) : Int).toNat)).bind fun t206 => (Za.j0 k (l0.take ((ji4) : Int).toNat) (l2.take ((ji10) : Int).toNat) bt200.1 bt200.2 ((bt200.2 == 0) != t206))) else (Za.j0 k (l0.take ((ji4) : Int).toNat) (l2.take ((ji10) : Int).toNat) bt200.1 bt200.2 ((bt200.2 == 0) != false))) else (Za.j0 k (l0.take ((ji4) : Int).toNat) (l2.take ((ji10) : Int).toNat) bt200.1 bt200.2 true))) else (Za.j0 k (l0.take ((ji4) : Int).toNat) (l2.take ((ji10) : Int).toNat) bt200.1 bt200.2 true)) else (Za.j0 k (l0.take ((ji4) : Int).toNat) (l2.take ((ji10) : Int).toNat) bt200.1 bt200.2 true))) else (Za.j0 k (l0.take ((ji4) : Int).toNat) (l2.take ((ji10) : Int).toNat) bt200.1 bt200.2 true))))) = some r := H
 have A14 := Zaa.mk A140
 clear A140
 replace H := Option.bind_eq_some_iff.mp H
 obtain ⟨⟨t192, t193⟩, A150, H⟩ := H
 replace H : ((Zai.f k (l0.take ((ji4) : Int).toNat)).bind fun bt196 => ((Zak.f k (l2.take ((ji10) : Int).toNat) (l0.take ((ji4) : Int).toNat)).bind fun bt200 => (if t185 = t189 then ((Zac.f k t184 t188).bind fun t204 => (if t204 = true then (if t193 = bt196.2 then ((Zac.f k t192 bt196.1).bind fun t205 => (if t205 = true then (if ((l2.take ((ji10) : Int).toNat).length : Int) = ((l0.take ((ji4) : Int).toNat).length : Int) then ((Zad.f k (l0.take ((ji4) : Int).toNat)).bind fun t206 => (Za.j0 k (l0.take ((ji4) : Int).toNat) (l2.take ((ji10) : Int).toNat) bt200.1 bt200.2 ((bt200.2 == 0) != t206))) else (Za.j0 k (l0.take ((ji4) : Int).toNat) (l2.take ((ji10) : Int).toNat) bt200.1 bt200.2 ((bt200.2 == 0) != false))) else (Za.j0 k (l0.take ((ji4) : Int).toNat) (l2.take ((ji10) : Int).toNat) bt200.1 bt200.2 true))) else (Za.j0 k (l0.take ((ji4) : Int).toNat) (l2.take ((ji10) : Int).toNat) bt200.1 bt200.2 true)) else (Za.j0 k (l0.take ((ji4) : Int).toNat) (l2.take ((ji10) : Int).toNat) bt200.1 bt200.2 true))) else (Za.j0 k (l0.take ((ji4) : Int).toNat) (l2.take ((ji10) : Int).toNat) bt200.1 bt200.2 true)))) = some r := H
 have A15 := Zaa.mk A150
 clear A150
 replace H := Option.bind_eq_some_iff.mp H
 obtain ⟨⟨t196, t197⟩, A160, H⟩ := H
 replace H : ((Zak.f k (l2.take ((ji10) : Int).toNat) (l0.take ((ji4) : Int).toNat)).bind fun bt200 => (if t185 = t189 then ((Zac.f k t184 t188).bind fun t204 => (if t204 = true then (if t193 = t197 then ((Zac.f k t192 t196).bind fun t205 => (if t205 = true then (if ((l2.take ((ji10) : Int).toNat).length : Int) = ((l0.take ((ji4) : Int).toNat).length : Int) then ((Zad.f k (l0.take ((ji4) : Int).toNat)).bind fun t206 => (Za.j0 k (l0.take ((ji4) : Int).toNat) (l2.take ((ji10) : Int).toNat) bt200.1 bt200.2 ((bt200.2 == 0) != t206))) else (Za.j0 k (l0.take ((ji4) : Int).toNat) (l2.take ((ji10) : Int).toNat) bt200.1 bt200.2 ((bt200.2 == 0) != false))) else (Za.j0 k (l0.take ((ji4) : Int).toNat) (l2.take ((ji10) : Int).toNat) bt200.1 bt200.2 true))) else (Za.j0 k (l0.take ((ji4) : Int).toNat) (l2.take ((ji10) : Int).toNat) bt200.1 bt200.2 true)) else (Za.j0 k (l0.take ((ji4) : Int).toNat) (l2.take ((ji10) : Int).toNat) bt200.1 bt200.2 true))) else (Za.j0 k (l0.take ((ji4) : Int).toNat) (l2.take ((ji10) : Int).toNat) bt200.1 bt200.2 true))) = some r := H
 have A16 := Zaa.mk A160
 clear A160
 replace H := Option.bind_eq_some_iff.mp H
 obtain ⟨⟨t200, t201⟩, A170, H⟩ := H
 replace H : (if t185 = t189 then ((Zac.f k t184 t188).bind fun t204 => (if t204 = true then (if t193 = t197 then ((Zac.f k t192 t196).bind fun t205 => (if t205 = true then (if ((l2.take ((ji10) : Int).toNat).length : Int) = ((l0.take ((ji4) : Int).toNat).length : Int) then ((Zad.f k (l0.take ((ji4) : Int).toNat)).bind fun t206 => (Za.j0 k (l0.take ((ji4) : Int).toNat) (l2.take ((ji10) : Int).toNat) t200 t201 ((t201 == 0) != t206))) else (Za.j0 k (l0.take ((ji4) : Int).toNat) (l2.take ((ji10) : Int).toNat) t200 t201 ((t201 == 0) != false))) else (Za.j0 k (l0.take ((ji4) : Int).toNat) (l2.take ((ji10) : Int).toNat) t200 t201 true))) else (Za.j0 k (l0.take ((ji4) : Int).toNat) (l2.take ((ji10) : Int).toNat) t200 t201 true)) else (Za.j0 k (l0.take ((ji4) : Int).toNat) (l2.take ((ji10) : Int).toNat) t200 t201 true))) else (Za.j0 k (l0.take ((ji4) : Int).toNat) (l2.take ((ji10) : Int).toNat) t200 t201 true)) = some r := H
 have A17 := Zaa.mk A170
 clear A170
 have HC18 := Zaa.mk H
 clear H
 obtain ⟨i019, hi019, _, hsz19, _⟩ := info_parts info3
 obtain ⟨hcut19, hA19, hC19⟩ := Zce (P := Try.prog) (Value.int .i64) 0 22 3 .i64 Try.underlying22 hi019 hsz19 A0 c0 l0 (ji4) (of_decide_eq_true (by first | (with_reducible assumption) | assumption)) (of_decide_eq_true (by first | (with_reducible assumption) | assumption)) HC0.out
 have HR181 := Zaa.mk (Kd.Zbx (h1 := fun _ => rfl) (hA19 _ (Kd.Zcx HR0.out)))
 have HC181 := Zaa.mk hC19
 clear hA19 hC19 hi019 hsz19
 obtain ⟨i020, hi020, _, hsz20, _⟩ := info_parts info3
 obtain ⟨hcut20, hA20, hC20⟩ := Zce (P := Try.prog) (Value.int .i64) 0 22 3 .i64 Try.underlying22 hi020 hsz20 A1 c1 l1 (ji7) (of_decide_eq_true (by first | (with_reducible assumption) | assumption)) (of_decide_eq_true (by first | (with_reducible assumption) | assumption)) HC1.out
 have HR182 := Zaa.mk (Kd.Zbx (h1 := fun _ => rfl) (hA20 _ (Kd.Zcx HR1.out)))
 have HC182 := Zaa.mk hC20
 clear hA20 hC20 hi020 hsz20
 obtain ⟨i021, hi021, _, hsz21, _⟩ := info_parts info3
 obtain ⟨hcut21, hA21, hC21⟩ := Zce (P := Try.prog) (Value.int .i64) 0 22 3 .i64 Try.underlying22 hi021 hsz21 A2 c2 l2 (ji10) (of_decide_eq_true (by first | (with_reducible assumption) | assumption)) (of_decide_eq_true (by first | (with_reducible assumption) | assumption)) HC2.out
 have HR183 := Zaa.mk (Kd.Zbx (h1 := fun _ => rfl) (hA21 _ (Kd.Zcx HR2.out)))
 have HC183 := Zaa.mk hC21
 clear hA21 hC21 hi021 hsz21
 go_enter Try.func3, Try.ntmps3
 go_upto_region 9 with (first | ((with_reducible refine Zas (f := 9) rfl ?_); refine Zbc (some 35) rfl rfl Try.func9 (by kernel_rfl) rfl #[.slice A0 (l0.take ((ji4) : Int).toNat).length c0, .slice A1 (l1.take ((ji7) : Int).toNat).length c1] rfl (by (try simp only [List.map_toArray, List.map_cons, List.map_nil]); first | done | (rw [show (l0.take ((ji4) : Int).toNat).length = (ji4).toNat from (by rw [List.length_take]; have h_ : ((ji4) : Int) ≤ (l0.length : Int) := (by first | exact of_decide_eq_true (by first | (with_reducible assumption) | assumption) | (have h2_ := hji4_; split at h2_ <;> omega)); omega), show (l1.take ((ji7) : Int).toNat).length = (ji7).toNat from (by rw [List.length_take]; have h_ : ((ji7) : Int) ≤ (l1.length : Int) := (by first | exact of_decide_eq_true (by first | (with_reducible assumption) | assumption) | (have h2_ := hji7_; split at h2_ <;> omega)); omega)] <;> rfl) | (rw [show (l0.take ((ji4) : Int).toNat).length = (ji4).toNat from (by rw [List.length_take]; have h_ : ((ji4) : Int) ≤ (l0.length : Int) := (by first | exact of_decide_eq_true (by first | (with_reducible assumption) | assumption) | (have h2_ := hji4_; split at h2_ <;> omega)); omega)] <;> rfl) | (rw [show (l1.take ((ji7) : Int).toNat).length = (ji7).toNat from (by rw [List.length_take]; have h_ : ((ji7) : Int) ≤ (l1.length : Int) := (by first | exact of_decide_eq_true (by first | (with_reducible assumption) | assumption) | (have h2_ := hji7_; split at h2_ <;> omega)); omega)] <;> rfl) | (simp only [hji4, hji7]; rfl) | rfl | (simp only [List.length_drop, List.length_take]; rfl)) ?_; (with_reducible refine (Zaj.calls k _ _ (l0.take ((ji4) : Int).toNat) _ _ (l1.take ((ji7) : Int).toNat) t184 t185 _ ?side1 ?side2 ?side3 ?side4 A13.out).mono ?_); (case side1 => repeat (first | exact HR181.out | (with_reducible refine Kd.Zat ?_ _) | (with_reducible refine Kd.C_drewN ?_ _) | (with_reducible refine Kd.C_drew ?_))); (case side2 => exact HC181.out); (case side3 => repeat (first | exact HR182.out | (with_reducible refine Kd.Zat ?_ _) | (with_reducible refine Kd.C_drewN ?_ _) | (with_reducible refine Kd.C_drew ?_))); (case side4 => exact HC182.out); rintro e w22 ⟨v186, rfl, ho0, hb⟩; refine ⟨_, rfl, ?_⟩; have n0_ := Zaa.mk (Kd.Zbh ho0 (Zaz (by repeat (first | (with_reducible first | exact HB.out | apply Zae | apply Zab | apply Zag) | exact HB.out)))); have n1_ := Zaa.mk (Zao (by repeat (first | (with_reducible first | exact HB.out | apply Zae | apply Zab | apply Zag) | exact HB.out)) hb); clear HB; have HO187 := n0_; have HB := n1_; clear n0_ n1_; (try clear hb); (try clear hb2); (try clear hk); (try clear hi); (try clear ho0)) | ((with_reducible refine Zas (f := 10) rfl ?_); refine Zbc (some 41) rfl rfl Try.func10 (by kernel_rfl) rfl #[.slice A0 (l0.take ((ji4) : Int).toNat).length c0, .slice A1 (l1.take ((ji7) : Int).toNat).length c1] rfl (by (try simp only [List.map_toArray, List.map_cons, List.map_nil]); first | done | (rw [show (l0.take ((ji4) : Int).toNat).length = (ji4).toNat from (by rw [List.length_take]; have h_ : ((ji4) : Int) ≤ (l0.length : Int) := (by first | exact of_decide_eq_true (by first | (with_reducible assumption) | assumption) | (have h2_ := hji4_; split at h2_ <;> omega)); omega), show (l1.take ((ji7) : Int).toNat).length = (ji7).toNat from (by rw [List.length_take]; have h_ : ((ji7) : Int) ≤ (l1.length : Int) := (by first | exact of_decide_eq_true (by first | (with_reducible assumption) | assumption) | (have h2_ := hji7_; split at h2_ <;> omega)); omega)] <;> rfl) | (rw [show (l0.take ((ji4) : Int).toNat).length = (ji4).toNat from (by rw [List.length_take]; have h_ : ((ji4) : Int) ≤ (l0.length : Int) := (by first | exact of_decide_eq_true (by first | (with_reducible assumption) | assumption) | (have h2_ := hji4_; split at h2_ <;> omega)); omega)] <;> rfl) | (rw [show (l1.take ((ji7) : Int).toNat).length = (ji7).toNat from (by rw [List.length_take]; have h_ : ((ji7) : Int) ≤ (l1.length : Int) := (by first | exact of_decide_eq_true (by first | (with_reducible assumption) | assumption) | (have h2_ := hji7_; split at h2_ <;> omega)); omega)] <;> rfl) | (simp only [hji4, hji7]; rfl) | rfl | (simp only [List.length_drop, List.length_take]; rfl)) ?_; (with_reducible refine (Zaf.calls k _ _ (l0.take ((ji4) : Int).toNat) _ _ (l1.take ((ji7) : Int).toNat) t188 t189 _ ?side1 ?side2 ?side3 ?side4 A14.out).mono ?_); (case side1 => repeat (first | exact (Kd.Zap HR181.out HB.out) | (with_reducible refine Kd.Zat ?_ _) | (with_reducible refine Kd.C_drewN ?_ _) | (with_reducible refine Kd.C_drew ?_))); (case side2 => exact HC181.out); (case side3 => repeat (first | exact (Kd.Zap HR182.out HB.out) | (with_reducible refine Kd.Zat ?_ _) | (with_reducible refine Kd.C_drewN ?_ _) | (with_reducible refine Kd.C_drew ?_))); (case side4 => exact HC182.out); rintro e w23 ⟨v190, rfl, ho0, hb⟩; refine ⟨_, rfl, ?_⟩; have n0_ := Zaa.mk (Kd.Zbo (by (with_reducible repeat (first | apply Kd.Za1 | apply Kd.Za2 | apply Kd.Za4)); exact HO187.out) (Kd.Zbq ho0) hb); have n1_ := Zaa.mk (Kd.Zbh (Kd.Zcg ho0 (Kd.R_lt (by (with_reducible repeat (first | apply Kd.Za1 | apply Kd.Za2 | apply Kd.Za4)); exact HO187.out))) (Zaz (by repeat (first | (with_reducible first | exact HB.out | apply Zae | apply Zab | apply Zag) | exact HB.out)))); have n2_ := Zaa.mk (Zao (by repeat (first | (with_reducible first | exact HB.out | apply Zae | apply Zab | apply Zag) | exact HB.out)) hb); clear HO187; clear HB; have HO187 := n0_; have HO191 := n1_; have HB := n2_; clear n0_ n1_ n2_; (try clear hb); (try clear hb2); (try clear hk); (try clear hi); (try clear ho0)) | ((with_reducible refine Zas (f := 11) rfl ?_); refine Zbc (some 46) rfl rfl Try.func11 (by kernel_rfl) rfl #[.slice A0 (l0.take ((ji4) : Int).toNat).length c0] rfl (by (try simp only [List.map_toArray, List.map_cons, List.map_nil]); first | done | (rw [show (l0.take ((ji4) : Int).toNat).length = (ji4).toNat from (by rw [List.length_take]; have h_ : ((ji4) : Int) ≤ (l0.length : Int) := (by first | exact of_decide_eq_true (by first | (with_reducible assumption) | assumption) | (have h2_ := hji4_; split at h2_ <;> omega)); omega)] <;> rfl) | (simp only [hji4]; rfl) | rfl | (simp only [List.length_drop, List.length_take]; rfl)) ?_; (with_reducible refine (Zaq.calls k _ _ (l0.take ((ji4) : Int).toNat) t192 t193 _ ?side1 ?side2 A15.out).mono ?_); (case side1 => repeat (first | exact (Kd.Zap HR181.out HB.out) | (with_reducible refine Kd.Zat ?_ _) | (with_reducible refine Kd.C_drewN ?_ _) | (with_reducible refine Kd.C_drew ?_))); (case side2 => exact HC181.out); rintro e w24 ⟨v194, rfl, ho0, hb⟩; refine ⟨_, rfl, ?_⟩; have n0_ := Zaa.mk (Kd.Zbo (by (with_reducible repeat (first | apply Kd.Za1 | apply Kd.Za2 | apply Kd.Za4)); exact HO187.out) (Kd.Zbq ho0) hb); have n1_ := Zaa.mk (Kd.Zbo (by (with_reducible repeat (first | apply Kd.Za1 | apply Kd.Za2 | apply Kd.Za4)); exact HO191.out) (Kd.Zbq ho0) hb); have n2_ := Zaa.mk (Kd.Zbh (Kd.Zcg (Kd.Zcg ho0 (Kd.R_lt (by (with_reducible repeat (first | apply Kd.Za1 | apply Kd.Za2 | apply Kd.Za4)); exact HO187.out))) (Kd.R_lt (by (with_reducible repeat (first | apply Kd.Za1 | apply Kd.Za2 | apply Kd.Za4)); exact HO191.out))) (Zaz (by repeat (first | (with_reducible first | exact HB.out | apply Zae | apply Zab | apply Zag) | exact HB.out)))); have n3_ := Zaa.mk (Zao (by repeat (first | (with_reducible first | exact HB.out | apply Zae | apply Zab | apply Zag) | exact HB.out)) hb); clear HO187; clear HO191; clear HB; have HO187 := n0_; have HO191 := n1_; have HO195 := n2_; have HB := n3_; clear n0_ n1_ n2_ n3_; (try clear hb); (try clear hb2); (try clear hk); (try clear hi); (try clear ho0)) | ((with_reducible refine Zas (f := 12) rfl ?_); refine Zbc (some 51) rfl rfl Try.func12 (by kernel_rfl) rfl #[.slice A0 (l0.take ((ji4) : Int).toNat).length c0] rfl (by (try simp only [List.map_toArray, List.map_cons, List.map_nil]); first | done | (rw [show (l0.take ((ji4) : Int).toNat).length = (ji4).toNat from (by rw [List.length_take]; have h_ : ((ji4) : Int) ≤ (l0.length : Int) := (by first | exact of_decide_eq_true (by first | (with_reducible assumption) | assumption) | (have h2_ := hji4_; split at h2_ <;> omega)); omega)] <;> rfl) | (simp only [hji4]; rfl) | rfl | (simp only [List.length_drop, List.length_take]; rfl)) ?_; (with_reducible refine (Zai.calls k _ _ (l0.take ((ji4) : Int).toNat) t196 t197 _ ?side1 ?side2 A16.out).mono ?_); (case side1 => repeat (first | exact (Kd.Zap HR181.out HB.out) | (with_reducible refine Kd.Zat ?_ _) | (with_reducible refine Kd.C_drewN ?_ _) | (with_reducible refine Kd.C_drew ?_))); (case side2 => exact HC181.out); rintro e w25 ⟨v198, rfl, ho0, hb⟩; refine ⟨_, rfl, ?_⟩; have n0_ := Zaa.mk (Kd.Zbo (by (with_reducible repeat (first | apply Kd.Za1 | apply Kd.Za2 | apply Kd.Za4)); exact HO187.out) (Kd.Zbq ho0) hb); have n1_ := Zaa.mk (Kd.Zbo (by (with_reducible repeat (first | apply Kd.Za1 | apply Kd.Za2 | apply Kd.Za4)); exact HO191.out) (Kd.Zbq ho0) hb); have n2_ := Zaa.mk (Kd.Zbo (by (with_reducible repeat (first | apply Kd.Za1 | apply Kd.Za2 | apply Kd.Za4)); exact HO195.out) (Kd.Zbq ho0) hb); have n3_ := Zaa.mk (Kd.Zbh (Kd.Zcg (Kd.Zcg (Kd.Zcg ho0 (Kd.R_lt (by (with_reducible repeat (first | apply Kd.Za1 | apply Kd.Za2 | apply Kd.Za4)); exact HO187.out))) (Kd.R_lt (by (with_reducible repeat (first | apply Kd.Za1 | apply Kd.Za2 | apply Kd.Za4)); exact HO191.out))) (Kd.R_lt (by (with_reducible repeat (first | apply Kd.Za1 | apply Kd.Za2 | apply Kd.Za4)); exact HO195.out))) (Zaz (by repeat (first | (with_reducible first | exact HB.out | apply Zae | apply Zab | apply Zag) | exact HB.out)))); have n4_ := Zaa.mk (Zao (by repeat (first | (with_reducible first | exact HB.out | apply Zae | apply Zab | apply Zag) | exact HB.out)) hb); clear HO187; clear HO191; clear HO195; clear HB; have HO187 := n0_; have HO191 := n1_; have HO195 := n2_; have HO199 := n3_; have HB := n4_; clear n0_ n1_ n2_ n3_ n4_; (try clear hb); (try clear hb2); (try clear hk); (try clear hi); (try clear ho0)) | ((with_reducible refine Zas (f := 13) rfl ?_); refine Zbc (some 57) rfl rfl Try.func13 (by kernel_rfl) rfl #[.slice A2 (l2.take ((ji10) : Int).toNat).length c2, .slice A0 (l0.take ((ji4) : Int).toNat).length c0] rfl (by (try simp only [List.map_toArray, List.map_cons, List.map_nil]); first | done | (rw [show (l2.take ((ji10) : Int).toNat).length = (ji10).toNat from (by rw [List.length_take]; have h_ : ((ji10) : Int) ≤ (l2.length : Int) := (by first | exact of_decide_eq_true (by first | (with_reducible assumption) | assumption) | (have h2_ := hji10_; split at h2_ <;> omega)); omega), show (l0.take ((ji4) : Int).toNat).length = (ji4).toNat from (by rw [List.length_take]; have h_ : ((ji4) : Int) ≤ (l0.length : Int) := (by first | exact of_decide_eq_true (by first | (with_reducible assumption) | assumption) | (have h2_ := hji4_; split at h2_ <;> omega)); omega)] <;> rfl) | (rw [show (l2.take ((ji10) : Int).toNat).length = (ji10).toNat from (by rw [List.length_take]; have h_ : ((ji10) : Int) ≤ (l2.length : Int) := (by first | exact of_decide_eq_true (by first | (with_reducible assumption) | assumption) | (have h2_ := hji10_; split at h2_ <;> omega)); omega)] <;> rfl) | (rw [show (l0.take ((ji4) : Int).toNat).length = (ji4).toNat from (by rw [List.length_take]; have h_ : ((ji4) : Int) ≤ (l0.length : Int) := (by first | exact of_decide_eq_true (by first | (with_reducible assumption) | assumption) | (have h2_ := hji4_; split at h2_ <;> omega)); omega)] <;> rfl) | (simp only [hji10, hji4]; rfl) | rfl | (simp only [List.length_drop, List.length_take]; rfl)) ?_; (with_reducible refine (Zak.calls k _ _ (l2.take ((ji10) : Int).toNat) _ _ (l0.take ((ji4) : Int).toNat) t200 t201 _ ?side1 ?side2 ?side3 ?side4 A17.out).mono ?_); (case side1 => repeat (first | exact (Kd.Zap HR183.out HB.out) | (with_reducible refine Kd.Zat ?_ _) | (with_reducible refine Kd.C_drewN ?_ _) | (with_reducible refine Kd.C_drew ?_))); (case side2 => exact HC183.out); (case side3 => repeat (first | exact (Kd.Zap HR181.out HB.out) | (with_reducible refine Kd.Zat ?_ _) | (with_reducible refine Kd.C_drewN ?_ _) | (with_reducible refine Kd.C_drew ?_))); (case side4 => exact HC181.out); rintro e w26 ⟨v202, rfl, ho0, hb⟩; refine ⟨_, rfl, ?_⟩; have n0_ := Zaa.mk (Kd.Zbo (by (with_reducible repeat (first | apply Kd.Za1 | apply Kd.Za2 | apply Kd.Za4)); exact HO187.out) (Kd.Zbq ho0) hb); have n1_ := Zaa.mk (Kd.Zbo (by (with_reducible repeat (first | apply Kd.Za1 | apply Kd.Za2 | apply Kd.Za4)); exact HO191.out) (Kd.Zbq ho0) hb); have n2_ := Zaa.mk (Kd.Zbo (by (with_reducible repeat (first | apply Kd.Za1 | apply Kd.Za2 | apply Kd.Za4)); exact HO195.out) (Kd.Zbq ho0) hb); have n3_ := Zaa.mk (Kd.Zbo (by (with_reducible repeat (first | apply Kd.Za1 | apply Kd.Za2 | apply Kd.Za4)); exact HO199.out) (Kd.Zbq ho0) hb); have n4_ := Zaa.mk (Kd.Zbh (Kd.Zcg (Kd.Zcg (Kd.Zcg (Kd.Zcg ho0 (Kd.R_lt (by (with_reducible repeat (first | apply Kd.Za1 | apply Kd.Za2 | apply Kd.Za4)); exact HO187.out))) (Kd.R_lt (by (with_reducible repeat (first | apply Kd.Za1 | apply Kd.Za2 | apply Kd.Za4)); exact HO191.out))) (Kd.R_lt (by (with_reducible repeat (first | apply Kd.Za1 | apply Kd.Za2 | apply Kd.Za4)); exact HO195.out))) (Kd.R_lt (by (with_reducible repeat (first | apply Kd.Za1 | apply Kd.Za2 | apply Kd.Za4)); exact HO199.out))) (Zaz (by repeat (first | (with_reducible first | exact HB.out | apply Zae | apply Zab | apply Zag) | exact HB.out)))); have n5_ := Zaa.mk (Zao (by repeat (first | (with_reducible first | exact HB.out | apply Zae | apply Zab | apply Zag) | exact HB.out)) hb); clear HO187; clear HO191; clear HO195; clear HO199; clear HB; have HO187 := n0_; have HO191 := n1_; have HO195 := n2_; have HO199 := n3_; have HO203 := n4_; have HB := n5_; clear n0_ n1_ n2_ n3_ n4_ n5_; (try clear hb); (try clear hb2); (try clear hk); (try clear hi); (try clear ho0)))
 (try simp only [Act.put, List.setIfInBounds_toArray, List.set_cons_zero, List.set_cons_succ])
 go_cut [93] (fun v93 wc => ∃ (kq : Nat) (x93_17 : Bool), v93 = .bool x93_17 ∧ Zaa (Za.j0 kq (l0.take ((ji4) : Int).toNat) (l2.take ((ji10) : Int).toNat) t200 t201 x93_17 = some r) ∧ Zaa (kq ≤ k) ∧ Zaa (Kd.R (Kd.int .i64) 3 wc w.heap.size (fun _ => True) v202 t200) ∧ Zaa (Below w.heap.size w wc))
 case first =>
  have H := HC18.out
  clear HC18
  by_cases c27 : t185 = t189
  rotate_left
  ·rw [if_neg c27] at H
   have c27b0 : (t185 == t189) = false := beq_eq_false_iff_ne.mpr c27
   have c27b1 : (t185 != t189) = true := bne_iff_ne.mpr c27
   (first | rw [c27b0] | (simp only [Zb5, Zci]; rw [c27b0]) | skip)
   have H' := Zaa.mk H
   clear H
   go_wp2
   go_meet
   case rel => exact ⟨_, (true), (by first | rfl | (simp; done) | (simp [*]; done)), H', ⟨by first | omega | exact Nat.le_refl _⟩, ⟨by (with_reducible repeat (first | apply Kd.Za1 | apply Kd.Za2 | apply Kd.Za4)); exact Kd.Zbg HO203.out (fun _ hk => trivial)⟩, ⟨by repeat (first | (with_reducible first | exact HB.out | apply Zae | apply Zab | apply Zag) | exact HB.out)⟩⟩
  rw [if_pos c27] at H
  have c27b0 : (t185 == t189) = true := beq_iff_eq.mpr c27
  have c27b1 : (t185 != t189) = false := bne_eq_false_iff_eq.mpr c27
  clear c27
  (first | rw [c27b0] | (simp only [Zb5, Zci]; rw [c27b0]) | skip)
  replace H := Option.bind_eq_some_iff.mp H
  obtain ⟨t204, A280, H⟩ := H
  replace H : (if t204 = true then (if t193 = t197 then ((Zac.f k t192 t196).bind fun t205 => (if t205 = true then (if ((l2.take ((ji10) : Int).toNat).length : Int) = ((l0.take ((ji4) : Int).toNat).length : Int) then ((Zad.f k (l0.take ((ji4) : Int).toNat)).bind fun t206 => (Za.j0 k (l0.take ((ji4) : Int).toNat) (l2.take ((ji10) : Int).toNat) t200 t201 ((t201 == 0) != t206))) else (Za.j0 k (l0.take ((ji4) : Int).toNat) (l2.take ((ji10) : Int).toNat) t200 t201 ((t201 == 0) != false))) else (Za.j0 k (l0.take ((ji4) : Int).toNat) (l2.take ((ji10) : Int).toNat) t200 t201 true))) else (Za.j0 k (l0.take ((ji4) : Int).toNat) (l2.take ((ji10) : Int).toNat) t200 t201 true)) else (Za.j0 k (l0.take ((ji4) : Int).toNat) (l2.take ((ji10) : Int).toNat) t200 t201 true)) = some r := H
  have A28 := Zaa.mk A280
  clear A280
  by_cases c29 : t204 = true
  rotate_left
  ·replace c29 := Bool.eq_false_iff.mpr c29
   subst c29
   have H1 : (Za.j0 k (l0.take ((ji4) : Int).toNat) (l2.take ((ji10) : Int).toNat) t200 t201 true) = some r := by rw [if_neg (show ¬ (false = true) by decide)] at H; exact H
   clear H
   have H := H1
   clear H1
   have H' := Zaa.mk H
   clear H
   obtain ⟨Ao49, co49, eo49⟩ := Kd.Zba HO187.out
   subst eo49
   obtain ⟨Ao50, co50, eo50⟩ := Kd.Zba HO191.out
   subst eo50
   go_wp2_with (first | (go_at_call 14; (with_reducible refine (Zac.calls k _ _ t184 _ _ t188 false _ ?side1 ?side2 ?side3 ?side4 A28.out).mono ?_); (case side1 => repeat (first | exact (Kd.Zav HO187.out).2.2 | (with_reducible refine Kd.Zat ?_ _) | (with_reducible refine Kd.C_drewN ?_ _) | (with_reducible refine Kd.C_drew ?_))); (case side2 => exact (Kd.Zav HO187.out).2.1); (case side3 => repeat (first | exact (Kd.Zav HO191.out).2.2 | (with_reducible refine Kd.Zat ?_ _) | (with_reducible refine Kd.C_drewN ?_ _) | (with_reducible refine Kd.C_drew ?_))); (case side4 => exact (Kd.Zav HO191.out).2.1); rintro e w' ⟨rfl, ⟨nd, rfl⟩⟩))
   go_meet
   case rel => exact ⟨_, (true), (by first | rfl | (simp; done) | (simp [*]; done)), H', ⟨by first | omega | exact Nat.le_refl _⟩, ⟨by (with_reducible repeat (first | apply Kd.Za1 | apply Kd.Za2 | apply Kd.Za4)); exact Kd.Zbg HO203.out (fun _ hk => trivial)⟩, ⟨by repeat (first | (with_reducible first | exact HB.out | apply Zae | apply Zab | apply Zag) | exact HB.out)⟩⟩
  subst c29
  have H1 : (if t193 = t197 then ((Zac.f k t192 t196).bind fun t205 => (if t205 = true then (if ((l2.take ((ji10) : Int).toNat).length : Int) = ((l0.take ((ji4) : Int).toNat).length : Int) then ((Zad.f k (l0.take ((ji4) : Int).toNat)).bind fun t206 => (Za.j0 k (l0.take ((ji4) : Int).toNat) (l2.take ((ji10) : Int).toNat) t200 t201 ((t201 == 0) != t206))) else (Za.j0 k (l0.take ((ji4) : Int).toNat) (l2.take ((ji10) : Int).toNat) t200 t201 ((t201 == 0) != false))) else (Za.j0 k (l0.take ((ji4) : Int).toNat) (l2.take ((ji10) : Int).toNat) t200 t201 true))) else (Za.j0 k (l0.take ((ji4) : Int).toNat) (l2.take ((ji10) : Int).toNat) t200 t201 true)) = some r := by rw [if_pos rfl] at H; exact H
  clear H
  have H := H1
  clear H1
  by_cases c30 : t193 = t197
  rotate_left
  ·rw [if_neg c30] at H
   have c30b0 : (t193 == t197) = false := beq_eq_false_iff_ne.mpr c30
   have c30b1 : (t193 != t197) = true := bne_iff_ne.mpr c30
   have H' := Zaa.mk H
   clear H
   obtain ⟨Ao47, co47, eo47⟩ := Kd.Zba HO187.out
   subst eo47
   obtain ⟨Ao48, co48, eo48⟩ := Kd.Zba HO191.out
   subst eo48
   go_wp2_with (first | (go_at_call 14; (with_reducible refine (Zac.calls k _ _ t184 _ _ t188 true _ ?side1 ?side2 ?side3 ?side4 A28.out).mono ?_); (case side1 => repeat (first | exact (Kd.Zav HO187.out).2.2 | (with_reducible refine Kd.Zat ?_ _) | (with_reducible refine Kd.C_drewN ?_ _) | (with_reducible refine Kd.C_drew ?_))); (case side2 => exact (Kd.Zav HO187.out).2.1); (case side3 => repeat (first | exact (Kd.Zav HO191.out).2.2 | (with_reducible refine Kd.Zat ?_ _) | (with_reducible refine Kd.C_drewN ?_ _) | (with_reducible refine Kd.C_drew ?_))); (case side4 => exact (Kd.Zav HO191.out).2.1); rintro e w' ⟨rfl, ⟨nd, rfl⟩⟩))
   go_meet
   case rel => exact ⟨_, (true), (by first | rfl | (simp; done) | (simp [*]; done)), H', ⟨by first | omega | exact Nat.le_refl _⟩, ⟨by (with_reducible repeat (first | apply Kd.Za1 | apply Kd.Za2 | apply Kd.Za4)); exact Kd.Zbg HO203.out (fun _ hk => trivial)⟩, ⟨by repeat (first | (with_reducible first | exact HB.out | apply Zae | apply Zab | apply Zag) | exact HB.out)⟩⟩
  rw [if_pos c30] at H
  have c30b0 : (t193 == t197) = true := beq_iff_eq.mpr c30
  have c30b1 : (t193 != t197) = false := bne_eq_false_iff_eq.mpr c30
  clear c30
  replace H := Option.bind_eq_some_iff.mp H
  obtain ⟨t205, A310, H⟩ := H
  replace H : (if t205 = true then (if ((l2.take ((ji10) : Int).toNat).length : Int) = ((l0.take ((ji4) : Int).toNat).length : Int) then ((Zad.f k (l0.take ((ji4) : Int).toNat)).bind fun t206 => (Za.j0 k (l0.take ((ji4) : Int).toNat) (l2.take ((ji10) : Int).toNat) t200 t201 ((t201 == 0) != t206))) else (Za.j0 k (l0.take ((ji4) : Int).toNat) (l2.take ((ji10) : Int).toNat) t200 t201 ((t201 == 0) != false))) else (Za.j0 k (l0.take ((ji4) : Int).toNat) (l2.take ((ji10) : Int).toNat) t200 t201 true)) = some r := H
  have A31 := Zaa.mk A310
  clear A310
  by_cases c32 : t205 = true
  rotate_left
  ·replace c32 := Bool.eq_false_iff.mpr c32
   subst c32
   have H1 : (Za.j0 k (l0.take ((ji4) : Int).toNat) (l2.take ((ji10) : Int).toNat) t200 t201 true) = some r := by rw [if_neg (show ¬ (false = true) by decide)] at H; exact H
   clear H
   have H := H1
   clear H1
   have H' := Zaa.mk H
   clear H
   obtain ⟨Ao43, co43, eo43⟩ := Kd.Zba HO187.out
   subst eo43
   obtain ⟨Ao44, co44, eo44⟩ := Kd.Zba HO191.out
   subst eo44
   go_wp2_with (first | (go_at_call 14; (with_reducible refine (Zac.calls k _ _ t184 _ _ t188 true _ ?side1 ?side2 ?side3 ?side4 A28.out).mono ?_); (case side1 => repeat (first | exact (Kd.Zav HO187.out).2.2 | (with_reducible refine Kd.Zat ?_ _) | (with_reducible refine Kd.C_drewN ?_ _) | (with_reducible refine Kd.C_drew ?_))); (case side2 => exact (Kd.Zav HO187.out).2.1); (case side3 => repeat (first | exact (Kd.Zav HO191.out).2.2 | (with_reducible refine Kd.Zat ?_ _) | (with_reducible refine Kd.C_drewN ?_ _) | (with_reducible refine Kd.C_drew ?_))); (case side4 => exact (Kd.Zav HO191.out).2.1); rintro e w' ⟨rfl, ⟨nd, rfl⟩⟩; obtain ⟨Ao45, co45, eo45⟩ := Kd.Zba HO195.out; subst eo45; obtain ⟨Ao46, co46, eo46⟩ := Kd.Zba HO199.out; subst eo46) | (go_at_call 14; (with_reducible refine (Zac.calls k _ _ t192 _ _ t196 false _ ?side1 ?side2 ?side3 ?side4 A31.out).mono ?_); (case side1 => repeat (first | exact (Kd.Zav HO195.out).2.2 | (with_reducible refine Kd.Zat ?_ _) | (with_reducible refine Kd.C_drewN ?_ _) | (with_reducible refine Kd.C_drew ?_))); (case side2 => exact (Kd.Zav HO195.out).2.1); (case side3 => repeat (first | exact (Kd.Zav HO199.out).2.2 | (with_reducible refine Kd.Zat ?_ _) | (with_reducible refine Kd.C_drewN ?_ _) | (with_reducible refine Kd.C_drew ?_))); (case side4 => exact (Kd.Zav HO199.out).2.1); rintro e w' ⟨rfl, ⟨nd, rfl⟩⟩))
   go_meet
   case rel => exact ⟨_, (true), (by first | rfl | (simp; done) | (simp [*]; done)), H', ⟨by first | omega | exact Nat.le_refl _⟩, ⟨by (with_reducible repeat (first | apply Kd.Za1 | apply Kd.Za2 | apply Kd.Za4)); exact Kd.Zbg HO203.out (fun _ hk => trivial)⟩, ⟨by repeat (first | (with_reducible first | exact HB.out | apply Zae | apply Zab | apply Zag) | exact HB.out)⟩⟩
  subst c32
  have H1 : (if ((l2.take ((ji10) : Int).toNat).length : Int) = ((l0.take ((ji4) : Int).toNat).length : Int) then ((Zad.f k (l0.take ((ji4) : Int).toNat)).bind fun t206 => (Za.j0 k (l0.take ((ji4) : Int).toNat) (l2.take ((ji10) : Int).toNat) t200 t201 ((t201 == 0) != t206))) else (Za.j0 k (l0.take ((ji4) : Int).toNat) (l2.take ((ji10) : Int).toNat) t200 t201 ((t201 == 0) != false))) = some r := by rw [if_pos rfl] at H; exact H
  clear H
  have H := H1
  clear H1
  by_cases c33 : ((l2.take ((ji10) : Int).toNat).length : Int) = ((l0.take ((ji4) : Int).toNat).length : Int)
  rotate_left
  ·rw [if_neg c33] at H
   have c33b0 : (((l2.take ((ji10) : Int).toNat).length : Int) == ((l0.take ((ji4) : Int).toNat).length : Int)) = false := beq_eq_false_iff_ne.mpr c33
   have c33b1 : (((l2.take ((ji10) : Int).toNat).length : Int) != ((l0.take ((ji4) : Int).toNat).length : Int)) = true := bne_iff_ne.mpr c33
   have c33b2 : ((l2.take ((ji10) : Int).toNat).length == (l0.take ((ji4) : Int).toNat).length) = false := by first | simpa using c33 | (simp at c33 ⊢; omega)
   have c33b2x : (max ji10 0 = max ji4 0) = False := eq_false (by have h9_ := c33; rw [List.length_take, List.length_take] at h9_; have h0_ : (ji10 : Int) ≤ (l2.length : Int) := (by first | exact of_decide_eq_true (by first | (with_reducible assumption) | assumption) | (have h2_ := hji10_; split at h2_ <;> omega)); have h1_ : (ji4 : Int) ≤ (l0.length : Int) := (by first | exact of_decide_eq_true (by first | (with_reducible assumption) | assumption) | (have h2_ := hji4_; split at h2_ <;> omega)); omega)
   have c33b2y : (max ji10 0 == max ji4 0) = false := by first | exact beq_iff_eq.mpr (of_eq_true c33b2x) | exact beq_eq_false_iff_ne.mpr (of_eq_false c33b2x)
   have H' := Zaa.mk H
   clear H
   obtain ⟨Ao39, co39, eo39⟩ := Kd.Zba HO187.out
   subst eo39
   obtain ⟨Ao40, co40, eo40⟩ := Kd.Zba HO191.out
   subst eo40
   go_wp2_with (first | (go_at_call 14; (with_reducible refine (Zac.calls k _ _ t184 _ _ t188 true _ ?side1 ?side2 ?side3 ?side4 A28.out).mono ?_); (case side1 => repeat (first | exact (Kd.Zav HO187.out).2.2 | (with_reducible refine Kd.Zat ?_ _) | (with_reducible refine Kd.C_drewN ?_ _) | (with_reducible refine Kd.C_drew ?_))); (case side2 => exact (Kd.Zav HO187.out).2.1); (case side3 => repeat (first | exact (Kd.Zav HO191.out).2.2 | (with_reducible refine Kd.Zat ?_ _) | (with_reducible refine Kd.C_drewN ?_ _) | (with_reducible refine Kd.C_drew ?_))); (case side4 => exact (Kd.Zav HO191.out).2.1); rintro e w' ⟨rfl, ⟨nd, rfl⟩⟩; obtain ⟨Ao41, co41, eo41⟩ := Kd.Zba HO195.out; subst eo41; obtain ⟨Ao42, co42, eo42⟩ := Kd.Zba HO199.out; subst eo42) | (go_at_call 14; (with_reducible refine (Zac.calls k _ _ t192 _ _ t196 true _ ?side1 ?side2 ?side3 ?side4 A31.out).mono ?_); (case side1 => repeat (first | exact (Kd.Zav HO195.out).2.2 | (with_reducible refine Kd.Zat ?_ _) | (with_reducible refine Kd.C_drewN ?_ _) | (with_reducible refine Kd.C_drew ?_))); (case side2 => exact (Kd.Zav HO195.out).2.1); (case side3 => repeat (first | exact (Kd.Zav HO199.out).2.2 | (with_reducible refine Kd.Zat ?_ _) | (with_reducible refine Kd.C_drewN ?_ _) | (with_reducible refine Kd.C_drew ?_))); (case side4 => exact (Kd.Zav HO199.out).2.1); rintro e w' ⟨rfl, ⟨nd, rfl⟩⟩))
   go_meet
   case rel => exact ⟨_, (((t201 == 0) != false)), (by first | rfl | (simp; done) | (simp [*]; done)), H', ⟨by first | omega | exact Nat.le_refl _⟩, ⟨by (with_reducible repeat (first | apply Kd.Za1 | apply Kd.Za2 | apply Kd.Za4)); exact Kd.Zbg HO203.out (fun _ hk => trivial)⟩, ⟨by repeat (first | (with_reducible first | exact HB.out | apply Zae | apply Zab | apply Zag) | exact HB.out)⟩⟩
  rw [if_pos c33] at H
  have c33b0 : (((l2.take ((ji10) : Int).toNat).length : Int) == ((l0.take ((ji4) : Int).toNat).length : Int)) = true := beq_iff_eq.mpr c33
  have c33b1 : (((l2.take ((ji10) : Int).toNat).length : Int) != ((l0.take ((ji4) : Int).toNat).length : Int)) = false := bne_eq_false_iff_eq.mpr c33
  have c33b2 : ((l2.take ((ji10) : Int).toNat).length == (l0.take ((ji4) : Int).toNat).length) = true := by first | simpa using c33 | (simp at c33 ⊢; omega)
  have c33b2x : (max ji10 0 = max ji4 0) = True := eq_true (by have h9_ := c33; rw [List.length_take, List.length_take] at h9_; have h0_ : (ji10 : Int) ≤ (l2.length : Int) := (by first | exact of_decide_eq_true (by first | (with_reducible assumption) | assumption) | (have h2_ := hji10_; split at h2_ <;> omega)); have h1_ : (ji4 : Int) ≤ (l0.length : Int) := (by first | exact of_decide_eq_true (by first | (with_reducible assumption) | assumption) | (have h2_ := hji4_; split at h2_ <;> omega)); omega)
  have c33b2y : (max ji10 0 == max ji4 0) = true := by first | exact beq_iff_eq.mpr (of_eq_true c33b2x) | exact beq_eq_false_iff_ne.mpr (of_eq_false c33b2x)
  clear c33
  replace H := Option.bind_eq_some_iff.mp H
  obtain ⟨t206, A340, H⟩ := H
  replace H : (Za.j0 k (l0.take ((ji4) : Int).toNat) (l2.take ((ji10) : Int).toNat) t200 t201 ((t201 == 0) != t206)) = some r := H
  have A34 := Zaa.mk A340
  clear A340
  have H' := Zaa.mk H
  clear H
  obtain ⟨Ao35, co35, eo35⟩ := Kd.Zba HO187.out
  subst eo35
  obtain ⟨Ao36, co36, eo36⟩ := Kd.Zba HO191.out
  subst eo36
  go_wp2_with (first | (go_at_call 14; (with_reducible refine (Zac.calls k _ _ t184 _ _ t188 true _ ?side1 ?side2 ?side3 ?side4 A28.out).mono ?_); (case side1 => repeat (first | exact (Kd.Zav HO187.out).2.2 | (with_reducible refine Kd.Zat ?_ _) | (with_reducible refine Kd.C_drewN ?_ _) | (with_reducible refine Kd.C_drew ?_))); (case side2 => exact (Kd.Zav HO187.out).2.1); (case side3 => repeat (first | exact (Kd.Zav HO191.out).2.2 | (with_reducible refine Kd.Zat ?_ _) | (with_reducible refine Kd.C_drewN ?_ _) | (with_reducible refine Kd.C_drew ?_))); (case side4 => exact (Kd.Zav HO191.out).2.1); rintro e w' ⟨rfl, ⟨nd, rfl⟩⟩; obtain ⟨Ao37, co37, eo37⟩ := Kd.Zba HO195.out; subst eo37; obtain ⟨Ao38, co38, eo38⟩ := Kd.Zba HO199.out; subst eo38) | (go_at_call 14; (with_reducible refine (Zac.calls k _ _ t192 _ _ t196 true _ ?side1 ?side2 ?side3 ?side4 A31.out).mono ?_); (case side1 => repeat (first | exact (Kd.Zav HO195.out).2.2 | (with_reducible refine Kd.Zat ?_ _) | (with_reducible refine Kd.C_drewN ?_ _) | (with_reducible refine Kd.C_drew ?_))); (case side2 => exact (Kd.Zav HO195.out).2.1); (case side3 => repeat (first | exact (Kd.Zav HO199.out).2.2 | (with_reducible refine Kd.Zat ?_ _) | (with_reducible refine Kd.C_drewN ?_ _) | (with_reducible refine Kd.C_drew ?_))); (case side4 => exact (Kd.Zav HO199.out).2.1); rintro e w' ⟨rfl, ⟨nd, rfl⟩⟩) | (go_at_call 15; (try rw [← show (l0.take ((ji4) : Int).toNat).length = (ji4).toNat from (by rw [List.length_take]; have h_ : ((ji4) : Int) ≤ (l0.length : Int) := of_decide_eq_true (by first | (with_reducible assumption) | assumption); omega)]); (with_reducible refine (Zad.calls k _ _ (l0.take ((ji4) : Int).toNat) t206 _ ?side1 ?side2 A34.out).mono ?_); (case side1 => repeat (first | exact (Kd.Zap HR181.out (by repeat (first | (with_reducible first | exact HB.out | apply Zae | apply Zab | apply Zag) | exact HB.out))) | (with_reducible refine Kd.Zat ?_ _) | (with_reducible refine Kd.C_drewN ?_ _) | (with_reducible refine Kd.C_drew ?_))); (case side2 => exact HC181.out); rintro e w' ⟨rfl, ⟨nd, rfl⟩⟩))
  go_meet
  case rel => exact ⟨_, (((t201 == 0) != t206)), (by first | rfl | (simp; done) | (simp [*]; done)), H', ⟨by first | omega | exact Nat.le_refl _⟩, ⟨by (with_reducible repeat (first | apply Kd.Za1 | apply Kd.Za2 | apply Kd.Za4)); exact Kd.Zbg HO203.out (fun _ hk => trivial)⟩, ⟨by repeat (first | (with_reducible first | exact HB.out | apply Zae | apply Zab | apply Zag) | exact HB.out)⟩⟩
 case rest =>
  clear HC18
  try clear c1
  try clear c2
  try clear p2
  try clear c3
  try clear c5
  try clear c5b0
  try clear c5b1
  try clear c6
  try clear c6b0
  try clear c6b1
  try clear c8
  try clear c8b0
  try clear c8b1
  try clear c9
  try clear c9b0
  try clear c9b1
  try clear c10
  try clear c11
  try clear c11b0
  try clear c11b1
  try clear c12
  try clear c12b0
  try clear c12b1
  try clear c13
  try clear c27
  try clear c27b0
  try clear c27b1
  try clear c29
  try clear c30
  try clear c30b0
  try clear c30b1
  try clear c32
  try clear c33
  try clear c33b0
  try clear c33b1
  try clear c33b2
  obtain ⟨kq, x93_17, rfl, HA, HJ17, HO_15, HB⟩ := hcut
  cases kq with
  | zero => exact absurd HA.out (by simp [Za.j0])
  | succ kj17 =>
   have H := HA.out
   clear HA
   simp only [Za.j0] at H
   by_cases c51 : x93_17 = true
   ·subst c51
    have H1 : (none) = some r := by rw [if_pos rfl] at H; exact H
    clear H
    have H := H1
    clear H1
    exact absurd H (by simp)
   replace c51 := Bool.eq_false_iff.mpr c51
   subst c51
   have H1 : (if t201 = 0 then ((Zah.f kj17 (l2.take ((ji10) : Int).toNat) (l0.take ((ji4) : Int).toNat)).bind fun t207 => ((Zac.f kj17 t200 t207).bind fun t210 => (if t210 = true then ((Zar.f kj17).bind fun t211 => (some t211)) else (none)))) else (if t201 = 1 then (if (t200.length : Int) = 0 then ((Zar.f kj17).bind fun t212 => (some t212)) else (none)) else (none))) = some r := by rw [if_neg (show ¬ (false = true) by decide)] at H; exact H
   clear H
   have H := H1
   clear H1
   by_cases c52 : t201 = 0
   rotate_left
   ·rw [if_neg c52] at H
    have c52b0 : (t201 == 0) = false := beq_eq_false_iff_ne.mpr c52
    have c52b1 : (t201 != 0) = true := bne_iff_ne.mpr c52
    by_cases c61 : t201 = 1
    rotate_left
    ·rw [if_neg c61] at H
     exact absurd H (by simp)
    rw [if_pos c61] at H
    have c61b0 : (t201 == 1) = true := beq_iff_eq.mpr c61
    have c61b1 : (t201 != 1) = false := bne_eq_false_iff_eq.mpr c61
    clear c61
    by_cases c62 : (t200.length : Int) = 0
    rotate_left
    ·rw [if_neg c62] at H
     exact absurd H (by simp)
    rw [if_pos c62] at H
    have c62b0 : ((t200.length : Int) == 0) = true := beq_iff_eq.mpr c62
    have c62b1 : ((t200.length : Int) != 0) = false := bne_eq_false_iff_eq.mpr c62
    clear c62
    replace H := Option.bind_eq_some_iff.mp H
    obtain ⟨t212, A630, H⟩ := H
    replace H : (some t212) = some r := H
    have A63 := Zaa.mk A630
    clear A630
    obtain rfl := Option.some.inj H
    obtain ⟨Ao64, co64, eo64⟩ := Kd.Zba HO_15.out
    subst eo64
    go_wp2_with (first | (go_at_call 16; (with_reducible refine (Zar.calls kj17  t212 _ A63.out).mono ?_); rintro e w65 ⟨rfl, hb⟩; have n0_ := Zaa.mk (Kd.Zcj (by (with_reducible repeat (first | apply Kd.Za1 | apply Kd.Za2 | apply Kd.Za4)); exact HO_15.out) hb); have n1_ := Zaa.mk (Zao (by repeat (first | (with_reducible first | exact HB.out | apply Zae | apply Zab | apply Zag) | exact HB.out)) hb); clear HO_15; clear HB; have HO_15 := n0_; have HB := n1_; clear n0_ n1_; (try clear hb); (try clear hb2); (try clear hk); (try clear hi)))
    go_ret
    exact ⟨by first | rfl | (simp [Zaw, Zax] <;> rfl) | (simp only [← hji4, ← hji7, ← hji10]; first | rfl | (simp [Zaw, Zax] <;> rfl)) | (simp [*, Zaw, Zax] <;> rfl), by repeat (first | (with_reducible first | exact HB.out | apply Zae | apply Zab | apply Zag) | exact HB.out)⟩
   rw [if_pos c52] at H
   have c52b0 : (t201 == 0) = true := beq_iff_eq.mpr c52
   have c52b1 : (t201 != 0) = false := bne_eq_false_iff_eq.mpr c52
   clear c52
   replace H := Option.bind_eq_some_iff.mp H
   obtain ⟨t207, A530, H⟩ := H
   replace H : ((Zac.f kj17 t200 t207).bind fun t210 => (if t210 = true then ((Zar.f kj17).bind fun t211 => (some t211)) else (none))) = some r := H
   have A53 := Zaa.mk A530
   clear A530
   replace H := Option.bind_eq_some_iff.mp H
   obtain ⟨t210, A540, H⟩ := H
   replace H : (if t210 = true then ((Zar.f kj17).bind fun t211 => (some t211)) else (none)) = some r := H
   have A54 := Zaa.mk A540
   clear A540
   by_cases c55 : t210 = true
   rotate_left
   ·replace c55 := Bool.eq_false_iff.mpr c55
    subst c55
    have H1 : (none) = some r := by rw [if_neg (show ¬ (false = true) by decide)] at H; exact H
    clear H
    have H := H1
    clear H1
    exact absurd H (by simp)
   subst c55
   have H1 : ((Zar.f kj17).bind fun t211 => (some t211)) = some r := by rw [if_pos rfl] at H; exact H
   clear H
   have H := H1
   clear H1
   replace H := Option.bind_eq_some_iff.mp H
   obtain ⟨t211, A560, H⟩ := H
   replace H : (some t211) = some r := H
   have A56 := Zaa.mk A560
   clear A560
   obtain rfl := Option.some.inj H
   go_wp2_with (first | ((with_reducible refine Zas (f := 17) rfl ?_); refine Zbc (some 109) rfl rfl Try.func17 (by kernel_rfl) rfl #[.slice A2 (l2.take ((ji10) : Int).toNat).length c2, .slice A0 (l0.take ((ji4) : Int).toNat).length c0] rfl (by (try simp only [List.map_toArray, List.map_cons, List.map_nil]); first | done | (rw [show (l2.take ((ji10) : Int).toNat).length = (ji10).toNat from (by rw [List.length_take]; have h_ : ((ji10) : Int) ≤ (l2.length : Int) := (by first | exact of_decide_eq_true (by first | (with_reducible assumption) | assumption) | (have h2_ := hji10_; split at h2_ <;> omega)); omega), show (l0.take ((ji4) : Int).toNat).length = (ji4).toNat from (by rw [List.length_take]; have h_ : ((ji4) : Int) ≤ (l0.length : Int) := (by first | exact of_decide_eq_true (by first | (with_reducible assumption) | assumption) | (have h2_ := hji4_; split at h2_ <;> omega)); omega)] <;> rfl) | (rw [show (l2.take ((ji10) : Int).toNat).length = (ji10).toNat from (by rw [List.length_take]; have h_ : ((ji10) : Int) ≤ (l2.length : Int) := (by first | exact of_decide_eq_true (by first | (with_reducible assumption) | assumption) | (have h2_ := hji10_; split at h2_ <;> omega)); omega)] <;> rfl) | (rw [show (l0.take ((ji4) : Int).toNat).length = (ji4).toNat from (by rw [List.length_take]; have h_ : ((ji4) : Int) ≤ (l0.length : Int) := (by first | exact of_decide_eq_true (by first | (with_reducible assumption) | assumption) | (have h2_ := hji4_; split at h2_ <;> omega)); omega)] <;> rfl) | (simp only [hji10, hji4]; rfl) | rfl | (simp only [List.length_drop, List.length_take]; rfl)) ?_; (with_reducible refine (Zah.calls kj17 _ _ (l2.take ((ji10) : Int).toNat) _ _ (l0.take ((ji4) : Int).toNat) t207 _ ?side1 ?side2 ?side3 ?side4 A53.out).mono ?_); (case side1 => repeat (first | exact (Kd.Zap HR183.out HB.out) | (with_reducible refine Kd.Zat ?_ _) | (with_reducible refine Kd.C_drewN ?_ _) | (with_reducible refine Kd.C_drew ?_))); (case side2 => exact HC183.out); (case side3 => repeat (first | exact (Kd.Zap HR181.out HB.out) | (with_reducible refine Kd.Zat ?_ _) | (with_reducible refine Kd.C_drewN ?_ _) | (with_reducible refine Kd.C_drew ?_))); (case side4 => exact HC181.out); rintro e w57 ⟨v208, rfl, ho0, hb⟩; refine ⟨_, rfl, ?_⟩; have n0_ := Zaa.mk (Kd.Zbo (by (with_reducible repeat (first | apply Kd.Za1 | apply Kd.Za2 | apply Kd.Za4)); exact HO_15.out) (Kd.Zbq ho0) hb); have n1_ := Zaa.mk (Kd.Zbh (Kd.Zcg ho0 (Kd.R_lt (by (with_reducible repeat (first | apply Kd.Za1 | apply Kd.Za2 | apply Kd.Za4)); exact HO_15.out))) (Zaz (by repeat (first | (with_reducible first | exact HB.out | apply Zae | apply Zab | apply Zag) | exact HB.out)))); have n2_ := Zaa.mk (Zao (by repeat (first | (with_reducible first | exact HB.out | apply Zae | apply Zab | apply Zag) | exact HB.out)) hb); clear HO_15; clear HB; have HO_15 := n0_; have HO209 := n1_; have HB := n2_; clear n0_ n1_ n2_; (try clear hb); (try clear hb2); (try clear hk); (try clear hi); (try clear ho0); obtain ⟨Ao58, co58, eo58⟩ := Kd.Zba HO_15.out; subst eo58; obtain ⟨Ao59, co59, eo59⟩ := Kd.Zba HO209.out; subst eo59) | ((with_reducible refine Zas (f := 14) rfl ?_); refine Zbc (some 110) rfl rfl Try.func14 (by kernel_rfl) rfl #[.slice Ao58 t200.length co58, .slice Ao59 t207.length co59] rfl (by (try simp only [List.map_toArray, List.map_cons, List.map_nil]); first | done | rfl | (simp only [List.length_drop, List.length_take]; rfl)) ?_; (with_reducible refine (Zac.calls kj17 _ _ t200 _ _ t207 true _ ?side1 ?side2 ?side3 ?side4 A54.out).mono ?_); (case side1 => repeat (first | exact (Kd.Zav HO_15.out).2.2 | (with_reducible refine Kd.Zat ?_ _) | (with_reducible refine Kd.C_drewN ?_ _) | (with_reducible refine Kd.C_drew ?_))); (case side2 => exact (Kd.Zav HO_15.out).2.1); (case side3 => repeat (first | exact (Kd.Zav HO209.out).2.2 | (with_reducible refine Kd.Zat ?_ _) | (with_reducible refine Kd.C_drewN ?_ _) | (with_reducible refine Kd.C_drew ?_))); (case side4 => exact (Kd.Zav HO209.out).2.1); rintro e w' ⟨rfl, ⟨nd, rfl⟩⟩; refine ⟨_, rfl, ?_⟩) | (go_at_call 16; (with_reducible refine (Zar.calls kj17  t211 _ A56.out).mono ?_); rintro e w60 ⟨rfl, hb⟩; have n0_ := Zaa.mk (Kd.Zcj (by (with_reducible repeat (first | apply Kd.Za1 | apply Kd.Za2 | apply Kd.Za4)); exact HO_15.out) hb); have n1_ := Zaa.mk (Kd.Zcj (by (with_reducible repeat (first | apply Kd.Za1 | apply Kd.Za2 | apply Kd.Za4)); exact HO209.out) hb); have n2_ := Zaa.mk (Zao (by repeat (first | (with_reducible first | exact HB.out | apply Zae | apply Zab | apply Zag) | exact HB.out)) hb); clear HO_15; clear HO209; clear HB; have HO_15 := n0_; have HO209 := n1_; have HB := n2_; clear n0_ n1_ n2_; (try clear hb); (try clear hb2); (try clear hk); (try clear hi)))
   go_ret
   exact ⟨by first | rfl | (simp [Zaw, Zax] <;> rfl) | (simp only [← hji4, ← hji7, ← hji10]; first | rfl | (simp [Zaw, Zax] <;> rfl)) | (simp [*, Zaw, Zax] <;> rfl), by repeat (first | (with_reducible first | exact HB.out | apply Zae | apply Zab | apply Zag) | exact HB.out)⟩
/-- THE ONE PURE STATEMENT of Za: yours. -/
def Za.Pure : Prop := ∀ (l0 : List Int) (l1 : List Int) (l2 : List Int), l0.length ≤ maxLen → l0.length * 8 ≤ 140737488351232 → (∀ x ∈ l0, (Lit.int .i64 x).wf = true) → l1.length ≤ maxLen → l1.length * 8 ≤ 140737488351232 → (∀ x ∈ l1, (Lit.int .i64 x).wf = true) → l2.length ≤ maxLen → l2.length * 8 ≤ 140737488351232 → (∀ x ∈ l2, (Lit.int .i64 x).wf = true) → ∃ k, Za.f k l0 l1 l2 = some true
theorem Za.walk (P : Za.Pure) (a0 : Option Addr) (len0 cap0 : Nat) (z0 : List Int) (a1 : Option Addr) (len1 cap1 : Nat) (z1 : List Int) (a2 : Option Addr) (len2 cap2 : Nat) (z2 : List Int) (w : World) (w0 : (a0 = none ∧ len0 = 0 ∧ cap0 = 0 ∧ z0 = []) ∨ ∃ x, a0 = some x ∧ len0 ≤ cap0 ∧ cap0 ≤ maxLen ∧ z0.length = cap0 ∧ (∀ i, i < z0.length → w.cell? (x.add i) = some (.int .i64 (z0.getD i 0))) ∧ ∀ n ∈ z0, (Lit.int .i64 n).wf = true) (y0 : len0 * 8 ≤ 140737488351232) (w1 : (a1 = none ∧ len1 = 0 ∧ cap1 = 0 ∧ z1 = []) ∨ ∃ x, a1 = some x ∧ len1 ≤ cap1 ∧ cap1 ≤ maxLen ∧ z1.length = cap1 ∧ (∀ i, i < z1.length → w.cell? (x.add i) = some (.int .i64 (z1.getD i 0))) ∧ ∀ n ∈ z1, (Lit.int .i64 n).wf = true) (y1 : len1 * 8 ≤ 140737488351232) (w2 : (a2 = none ∧ len2 = 0 ∧ cap2 = 0 ∧ z2 = []) ∨ ∃ x, a2 = some x ∧ len2 ≤ cap2 ∧ cap2 ≤ maxLen ∧ z2.length = cap2 ∧ (∀ i, i < z2.length → w.cell? (x.add i) = some (.int .i64 (z2.getD i 0))) ∧ ∀ n ∈ z2, (Lit.int .i64 n).wf = true) (y2 : len2 * 8 ≤ 140737488351232) :
  Calls Try.prog 3 #[.slice a0 len0 cap0, .slice a1 len1 cap1, .slice a2 len2 cap2] w fun e w' => e = .returned (.bool true) ∧ Below w.heap.size w w' := by
 obtain ⟨l0, rfl, hr0, hm0, hw0, hc0⟩ := ReadsInt.ofRowC w0
 obtain ⟨l1, rfl, hr1, hm1, hw1, hc1⟩ := ReadsInt.ofRowC w1
 obtain ⟨l2, rfl, hr2, hm2, hw2, hc2⟩ := ReadsInt.ofRowC w2
 obtain ⟨k, h⟩ := P l0 l1 l2 hm0 y0 hw0 hm1 y1 hw1 hm2 y2 hw2
 refine (Za.calls k _ _ l0 _ _ l1 _ _ l2 true w (Kd.Zbx (d := (0 : Int)) (h1 := fun _ => rfl) hr0) hc0 (Kd.Zbx (d := (0 : Int)) (h1 := fun _ => rfl) hr1) hc1 (Kd.Zbx (d := (0 : Int)) (h1 := fun _ => rfl) hr2) hc2 h).mono ?_
 rintro e w' ⟨rfl, hd⟩
 exact ⟨rfl, hd⟩

end Go.Proofs.Yteopgafbamipeaa.P
/- One change behind another one, the way back, and any values in other places, are as the document says: for any lists. -/
namespace Go.Proofs.Yteopgafbamipeaa.P
open Go.RowKit G Go.Proofs.YteopgafbamipeaaW.PrintWords Go.Proofs.YteopgafbamipeaaW.PrintLast
set_option linter.unusedVariables false
namespace G
theorem Zcr (p q : List Int) (hp : Rt p) (hl : p.length = q.length) (hb : p.length ≤ 1000000) : ∀ (d j : Nat), j + d = p.length → Ev (fun k => Zaf.l0 k p q (comp (p.take j) q) (j : Int)) (comp p q, 0)
  | 0, j, h => by
    obtain rfl : j = p.length := by omega
    exact Ev.step (G := fun _ => some (comp (p.take p.length) q, 0)) (fun k => by rw [Zaf.l0, if_neg (by omega)]) (Ev.const (by rw [List.take_length]))
  | d + 1, j, h => by
    have hj : j < p.length := by omega
    obtain ⟨h0, h1⟩ := hp.rng hj
    have e : comp (p.take j) q ++ [rd q (rd p j)] = comp (p.take (j + 1)) q := by
      unfold comp
      rw [List.take_succ_eq_append_getElem hj, List.map_append, Zeb hj]
      rfl
    refine Ev.step (fun k => by rw [Zaf.l0, if_pos (by omega), if_pos (by omega), if_pos h0, if_pos (by omega), if_pos (by rw [Za5, List.length_take]; omega), w1 (by omega), e]) (Zcr p q hp hl hb d (j + 1) (by omega))
theorem ref_behind_ev {p q : List Int} (hp : p.length ≤ 1000000) (hq : q.length ≤ 1000000) : Ev (fun k => Zaf.f k p q) (bh p q) := by
  have hno : ∀ b : Bool, b = true → bh p q = ([], 1) → Ev (fun k => Zaf.j0 k p q b) (bh p q) := fun b hb h => by
    subst hb
    rw [h]
    exact Ev.step (G := fun _ => some ([], 1)) (fun k => by rw [Zaf.j0, if_pos rfl]) (Ev.const rfl)
  unfold Zaf.f
  by_cases hl : p.length = q.length
  rotate_left
  · exact Ev.Zb9 (by omega) (hno _ rfl (if_neg (fun h => hl h.1)))
  refine Ev.Zbb (by omega) (Ev.bind (Zb2 hp) ?_)
  cases h1 : rtB p
  · exact Ev.Zb9 (by simp) (hno _ rfl (if_neg (by simp [h1])))
  refine Ev.Zbb rfl (Ev.bind (Zb2 hq) ?_)
  cases h2 : rtB q
  · exact hno _ rfl (if_neg (by simp [h2]))
  have e : bh p q = (comp p q, 0) := if_pos ⟨hl, h1, h2⟩
  rw [e]
  refine Ev.step (G := fun k => Zaf.l0 k p q [] 0) (fun k => by rw [Zaf.j0, if_neg (by simp)]) ?_
  exact Zcr p q (Zbr.1 h1) hl hp p.length 0 (by omega)
theorem Zdc (p : List Int) (hp : Rt p) (hb : p.length ≤ 1000000) : ∀ (d j : Nat), j + d = p.length → Ev (fun k => Zai.l0 k p (scN (ids p.length) p j) (j : Int)) (sc (ids p.length) p, 0)
  | 0, j, h => by
    obtain rfl : j = p.length := by omega
    exact Ev.step (G := fun _ => some (scN (ids p.length) p p.length, 0)) (fun k => by rw [Zai.l0, if_neg (by omega)]) (Ev.const rfl)
  | d + 1, j, h => by
    have hj : j < p.length := by omega
    obtain ⟨h0, h1⟩ := hp.rng hj
    have hs := (Zdj (a := ids p.length) hp j (by omega)).1
    have e := Zdf (ids p.length) p j
    rw [Zch hj] at e
    refine Ev.step (fun k => by rw [Zai.l0, if_pos (by omega), if_pos (by omega), if_pos h0, if_pos (by omega), w1 (by omega), ← e]) (Zdc p hp hb d (j + 1) (by omega))
theorem ref_back_ev {p : List Int} (hp : p.length ≤ 1000000) : Ev (fun k => Zai.f k p) (bk p) := by
  unfold Zai.f
  refine Ev.bind (Zb2 hp) ?_
  cases h2 : rtB p
  · exact Ev.Zb9 (by simp) (Ev.const (by simp [bk, h2]))
  have e : bk p = (sc (ids p.length) p, 0) := if_pos h2
  rw [e]
  refine Ev.Zbb rfl (Ev.Zbb (by omega) (Ev.Zbb (by omega) ?_))
  have := Zdc p (Zbr.1 h2) hp p.length 0 (by omega)
  rw [Int.toNat_natCast]
  exact this
theorem Zcs (a p : List Int) (hp : Rt p) (hl : a.length = p.length) (hb : p.length ≤ 1000000) : ∀ (d j : Nat), j + d = p.length → Ev (fun k => Zah.l0 k a p (scN a p j) (j : Int)) (sc a p)
  | 0, j, h => by
    obtain rfl : j = p.length := by omega
    exact Ev.step (G := fun _ => some (scN a p p.length)) (fun k => by rw [Zah.l0, if_neg (by omega)]) (Ev.const rfl)
  | d + 1, j, h => by
    have hj : j < p.length := by omega
    obtain ⟨h0, h1⟩ := hp.rng hj
    have hs := (Zdj (a := a) hp j (by omega)).1
    refine Ev.step (fun k => by rw [Zah.l0, if_pos (by omega), if_pos (by omega), if_pos (by omega), if_pos h0, if_pos (by omega), w1 (by omega), ← Zdf]) (Zcs a p hp hl hb d (j + 1) (by omega))
theorem ref_values_ev {a p : List Int} (h1 : Rt p) (hl : a.length = p.length) (hp : p.length ≤ 1000000) : Ev (fun k => Zah.f k a p) (sc a p) := by
  unfold Zah.f
  refine Ev.Zbb (by omega) (Ev.Zbb (by omega) ?_)
  have := Zcs a p h1 hl hp p.length 0 (by omega)
  rw [Int.toNat_natCast, hl]
  exact this
theorem bh_len {p q : List Int} (hp : p.length ≤ 1000000) : (bh p q).1.length ≤ 1000000 := by
  unfold bh
  split
  · rw [Za5]; exact hp
  simp
theorem bk_len {p : List Int} (hp : p.length ≤ 1000000) : (bk p).1.length ≤ 1000000 := by
  unfold bk
  split
  · rename_i h
    rw [sc_len (Zbr.1 h)]
    exact hp
  simp
end G
theorem cut30 (l : List Int) : 0 ≤ mn (l.length : Int) 30 ∧ mn (l.length : Int) 30 ≤ (l.length : Int) ∧ (l.take (mn (l.length : Int) 30).toNat).length ≤ 30 := by
  rw [List.length_take]
  unfold mn
  split <;> omega
theorem two (l0 l1 l2 : List Int) : Ev (fun k => Za.f k l0 l1 l2) true := by
  obtain ⟨a0, b0, c0⟩ := cut30 l0
  obtain ⟨a1, b1, c1⟩ := cut30 l1
  obtain ⟨a2, b2, c2⟩ := cut30 l2
  unfold Za.f
  refine Ev.Zbb a0 (Ev.Zbb b0 (Ev.Zbb a1 (Ev.Zbb b1 (Ev.Zbb a2 (Ev.Zbb b2 ?_)))))
  generalize l0.take (mn (l0.length : Int) 30).toNat = p at *
  generalize l1.take (mn (l1.length : Int) 30).toNat = q at *
  generalize l2.take (mn (l2.length : Int) 30).toNat = a at *
  have hf : Ev (fun k => Zar.f k) true := Ev.const rfl
  have hbad : Ev (fun k => Za.j0 k p a [] 1 false) true :=
    Ev.step (fun k => by rw [Za.j0, if_neg (by simp), if_neg (by omega), if_pos rfl, if_pos (by simp)]) (Ev.bind hf (Ev.const rfl))
  refine Ev.bind (behind_ev (p := p) (q := q) (by omega) (by omega)) (Ev.bind (ref_behind_ev (by omega) (by omega)) (Ev.bind (back_ev (p := p) (by omega)) (Ev.bind (ref_back_ev (by omega)) (Ev.bind (values_ev (a := a) (p := p) (by omega)) (Ev.Zbb rfl (Ev.bind (Zdw _ _ (by have := bh_len (p := p) (q := q) (by omega); omega)) (Ev.Zbb (decide_eq_true rfl) (Ev.Zbb rfl (Ev.bind (Zdw _ _ (by have := bk_len (p := p) (by omega); omega)) (Ev.Zbb (decide_eq_true rfl) ?_))))))))))
  by_cases hl : a.length = p.length
  rotate_left
  · have e : vl a p = ([], 1) := if_neg (fun h => hl h.1)
    rw [e]
    exact Ev.Zb9 (by omega) hbad
  refine Ev.Zbb (by omega) (Ev.bind (Zb2 (p := p) (by omega)) ?_)
  cases hr : rtB p
  · have e : vl a p = ([], 1) := if_neg (by simp [hr])
    rw [e]
    exact hbad
  have e : vl a p = (sc a p, 0) := if_pos ⟨hl, hr⟩
  rw [e]
  show Ev (fun k => Za.j0 k p a (sc a p) 0 false) true
  refine Ev.step (fun k => by rw [Za.j0, if_neg (by simp), if_pos rfl]) (Ev.bind (ref_values_ev (a := a) (Zbr.1 hr) hl (by omega)) (Ev.bind (Zdw (sc a p) (sc a p) (by rw [sc_len (Zbr.1 hr)]; omega)) (Ev.Zbb (decide_eq_true rfl) (Ev.bind hf (Ev.const rfl)))))
end Go.Proofs.Yteopgafbamipeaa.P
namespace Go.Proofs.Yteopgafbamipeaa.Pure
open Go.Proofs.Yteopgafbamipeaa.P
theorem GroupTwo : Za.Pure := fun l0 l1 l2 _ _ _ _ _ _ _ _ _ => (two l0 l1 l2).out
end Go.Proofs.Yteopgafbamipeaa.Pure
-- Written by wip/tools/px.py out of the translation. Lean checks it.
namespace Go.Proofs.Yteopgafbamipeaa.groupTwo
open Go.ChangeShapes Go.WideShapes Go.ChangeAt Go.RowKit
open Go.ChangeMaps (open_string shut_string)
set_option linter.unusedVariables false
theorem own : ownKnob Try.prog.godebug = none := by kernel_rfl
theorem laidOut : laidOutB Try.prog = true := by kernel_rfl
def IsRow (k : IntKind) (w : World) (a : Option Addr) (len cap : Nat) (zs : List Int) : Prop :=
 (a = none ∧ len = 0 ∧ cap = 0 ∧ zs = []) ∨
 ∃ x, a = some x ∧ len ≤ cap ∧ cap ≤ maxLen ∧ zs.length = cap ∧ (∀ i, i < zs.length → w.cell? (x.add i) = some (.int k (zs.getD i 0))) ∧ ∀ n ∈ zs, (Lit.int k n).wf = true
set_option maxRecDepth 100000 in
theorem lifted (os : Os) (started : os.Started) (H : Type) (enc : TypeId × Value → H) :
  ReturnsInHanded {} Try.checked os 3 .any (Rows.groupTwoSpec.pre6 enc Try.prog Try.f3 Rows.groupTwoRow.domain false) (Rows.groupTwoSpec.post enc Try.prog Try.f3 false true false false) := by
 refine returnsInHanded_of_change_sized (C := Try.checked) own started (by kernel_rfl) Try.func3
  (ChangeSpec.witness6 (enc := enc) (C := Try.checked) false ⟨#[], #[.slice none 0 0, .slice none 0 0, .slice none 0 0], []⟩ 8 (by kernel_rfl) (by kernel_rfl) (by kernel_rfl) (by kernel_rfl)) ?_
 intro W base args ds gs before hval0 hW hcnd hsz0 _
 have hsz : (DataW.weightsEach Try.prog (Try.f3.params.toList ++ Rows.groupTwoSpec.plain.varTypes Try.prog) (ds ++ gs)).all (· ≤ reachBytes) = true := hsz0
 have hval : ∀ (j : Nat) t v, Try.f3.params[j]? = some t → args[j]? = some v → Value.okWide Try.prog W .any base t v := hval0
 have hW' := hW
 obtain ⟨p, q, hA0, hV, rfl, hfz, hnd⟩ := hW
 have hA : DataW.TrodAll enc Try.prog W 0 (fun _ => true) true Try.f3.params.toList args.toList ds p := hA0
 rw [Try.params3] at hA hval hsz
 obtain ⟨v0, vs0, d0, ds0, p0, q0, hargs, rfl, rfl, h0, r0⟩ := trodAll_cons hA
 obtain ⟨v1, vs1, d1, ds1, p1, q1, rfl, rfl, rfl, h1, r1⟩ := trodAll_cons r0
 obtain ⟨v2, vs2, d2, ds2, p2, q2, rfl, rfl, rfl, h2, r2⟩ := trodAll_cons r1
 obtain ⟨rfl, rfl, rfl⟩ := trodAll_nil r2
 obtain rfl : args = #[v0, v1, v2] := by cases args; simp_all
 obtain ⟨rfl, rfl⟩ := trodVars_none hV
 obtain ⟨a0, len0, cap0, rfl⟩ := okWide_slice Try.underlying22 (hval 0 22 v0 rfl rfl)
 have k0 := h0
 have lt0 : ∀ x ∈ p0, x.block < W.heap.size := by obtain ⟨m, hm⟩ := k0; exact DataW.trod_lt m _ _ _ hm
 obtain ⟨z0, w0⟩ : ∃ zs, IsRow .i64 W a0 len0 cap0 zs := by
  obtain ⟨fuel, hf⟩ := h0
  rcases open_ints Try.underlying22 Try.underlying3 (by kernel_rfl) hf with ⟨hcs, _⟩ | ⟨x, l, c, zs, hcs, _, hl, hm, hz, _, hcell, hwz⟩
  ·simp [Value.cells] at hcs
   obtain ⟨rfl, rfl, rfl⟩ := hcs
   exact ⟨[], .inl ⟨rfl, rfl, rfl, rfl⟩⟩
  simp [Value.cells] at hcs
  obtain ⟨rfl, rfl, rfl⟩ := hcs
  exact ⟨zs, .inr ⟨_, rfl, hl, hm, by simpa using hz, hcell, hwz⟩⟩
 have y0 : len0 * 8 ≤ 140737488351232 := Go.Proofs.YteopgafbamipeaaW.PrintWords.Zdk hsz (j := 0) (t := 22) rfl rfl Try.underlying22 Try.underlying3 (by kernel_rfl) (by kernel_rfl) h0
 obtain ⟨a1, len1, cap1, rfl⟩ := okWide_slice Try.underlying22 (hval 1 22 v1 rfl rfl)
 have k1 := h1
 have lt1 : ∀ x ∈ p1, x.block < W.heap.size := by obtain ⟨m, hm⟩ := k1; exact DataW.trod_lt m _ _ _ hm
 obtain ⟨z1, w1⟩ : ∃ zs, IsRow .i64 W a1 len1 cap1 zs := by
  obtain ⟨fuel, hf⟩ := h1
  rcases open_ints Try.underlying22 Try.underlying3 (by kernel_rfl) hf with ⟨hcs, _⟩ | ⟨x, l, c, zs, hcs, _, hl, hm, hz, _, hcell, hwz⟩
  ·simp [Value.cells] at hcs
   obtain ⟨rfl, rfl, rfl⟩ := hcs
   exact ⟨[], .inl ⟨rfl, rfl, rfl, rfl⟩⟩
  simp [Value.cells] at hcs
  obtain ⟨rfl, rfl, rfl⟩ := hcs
  exact ⟨zs, .inr ⟨_, rfl, hl, hm, by simpa using hz, hcell, hwz⟩⟩
 have y1 : len1 * 8 ≤ 140737488351232 := Go.Proofs.YteopgafbamipeaaW.PrintWords.Zdk hsz (j := 1) (t := 22) rfl rfl Try.underlying22 Try.underlying3 (by kernel_rfl) (by kernel_rfl) h1
 obtain ⟨a2, len2, cap2, rfl⟩ := okWide_slice Try.underlying22 (hval 2 22 v2 rfl rfl)
 have k2 := h2
 have lt2 : ∀ x ∈ p2, x.block < W.heap.size := by obtain ⟨m, hm⟩ := k2; exact DataW.trod_lt m _ _ _ hm
 obtain ⟨z2, w2⟩ : ∃ zs, IsRow .i64 W a2 len2 cap2 zs := by
  obtain ⟨fuel, hf⟩ := h2
  rcases open_ints Try.underlying22 Try.underlying3 (by kernel_rfl) hf with ⟨hcs, _⟩ | ⟨x, l, c, zs, hcs, _, hl, hm, hz, _, hcell, hwz⟩
  ·simp [Value.cells] at hcs
   obtain ⟨rfl, rfl, rfl⟩ := hcs
   exact ⟨[], .inl ⟨rfl, rfl, rfl, rfl⟩⟩
  simp [Value.cells] at hcs
  obtain ⟨rfl, rfl, rfl⟩ := hcs
  exact ⟨zs, .inr ⟨_, rfl, hl, hm, by simpa using hz, hcell, hwz⟩⟩
 have y2 : len2 * 8 ≤ 140737488351232 := Go.Proofs.YteopgafbamipeaaW.PrintWords.Zdk hsz (j := 2) (t := 22) rfl rfl Try.underlying22 Try.underlying3 (by kernel_rfl) (by kernel_rfl) h2
 clear hA0 hval0 hsz0 hsz
 refine (P.Za.walk Pure.GroupTwo a0 len0 cap0 z0 a1 len1 cap1 z1 a2 len2 cap2 z2 W w0 y0 w1 y1 w2 y2).mono fun e W' ⟨he, bel⟩ => ?_
 subst he
 exact ⟨_, rfl, _, _, _, [], _, [], hW', trodAll_mk1 (shut_bool Try.underlying4 _), (trodAll_cons_mk (Below.trod laidOut (by kernel_rfl) (of_decide_eq_true (by kernel_rfl)) k0 bel lt0) (trodAll_cons_mk (Below.trod laidOut (by kernel_rfl) (of_decide_eq_true (by kernel_rfl)) k1 bel lt1) (trodAll_cons_mk (Below.trod laidOut (by kernel_rfl) (of_decide_eq_true (by kernel_rfl)) k2 bel lt2) trodAll_mk0))), rfl, bel.frame _, fun h => by cases h⟩
theorem over : Rows.groupTwoRow.holds Try.pinned (OpenSpec.ofChange Rows.groupTwoSpec) :=
 OpenClaim.holds_of_wide 3 Try.f3 rfl rfl rfl rfl rfl rfl rfl ⟨rfl, rfl, rfl, rfl, rfl⟩ rfl rfl rfl rfl rfl (by kernel_rfl) Try.func3 (by kernel_rfl)
  (of_decide_eq_true (by kernel_rfl)) (by unfold Func.isWrapper; first | (rw [if_pos (by decide +kernel)]; kernel_rfl) | (rw [if_neg (by decide +kernel)]; exact ⟨rfl, rfl⟩))
  (fun os started H enc _ => lifted os started H enc)
theorem proved : Rows.GroupTwoSaid := over
end Go.Proofs.Yteopgafbamipeaa.groupTwo
namespace Go.Proofs.Yteopgafbamipeaa
/-- The row, under a short name, for the claim. -/
theorem groupTwo_holds : Rows.GroupTwoSaid := groupTwo.proved
end Go.Proofs.Yteopgafbamipeaa
