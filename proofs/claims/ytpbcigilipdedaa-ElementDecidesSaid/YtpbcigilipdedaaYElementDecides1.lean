/- Proved: the statement ElementDecides. Conditions: none but those of the statement. -/
import Derived.Test.YtpbcigilipdedaaZ1
import Derived.Test.YtpbcigilipdedaaZ4
import Derived.Test.YtpbcigilipdedaaZ3
import Derived.Test.YtpbcigilipdedaaZ5
import Derived.Test.YtpbcigilipdedaaU1
import Derived.Deep.Slices
import Derived.ChangeArms
import Derived.DataReads
import Derived.SizedLaws
namespace Go.Proofs.Ytpbcigilipdedaa.P
open Go.RowKit Go.Proofs.YtpbcigilipdedaaW.PrintWords Go.Proofs.YtpbcigilipdedaaW.PrintLast Go.Proofs.YtpbcigilipdedaaW.PrintMore
attribute [local go_sem] Zcz Zc1 Zde Zdf Zct Zcu Zc0 Zc2
set_option linter.unusedVariables false
set_option linter.unusedSimpArgs false
def Zcn.f (l0 : List Int) (a1 : Int) : Option (Int) := if a1 < 0 then (some 0) else (if a1 ≥ (l0.length : Int) then (some 0) else (if 0 ≤ a1 then (if a1 < (l0.length : Int) then (some (rd l0 a1)) else (none)) else (none)))
set_option maxHeartbeats 8000000 in
set_option maxRecDepth 100000 in
theorem Zcn.calls (A0 : Option Addr) (c0 : Nat) (l0 : List Int) (a1 : Int) (r : Int) (w : World) (hr0 : Kd.C (Kd.int .i64) w A0 l0.length l0) (hc0 : l0.length ≤ c0) (h : Zcn.f l0 a1 = some r) :
  Calls Try.prog 52 #[.slice A0 l0.length c0, .int .i64 a1] w fun e w' => e = .returned (.int .i64 r) ∧ Zbw w w' := by
 have HR0 := Zaa.mk hr0
 have HC0 := Zaa.mk hc0
 clear hr0 hc0
 have H : (if a1 < 0 then (some 0) else (if a1 ≥ (l0.length : Int) then (some 0) else (if 0 ≤ a1 then (if a1 < (l0.length : Int) then (some (rd l0 a1)) else (none)) else (none)))) = some r := h
 clear h
 by_cases c3 : a1 < 0
 ·rw [if_pos c3] at H
  have c3b0 : decide (a1 < 0) = true := decide_eq_true c3
  clear c3
  obtain rfl := Option.some.inj H
  go_enter Try.func52, Try.ntmps52
  go_wp2
  go_ret
  exact ⟨by first | rfl | (simp; done) | (simp [*]; done), by repeat (first | exact Zbw.refl _ | apply Zbw.step)⟩
 rw [if_neg c3] at H
 have c3b0 : decide (a1 < 0) = false := decide_eq_false c3
 clear c3
 by_cases c4 : a1 ≥ (l0.length : Int)
 ·rw [if_pos c4] at H
  have c4b0 : decide ((l0.length : Int) ≤ a1) = true := decide_eq_true c4
  clear c4
  obtain rfl := Option.some.inj H
  go_enter Try.func52, Try.ntmps52
  go_wp2
  go_ret
  exact ⟨by first | rfl | (simp; done) | (simp [*]; done), by repeat (first | exact Zbw.refl _ | apply Zbw.step)⟩
 rw [if_neg c4] at H
 have c4b0 : decide ((l0.length : Int) ≤ a1) = false := decide_eq_false c4
 clear c4
 by_cases c5 : 0 ≤ a1
 rotate_left
 ·rw [if_neg c5] at H
  exact absurd H (by simp)
 rw [if_pos c5] at H
 have c5b0 : decide (0 ≤ a1) = true := decide_eq_true c5
 clear c5
 by_cases c6 : a1 < (l0.length : Int)
 rotate_left
 ·rw [if_neg c6] at H
  exact absurd H (by simp)
 rw [if_pos c6] at H
 have c6b0 : decide (a1 < (l0.length : Int)) = true := decide_eq_true c6
 clear c6
 obtain rfl := Option.some.inj H
 have p378 : 0 ≤ (a1 : Int) := of_decide_eq_true (by first | (with_reducible assumption) | assumption)
 have q378 : a1 < (l0.length : Int) := of_decide_eq_true (by first | (with_reducible assumption) | assumption)
 obtain ⟨ad378, e378, hx378_0⟩ := Kd.Zbx HR0.out a1 p378 q378
 cases e378
 replace p378 := eq_true p378
 replace q378 := eq_true q378
 go_enter Try.func52, Try.ntmps52
 go_wp2
 go_ret
 exact ⟨by first | rfl | (simp; done) | (simp [*]; done), by repeat (first | exact Zbw.refl _ | apply Zbw.step)⟩
def Zax.l0 : Nat → List Int → List Int → List Int → Int → Option (List Int)
 | 0, _, _, _, _ => none
 | k + 1, x0, x1, x5, x6 => if x6 < (x0.length : Int) then (if 0 ≤ x6 then ((Zcn.f x1 (rd x0 x6)).bind fun t383 => (if x5.length < 17592186044416 then (Zax.l0 k x0 x1 (x5 ++ [t383]) (wrap64 (x6 + 1))) else (none))) else (none)) else (some x5)
def Zax.f (k : Nat) (l0 : List Int) (l1 : List Int) : Option (List Int) := Zax.l0 k l0 l1 (([] : List Int)) 0
theorem Zax.Zb4 : ∀ k, (∀ y0 y1 y2 y3, LeO (Zax.l0 k y0 y1 y2 y3) (Zax.l0 (k + 1) y0 y1 y2 y3))
 | 0 => fun _ _ _ _ r h => by simp [Zax.l0] at h
 | k + 1 => by
  have ih0 := Zax.Zb4 k
  intro y0 y1 y2 y3
  unfold Zax.l0
  repeat' first
  | (with_reducible exact ih0 _ _ _ _)
  | (with_reducible exact LeO.refl _)
  | (with_reducible exact LeO.none _)
  | (with_reducible refine LeO.ite ?_ ?_)
  | (with_reducible refine LeO.bind ?_ (fun _ => ?_))
  | exact ih0 _ _ _ _
  | exact LeO.none _
  | refine LeO.ite ?_ ?_
  | refine LeO.bind ?_ (fun _ => ?_)
theorem Zax.mono : ∀ a0 a1 k, LeO (Zax.f k a0 a1) (Zax.f (k + 1) a0 a1) := by
 intro a0 a1 k
 have ih0 := Zax.Zb4 k
 unfold Zax.f
 repeat' first
   | (with_reducible exact ih0 _ _ _ _)
   | (with_reducible exact LeO.refl _)
   | (with_reducible exact LeO.none _)
   | (with_reducible refine LeO.ite ?_ ?_)
   | (with_reducible refine LeO.bind ?_ (fun _ => ?_))
   | exact ih0 _ _ _ _
   | exact LeO.none _
   | refine LeO.ite ?_ ?_
   | refine LeO.bind ?_ (fun _ => ?_)
set_option maxHeartbeats 8000000 in
set_option maxRecDepth 100000 in
theorem Zax.calls (k : Nat) (A0 : Option Addr) (c0 : Nat) (l0 : List Int) (A1 : Option Addr) (c1 : Nat) (l1 : List Int) (r : List Int) (w : World) (hr0 : Kd.C (Kd.int .i64) w A0 l0.length l0) (hc0 : l0.length ≤ c0) (hr1 : Kd.C (Kd.int .i64) w A1 l1.length l1) (hc1 : l1.length ≤ c1) (h : Zax.f k l0 l1 = some r) :
  Calls Try.prog 49 #[.slice A0 l0.length c0, .slice A1 l1.length c1] w fun e w' => ∃ v0_ : Value, e = .returned (v0_) ∧ Kd.R (Kd.int .i64) 3 w' w.heap.size (fun _ => True) v0_ r ∧ Below w.heap.size w w' := by
 have HR0 := Zaa.mk hr0
 have HC0 := Zaa.mk hc0
 clear hr0 hc0
 have HR1 := Zaa.mk hr1
 have HC1 := Zaa.mk hc1
 clear hr1 hc1
 have HB := Zaa.mk (Below.refl w.heap.size w)
 have H : (Zax.l0 k l0 l1 (([] : List Int)) 0) = some r := h
 clear h
 obtain ⟨y379, hy379⟩ : ∃ y_ : List Int, y_ = (([] : List Int)) := ⟨_, rfl⟩
 replace H : (Zax.l0 k l0 l1 y379 0) = some r := by first | (rw [hy379]; with_reducible exact H) | (have H2_ := (Option.bind_some _ _).symm.trans H; rw [hy379]; with_reducible exact H2_) | (have H2_ := (Option.bind_some _ _).symm.trans H; with_reducible exact H2_) | with_reducible exact H | (rw [hy379]; exact H) | exact H
 have Ny379 := Zaa.mk hy379
 clear hy379
 have H' := Zaa.mk H
 clear H
 go_enter Try.func49, Try.ntmps49
 go_wp2_with (first | ((with_reducible refine Zbq (N := 7) rfl ?_); refine Kd.Zds (Kd.int .i64) _ 3 ?hg (N := 7) ?hd (xs := ([] : List Int)) (inner := []) (ok := fun _ => True) (okp := fun _ => True) ?hr ?hp (fun _ hk => hk) trivial (Below.refl _ _) (Nat.le_refl _) (by simp) ?_; (case hd => rfl); (case hg => rfl); (case hr => first | (go_simp; done) | (go_simp; rfl)); (case hp => exact (Reps.none _ _)); intro v380 w3 ho4 hb hg_ hnew_; clear hg_ hnew_; (first | rw [← Ny379.out] at ho4 | (simp only [Int.reduceToNat] at ho4; rw [← Ny379.out] at ho4)); have n0_ := Zaa.mk (Kd.Zbs ho4 (Zae (by repeat (first | (with_reducible first | exact HB.out | apply Zab | apply Za | apply Zac) | exact HB.out)))); have n1_ := Zaa.mk (Zam (by repeat (first | (with_reducible first | exact HB.out | apply Zab | apply Za | apply Zac) | exact HB.out)) hb); clear HB; have HO381 := n0_; have HB := n1_; clear n0_ n1_; clear hb ho4))
 go_loopg [5, 6] k (fun kq v5 v6 w' => ∃ (x5_1 : List Int) (x6_1 : Int), v6 = .int .i64 x6_1 ∧ Zaa (Zax.l0 kq l0 l1 x5_1 x6_1 = some r) ∧ Zaa (kq ≤ k) ∧ Zaa (Kd.R (Kd.int .i64) 3 w' w.heap.size (fun _ => True) v5 x5_1) ∧ Zaa (Below w.heap.size w w'))
 case atStart => exact ⟨(y379), (0), (by first | rfl | (simp; done) | (simp [*]; done)), H', ⟨Nat.le_refl _⟩, ⟨by (with_reducible repeat (first | apply Kd.Za6 | apply Kd.Za5 | apply Kd.Zbb)); exact HO381.out⟩, ⟨by repeat (first | (with_reducible first | exact HB.out | apply Zab | apply Za | apply Zac) | exact HB.out)⟩⟩
 case round =>
  clear H'
  try clear c1
  try clear p2
  try clear c4
  obtain ⟨x5_1, x6_1, rfl, HA, HK1, HO_5, HB⟩ := hrel
  cases gk with
  | zero => exact absurd HA.out (by simp [Zax.l0])
  | succ k1 =>
   have H := HA.out
   clear HA
   simp only [Zax.l0] at H
   by_cases c5 : x6_1 < (l0.length : Int)
   rotate_left
   ·rw [if_neg c5] at H
    have c5b0 : decide (x6_1 < (l0.length : Int)) = false := decide_eq_false c5
    clear c5
    obtain rfl := Option.some.inj H
    go_wp2
    go_ret
    exact ⟨_, by first | rfl | (simp [Za1, Za2] <;> rfl) | (simp [*, Za1, Za2] <;> rfl), by (with_reducible repeat (first | apply Kd.Za6 | apply Kd.Za5 | apply Kd.Zbb)); exact HO_5.out, by repeat (first | (with_reducible first | exact HB.out | apply Zab | apply Za | apply Zac) | exact HB.out)⟩
   rw [if_pos c5] at H
   have c5b0 : decide (x6_1 < (l0.length : Int)) = true := decide_eq_true c5
   clear c5
   by_cases c6 : 0 ≤ x6_1
   rotate_left
   ·rw [if_neg c6] at H
    exact absurd H (by simp)
   rw [if_pos c6] at H
   have c6b0 : decide (0 ≤ x6_1) = true := decide_eq_true c6
   clear c6
   replace H := Option.bind_eq_some_iff.mp H
   obtain ⟨t383, A70, H⟩ := H
   replace H : (if x5_1.length < 17592186044416 then (Zax.l0 k1 l0 l1 (x5_1 ++ [t383]) (wrap64 (x6_1 + 1))) else (none)) = some r := H
   have A7 := Zaa.mk A70
   clear A70
   by_cases c8 : x5_1.length < 17592186044416
   rotate_left
   ·rw [if_neg c8] at H
    exact absurd H (by simp)
   rw [if_pos c8] at H
   have LMc8 := Zaa.mk c8
   clear c8
   obtain ⟨y384, hy384⟩ : ∃ y_ : List Int, y_ = (x5_1 ++ [t383]) := ⟨_, rfl⟩
   replace H : (Zax.l0 k1 l0 l1 y384 (wrap64 (x6_1 + 1))) = some r := by first | (rw [hy384]; with_reducible exact H) | (have H2_ := (Option.bind_some _ _).symm.trans H; rw [hy384]; with_reducible exact H2_) | (have H2_ := (Option.bind_some _ _).symm.trans H; with_reducible exact H2_) | with_reducible exact H | (rw [hy384]; exact H) | exact H
   have Ny384 := Zaa.mk hy384
   clear hy384
   have H' := Zaa.mk H
   clear H
   have p382 : 0 ≤ (x6_1 : Int) := of_decide_eq_true (by first | (with_reducible assumption) | assumption)
   have q382 : x6_1 < (l0.length : Int) := of_decide_eq_true (by first | (with_reducible assumption) | assumption)
   obtain ⟨ad382, e382, hx382_0⟩ := Kd.Zbx HR0.out x6_1 p382 q382
   cases e382
   replace hx382_0 := (HB.out.cell (World.block_lt_of_cell? w _ hx382_0)).trans hx382_0
   replace p382 := eq_true p382
   replace q382 := eq_true q382
   go_wp2_with (first | ((with_reducible refine Zbo (f := 52) rfl ?_); refine Zcr (some 20) rfl rfl Try.func52 (by kernel_rfl) rfl #[.slice A1 l1.length c1, .int .i64 (rd l0 x6_1)] rfl (by (try simp only [List.map_toArray, List.map_cons, List.map_nil]); first | done | rfl | (simp only [List.length_drop, List.length_take]; rfl)) ?_; (with_reducible refine (Zcn.calls _ _ l1 (rd l0 x6_1) t383 _ ?side1 ?side2 A7.out).mono ?_); (case side1 => repeat (first | exact (Kd.Za8 HR1.out HB.out) | (with_reducible refine Kd.C_alloc ?_ _) | (with_reducible refine Kd.Za0 ?_ _) | (with_reducible refine Kd.C_drew ?_))); (case side2 => exact HC1.out); rintro e w' ⟨rfl, ⟨nd, rfl⟩⟩; refine ⟨_, rfl, ?_⟩) | ((with_reducible refine Zbk (b := .append) (xs := #[.tmp 14, .tmp 21]) rfl ?_); at_builtin; refine Kd.Zcd (Kd.int .i64) (w0 := w) w.heap.size rfl (.tmp 14) (.tmp 21) 23 3 (.int .i64 0) 8 rfl Try.underlying23 info3 rfl (by decide) (by omega) u5 x5_1 t383 [.int .i64 t383] (fun _ => True) (fun _ => False) rfl rfl ?aP (fun _ hk => hk.elim) ?aF ?aO ?aB ?aS ?aL ?_; (case aP => exact rfl); (case aB => exact (by repeat (first | (with_reducible first | exact HB.out | apply Zab | apply Za | apply Zac) | exact HB.out))); (case aF => exact (fun _ _ => trivial)); (case aO => exact (by (with_reducible repeat (first | apply Kd.Za6 | apply Kd.Za5 | apply Kd.Zbb)); exact HO_5.out)); (case aS => exact (Zae (by repeat (first | (with_reducible first | exact HB.out | apply Zab | apply Za | apply Zac) | exact HB.out)))); (case aL => have := LMc8.out; omega); intro v385 w9 ho hb hg hat; rw [← Ny384.out] at ho; have n0_ := Zaa.mk (hb); have n1_ := Zaa.mk (ho); clear HB; clear HO_5; have HB := n0_; have HO386 := n1_; clear n0_ n1_; clear ho hb hg hat))
   go_roundg k1
   case measure => have := HK1.out; omega
   case rel => exact ⟨(y384), (wrap64 (x6_1 + 1)), (by first | rfl | (simp; done) | (simp [*]; done)), H', ⟨by have := HK1.out; omega⟩, ⟨by (with_reducible repeat (first | apply Kd.Za6 | apply Kd.Za5 | apply Kd.Zbb)); exact HO386.out⟩, ⟨by repeat (first | (with_reducible first | exact HB.out | apply Zab | apply Za | apply Zac) | exact HB.out)⟩⟩
def Zbu.f (a0 : Int) (a1 : Int) (a2 : Int) : Option (Bool) := if a0 = 0 then (some (decide (a1 ≤ a2))) else (some ((a1 == a2) == (a0 == 1)))
set_option maxHeartbeats 8000000 in
set_option maxRecDepth 100000 in
theorem Zbu.calls (a0 : Int) (a1 : Int) (a2 : Int) (r : Bool) (w : World) (h : Zbu.f a0 a1 a2 = some r) :
  Calls Try.prog 50 #[.int .i64 a0, .int .i64 a1, .int .i64 a2] w fun e w' => e = .returned (.bool r) ∧ Zbw w w' := by
 have H : (if a0 = 0 then (some (decide (a1 ≤ a2))) else (some ((a1 == a2) == (a0 == 1)))) = some r := h
 clear h
 by_cases c4 : a0 = 0
 rotate_left
 ·rw [if_neg c4] at H
  have c4b0 : (a0 == 0) = false := beq_eq_false_iff_ne.mpr c4
  have c4b1 : (a0 != 0) = true := bne_iff_ne.mpr c4
  obtain rfl := Option.some.inj H
  go_enter Try.func50, Try.ntmps50
  go_wp2
  go_ret
  exact ⟨by first | rfl | (simp; done) | (simp [*]; done), by repeat (first | exact Zbw.refl _ | apply Zbw.step)⟩
 rw [if_pos c4] at H
 have c4b0 : (a0 == 0) = true := beq_iff_eq.mpr c4
 have c4b1 : (a0 != 0) = false := bne_eq_false_iff_eq.mpr c4
 clear c4
 obtain rfl := Option.some.inj H
 go_enter Try.func50, Try.ntmps50
 go_wp2
 go_ret
 exact ⟨by first | rfl | (simp; done) | (simp [*]; done), by repeat (first | exact Zbw.refl _ | apply Zbw.step)⟩
def Za7.l0 : Nat → List Int → List Int → List Int → Int → Int → Option (Int)
 | 0, _, _, _, _, _ => none
 | k + 1, x0, x1, x2, x7, x8 => if x8 < (x0.length : Int) then (if x8 < (x1.length : Int) then (if 0 ≤ x8 then ((Zcn.f x2 (rd x0 x8)).bind fun t389 => (Za7.l0 k x0 x1 x2 (wrap64 (x7 + (wrap64 ((rd x1 x8) * t389)))) (wrap64 (x8 + 1)))) else (none)) else (some x7)) else (some x7)
def Za7.f (k : Nat) (l0 : List Int) (l1 : List Int) (l2 : List Int) : Option (Int) := Za7.l0 k l0 l1 l2 0 0
theorem Za7.Zb4 : ∀ k, (∀ y0 y1 y2 y3 y4, LeO (Za7.l0 k y0 y1 y2 y3 y4) (Za7.l0 (k + 1) y0 y1 y2 y3 y4))
 | 0 => fun _ _ _ _ _ r h => by simp [Za7.l0] at h
 | k + 1 => by
  have ih0 := Za7.Zb4 k
  intro y0 y1 y2 y3 y4
  unfold Za7.l0
  repeat' first
  | (with_reducible exact ih0 _ _ _ _ _)
  | (with_reducible exact LeO.refl _)
  | (with_reducible exact LeO.none _)
  | (with_reducible refine LeO.ite ?_ ?_)
  | (with_reducible refine LeO.bind ?_ (fun _ => ?_))
  | exact ih0 _ _ _ _ _
  | exact LeO.none _
  | refine LeO.ite ?_ ?_
  | refine LeO.bind ?_ (fun _ => ?_)
theorem Za7.mono : ∀ a0 a1 a2 k, LeO (Za7.f k a0 a1 a2) (Za7.f (k + 1) a0 a1 a2) := by
 intro a0 a1 a2 k
 have ih0 := Za7.Zb4 k
 unfold Za7.f
 repeat' first
   | (with_reducible exact ih0 _ _ _ _ _)
   | (with_reducible exact LeO.refl _)
   | (with_reducible exact LeO.none _)
   | (with_reducible refine LeO.ite ?_ ?_)
   | (with_reducible refine LeO.bind ?_ (fun _ => ?_))
   | exact ih0 _ _ _ _ _
   | exact LeO.none _
   | refine LeO.ite ?_ ?_
   | refine LeO.bind ?_ (fun _ => ?_)
set_option maxHeartbeats 8000000 in
set_option maxRecDepth 100000 in
theorem Za7.calls (k : Nat) (A0 : Option Addr) (c0 : Nat) (l0 : List Int) (A1 : Option Addr) (c1 : Nat) (l1 : List Int) (A2 : Option Addr) (c2 : Nat) (l2 : List Int) (r : Int) (w : World) (hr0 : Kd.C (Kd.int .i64) w A0 l0.length l0) (hc0 : l0.length ≤ c0) (hr1 : Kd.C (Kd.int .i64) w A1 l1.length l1) (hc1 : l1.length ≤ c1) (hr2 : Kd.C (Kd.int .i64) w A2 l2.length l2) (hc2 : l2.length ≤ c2) (h : Za7.f k l0 l1 l2 = some r) :
  Calls Try.prog 51 #[.slice A0 l0.length c0, .slice A1 l1.length c1, .slice A2 l2.length c2] w fun e w' => e = .returned (.int .i64 r) ∧ Zbw w w' := by
 have HR0 := Zaa.mk hr0
 have HC0 := Zaa.mk hc0
 clear hr0 hc0
 have HR1 := Zaa.mk hr1
 have HC1 := Zaa.mk hc1
 clear hr1 hc1
 have HR2 := Zaa.mk hr2
 have HC2 := Zaa.mk hc2
 clear hr2 hc2
 have H : (Za7.l0 k l0 l1 l2 0 0) = some r := h
 clear h
 have H' := Zaa.mk H
 clear H
 go_enter Try.func51, Try.ntmps51
 go_wp2
 repeat (go_quiet (fail); try go_wp2)
 go_loopg [7, 8] k (fun kq v7 v8 w' => ∃ (x7_1 : Int) (x8_1 : Int), v7 = .int .i64 x7_1 ∧ v8 = .int .i64 x8_1 ∧ Zaa (Za7.l0 kq l0 l1 l2 x7_1 x8_1 = some r) ∧ Zaa (kq ≤ k) ∧ Zbw w w')
 case atStart => exact ⟨(0), (0), (by first | rfl | (simp; done) | (simp [*]; done)), (by first | rfl | (simp; done) | (simp [*]; done)), H', ⟨Nat.le_refl _⟩, by repeat (first | exact Zbw.refl _ | apply Zbw.step)⟩
 case round =>
  clear H'
  try clear c1
  try clear c2
  try clear p2
  obtain ⟨x7_1, x8_1, rfl, rfl, HA, HK1, ⟨m1, rfl⟩⟩ := hrel
  cases gk with
  | zero => exact absurd HA.out (by simp [Za7.l0])
  | succ k1 =>
   have H := HA.out
   clear HA
   simp only [Za7.l0] at H
   by_cases c4 : x8_1 < (l0.length : Int)
   rotate_left
   ·rw [if_neg c4] at H
    have c4b0 : decide (x8_1 < (l0.length : Int)) = false := decide_eq_false c4
    clear c4
    obtain rfl := Option.some.inj H
    go_wp2
    repeat (go_quiet (fail); try go_wp2)
    go_ret
    exact ⟨by first | rfl | (simp; done) | (simp [*]; done), by repeat (first | exact Zbw.refl _ | apply Zbw.step)⟩
   rw [if_pos c4] at H
   have c4b0 : decide (x8_1 < (l0.length : Int)) = true := decide_eq_true c4
   clear c4
   by_cases c5 : x8_1 < (l1.length : Int)
   rotate_left
   ·rw [if_neg c5] at H
    have c5b0 : decide (x8_1 < (l1.length : Int)) = false := decide_eq_false c5
    clear c5
    obtain rfl := Option.some.inj H
    go_wp2
    repeat (go_quiet (fail); try go_wp2)
    go_ret
    exact ⟨by first | rfl | (simp; done) | (simp [*]; done), by repeat (first | exact Zbw.refl _ | apply Zbw.step)⟩
   rw [if_pos c5] at H
   have c5b0 : decide (x8_1 < (l1.length : Int)) = true := decide_eq_true c5
   clear c5
   by_cases c6 : 0 ≤ x8_1
   rotate_left
   ·rw [if_neg c6] at H
    exact absurd H (by simp)
   rw [if_pos c6] at H
   have c6b0 : decide (0 ≤ x8_1) = true := decide_eq_true c6
   clear c6
   replace H := Option.bind_eq_some_iff.mp H
   obtain ⟨t389, A70, H⟩ := H
   replace H : (Za7.l0 k1 l0 l1 l2 (wrap64 (x7_1 + (wrap64 ((rd l1 x8_1) * t389)))) (wrap64 (x8_1 + 1))) = some r := H
   have A7 := Zaa.mk A70
   clear A70
   have H' := Zaa.mk H
   clear H
   have p387 : 0 ≤ (x8_1 : Int) := of_decide_eq_true (by first | (with_reducible assumption) | assumption)
   have q387 : x8_1 < (l1.length : Int) := of_decide_eq_true (by first | (with_reducible assumption) | assumption)
   obtain ⟨ad387, e387, hx387_0⟩ := Kd.Zbx HR1.out x8_1 p387 q387
   cases e387
   replace p387 := eq_true p387
   replace q387 := eq_true q387
   have p388 : 0 ≤ (x8_1 : Int) := of_decide_eq_true (by first | (with_reducible assumption) | assumption)
   have q388 : x8_1 < (l0.length : Int) := of_decide_eq_true (by first | (with_reducible assumption) | assumption)
   obtain ⟨ad388, e388, hx388_0⟩ := Kd.Zbx HR0.out x8_1 p388 q388
   cases e388
   replace p388 := eq_true p388
   replace q388 := eq_true q388
   go_wp2_with (first | (go_at_call 52; (with_reducible refine (Zcn.calls _ _ l2 (rd l0 x8_1) t389 _ ?side1 ?side2 A7.out).mono ?_); (case side1 => repeat (first | exact HR2.out | (with_reducible refine Kd.C_alloc ?_ _) | (with_reducible refine Kd.Za0 ?_ _) | (with_reducible refine Kd.C_drew ?_))); (case side2 => exact HC2.out); rintro e w' ⟨rfl, ⟨nd, rfl⟩⟩; (try first | exact ⟨rfl, _, World.drewN_drewN _ _ _⟩ | exact ⟨rfl, _, Eq.trans (World.drewN_drewN _ _ _) (congrArg (World.drewN _) (Nat.add_assoc _ _ _))⟩)))
   repeat (go_quiet (first | (go_at_call 52; (with_reducible refine (Zcn.calls _ _ l2 (rd l0 x8_1) t389 _ ?side1 ?side2 A7.out).mono ?_); (case side1 => repeat (first | exact HR2.out | (with_reducible refine Kd.C_alloc ?_ _) | (with_reducible refine Kd.Za0 ?_ _) | (with_reducible refine Kd.C_drew ?_))); (case side2 => exact HC2.out); rintro e w' ⟨rfl, ⟨nd, rfl⟩⟩; (try first | exact ⟨rfl, _, World.drewN_drewN _ _ _⟩ | exact ⟨rfl, _, Eq.trans (World.drewN_drewN _ _ _) (congrArg (World.drewN _) (Nat.add_assoc _ _ _))⟩))); try go_wp2_with (first | (go_at_call 52; (with_reducible refine (Zcn.calls _ _ l2 (rd l0 x8_1) t389 _ ?side1 ?side2 A7.out).mono ?_); (case side1 => repeat (first | exact HR2.out | (with_reducible refine Kd.C_alloc ?_ _) | (with_reducible refine Kd.Za0 ?_ _) | (with_reducible refine Kd.C_drew ?_))); (case side2 => exact HC2.out); rintro e w' ⟨rfl, ⟨nd, rfl⟩⟩; (try first | exact ⟨rfl, _, World.drewN_drewN _ _ _⟩ | exact ⟨rfl, _, Eq.trans (World.drewN_drewN _ _ _) (congrArg (World.drewN _) (Nat.add_assoc _ _ _))⟩))))
   go_roundg k1
   case measure => have := HK1.out; omega
   case rel => exact ⟨(wrap64 (x7_1 + (wrap64 ((rd l1 x8_1) * t389)))), (wrap64 (x8_1 + 1)), (by first | rfl | (simp; done) | (simp [*]; done)), (by first | rfl | (simp; done) | (simp [*]; done)), H', ⟨by have := HK1.out; omega⟩, by repeat (first | exact Zbw.refl _ | apply Zbw.step)⟩
def Zbp.f (k : Nat) (a0_0 : Int) (l0_1 : List Int) (l0_2 : List Int) (a0_3 : Int) (a0_4 : Int) (l0_5 : List (List Int)) (a0_6 : Int) (l1 : List Int) : Option (Bool) := (Zax.f k l0_1 l1).bind fun t391 => ((Za7.f k l0_1 l0_2 l1).bind fun t394 => ((Zbu.f a0_3 t394 a0_4).bind fun t395 => (if a0_0 = 0 then (none) else (if a0_0 = 1 then (none) else (if a0_0 = 2 then (none) else (if a0_0 = 3 then (if (t391.length : Int) ≥ 2 then (if 0 < (t391.length : Int) then (if (rd t391 0) ≥ 0 then (if (wrap64 ((rd t391 0) + 2)) < (t391.length : Int) then (if 0 ≤ (wrap64 ((rd t391 0) + 2)) then (if 1 < (t391.length : Int) then (some ((rd t391 (wrap64 ((rd t391 0) + 2))) == (rd t391 1))) else (none)) else (none)) else (some false)) else (some false)) else (none)) else (some false)) else (none)))))))
theorem Zbp.mono : ∀ a0 a1 a2 a3 a4 a5 a6 a7 k, LeO (Zbp.f k a0 a1 a2 a3 a4 a5 a6 a7) (Zbp.f (k + 1) a0 a1 a2 a3 a4 a5 a6 a7) := by
 intro a0 a1 a2 a3 a4 a5 a6 a7 k
 unfold Zbp.f
 repeat' first
   | (with_reducible exact Za7.mono _ _ _ _)
   | (with_reducible exact Zax.mono _ _ _)
   | (with_reducible exact LeO.refl _)
   | (with_reducible exact LeO.none _)
   | (with_reducible refine LeO.ite ?_ ?_)
   | (with_reducible refine LeO.bind ?_ (fun _ => ?_))
   | exact Za7.mono _ _ _ _
   | exact Zax.mono _ _ _
   | exact LeO.none _
   | refine LeO.ite ?_ ?_
   | refine LeO.bind ?_ (fun _ => ?_)
set_option maxHeartbeats 8000000 in
set_option maxRecDepth 100000 in
theorem Zbp.calls (k : Nat) (a0_0 : Int) (A0_1 : Option Addr) (c0_1 : Nat) (l0_1 : List Int) (A0_2 : Option Addr) (c0_2 : Nat) (l0_2 : List Int) (a0_3 : Int) (a0_4 : Int) (A0_5 : Option Addr) (c0_5 : Nat) (l0_5 : List (List Int)) (a0_6 : Int) (A1 : Option Addr) (c1 : Nat) (l1 : List Int) (r : Bool) (w : World) (hr0_1 : Kd.C (Kd.int .i64) w A0_1 l0_1.length l0_1) (hc0_1 : l0_1.length ≤ c0_1) (hr0_2 : Kd.C (Kd.int .i64) w A0_2 l0_2.length l0_2) (hc0_2 : l0_2.length ≤ c0_2) (hr0_5 : Kd.C (Kd.slice 3 (Kd.int .i64)) w A0_5 l0_5.length l0_5) (hc0_5 : l0_5.length ≤ c0_5) (hr1 : Kd.C (Kd.int .i64) w A1 l1.length l1) (hc1 : l1.length ≤ c1) (h : Zbp.f k a0_0 l0_1 l0_2 a0_3 a0_4 l0_5 a0_6 l1 = some r) :
  Calls Try.prog 32 #[.agg #[.int .i64 a0_0, .slice A0_1 l0_1.length c0_1, .slice A0_2 l0_2.length c0_2, .int .i64 a0_3, .int .i64 a0_4, .slice A0_5 l0_5.length c0_5, .int .i64 a0_6], .slice A1 l1.length c1] w fun e w' => e = .returned (.bool r) ∧ Below w.heap.size w w' := by
 have hu25 := Try.underlying25
 have HR0_1 := Zaa.mk hr0_1
 have HC0_1 := Zaa.mk hc0_1
 clear hr0_1 hc0_1
 have HR0_2 := Zaa.mk hr0_2
 have HC0_2 := Zaa.mk hc0_2
 clear hr0_2 hc0_2
 have HR0_5 := Zaa.mk hr0_5
 have HC0_5 := Zaa.mk hc0_5
 clear hr0_5 hc0_5
 have HR1 := Zaa.mk hr1
 have HC1 := Zaa.mk hc1
 clear hr1 hc1
 have HB := Zaa.mk (Below.refl w.heap.size w)
 have H : ((Zax.f k l0_1 l1).bind fun t391 => ((Za7.f k l0_1 l0_2 l1).bind fun t394 => ((Zbu.f a0_3 t394 a0_4).bind fun t395 => (if a0_0 = 0 then (none) else (if a0_0 = 1 then (none) else (if a0_0 = 2 then (none) else (if a0_0 = 3 then (if (t391.length : Int) ≥ 2 then (if 0 < (t391.length : Int) then (if (rd t391 0) ≥ 0 then (if (wrap64 ((rd t391 0) + 2)) < (t391.length : Int) then (if 0 ≤ (wrap64 ((rd t391 0) + 2)) then (if 1 < (t391.length : Int) then (some ((rd t391 (wrap64 ((rd t391 0) + 2))) == (rd t391 1))) else (none)) else (none)) else (some false)) else (some false)) else (none)) else (some false)) else (none)))))))) = some r := h
 clear h
 replace H := Option.bind_eq_some_iff.mp H
 obtain ⟨t391, A30, H⟩ := H
 replace H : ((Za7.f k l0_1 l0_2 l1).bind fun t394 => ((Zbu.f a0_3 t394 a0_4).bind fun t395 => (if a0_0 = 0 then (none) else (if a0_0 = 1 then (none) else (if a0_0 = 2 then (none) else (if a0_0 = 3 then (if (t391.length : Int) ≥ 2 then (if 0 < (t391.length : Int) then (if (rd t391 0) ≥ 0 then (if (wrap64 ((rd t391 0) + 2)) < (t391.length : Int) then (if 0 ≤ (wrap64 ((rd t391 0) + 2)) then (if 1 < (t391.length : Int) then (some ((rd t391 (wrap64 ((rd t391 0) + 2))) == (rd t391 1))) else (none)) else (none)) else (some false)) else (some false)) else (none)) else (some false)) else (none))))))) = some r := H
 have A3 := Zaa.mk A30
 clear A30
 replace H := Option.bind_eq_some_iff.mp H
 obtain ⟨t394, A40, H⟩ := H
 replace H : ((Zbu.f a0_3 t394 a0_4).bind fun t395 => (if a0_0 = 0 then (none) else (if a0_0 = 1 then (none) else (if a0_0 = 2 then (none) else (if a0_0 = 3 then (if (t391.length : Int) ≥ 2 then (if 0 < (t391.length : Int) then (if (rd t391 0) ≥ 0 then (if (wrap64 ((rd t391 0) + 2)) < (t391.length : Int) then (if 0 ≤ (wrap64 ((rd t391 0) + 2)) then (if 1 < (t391.length : Int) then (some ((rd t391 (wrap64 ((rd t391 0) + 2))) == (rd t391 1))) else (none)) else (none)) else (some false)) else (some false)) else (none)) else (some false)) else (none)))))) = some r := H
 have A4 := Zaa.mk A40
 clear A40
 replace H := Option.bind_eq_some_iff.mp H
 obtain ⟨t395, A50, H⟩ := H
 replace H : (if a0_0 = 0 then (none) else (if a0_0 = 1 then (none) else (if a0_0 = 2 then (none) else (if a0_0 = 3 then (if (t391.length : Int) ≥ 2 then (if 0 < (t391.length : Int) then (if (rd t391 0) ≥ 0 then (if (wrap64 ((rd t391 0) + 2)) < (t391.length : Int) then (if 0 ≤ (wrap64 ((rd t391 0) + 2)) then (if 1 < (t391.length : Int) then (some ((rd t391 (wrap64 ((rd t391 0) + 2))) == (rd t391 1))) else (none)) else (none)) else (some false)) else (some false)) else (none)) else (some false)) else (none))))) = some r := H
 have A5 := Zaa.mk A50
 clear A50
 by_cases c6 : a0_0 = 0
 ·rw [if_pos c6] at H
  exact absurd H (by simp)
 rw [if_neg c6] at H
 have c6b0 : (a0_0 == 0) = false := beq_eq_false_iff_ne.mpr c6
 have c6b1 : (a0_0 != 0) = true := bne_iff_ne.mpr c6
 by_cases c7 : a0_0 = 1
 ·rw [if_pos c7] at H
  exact absurd H (by simp)
 rw [if_neg c7] at H
 have c7b0 : (a0_0 == 1) = false := beq_eq_false_iff_ne.mpr c7
 have c7b1 : (a0_0 != 1) = true := bne_iff_ne.mpr c7
 by_cases c8 : a0_0 = 2
 ·rw [if_pos c8] at H
  exact absurd H (by simp)
 rw [if_neg c8] at H
 have c8b0 : (a0_0 == 2) = false := beq_eq_false_iff_ne.mpr c8
 have c8b1 : (a0_0 != 2) = true := bne_iff_ne.mpr c8
 by_cases c9 : a0_0 = 3
 rotate_left
 ·rw [if_neg c9] at H
  exact absurd H (by simp)
 rw [if_pos c9] at H
 have c9b0 : (a0_0 == 3) = true := beq_iff_eq.mpr c9
 have c9b1 : (a0_0 != 3) = false := bne_eq_false_iff_eq.mpr c9
 clear c9
 by_cases c10 : (t391.length : Int) ≥ 2
 rotate_left
 ·rw [if_neg c10] at H
  have c10b0 : decide (2 ≤ (t391.length : Int)) = false := decide_eq_false c10
  have c10b1 : decide (2 ≤ t391.length) = false := decide_eq_false (by omega)
  clear c10
  obtain rfl := Option.some.inj H
  go_enter Try.func32, Try.ntmps32
  go_wp2_with (first | ((with_reducible refine Zbq (N := 2) rfl ?_); (try (refine Zcm (by rfl) ?_; dsimp only)); refine Zb9 ?hg (N := 2) ?hd (cs := #[.int .i64 a0_0, .slice A0_1 l0_1.length c0_1, .slice A0_2 l0_2.length c0_2, .int .i64 a0_3, .int .i64 a0_4, .slice A0_5 l0_5.length c0_5, .int .i64 a0_6]) (t := 25) ?hr ?_; (case hd => rfl); (case hg => rfl); (case hr => first | (go_simp; done) | (go_simp; rfl)); intro gb390 hg w32 hbox hb; have n0_ := Zaa.mk (Zam (by repeat (first | (with_reducible first | exact HB.out | apply Zab | apply Za | apply Zac) | exact HB.out)) hb); have n1_ := Zaa.mk (hbox); have n3_ := Zaa.mk ((by rw [hg]; exact (Zae (by repeat (first | (with_reducible first | exact HB.out | apply Zab | apply Za | apply Zac) | exact HB.out))) : w.heap.size ≤ gb390)); clear HB; have HB := n0_; have BK390 := n1_; have GE390 := n3_; clear n0_ n1_ n3_; clear hb hbox hg; obtain ⟨hcz33_0, hcz33_1, hcz33_2, hcz33_3, hcz33_4, hcz33_5, hcz33_6, hfz33_0, hfz33_1, hfz33_2, hfz33_3, hfz33_4, hfz33_5, hfz33_6⟩ := Zcg BK390.out) | (go_at_call 49; (refine withB (m := w.heap.size) (w0 := w) (by repeat (first | (with_reducible first | exact HB.out | apply Zab | apply Za | apply Zac | refine Zaf ?_ GE390.out) | exact HB.out)) ?_); intro hL_; (with_reducible refine (Zax.calls k _ _ l0_1 _ _ l1 t391 _ ?side1 ?side2 ?side3 ?side4 A3.out).mono ?_); (case side1 => repeat (first | exact (Kd.Za8 HR0_1.out HB.out) | (with_reducible refine Kd.C_alloc ?_ _) | (with_reducible refine Kd.Za0 ?_ _) | (with_reducible refine Kd.C_drew ?_))); (case side2 => exact HC0_1.out); (case side3 => repeat (first | exact (Kd.Za8 HR1.out HB.out) | (with_reducible refine Kd.C_alloc ?_ _) | (with_reducible refine Kd.Za0 ?_ _) | (with_reducible refine Kd.C_drew ?_))); (case side4 => exact HC1.out); rintro e w34 ⟨v392, rfl, ho0, hb⟩; have n0_ := Zaa.mk (Kd.Zbs ho0 (Zae hL_)); have n1_ := Zaa.mk (Zbe (g := gb390) (o := .cells #[.int .i64 a0_0, .slice A0_1 l0_1.length c0_1, .slice A0_2 l0_2.length c0_2, .int .i64 a0_3, .int .i64 a0_4, .slice A0_5 l0_5.length c0_5, .int .i64 a0_6] 25 (0, 0)) (mvK BK390.out) hb); have n2_ := Zaa.mk (Zam hL_ hb); clear BK390; clear HB; have HO393 := n0_; have BK390 := n1_; have HB := n2_; clear n0_ n1_ n2_; (try clear hb); (try clear hb2); (try clear hk); (try clear hi); (try clear ho0); obtain ⟨hcz35_0, hcz35_1, hcz35_2, hcz35_3, hcz35_4, hcz35_5, hcz35_6, hfz35_0, hfz35_1, hfz35_2, hfz35_3, hfz35_4, hfz35_5, hfz35_6⟩ := Zcg BK390.out) | (go_at_call 51; (with_reducible refine (Za7.calls k _ _ l0_1 _ _ l0_2 _ _ l1 t394 _ ?side1 ?side2 ?side3 ?side4 ?side5 ?side6 A4.out).mono ?_); (case side1 => repeat (first | exact (Kd.Za8 HR0_1.out HB.out) | (with_reducible refine Kd.C_alloc ?_ _) | (with_reducible refine Kd.Za0 ?_ _) | (with_reducible refine Kd.C_drew ?_))); (case side2 => exact HC0_1.out); (case side3 => repeat (first | exact (Kd.Za8 HR0_2.out HB.out) | (with_reducible refine Kd.C_alloc ?_ _) | (with_reducible refine Kd.Za0 ?_ _) | (with_reducible refine Kd.C_drew ?_))); (case side4 => exact HC0_2.out); (case side5 => repeat (first | exact (Kd.Za8 HR1.out HB.out) | (with_reducible refine Kd.C_alloc ?_ _) | (with_reducible refine Kd.Za0 ?_ _) | (with_reducible refine Kd.C_drew ?_))); (case side6 => exact HC1.out); rintro e w' ⟨rfl, ⟨nd, rfl⟩⟩; (try first | exact ⟨rfl, _, World.drewN_drewN _ _ _⟩ | exact ⟨rfl, _, Eq.trans (World.drewN_drewN _ _ _) (congrArg (World.drewN _) (Nat.add_assoc _ _ _))⟩)) | (go_at_call 50; (with_reducible refine (Zbu.calls a0_3 t394 a0_4 t395 _ A5.out).mono ?_); rintro e w' ⟨rfl, ⟨nd, rfl⟩⟩; (try first | exact ⟨rfl, _, World.drewN_drewN _ _ _⟩ | exact ⟨rfl, _, Eq.trans (World.drewN_drewN _ _ _) (congrArg (World.drewN _) (Nat.add_assoc _ _ _))⟩); obtain ⟨Ao36, co36, eo36⟩ := Kd.Zbn HO393.out; subst eo36))
  repeat (go_quiet (first | ((with_reducible refine Zbq (N := 2) rfl ?_); (try (refine Zcm (by rfl) ?_; dsimp only)); refine Zb9 ?hg (N := 2) ?hd (cs := #[.int .i64 a0_0, .slice A0_1 l0_1.length c0_1, .slice A0_2 l0_2.length c0_2, .int .i64 a0_3, .int .i64 a0_4, .slice A0_5 l0_5.length c0_5, .int .i64 a0_6]) (t := 25) ?hr ?_; (case hd => rfl); (case hg => rfl); (case hr => first | (go_simp; done) | (go_simp; rfl)); intro gb390 hg w32 hbox hb; have n0_ := Zaa.mk (Zam (by repeat (first | (with_reducible first | exact HB.out | apply Zab | apply Za | apply Zac) | exact HB.out)) hb); have n1_ := Zaa.mk (hbox); have n3_ := Zaa.mk ((by rw [hg]; exact (Zae (by repeat (first | (with_reducible first | exact HB.out | apply Zab | apply Za | apply Zac) | exact HB.out))) : w.heap.size ≤ gb390)); clear HB; have HB := n0_; have BK390 := n1_; have GE390 := n3_; clear n0_ n1_ n3_; clear hb hbox hg; obtain ⟨hcz33_0, hcz33_1, hcz33_2, hcz33_3, hcz33_4, hcz33_5, hcz33_6, hfz33_0, hfz33_1, hfz33_2, hfz33_3, hfz33_4, hfz33_5, hfz33_6⟩ := Zcg BK390.out) | (go_at_call 49; (with_reducible refine (Zax.calls k _ _ l0_1 _ _ l1 t391 _ ?side1 ?side2 ?side3 ?side4 A3.out).mono ?_); (case side1 => repeat (first | exact (Kd.Za8 HR0_1.out HB.out) | (with_reducible refine Kd.C_alloc ?_ _) | (with_reducible refine Kd.Za0 ?_ _) | (with_reducible refine Kd.C_drew ?_))); (case side2 => exact HC0_1.out); (case side3 => repeat (first | exact (Kd.Za8 HR1.out HB.out) | (with_reducible refine Kd.C_alloc ?_ _) | (with_reducible refine Kd.Za0 ?_ _) | (with_reducible refine Kd.C_drew ?_))); (case side4 => exact HC1.out); rintro e w34 ⟨v392, rfl, ho0, hb⟩; have n0_ := Zaa.mk (Kd.Zbs ho0 (Zae (by repeat (first | (with_reducible first | exact HB.out | apply Zab | apply Za | apply Zac | refine Zaf ?_ GE390.out) | exact HB.out)))); have n1_ := Zaa.mk (Zbe (g := gb390) (o := .cells #[.int .i64 a0_0, .slice A0_1 l0_1.length c0_1, .slice A0_2 l0_2.length c0_2, .int .i64 a0_3, .int .i64 a0_4, .slice A0_5 l0_5.length c0_5, .int .i64 a0_6] 25 (0, 0)) (mvK BK390.out) hb); have n2_ := Zaa.mk (Zam (by repeat (first | (with_reducible first | exact HB.out | apply Zab | apply Za | apply Zac | refine Zaf ?_ GE390.out) | exact HB.out)) hb); clear BK390; clear HB; have HO393 := n0_; have BK390 := n1_; have HB := n2_; clear n0_ n1_ n2_; (try clear hb); (try clear hb2); (try clear hk); (try clear hi); (try clear ho0); obtain ⟨hcz35_0, hcz35_1, hcz35_2, hcz35_3, hcz35_4, hcz35_5, hcz35_6, hfz35_0, hfz35_1, hfz35_2, hfz35_3, hfz35_4, hfz35_5, hfz35_6⟩ := Zcg BK390.out) | (go_at_call 51; (with_reducible refine (Za7.calls k _ _ l0_1 _ _ l0_2 _ _ l1 t394 _ ?side1 ?side2 ?side3 ?side4 ?side5 ?side6 A4.out).mono ?_); (case side1 => repeat (first | exact (Kd.Za8 HR0_1.out HB.out) | (with_reducible refine Kd.C_alloc ?_ _) | (with_reducible refine Kd.Za0 ?_ _) | (with_reducible refine Kd.C_drew ?_))); (case side2 => exact HC0_1.out); (case side3 => repeat (first | exact (Kd.Za8 HR0_2.out HB.out) | (with_reducible refine Kd.C_alloc ?_ _) | (with_reducible refine Kd.Za0 ?_ _) | (with_reducible refine Kd.C_drew ?_))); (case side4 => exact HC0_2.out); (case side5 => repeat (first | exact (Kd.Za8 HR1.out HB.out) | (with_reducible refine Kd.C_alloc ?_ _) | (with_reducible refine Kd.Za0 ?_ _) | (with_reducible refine Kd.C_drew ?_))); (case side6 => exact HC1.out); rintro e w' ⟨rfl, ⟨nd, rfl⟩⟩; (try first | exact ⟨rfl, _, World.drewN_drewN _ _ _⟩ | exact ⟨rfl, _, Eq.trans (World.drewN_drewN _ _ _) (congrArg (World.drewN _) (Nat.add_assoc _ _ _))⟩)) | (go_at_call 50; (with_reducible refine (Zbu.calls a0_3 t394 a0_4 t395 _ A5.out).mono ?_); rintro e w' ⟨rfl, ⟨nd, rfl⟩⟩; (try first | exact ⟨rfl, _, World.drewN_drewN _ _ _⟩ | exact ⟨rfl, _, Eq.trans (World.drewN_drewN _ _ _) (congrArg (World.drewN _) (Nat.add_assoc _ _ _))⟩); obtain ⟨Ao36, co36, eo36⟩ := Kd.Zbn HO393.out; subst eo36)); try go_wp2_with (first | ((with_reducible refine Zbq (N := 2) rfl ?_); (try (refine Zcm (by rfl) ?_; dsimp only)); refine Zb9 ?hg (N := 2) ?hd (cs := #[.int .i64 a0_0, .slice A0_1 l0_1.length c0_1, .slice A0_2 l0_2.length c0_2, .int .i64 a0_3, .int .i64 a0_4, .slice A0_5 l0_5.length c0_5, .int .i64 a0_6]) (t := 25) ?hr ?_; (case hd => rfl); (case hg => rfl); (case hr => first | (go_simp; done) | (go_simp; rfl)); intro gb390 hg w32 hbox hb; have n0_ := Zaa.mk (Zam (by repeat (first | (with_reducible first | exact HB.out | apply Zab | apply Za | apply Zac) | exact HB.out)) hb); have n1_ := Zaa.mk (hbox); have n3_ := Zaa.mk ((by rw [hg]; exact (Zae (by repeat (first | (with_reducible first | exact HB.out | apply Zab | apply Za | apply Zac) | exact HB.out))) : w.heap.size ≤ gb390)); clear HB; have HB := n0_; have BK390 := n1_; have GE390 := n3_; clear n0_ n1_ n3_; clear hb hbox hg; obtain ⟨hcz33_0, hcz33_1, hcz33_2, hcz33_3, hcz33_4, hcz33_5, hcz33_6, hfz33_0, hfz33_1, hfz33_2, hfz33_3, hfz33_4, hfz33_5, hfz33_6⟩ := Zcg BK390.out) | (go_at_call 49; (refine withB (m := w.heap.size) (w0 := w) (by repeat (first | (with_reducible first | exact HB.out | apply Zab | apply Za | apply Zac | refine Zaf ?_ GE390.out) | exact HB.out)) ?_); intro hL_; (with_reducible refine (Zax.calls k _ _ l0_1 _ _ l1 t391 _ ?side1 ?side2 ?side3 ?side4 A3.out).mono ?_); (case side1 => repeat (first | exact (Kd.Za8 HR0_1.out HB.out) | (with_reducible refine Kd.C_alloc ?_ _) | (with_reducible refine Kd.Za0 ?_ _) | (with_reducible refine Kd.C_drew ?_))); (case side2 => exact HC0_1.out); (case side3 => repeat (first | exact (Kd.Za8 HR1.out HB.out) | (with_reducible refine Kd.C_alloc ?_ _) | (with_reducible refine Kd.Za0 ?_ _) | (with_reducible refine Kd.C_drew ?_))); (case side4 => exact HC1.out); rintro e w34 ⟨v392, rfl, ho0, hb⟩; have n0_ := Zaa.mk (Kd.Zbs ho0 (Zae hL_)); have n1_ := Zaa.mk (Zbe (g := gb390) (o := .cells #[.int .i64 a0_0, .slice A0_1 l0_1.length c0_1, .slice A0_2 l0_2.length c0_2, .int .i64 a0_3, .int .i64 a0_4, .slice A0_5 l0_5.length c0_5, .int .i64 a0_6] 25 (0, 0)) (mvK BK390.out) hb); have n2_ := Zaa.mk (Zam hL_ hb); clear BK390; clear HB; have HO393 := n0_; have BK390 := n1_; have HB := n2_; clear n0_ n1_ n2_; (try clear hb); (try clear hb2); (try clear hk); (try clear hi); (try clear ho0); obtain ⟨hcz35_0, hcz35_1, hcz35_2, hcz35_3, hcz35_4, hcz35_5, hcz35_6, hfz35_0, hfz35_1, hfz35_2, hfz35_3, hfz35_4, hfz35_5, hfz35_6⟩ := Zcg BK390.out) | (go_at_call 51; (with_reducible refine (Za7.calls k _ _ l0_1 _ _ l0_2 _ _ l1 t394 _ ?side1 ?side2 ?side3 ?side4 ?side5 ?side6 A4.out).mono ?_); (case side1 => repeat (first | exact (Kd.Za8 HR0_1.out HB.out) | (with_reducible refine Kd.C_alloc ?_ _) | (with_reducible refine Kd.Za0 ?_ _) | (with_reducible refine Kd.C_drew ?_))); (case side2 => exact HC0_1.out); (case side3 => repeat (first | exact (Kd.Za8 HR0_2.out HB.out) | (with_reducible refine Kd.C_alloc ?_ _) | (with_reducible refine Kd.Za0 ?_ _) | (with_reducible refine Kd.C_drew ?_))); (case side4 => exact HC0_2.out); (case side5 => repeat (first | exact (Kd.Za8 HR1.out HB.out) | (with_reducible refine Kd.C_alloc ?_ _) | (with_reducible refine Kd.Za0 ?_ _) | (with_reducible refine Kd.C_drew ?_))); (case side6 => exact HC1.out); rintro e w' ⟨rfl, ⟨nd, rfl⟩⟩; (try first | exact ⟨rfl, _, World.drewN_drewN _ _ _⟩ | exact ⟨rfl, _, Eq.trans (World.drewN_drewN _ _ _) (congrArg (World.drewN _) (Nat.add_assoc _ _ _))⟩)) | (go_at_call 50; (with_reducible refine (Zbu.calls a0_3 t394 a0_4 t395 _ A5.out).mono ?_); rintro e w' ⟨rfl, ⟨nd, rfl⟩⟩; (try first | exact ⟨rfl, _, World.drewN_drewN _ _ _⟩ | exact ⟨rfl, _, Eq.trans (World.drewN_drewN _ _ _) (congrArg (World.drewN _) (Nat.add_assoc _ _ _))⟩); obtain ⟨Ao36, co36, eo36⟩ := Kd.Zbn HO393.out; subst eo36)))
  go_ret
  exact ⟨by first | rfl | (simp [Za1, Za2] <;> rfl) | (simp [*, Za1, Za2] <;> rfl), by repeat (first | (with_reducible first | exact HB.out | apply Zab | apply Za | apply Zac | refine Zaf ?_ GE390.out) | exact HB.out)⟩
 rw [if_pos c10] at H
 have c10b0 : decide (2 ≤ (t391.length : Int)) = true := decide_eq_true c10
 have c10b1 : decide (2 ≤ t391.length) = true := decide_eq_true (by omega)
 clear c10
 by_cases c11 : 0 < (t391.length : Int)
 rotate_left
 ·rw [if_neg c11] at H
  exact absurd H (by simp)
 rw [if_pos c11] at H
 have c11b0 : decide (0 < (t391.length : Int)) = true := decide_eq_true c11
 have c11b1 : decide (0 < t391.length) = true := decide_eq_true (by omega)
 clear c11
 by_cases c12 : (rd t391 0) ≥ 0
 rotate_left
 ·rw [if_neg c12] at H
  have c12b0 : decide (0 ≤ (rd t391 0)) = false := decide_eq_false c12
  clear c12
  obtain rfl := Option.some.inj H
  go_enter Try.func32, Try.ntmps32
  go_wp2_with (first | ((with_reducible refine Zbq (N := 2) rfl ?_); (try (refine Zcm (by rfl) ?_; dsimp only)); refine Zb9 ?hg (N := 2) ?hd (cs := #[.int .i64 a0_0, .slice A0_1 l0_1.length c0_1, .slice A0_2 l0_2.length c0_2, .int .i64 a0_3, .int .i64 a0_4, .slice A0_5 l0_5.length c0_5, .int .i64 a0_6]) (t := 25) ?hr ?_; (case hd => rfl); (case hg => rfl); (case hr => first | (go_simp; done) | (go_simp; rfl)); intro gb390 hg w27 hbox hb; have n0_ := Zaa.mk (Zam (by repeat (first | (with_reducible first | exact HB.out | apply Zab | apply Za | apply Zac) | exact HB.out)) hb); have n1_ := Zaa.mk (hbox); have n3_ := Zaa.mk ((by rw [hg]; exact (Zae (by repeat (first | (with_reducible first | exact HB.out | apply Zab | apply Za | apply Zac) | exact HB.out))) : w.heap.size ≤ gb390)); clear HB; have HB := n0_; have BK390 := n1_; have GE390 := n3_; clear n0_ n1_ n3_; clear hb hbox hg; obtain ⟨hcz28_0, hcz28_1, hcz28_2, hcz28_3, hcz28_4, hcz28_5, hcz28_6, hfz28_0, hfz28_1, hfz28_2, hfz28_3, hfz28_4, hfz28_5, hfz28_6⟩ := Zcg BK390.out) | (go_at_call 49; (refine withB (m := w.heap.size) (w0 := w) (by repeat (first | (with_reducible first | exact HB.out | apply Zab | apply Za | apply Zac | refine Zaf ?_ GE390.out) | exact HB.out)) ?_); intro hL_; (with_reducible refine (Zax.calls k _ _ l0_1 _ _ l1 t391 _ ?side1 ?side2 ?side3 ?side4 A3.out).mono ?_); (case side1 => repeat (first | exact (Kd.Za8 HR0_1.out HB.out) | (with_reducible refine Kd.C_alloc ?_ _) | (with_reducible refine Kd.Za0 ?_ _) | (with_reducible refine Kd.C_drew ?_))); (case side2 => exact HC0_1.out); (case side3 => repeat (first | exact (Kd.Za8 HR1.out HB.out) | (with_reducible refine Kd.C_alloc ?_ _) | (with_reducible refine Kd.Za0 ?_ _) | (with_reducible refine Kd.C_drew ?_))); (case side4 => exact HC1.out); rintro e w29 ⟨v392, rfl, ho0, hb⟩; have n0_ := Zaa.mk (Kd.Zbs ho0 (Zae hL_)); have n1_ := Zaa.mk (Zbe (g := gb390) (o := .cells #[.int .i64 a0_0, .slice A0_1 l0_1.length c0_1, .slice A0_2 l0_2.length c0_2, .int .i64 a0_3, .int .i64 a0_4, .slice A0_5 l0_5.length c0_5, .int .i64 a0_6] 25 (0, 0)) (mvK BK390.out) hb); have n2_ := Zaa.mk (Zam hL_ hb); clear BK390; clear HB; have HO393 := n0_; have BK390 := n1_; have HB := n2_; clear n0_ n1_ n2_; (try clear hb); (try clear hb2); (try clear hk); (try clear hi); (try clear ho0); obtain ⟨hcz30_0, hcz30_1, hcz30_2, hcz30_3, hcz30_4, hcz30_5, hcz30_6, hfz30_0, hfz30_1, hfz30_2, hfz30_3, hfz30_4, hfz30_5, hfz30_6⟩ := Zcg BK390.out) | (go_at_call 51; (with_reducible refine (Za7.calls k _ _ l0_1 _ _ l0_2 _ _ l1 t394 _ ?side1 ?side2 ?side3 ?side4 ?side5 ?side6 A4.out).mono ?_); (case side1 => repeat (first | exact (Kd.Za8 HR0_1.out HB.out) | (with_reducible refine Kd.C_alloc ?_ _) | (with_reducible refine Kd.Za0 ?_ _) | (with_reducible refine Kd.C_drew ?_))); (case side2 => exact HC0_1.out); (case side3 => repeat (first | exact (Kd.Za8 HR0_2.out HB.out) | (with_reducible refine Kd.C_alloc ?_ _) | (with_reducible refine Kd.Za0 ?_ _) | (with_reducible refine Kd.C_drew ?_))); (case side4 => exact HC0_2.out); (case side5 => repeat (first | exact (Kd.Za8 HR1.out HB.out) | (with_reducible refine Kd.C_alloc ?_ _) | (with_reducible refine Kd.Za0 ?_ _) | (with_reducible refine Kd.C_drew ?_))); (case side6 => exact HC1.out); rintro e w' ⟨rfl, ⟨nd, rfl⟩⟩; (try first | exact ⟨rfl, _, World.drewN_drewN _ _ _⟩ | exact ⟨rfl, _, Eq.trans (World.drewN_drewN _ _ _) (congrArg (World.drewN _) (Nat.add_assoc _ _ _))⟩)) | (go_at_call 50; (with_reducible refine (Zbu.calls a0_3 t394 a0_4 t395 _ A5.out).mono ?_); rintro e w' ⟨rfl, ⟨nd, rfl⟩⟩; (try first | exact ⟨rfl, _, World.drewN_drewN _ _ _⟩ | exact ⟨rfl, _, Eq.trans (World.drewN_drewN _ _ _) (congrArg (World.drewN _) (Nat.add_assoc _ _ _))⟩); obtain ⟨Ao31, co31, eo31⟩ := Kd.Zbn HO393.out; subst eo31; have p396 : 0 ≤ (0 : Int) := (by omega); have q396 : 0 < (t391.length : Int) := of_decide_eq_true (by first | (with_reducible assumption) | assumption); obtain ⟨ad396, e396, hx396_0⟩ := Kd.Zbx (Kd.Zaz HO393.out).2.2 0 p396 q396; cases e396; have qi396 : (0 < t391.length) = True := eq_true (by omega); (try rw [show ((0 : Int)).toNat = 0 from rfl] at hx396_0); (try rw [Addr.add_zero'] at hx396_0); replace p396 := eq_true p396; replace q396 := eq_true q396))
  repeat (go_quiet (first | ((with_reducible refine Zbq (N := 2) rfl ?_); (try (refine Zcm (by rfl) ?_; dsimp only)); refine Zb9 ?hg (N := 2) ?hd (cs := #[.int .i64 a0_0, .slice A0_1 l0_1.length c0_1, .slice A0_2 l0_2.length c0_2, .int .i64 a0_3, .int .i64 a0_4, .slice A0_5 l0_5.length c0_5, .int .i64 a0_6]) (t := 25) ?hr ?_; (case hd => rfl); (case hg => rfl); (case hr => first | (go_simp; done) | (go_simp; rfl)); intro gb390 hg w27 hbox hb; have n0_ := Zaa.mk (Zam (by repeat (first | (with_reducible first | exact HB.out | apply Zab | apply Za | apply Zac) | exact HB.out)) hb); have n1_ := Zaa.mk (hbox); have n3_ := Zaa.mk ((by rw [hg]; exact (Zae (by repeat (first | (with_reducible first | exact HB.out | apply Zab | apply Za | apply Zac) | exact HB.out))) : w.heap.size ≤ gb390)); clear HB; have HB := n0_; have BK390 := n1_; have GE390 := n3_; clear n0_ n1_ n3_; clear hb hbox hg; obtain ⟨hcz28_0, hcz28_1, hcz28_2, hcz28_3, hcz28_4, hcz28_5, hcz28_6, hfz28_0, hfz28_1, hfz28_2, hfz28_3, hfz28_4, hfz28_5, hfz28_6⟩ := Zcg BK390.out) | (go_at_call 49; (with_reducible refine (Zax.calls k _ _ l0_1 _ _ l1 t391 _ ?side1 ?side2 ?side3 ?side4 A3.out).mono ?_); (case side1 => repeat (first | exact (Kd.Za8 HR0_1.out HB.out) | (with_reducible refine Kd.C_alloc ?_ _) | (with_reducible refine Kd.Za0 ?_ _) | (with_reducible refine Kd.C_drew ?_))); (case side2 => exact HC0_1.out); (case side3 => repeat (first | exact (Kd.Za8 HR1.out HB.out) | (with_reducible refine Kd.C_alloc ?_ _) | (with_reducible refine Kd.Za0 ?_ _) | (with_reducible refine Kd.C_drew ?_))); (case side4 => exact HC1.out); rintro e w29 ⟨v392, rfl, ho0, hb⟩; have n0_ := Zaa.mk (Kd.Zbs ho0 (Zae (by repeat (first | (with_reducible first | exact HB.out | apply Zab | apply Za | apply Zac | refine Zaf ?_ GE390.out) | exact HB.out)))); have n1_ := Zaa.mk (Zbe (g := gb390) (o := .cells #[.int .i64 a0_0, .slice A0_1 l0_1.length c0_1, .slice A0_2 l0_2.length c0_2, .int .i64 a0_3, .int .i64 a0_4, .slice A0_5 l0_5.length c0_5, .int .i64 a0_6] 25 (0, 0)) (mvK BK390.out) hb); have n2_ := Zaa.mk (Zam (by repeat (first | (with_reducible first | exact HB.out | apply Zab | apply Za | apply Zac | refine Zaf ?_ GE390.out) | exact HB.out)) hb); clear BK390; clear HB; have HO393 := n0_; have BK390 := n1_; have HB := n2_; clear n0_ n1_ n2_; (try clear hb); (try clear hb2); (try clear hk); (try clear hi); (try clear ho0); obtain ⟨hcz30_0, hcz30_1, hcz30_2, hcz30_3, hcz30_4, hcz30_5, hcz30_6, hfz30_0, hfz30_1, hfz30_2, hfz30_3, hfz30_4, hfz30_5, hfz30_6⟩ := Zcg BK390.out) | (go_at_call 51; (with_reducible refine (Za7.calls k _ _ l0_1 _ _ l0_2 _ _ l1 t394 _ ?side1 ?side2 ?side3 ?side4 ?side5 ?side6 A4.out).mono ?_); (case side1 => repeat (first | exact (Kd.Za8 HR0_1.out HB.out) | (with_reducible refine Kd.C_alloc ?_ _) | (with_reducible refine Kd.Za0 ?_ _) | (with_reducible refine Kd.C_drew ?_))); (case side2 => exact HC0_1.out); (case side3 => repeat (first | exact (Kd.Za8 HR0_2.out HB.out) | (with_reducible refine Kd.C_alloc ?_ _) | (with_reducible refine Kd.Za0 ?_ _) | (with_reducible refine Kd.C_drew ?_))); (case side4 => exact HC0_2.out); (case side5 => repeat (first | exact (Kd.Za8 HR1.out HB.out) | (with_reducible refine Kd.C_alloc ?_ _) | (with_reducible refine Kd.Za0 ?_ _) | (with_reducible refine Kd.C_drew ?_))); (case side6 => exact HC1.out); rintro e w' ⟨rfl, ⟨nd, rfl⟩⟩; (try first | exact ⟨rfl, _, World.drewN_drewN _ _ _⟩ | exact ⟨rfl, _, Eq.trans (World.drewN_drewN _ _ _) (congrArg (World.drewN _) (Nat.add_assoc _ _ _))⟩)) | (go_at_call 50; (with_reducible refine (Zbu.calls a0_3 t394 a0_4 t395 _ A5.out).mono ?_); rintro e w' ⟨rfl, ⟨nd, rfl⟩⟩; (try first | exact ⟨rfl, _, World.drewN_drewN _ _ _⟩ | exact ⟨rfl, _, Eq.trans (World.drewN_drewN _ _ _) (congrArg (World.drewN _) (Nat.add_assoc _ _ _))⟩); obtain ⟨Ao31, co31, eo31⟩ := Kd.Zbn HO393.out; subst eo31; have p396 : 0 ≤ (0 : Int) := (by omega); have q396 : 0 < (t391.length : Int) := of_decide_eq_true (by first | (with_reducible assumption) | assumption); obtain ⟨ad396, e396, hx396_0⟩ := Kd.Zbx (Kd.Zaz HO393.out).2.2 0 p396 q396; cases e396; have qi396 : (0 < t391.length) = True := eq_true (by omega); (try rw [show ((0 : Int)).toNat = 0 from rfl] at hx396_0); (try rw [Addr.add_zero'] at hx396_0); replace p396 := eq_true p396; replace q396 := eq_true q396)); try go_wp2_with (first | ((with_reducible refine Zbq (N := 2) rfl ?_); (try (refine Zcm (by rfl) ?_; dsimp only)); refine Zb9 ?hg (N := 2) ?hd (cs := #[.int .i64 a0_0, .slice A0_1 l0_1.length c0_1, .slice A0_2 l0_2.length c0_2, .int .i64 a0_3, .int .i64 a0_4, .slice A0_5 l0_5.length c0_5, .int .i64 a0_6]) (t := 25) ?hr ?_; (case hd => rfl); (case hg => rfl); (case hr => first | (go_simp; done) | (go_simp; rfl)); intro gb390 hg w27 hbox hb; have n0_ := Zaa.mk (Zam (by repeat (first | (with_reducible first | exact HB.out | apply Zab | apply Za | apply Zac) | exact HB.out)) hb); have n1_ := Zaa.mk (hbox); have n3_ := Zaa.mk ((by rw [hg]; exact (Zae (by repeat (first | (with_reducible first | exact HB.out | apply Zab | apply Za | apply Zac) | exact HB.out))) : w.heap.size ≤ gb390)); clear HB; have HB := n0_; have BK390 := n1_; have GE390 := n3_; clear n0_ n1_ n3_; clear hb hbox hg; obtain ⟨hcz28_0, hcz28_1, hcz28_2, hcz28_3, hcz28_4, hcz28_5, hcz28_6, hfz28_0, hfz28_1, hfz28_2, hfz28_3, hfz28_4, hfz28_5, hfz28_6⟩ := Zcg BK390.out) | (go_at_call 49; (refine withB (m := w.heap.size) (w0 := w) (by repeat (first | (with_reducible first | exact HB.out | apply Zab | apply Za | apply Zac | refine Zaf ?_ GE390.out) | exact HB.out)) ?_); intro hL_; (with_reducible refine (Zax.calls k _ _ l0_1 _ _ l1 t391 _ ?side1 ?side2 ?side3 ?side4 A3.out).mono ?_); (case side1 => repeat (first | exact (Kd.Za8 HR0_1.out HB.out) | (with_reducible refine Kd.C_alloc ?_ _) | (with_reducible refine Kd.Za0 ?_ _) | (with_reducible refine Kd.C_drew ?_))); (case side2 => exact HC0_1.out); (case side3 => repeat (first | exact (Kd.Za8 HR1.out HB.out) | (with_reducible refine Kd.C_alloc ?_ _) | (with_reducible refine Kd.Za0 ?_ _) | (with_reducible refine Kd.C_drew ?_))); (case side4 => exact HC1.out); rintro e w29 ⟨v392, rfl, ho0, hb⟩; have n0_ := Zaa.mk (Kd.Zbs ho0 (Zae hL_)); have n1_ := Zaa.mk (Zbe (g := gb390) (o := .cells #[.int .i64 a0_0, .slice A0_1 l0_1.length c0_1, .slice A0_2 l0_2.length c0_2, .int .i64 a0_3, .int .i64 a0_4, .slice A0_5 l0_5.length c0_5, .int .i64 a0_6] 25 (0, 0)) (mvK BK390.out) hb); have n2_ := Zaa.mk (Zam hL_ hb); clear BK390; clear HB; have HO393 := n0_; have BK390 := n1_; have HB := n2_; clear n0_ n1_ n2_; (try clear hb); (try clear hb2); (try clear hk); (try clear hi); (try clear ho0); obtain ⟨hcz30_0, hcz30_1, hcz30_2, hcz30_3, hcz30_4, hcz30_5, hcz30_6, hfz30_0, hfz30_1, hfz30_2, hfz30_3, hfz30_4, hfz30_5, hfz30_6⟩ := Zcg BK390.out) | (go_at_call 51; (with_reducible refine (Za7.calls k _ _ l0_1 _ _ l0_2 _ _ l1 t394 _ ?side1 ?side2 ?side3 ?side4 ?side5 ?side6 A4.out).mono ?_); (case side1 => repeat (first | exact (Kd.Za8 HR0_1.out HB.out) | (with_reducible refine Kd.C_alloc ?_ _) | (with_reducible refine Kd.Za0 ?_ _) | (with_reducible refine Kd.C_drew ?_))); (case side2 => exact HC0_1.out); (case side3 => repeat (first | exact (Kd.Za8 HR0_2.out HB.out) | (with_reducible refine Kd.C_alloc ?_ _) | (with_reducible refine Kd.Za0 ?_ _) | (with_reducible refine Kd.C_drew ?_))); (case side4 => exact HC0_2.out); (case side5 => repeat (first | exact (Kd.Za8 HR1.out HB.out) | (with_reducible refine Kd.C_alloc ?_ _) | (with_reducible refine Kd.Za0 ?_ _) | (with_reducible refine Kd.C_drew ?_))); (case side6 => exact HC1.out); rintro e w' ⟨rfl, ⟨nd, rfl⟩⟩; (try first | exact ⟨rfl, _, World.drewN_drewN _ _ _⟩ | exact ⟨rfl, _, Eq.trans (World.drewN_drewN _ _ _) (congrArg (World.drewN _) (Nat.add_assoc _ _ _))⟩)) | (go_at_call 50; (with_reducible refine (Zbu.calls a0_3 t394 a0_4 t395 _ A5.out).mono ?_); rintro e w' ⟨rfl, ⟨nd, rfl⟩⟩; (try first | exact ⟨rfl, _, World.drewN_drewN _ _ _⟩ | exact ⟨rfl, _, Eq.trans (World.drewN_drewN _ _ _) (congrArg (World.drewN _) (Nat.add_assoc _ _ _))⟩); obtain ⟨Ao31, co31, eo31⟩ := Kd.Zbn HO393.out; subst eo31; have p396 : 0 ≤ (0 : Int) := (by omega); have q396 : 0 < (t391.length : Int) := of_decide_eq_true (by first | (with_reducible assumption) | assumption); obtain ⟨ad396, e396, hx396_0⟩ := Kd.Zbx (Kd.Zaz HO393.out).2.2 0 p396 q396; cases e396; have qi396 : (0 < t391.length) = True := eq_true (by omega); (try rw [show ((0 : Int)).toNat = 0 from rfl] at hx396_0); (try rw [Addr.add_zero'] at hx396_0); replace p396 := eq_true p396; replace q396 := eq_true q396)))
  go_ret
  exact ⟨by first | rfl | (simp [Za1, Za2] <;> rfl) | (simp [*, Za1, Za2] <;> rfl), by repeat (first | (with_reducible first | exact HB.out | apply Zab | apply Za | apply Zac | refine Zaf ?_ GE390.out) | exact HB.out)⟩
 rw [if_pos c12] at H
 have c12b0 : decide (0 ≤ (rd t391 0)) = true := decide_eq_true c12
 clear c12
 by_cases c13 : (wrap64 ((rd t391 0) + 2)) < (t391.length : Int)
 rotate_left
 ·rw [if_neg c13] at H
  have c13b0 : decide ((wrap64 ((rd t391 0) + 2)) < (t391.length : Int)) = false := decide_eq_false c13
  clear c13
  obtain rfl := Option.some.inj H
  go_enter Try.func32, Try.ntmps32
  go_wp2_with (first | ((with_reducible refine Zbq (N := 2) rfl ?_); (try (refine Zcm (by rfl) ?_; dsimp only)); refine Zb9 ?hg (N := 2) ?hd (cs := #[.int .i64 a0_0, .slice A0_1 l0_1.length c0_1, .slice A0_2 l0_2.length c0_2, .int .i64 a0_3, .int .i64 a0_4, .slice A0_5 l0_5.length c0_5, .int .i64 a0_6]) (t := 25) ?hr ?_; (case hd => rfl); (case hg => rfl); (case hr => first | (go_simp; done) | (go_simp; rfl)); intro gb390 hg w22 hbox hb; have n0_ := Zaa.mk (Zam (by repeat (first | (with_reducible first | exact HB.out | apply Zab | apply Za | apply Zac) | exact HB.out)) hb); have n1_ := Zaa.mk (hbox); have n3_ := Zaa.mk ((by rw [hg]; exact (Zae (by repeat (first | (with_reducible first | exact HB.out | apply Zab | apply Za | apply Zac) | exact HB.out))) : w.heap.size ≤ gb390)); clear HB; have HB := n0_; have BK390 := n1_; have GE390 := n3_; clear n0_ n1_ n3_; clear hb hbox hg; obtain ⟨hcz23_0, hcz23_1, hcz23_2, hcz23_3, hcz23_4, hcz23_5, hcz23_6, hfz23_0, hfz23_1, hfz23_2, hfz23_3, hfz23_4, hfz23_5, hfz23_6⟩ := Zcg BK390.out) | (go_at_call 49; (refine withB (m := w.heap.size) (w0 := w) (by repeat (first | (with_reducible first | exact HB.out | apply Zab | apply Za | apply Zac | refine Zaf ?_ GE390.out) | exact HB.out)) ?_); intro hL_; (with_reducible refine (Zax.calls k _ _ l0_1 _ _ l1 t391 _ ?side1 ?side2 ?side3 ?side4 A3.out).mono ?_); (case side1 => repeat (first | exact (Kd.Za8 HR0_1.out HB.out) | (with_reducible refine Kd.C_alloc ?_ _) | (with_reducible refine Kd.Za0 ?_ _) | (with_reducible refine Kd.C_drew ?_))); (case side2 => exact HC0_1.out); (case side3 => repeat (first | exact (Kd.Za8 HR1.out HB.out) | (with_reducible refine Kd.C_alloc ?_ _) | (with_reducible refine Kd.Za0 ?_ _) | (with_reducible refine Kd.C_drew ?_))); (case side4 => exact HC1.out); rintro e w24 ⟨v392, rfl, ho0, hb⟩; have n0_ := Zaa.mk (Kd.Zbs ho0 (Zae hL_)); have n1_ := Zaa.mk (Zbe (g := gb390) (o := .cells #[.int .i64 a0_0, .slice A0_1 l0_1.length c0_1, .slice A0_2 l0_2.length c0_2, .int .i64 a0_3, .int .i64 a0_4, .slice A0_5 l0_5.length c0_5, .int .i64 a0_6] 25 (0, 0)) (mvK BK390.out) hb); have n2_ := Zaa.mk (Zam hL_ hb); clear BK390; clear HB; have HO393 := n0_; have BK390 := n1_; have HB := n2_; clear n0_ n1_ n2_; (try clear hb); (try clear hb2); (try clear hk); (try clear hi); (try clear ho0); obtain ⟨hcz25_0, hcz25_1, hcz25_2, hcz25_3, hcz25_4, hcz25_5, hcz25_6, hfz25_0, hfz25_1, hfz25_2, hfz25_3, hfz25_4, hfz25_5, hfz25_6⟩ := Zcg BK390.out) | (go_at_call 51; (with_reducible refine (Za7.calls k _ _ l0_1 _ _ l0_2 _ _ l1 t394 _ ?side1 ?side2 ?side3 ?side4 ?side5 ?side6 A4.out).mono ?_); (case side1 => repeat (first | exact (Kd.Za8 HR0_1.out HB.out) | (with_reducible refine Kd.C_alloc ?_ _) | (with_reducible refine Kd.Za0 ?_ _) | (with_reducible refine Kd.C_drew ?_))); (case side2 => exact HC0_1.out); (case side3 => repeat (first | exact (Kd.Za8 HR0_2.out HB.out) | (with_reducible refine Kd.C_alloc ?_ _) | (with_reducible refine Kd.Za0 ?_ _) | (with_reducible refine Kd.C_drew ?_))); (case side4 => exact HC0_2.out); (case side5 => repeat (first | exact (Kd.Za8 HR1.out HB.out) | (with_reducible refine Kd.C_alloc ?_ _) | (with_reducible refine Kd.Za0 ?_ _) | (with_reducible refine Kd.C_drew ?_))); (case side6 => exact HC1.out); rintro e w' ⟨rfl, ⟨nd, rfl⟩⟩; (try first | exact ⟨rfl, _, World.drewN_drewN _ _ _⟩ | exact ⟨rfl, _, Eq.trans (World.drewN_drewN _ _ _) (congrArg (World.drewN _) (Nat.add_assoc _ _ _))⟩)) | (go_at_call 50; (with_reducible refine (Zbu.calls a0_3 t394 a0_4 t395 _ A5.out).mono ?_); rintro e w' ⟨rfl, ⟨nd, rfl⟩⟩; (try first | exact ⟨rfl, _, World.drewN_drewN _ _ _⟩ | exact ⟨rfl, _, Eq.trans (World.drewN_drewN _ _ _) (congrArg (World.drewN _) (Nat.add_assoc _ _ _))⟩); obtain ⟨Ao26, co26, eo26⟩ := Kd.Zbn HO393.out; subst eo26; have p396 : 0 ≤ (0 : Int) := (by omega); have q396 : 0 < (t391.length : Int) := of_decide_eq_true (by first | (with_reducible assumption) | assumption); obtain ⟨ad396, e396, hx396_0⟩ := Kd.Zbx (Kd.Zaz HO393.out).2.2 0 p396 q396; cases e396; have qi396 : (0 < t391.length) = True := eq_true (by omega); (try rw [show ((0 : Int)).toNat = 0 from rfl] at hx396_0); (try rw [Addr.add_zero'] at hx396_0); replace p396 := eq_true p396; replace q396 := eq_true q396; have p397 : 0 ≤ (0 : Int) := (by omega); have q397 : 0 < (t391.length : Int) := of_decide_eq_true (by first | (with_reducible assumption) | assumption); obtain ⟨ad397, e397, hx397_0⟩ := Kd.Zbx (Kd.Zaz HO393.out).2.2 0 p397 q397; obtain rfl : ad396 = ad397 := (by injection e397); have qi397 : (0 < t391.length) = True := eq_true (by omega); (try rw [show ((0 : Int)).toNat = 0 from rfl] at hx397_0); (try rw [Addr.add_zero'] at hx397_0); replace p397 := eq_true p397; replace q397 := eq_true q397))
  repeat (go_quiet (first | ((with_reducible refine Zbq (N := 2) rfl ?_); (try (refine Zcm (by rfl) ?_; dsimp only)); refine Zb9 ?hg (N := 2) ?hd (cs := #[.int .i64 a0_0, .slice A0_1 l0_1.length c0_1, .slice A0_2 l0_2.length c0_2, .int .i64 a0_3, .int .i64 a0_4, .slice A0_5 l0_5.length c0_5, .int .i64 a0_6]) (t := 25) ?hr ?_; (case hd => rfl); (case hg => rfl); (case hr => first | (go_simp; done) | (go_simp; rfl)); intro gb390 hg w22 hbox hb; have n0_ := Zaa.mk (Zam (by repeat (first | (with_reducible first | exact HB.out | apply Zab | apply Za | apply Zac) | exact HB.out)) hb); have n1_ := Zaa.mk (hbox); have n3_ := Zaa.mk ((by rw [hg]; exact (Zae (by repeat (first | (with_reducible first | exact HB.out | apply Zab | apply Za | apply Zac) | exact HB.out))) : w.heap.size ≤ gb390)); clear HB; have HB := n0_; have BK390 := n1_; have GE390 := n3_; clear n0_ n1_ n3_; clear hb hbox hg; obtain ⟨hcz23_0, hcz23_1, hcz23_2, hcz23_3, hcz23_4, hcz23_5, hcz23_6, hfz23_0, hfz23_1, hfz23_2, hfz23_3, hfz23_4, hfz23_5, hfz23_6⟩ := Zcg BK390.out) | (go_at_call 49; (with_reducible refine (Zax.calls k _ _ l0_1 _ _ l1 t391 _ ?side1 ?side2 ?side3 ?side4 A3.out).mono ?_); (case side1 => repeat (first | exact (Kd.Za8 HR0_1.out HB.out) | (with_reducible refine Kd.C_alloc ?_ _) | (with_reducible refine Kd.Za0 ?_ _) | (with_reducible refine Kd.C_drew ?_))); (case side2 => exact HC0_1.out); (case side3 => repeat (first | exact (Kd.Za8 HR1.out HB.out) | (with_reducible refine Kd.C_alloc ?_ _) | (with_reducible refine Kd.Za0 ?_ _) | (with_reducible refine Kd.C_drew ?_))); (case side4 => exact HC1.out); rintro e w24 ⟨v392, rfl, ho0, hb⟩; have n0_ := Zaa.mk (Kd.Zbs ho0 (Zae (by repeat (first | (with_reducible first | exact HB.out | apply Zab | apply Za | apply Zac | refine Zaf ?_ GE390.out) | exact HB.out)))); have n1_ := Zaa.mk (Zbe (g := gb390) (o := .cells #[.int .i64 a0_0, .slice A0_1 l0_1.length c0_1, .slice A0_2 l0_2.length c0_2, .int .i64 a0_3, .int .i64 a0_4, .slice A0_5 l0_5.length c0_5, .int .i64 a0_6] 25 (0, 0)) (mvK BK390.out) hb); have n2_ := Zaa.mk (Zam (by repeat (first | (with_reducible first | exact HB.out | apply Zab | apply Za | apply Zac | refine Zaf ?_ GE390.out) | exact HB.out)) hb); clear BK390; clear HB; have HO393 := n0_; have BK390 := n1_; have HB := n2_; clear n0_ n1_ n2_; (try clear hb); (try clear hb2); (try clear hk); (try clear hi); (try clear ho0); obtain ⟨hcz25_0, hcz25_1, hcz25_2, hcz25_3, hcz25_4, hcz25_5, hcz25_6, hfz25_0, hfz25_1, hfz25_2, hfz25_3, hfz25_4, hfz25_5, hfz25_6⟩ := Zcg BK390.out) | (go_at_call 51; (with_reducible refine (Za7.calls k _ _ l0_1 _ _ l0_2 _ _ l1 t394 _ ?side1 ?side2 ?side3 ?side4 ?side5 ?side6 A4.out).mono ?_); (case side1 => repeat (first | exact (Kd.Za8 HR0_1.out HB.out) | (with_reducible refine Kd.C_alloc ?_ _) | (with_reducible refine Kd.Za0 ?_ _) | (with_reducible refine Kd.C_drew ?_))); (case side2 => exact HC0_1.out); (case side3 => repeat (first | exact (Kd.Za8 HR0_2.out HB.out) | (with_reducible refine Kd.C_alloc ?_ _) | (with_reducible refine Kd.Za0 ?_ _) | (with_reducible refine Kd.C_drew ?_))); (case side4 => exact HC0_2.out); (case side5 => repeat (first | exact (Kd.Za8 HR1.out HB.out) | (with_reducible refine Kd.C_alloc ?_ _) | (with_reducible refine Kd.Za0 ?_ _) | (with_reducible refine Kd.C_drew ?_))); (case side6 => exact HC1.out); rintro e w' ⟨rfl, ⟨nd, rfl⟩⟩; (try first | exact ⟨rfl, _, World.drewN_drewN _ _ _⟩ | exact ⟨rfl, _, Eq.trans (World.drewN_drewN _ _ _) (congrArg (World.drewN _) (Nat.add_assoc _ _ _))⟩)) | (go_at_call 50; (with_reducible refine (Zbu.calls a0_3 t394 a0_4 t395 _ A5.out).mono ?_); rintro e w' ⟨rfl, ⟨nd, rfl⟩⟩; (try first | exact ⟨rfl, _, World.drewN_drewN _ _ _⟩ | exact ⟨rfl, _, Eq.trans (World.drewN_drewN _ _ _) (congrArg (World.drewN _) (Nat.add_assoc _ _ _))⟩); obtain ⟨Ao26, co26, eo26⟩ := Kd.Zbn HO393.out; subst eo26; have p396 : 0 ≤ (0 : Int) := (by omega); have q396 : 0 < (t391.length : Int) := of_decide_eq_true (by first | (with_reducible assumption) | assumption); obtain ⟨ad396, e396, hx396_0⟩ := Kd.Zbx (Kd.Zaz HO393.out).2.2 0 p396 q396; cases e396; have qi396 : (0 < t391.length) = True := eq_true (by omega); (try rw [show ((0 : Int)).toNat = 0 from rfl] at hx396_0); (try rw [Addr.add_zero'] at hx396_0); replace p396 := eq_true p396; replace q396 := eq_true q396; have p397 : 0 ≤ (0 : Int) := (by omega); have q397 : 0 < (t391.length : Int) := of_decide_eq_true (by first | (with_reducible assumption) | assumption); obtain ⟨ad397, e397, hx397_0⟩ := Kd.Zbx (Kd.Zaz HO393.out).2.2 0 p397 q397; obtain rfl : ad396 = ad397 := (by injection e397); have qi397 : (0 < t391.length) = True := eq_true (by omega); (try rw [show ((0 : Int)).toNat = 0 from rfl] at hx397_0); (try rw [Addr.add_zero'] at hx397_0); replace p397 := eq_true p397; replace q397 := eq_true q397)); try go_wp2_with (first | ((with_reducible refine Zbq (N := 2) rfl ?_); (try (refine Zcm (by rfl) ?_; dsimp only)); refine Zb9 ?hg (N := 2) ?hd (cs := #[.int .i64 a0_0, .slice A0_1 l0_1.length c0_1, .slice A0_2 l0_2.length c0_2, .int .i64 a0_3, .int .i64 a0_4, .slice A0_5 l0_5.length c0_5, .int .i64 a0_6]) (t := 25) ?hr ?_; (case hd => rfl); (case hg => rfl); (case hr => first | (go_simp; done) | (go_simp; rfl)); intro gb390 hg w22 hbox hb; have n0_ := Zaa.mk (Zam (by repeat (first | (with_reducible first | exact HB.out | apply Zab | apply Za | apply Zac) | exact HB.out)) hb); have n1_ := Zaa.mk (hbox); have n3_ := Zaa.mk ((by rw [hg]; exact (Zae (by repeat (first | (with_reducible first | exact HB.out | apply Zab | apply Za | apply Zac) | exact HB.out))) : w.heap.size ≤ gb390)); clear HB; have HB := n0_; have BK390 := n1_; have GE390 := n3_; clear n0_ n1_ n3_; clear hb hbox hg; obtain ⟨hcz23_0, hcz23_1, hcz23_2, hcz23_3, hcz23_4, hcz23_5, hcz23_6, hfz23_0, hfz23_1, hfz23_2, hfz23_3, hfz23_4, hfz23_5, hfz23_6⟩ := Zcg BK390.out) | (go_at_call 49; (refine withB (m := w.heap.size) (w0 := w) (by repeat (first | (with_reducible first | exact HB.out | apply Zab | apply Za | apply Zac | refine Zaf ?_ GE390.out) | exact HB.out)) ?_); intro hL_; (with_reducible refine (Zax.calls k _ _ l0_1 _ _ l1 t391 _ ?side1 ?side2 ?side3 ?side4 A3.out).mono ?_); (case side1 => repeat (first | exact (Kd.Za8 HR0_1.out HB.out) | (with_reducible refine Kd.C_alloc ?_ _) | (with_reducible refine Kd.Za0 ?_ _) | (with_reducible refine Kd.C_drew ?_))); (case side2 => exact HC0_1.out); (case side3 => repeat (first | exact (Kd.Za8 HR1.out HB.out) | (with_reducible refine Kd.C_alloc ?_ _) | (with_reducible refine Kd.Za0 ?_ _) | (with_reducible refine Kd.C_drew ?_))); (case side4 => exact HC1.out); rintro e w24 ⟨v392, rfl, ho0, hb⟩; have n0_ := Zaa.mk (Kd.Zbs ho0 (Zae hL_)); have n1_ := Zaa.mk (Zbe (g := gb390) (o := .cells #[.int .i64 a0_0, .slice A0_1 l0_1.length c0_1, .slice A0_2 l0_2.length c0_2, .int .i64 a0_3, .int .i64 a0_4, .slice A0_5 l0_5.length c0_5, .int .i64 a0_6] 25 (0, 0)) (mvK BK390.out) hb); have n2_ := Zaa.mk (Zam hL_ hb); clear BK390; clear HB; have HO393 := n0_; have BK390 := n1_; have HB := n2_; clear n0_ n1_ n2_; (try clear hb); (try clear hb2); (try clear hk); (try clear hi); (try clear ho0); obtain ⟨hcz25_0, hcz25_1, hcz25_2, hcz25_3, hcz25_4, hcz25_5, hcz25_6, hfz25_0, hfz25_1, hfz25_2, hfz25_3, hfz25_4, hfz25_5, hfz25_6⟩ := Zcg BK390.out) | (go_at_call 51; (with_reducible refine (Za7.calls k _ _ l0_1 _ _ l0_2 _ _ l1 t394 _ ?side1 ?side2 ?side3 ?side4 ?side5 ?side6 A4.out).mono ?_); (case side1 => repeat (first | exact (Kd.Za8 HR0_1.out HB.out) | (with_reducible refine Kd.C_alloc ?_ _) | (with_reducible refine Kd.Za0 ?_ _) | (with_reducible refine Kd.C_drew ?_))); (case side2 => exact HC0_1.out); (case side3 => repeat (first | exact (Kd.Za8 HR0_2.out HB.out) | (with_reducible refine Kd.C_alloc ?_ _) | (with_reducible refine Kd.Za0 ?_ _) | (with_reducible refine Kd.C_drew ?_))); (case side4 => exact HC0_2.out); (case side5 => repeat (first | exact (Kd.Za8 HR1.out HB.out) | (with_reducible refine Kd.C_alloc ?_ _) | (with_reducible refine Kd.Za0 ?_ _) | (with_reducible refine Kd.C_drew ?_))); (case side6 => exact HC1.out); rintro e w' ⟨rfl, ⟨nd, rfl⟩⟩; (try first | exact ⟨rfl, _, World.drewN_drewN _ _ _⟩ | exact ⟨rfl, _, Eq.trans (World.drewN_drewN _ _ _) (congrArg (World.drewN _) (Nat.add_assoc _ _ _))⟩)) | (go_at_call 50; (with_reducible refine (Zbu.calls a0_3 t394 a0_4 t395 _ A5.out).mono ?_); rintro e w' ⟨rfl, ⟨nd, rfl⟩⟩; (try first | exact ⟨rfl, _, World.drewN_drewN _ _ _⟩ | exact ⟨rfl, _, Eq.trans (World.drewN_drewN _ _ _) (congrArg (World.drewN _) (Nat.add_assoc _ _ _))⟩); obtain ⟨Ao26, co26, eo26⟩ := Kd.Zbn HO393.out; subst eo26; have p396 : 0 ≤ (0 : Int) := (by omega); have q396 : 0 < (t391.length : Int) := of_decide_eq_true (by first | (with_reducible assumption) | assumption); obtain ⟨ad396, e396, hx396_0⟩ := Kd.Zbx (Kd.Zaz HO393.out).2.2 0 p396 q396; cases e396; have qi396 : (0 < t391.length) = True := eq_true (by omega); (try rw [show ((0 : Int)).toNat = 0 from rfl] at hx396_0); (try rw [Addr.add_zero'] at hx396_0); replace p396 := eq_true p396; replace q396 := eq_true q396; have p397 : 0 ≤ (0 : Int) := (by omega); have q397 : 0 < (t391.length : Int) := of_decide_eq_true (by first | (with_reducible assumption) | assumption); obtain ⟨ad397, e397, hx397_0⟩ := Kd.Zbx (Kd.Zaz HO393.out).2.2 0 p397 q397; obtain rfl : ad396 = ad397 := (by injection e397); have qi397 : (0 < t391.length) = True := eq_true (by omega); (try rw [show ((0 : Int)).toNat = 0 from rfl] at hx397_0); (try rw [Addr.add_zero'] at hx397_0); replace p397 := eq_true p397; replace q397 := eq_true q397)))
  go_ret
  exact ⟨by first | rfl | (simp [Za1, Za2] <;> rfl) | (simp [*, Za1, Za2] <;> rfl), by repeat (first | (with_reducible first | exact HB.out | apply Zab | apply Za | apply Zac | refine Zaf ?_ GE390.out) | exact HB.out)⟩
 rw [if_pos c13] at H
 have c13b0 : decide ((wrap64 ((rd t391 0) + 2)) < (t391.length : Int)) = true := decide_eq_true c13
 clear c13
 obtain ⟨ji14, hji14⟩ : ∃ j_ : Int, (wrap64 ((rd t391 0) + 2)) = j_ := ⟨_, rfl⟩
 replace H : (if 0 ≤ (ji14) then (if 1 < (t391.length : Int) then (some ((rd t391 (ji14)) == (rd t391 1))) else (none)) else (none)) = some r := by first | (rw [hji14] at H; exact H) | (simp only [hji14] at H ⊢; exact H)
 (try rw [hji14] at c13b0)
 (try rw [hji14] at A3)
 (try rw [hji14] at A4)
 (try rw [hji14] at A5)
 have hji14w : (IntKind.i64.wrap ((rd t391 0) + 2)) = ji14 := (Zbh _).trans hji14
 by_cases c15 : 0 ≤ (ji14)
 rotate_left
 ·rw [if_neg c15] at H
  exact absurd H (by simp)
 rw [if_pos c15] at H
 have c15b0 : decide (0 ≤ (ji14)) = true := decide_eq_true c15
 clear c15
 by_cases c16 : 1 < (t391.length : Int)
 rotate_left
 ·rw [if_neg c16] at H
  exact absurd H (by simp)
 rw [if_pos c16] at H
 have c16b0 : decide (1 < (t391.length : Int)) = true := decide_eq_true c16
 have c16b1 : decide (1 < t391.length) = true := decide_eq_true (by omega)
 clear c16
 obtain rfl := Option.some.inj H
 go_enter Try.func32, Try.ntmps32
 go_wp2_with (first | ((with_reducible refine Zbq (N := 2) rfl ?_); (try (refine Zcm (by rfl) ?_; dsimp only)); refine Zb9 ?hg (N := 2) ?hd (cs := #[.int .i64 a0_0, .slice A0_1 l0_1.length c0_1, .slice A0_2 l0_2.length c0_2, .int .i64 a0_3, .int .i64 a0_4, .slice A0_5 l0_5.length c0_5, .int .i64 a0_6]) (t := 25) ?hr ?_; (case hd => rfl); (case hg => rfl); (case hr => first | (go_simp; done) | (go_simp; rfl)); intro gb390 hg w17 hbox hb; have n0_ := Zaa.mk (Zam (by repeat (first | (with_reducible first | exact HB.out | apply Zab | apply Za | apply Zac) | exact HB.out)) hb); have n1_ := Zaa.mk (hbox); have n3_ := Zaa.mk ((by rw [hg]; exact (Zae (by repeat (first | (with_reducible first | exact HB.out | apply Zab | apply Za | apply Zac) | exact HB.out))) : w.heap.size ≤ gb390)); clear HB; have HB := n0_; have BK390 := n1_; have GE390 := n3_; clear n0_ n1_ n3_; clear hb hbox hg; obtain ⟨hcz18_0, hcz18_1, hcz18_2, hcz18_3, hcz18_4, hcz18_5, hcz18_6, hfz18_0, hfz18_1, hfz18_2, hfz18_3, hfz18_4, hfz18_5, hfz18_6⟩ := Zcg BK390.out) | (go_at_call 49; (refine withB (m := w.heap.size) (w0 := w) (by repeat (first | (with_reducible first | exact HB.out | apply Zab | apply Za | apply Zac | refine Zaf ?_ GE390.out) | exact HB.out)) ?_); intro hL_; (with_reducible refine (Zax.calls k _ _ l0_1 _ _ l1 t391 _ ?side1 ?side2 ?side3 ?side4 A3.out).mono ?_); (case side1 => repeat (first | exact (Kd.Za8 HR0_1.out HB.out) | (with_reducible refine Kd.C_alloc ?_ _) | (with_reducible refine Kd.Za0 ?_ _) | (with_reducible refine Kd.C_drew ?_))); (case side2 => exact HC0_1.out); (case side3 => repeat (first | exact (Kd.Za8 HR1.out HB.out) | (with_reducible refine Kd.C_alloc ?_ _) | (with_reducible refine Kd.Za0 ?_ _) | (with_reducible refine Kd.C_drew ?_))); (case side4 => exact HC1.out); rintro e w19 ⟨v392, rfl, ho0, hb⟩; have n0_ := Zaa.mk (Kd.Zbs ho0 (Zae hL_)); have n1_ := Zaa.mk (Zbe (g := gb390) (o := .cells #[.int .i64 a0_0, .slice A0_1 l0_1.length c0_1, .slice A0_2 l0_2.length c0_2, .int .i64 a0_3, .int .i64 a0_4, .slice A0_5 l0_5.length c0_5, .int .i64 a0_6] 25 (0, 0)) (mvK BK390.out) hb); have n2_ := Zaa.mk (Zam hL_ hb); clear BK390; clear HB; have HO393 := n0_; have BK390 := n1_; have HB := n2_; clear n0_ n1_ n2_; (try clear hb); (try clear hb2); (try clear hk); (try clear hi); (try clear ho0); obtain ⟨hcz20_0, hcz20_1, hcz20_2, hcz20_3, hcz20_4, hcz20_5, hcz20_6, hfz20_0, hfz20_1, hfz20_2, hfz20_3, hfz20_4, hfz20_5, hfz20_6⟩ := Zcg BK390.out) | (go_at_call 51; (with_reducible refine (Za7.calls k _ _ l0_1 _ _ l0_2 _ _ l1 t394 _ ?side1 ?side2 ?side3 ?side4 ?side5 ?side6 A4.out).mono ?_); (case side1 => repeat (first | exact (Kd.Za8 HR0_1.out HB.out) | (with_reducible refine Kd.C_alloc ?_ _) | (with_reducible refine Kd.Za0 ?_ _) | (with_reducible refine Kd.C_drew ?_))); (case side2 => exact HC0_1.out); (case side3 => repeat (first | exact (Kd.Za8 HR0_2.out HB.out) | (with_reducible refine Kd.C_alloc ?_ _) | (with_reducible refine Kd.Za0 ?_ _) | (with_reducible refine Kd.C_drew ?_))); (case side4 => exact HC0_2.out); (case side5 => repeat (first | exact (Kd.Za8 HR1.out HB.out) | (with_reducible refine Kd.C_alloc ?_ _) | (with_reducible refine Kd.Za0 ?_ _) | (with_reducible refine Kd.C_drew ?_))); (case side6 => exact HC1.out); rintro e w' ⟨rfl, ⟨nd, rfl⟩⟩; (try first | exact ⟨rfl, _, World.drewN_drewN _ _ _⟩ | exact ⟨rfl, _, Eq.trans (World.drewN_drewN _ _ _) (congrArg (World.drewN _) (Nat.add_assoc _ _ _))⟩)) | (go_at_call 50; (with_reducible refine (Zbu.calls a0_3 t394 a0_4 t395 _ A5.out).mono ?_); rintro e w' ⟨rfl, ⟨nd, rfl⟩⟩; (try first | exact ⟨rfl, _, World.drewN_drewN _ _ _⟩ | exact ⟨rfl, _, Eq.trans (World.drewN_drewN _ _ _) (congrArg (World.drewN _) (Nat.add_assoc _ _ _))⟩); obtain ⟨Ao21, co21, eo21⟩ := Kd.Zbn HO393.out; subst eo21; have p396 : 0 ≤ (0 : Int) := (by omega); have q396 : 0 < (t391.length : Int) := of_decide_eq_true (by first | (with_reducible assumption) | assumption); obtain ⟨ad396, e396, hx396_0⟩ := Kd.Zbx (Kd.Zaz HO393.out).2.2 0 p396 q396; cases e396; have qi396 : (0 < t391.length) = True := eq_true (by omega); (try rw [show ((0 : Int)).toNat = 0 from rfl] at hx396_0); (try rw [Addr.add_zero'] at hx396_0); replace p396 := eq_true p396; replace q396 := eq_true q396; have p397 : 0 ≤ (0 : Int) := (by omega); have q397 : 0 < (t391.length : Int) := of_decide_eq_true (by first | (with_reducible assumption) | assumption); obtain ⟨ad397, e397, hx397_0⟩ := Kd.Zbx (Kd.Zaz HO393.out).2.2 0 p397 q397; obtain rfl : ad396 = ad397 := (by injection e397); have qi397 : (0 < t391.length) = True := eq_true (by omega); (try rw [show ((0 : Int)).toNat = 0 from rfl] at hx397_0); (try rw [Addr.add_zero'] at hx397_0); replace p397 := eq_true p397; replace q397 := eq_true q397; have p398 : 0 ≤ (0 : Int) := (by omega); have q398 : 0 < (t391.length : Int) := of_decide_eq_true (by first | (with_reducible assumption) | assumption); obtain ⟨ad398, e398, hx398_0⟩ := Kd.Zbx (Kd.Zaz HO393.out).2.2 0 p398 q398; obtain rfl : ad396 = ad398 := (by injection e398); have qi398 : (0 < t391.length) = True := eq_true (by omega); (try rw [show ((0 : Int)).toNat = 0 from rfl] at hx398_0); (try rw [Addr.add_zero'] at hx398_0); replace p398 := eq_true p398; replace q398 := eq_true q398; have p399 : 0 ≤ ((ji14) : Int) := of_decide_eq_true (by first | (with_reducible assumption) | assumption); have q399 : (ji14) < (t391.length : Int) := of_decide_eq_true (by first | (with_reducible assumption) | assumption); obtain ⟨ad399, e399, hx399_0⟩ := Kd.Zbx (Kd.Zaz HO393.out).2.2 (ji14) p399 q399; obtain rfl : ad396 = ad399 := (by injection e399); replace p399 := eq_true p399; replace q399 := eq_true q399; have p400 : 0 ≤ (1 : Int) := (by omega); have q400 : 1 < (t391.length : Int) := of_decide_eq_true (by first | (with_reducible assumption) | assumption); obtain ⟨ad400, e400, hx400_0⟩ := Kd.Zbx (Kd.Zaz HO393.out).2.2 1 p400 q400; obtain rfl : ad396 = ad400 := (by injection e400); (try simp only [show (1 : Int).toNat = 1 from rfl, Nat.reduceMul, Nat.reduceEqDiff, Go.Addr.add, ↓reduceIte] at hx400_0); have qi400 : (1 < t391.length) = True := eq_true (by omega); (try rw [show ((1 : Int)).toNat = 1 from rfl] at hx400_0); replace p400 := eq_true p400; replace q400 := eq_true q400))
 repeat (go_quiet (first | ((with_reducible refine Zbq (N := 2) rfl ?_); (try (refine Zcm (by rfl) ?_; dsimp only)); refine Zb9 ?hg (N := 2) ?hd (cs := #[.int .i64 a0_0, .slice A0_1 l0_1.length c0_1, .slice A0_2 l0_2.length c0_2, .int .i64 a0_3, .int .i64 a0_4, .slice A0_5 l0_5.length c0_5, .int .i64 a0_6]) (t := 25) ?hr ?_; (case hd => rfl); (case hg => rfl); (case hr => first | (go_simp; done) | (go_simp; rfl)); intro gb390 hg w17 hbox hb; have n0_ := Zaa.mk (Zam (by repeat (first | (with_reducible first | exact HB.out | apply Zab | apply Za | apply Zac) | exact HB.out)) hb); have n1_ := Zaa.mk (hbox); have n3_ := Zaa.mk ((by rw [hg]; exact (Zae (by repeat (first | (with_reducible first | exact HB.out | apply Zab | apply Za | apply Zac) | exact HB.out))) : w.heap.size ≤ gb390)); clear HB; have HB := n0_; have BK390 := n1_; have GE390 := n3_; clear n0_ n1_ n3_; clear hb hbox hg; obtain ⟨hcz18_0, hcz18_1, hcz18_2, hcz18_3, hcz18_4, hcz18_5, hcz18_6, hfz18_0, hfz18_1, hfz18_2, hfz18_3, hfz18_4, hfz18_5, hfz18_6⟩ := Zcg BK390.out) | (go_at_call 49; (with_reducible refine (Zax.calls k _ _ l0_1 _ _ l1 t391 _ ?side1 ?side2 ?side3 ?side4 A3.out).mono ?_); (case side1 => repeat (first | exact (Kd.Za8 HR0_1.out HB.out) | (with_reducible refine Kd.C_alloc ?_ _) | (with_reducible refine Kd.Za0 ?_ _) | (with_reducible refine Kd.C_drew ?_))); (case side2 => exact HC0_1.out); (case side3 => repeat (first | exact (Kd.Za8 HR1.out HB.out) | (with_reducible refine Kd.C_alloc ?_ _) | (with_reducible refine Kd.Za0 ?_ _) | (with_reducible refine Kd.C_drew ?_))); (case side4 => exact HC1.out); rintro e w19 ⟨v392, rfl, ho0, hb⟩; have n0_ := Zaa.mk (Kd.Zbs ho0 (Zae (by repeat (first | (with_reducible first | exact HB.out | apply Zab | apply Za | apply Zac | refine Zaf ?_ GE390.out) | exact HB.out)))); have n1_ := Zaa.mk (Zbe (g := gb390) (o := .cells #[.int .i64 a0_0, .slice A0_1 l0_1.length c0_1, .slice A0_2 l0_2.length c0_2, .int .i64 a0_3, .int .i64 a0_4, .slice A0_5 l0_5.length c0_5, .int .i64 a0_6] 25 (0, 0)) (mvK BK390.out) hb); have n2_ := Zaa.mk (Zam (by repeat (first | (with_reducible first | exact HB.out | apply Zab | apply Za | apply Zac | refine Zaf ?_ GE390.out) | exact HB.out)) hb); clear BK390; clear HB; have HO393 := n0_; have BK390 := n1_; have HB := n2_; clear n0_ n1_ n2_; (try clear hb); (try clear hb2); (try clear hk); (try clear hi); (try clear ho0); obtain ⟨hcz20_0, hcz20_1, hcz20_2, hcz20_3, hcz20_4, hcz20_5, hcz20_6, hfz20_0, hfz20_1, hfz20_2, hfz20_3, hfz20_4, hfz20_5, hfz20_6⟩ := Zcg BK390.out) | (go_at_call 51; (with_reducible refine (Za7.calls k _ _ l0_1 _ _ l0_2 _ _ l1 t394 _ ?side1 ?side2 ?side3 ?side4 ?side5 ?side6 A4.out).mono ?_); (case side1 => repeat (first | exact (Kd.Za8 HR0_1.out HB.out) | (with_reducible refine Kd.C_alloc ?_ _) | (with_reducible refine Kd.Za0 ?_ _) | (with_reducible refine Kd.C_drew ?_))); (case side2 => exact HC0_1.out); (case side3 => repeat (first | exact (Kd.Za8 HR0_2.out HB.out) | (with_reducible refine Kd.C_alloc ?_ _) | (with_reducible refine Kd.Za0 ?_ _) | (with_reducible refine Kd.C_drew ?_))); (case side4 => exact HC0_2.out); (case side5 => repeat (first | exact (Kd.Za8 HR1.out HB.out) | (with_reducible refine Kd.C_alloc ?_ _) | (with_reducible refine Kd.Za0 ?_ _) | (with_reducible refine Kd.C_drew ?_))); (case side6 => exact HC1.out); rintro e w' ⟨rfl, ⟨nd, rfl⟩⟩; (try first | exact ⟨rfl, _, World.drewN_drewN _ _ _⟩ | exact ⟨rfl, _, Eq.trans (World.drewN_drewN _ _ _) (congrArg (World.drewN _) (Nat.add_assoc _ _ _))⟩)) | (go_at_call 50; (with_reducible refine (Zbu.calls a0_3 t394 a0_4 t395 _ A5.out).mono ?_); rintro e w' ⟨rfl, ⟨nd, rfl⟩⟩; (try first | exact ⟨rfl, _, World.drewN_drewN _ _ _⟩ | exact ⟨rfl, _, Eq.trans (World.drewN_drewN _ _ _) (congrArg (World.drewN _) (Nat.add_assoc _ _ _))⟩); obtain ⟨Ao21, co21, eo21⟩ := Kd.Zbn HO393.out; subst eo21; have p396 : 0 ≤ (0 : Int) := (by omega); have q396 : 0 < (t391.length : Int) := of_decide_eq_true (by first | (with_reducible assumption) | assumption); obtain ⟨ad396, e396, hx396_0⟩ := Kd.Zbx (Kd.Zaz HO393.out).2.2 0 p396 q396; cases e396; have qi396 : (0 < t391.length) = True := eq_true (by omega); (try rw [show ((0 : Int)).toNat = 0 from rfl] at hx396_0); (try rw [Addr.add_zero'] at hx396_0); replace p396 := eq_true p396; replace q396 := eq_true q396; have p397 : 0 ≤ (0 : Int) := (by omega); have q397 : 0 < (t391.length : Int) := of_decide_eq_true (by first | (with_reducible assumption) | assumption); obtain ⟨ad397, e397, hx397_0⟩ := Kd.Zbx (Kd.Zaz HO393.out).2.2 0 p397 q397; obtain rfl : ad396 = ad397 := (by injection e397); have qi397 : (0 < t391.length) = True := eq_true (by omega); (try rw [show ((0 : Int)).toNat = 0 from rfl] at hx397_0); (try rw [Addr.add_zero'] at hx397_0); replace p397 := eq_true p397; replace q397 := eq_true q397; have p398 : 0 ≤ (0 : Int) := (by omega); have q398 : 0 < (t391.length : Int) := of_decide_eq_true (by first | (with_reducible assumption) | assumption); obtain ⟨ad398, e398, hx398_0⟩ := Kd.Zbx (Kd.Zaz HO393.out).2.2 0 p398 q398; obtain rfl : ad396 = ad398 := (by injection e398); have qi398 : (0 < t391.length) = True := eq_true (by omega); (try rw [show ((0 : Int)).toNat = 0 from rfl] at hx398_0); (try rw [Addr.add_zero'] at hx398_0); replace p398 := eq_true p398; replace q398 := eq_true q398; have p399 : 0 ≤ ((ji14) : Int) := of_decide_eq_true (by first | (with_reducible assumption) | assumption); have q399 : (ji14) < (t391.length : Int) := of_decide_eq_true (by first | (with_reducible assumption) | assumption); obtain ⟨ad399, e399, hx399_0⟩ := Kd.Zbx (Kd.Zaz HO393.out).2.2 (ji14) p399 q399; obtain rfl : ad396 = ad399 := (by injection e399); replace p399 := eq_true p399; replace q399 := eq_true q399; have p400 : 0 ≤ (1 : Int) := (by omega); have q400 : 1 < (t391.length : Int) := of_decide_eq_true (by first | (with_reducible assumption) | assumption); obtain ⟨ad400, e400, hx400_0⟩ := Kd.Zbx (Kd.Zaz HO393.out).2.2 1 p400 q400; obtain rfl : ad396 = ad400 := (by injection e400); (try simp only [show (1 : Int).toNat = 1 from rfl, Nat.reduceMul, Nat.reduceEqDiff, Go.Addr.add, ↓reduceIte] at hx400_0); have qi400 : (1 < t391.length) = True := eq_true (by omega); (try rw [show ((1 : Int)).toNat = 1 from rfl] at hx400_0); replace p400 := eq_true p400; replace q400 := eq_true q400)); try go_wp2_with (first | ((with_reducible refine Zbq (N := 2) rfl ?_); (try (refine Zcm (by rfl) ?_; dsimp only)); refine Zb9 ?hg (N := 2) ?hd (cs := #[.int .i64 a0_0, .slice A0_1 l0_1.length c0_1, .slice A0_2 l0_2.length c0_2, .int .i64 a0_3, .int .i64 a0_4, .slice A0_5 l0_5.length c0_5, .int .i64 a0_6]) (t := 25) ?hr ?_; (case hd => rfl); (case hg => rfl); (case hr => first | (go_simp; done) | (go_simp; rfl)); intro gb390 hg w17 hbox hb; have n0_ := Zaa.mk (Zam (by repeat (first | (with_reducible first | exact HB.out | apply Zab | apply Za | apply Zac) | exact HB.out)) hb); have n1_ := Zaa.mk (hbox); have n3_ := Zaa.mk ((by rw [hg]; exact (Zae (by repeat (first | (with_reducible first | exact HB.out | apply Zab | apply Za | apply Zac) | exact HB.out))) : w.heap.size ≤ gb390)); clear HB; have HB := n0_; have BK390 := n1_; have GE390 := n3_; clear n0_ n1_ n3_; clear hb hbox hg; obtain ⟨hcz18_0, hcz18_1, hcz18_2, hcz18_3, hcz18_4, hcz18_5, hcz18_6, hfz18_0, hfz18_1, hfz18_2, hfz18_3, hfz18_4, hfz18_5, hfz18_6⟩ := Zcg BK390.out) | (go_at_call 49; (refine withB (m := w.heap.size) (w0 := w) (by repeat (first | (with_reducible first | exact HB.out | apply Zab | apply Za | apply Zac | refine Zaf ?_ GE390.out) | exact HB.out)) ?_); intro hL_; (with_reducible refine (Zax.calls k _ _ l0_1 _ _ l1 t391 _ ?side1 ?side2 ?side3 ?side4 A3.out).mono ?_); (case side1 => repeat (first | exact (Kd.Za8 HR0_1.out HB.out) | (with_reducible refine Kd.C_alloc ?_ _) | (with_reducible refine Kd.Za0 ?_ _) | (with_reducible refine Kd.C_drew ?_))); (case side2 => exact HC0_1.out); (case side3 => repeat (first | exact (Kd.Za8 HR1.out HB.out) | (with_reducible refine Kd.C_alloc ?_ _) | (with_reducible refine Kd.Za0 ?_ _) | (with_reducible refine Kd.C_drew ?_))); (case side4 => exact HC1.out); rintro e w19 ⟨v392, rfl, ho0, hb⟩; have n0_ := Zaa.mk (Kd.Zbs ho0 (Zae hL_)); have n1_ := Zaa.mk (Zbe (g := gb390) (o := .cells #[.int .i64 a0_0, .slice A0_1 l0_1.length c0_1, .slice A0_2 l0_2.length c0_2, .int .i64 a0_3, .int .i64 a0_4, .slice A0_5 l0_5.length c0_5, .int .i64 a0_6] 25 (0, 0)) (mvK BK390.out) hb); have n2_ := Zaa.mk (Zam hL_ hb); clear BK390; clear HB; have HO393 := n0_; have BK390 := n1_; have HB := n2_; clear n0_ n1_ n2_; (try clear hb); (try clear hb2); (try clear hk); (try clear hi); (try clear ho0); obtain ⟨hcz20_0, hcz20_1, hcz20_2, hcz20_3, hcz20_4, hcz20_5, hcz20_6, hfz20_0, hfz20_1, hfz20_2, hfz20_3, hfz20_4, hfz20_5, hfz20_6⟩ := Zcg BK390.out) | (go_at_call 51; (with_reducible refine (Za7.calls k _ _ l0_1 _ _ l0_2 _ _ l1 t394 _ ?side1 ?side2 ?side3 ?side4 ?side5 ?side6 A4.out).mono ?_); (case side1 => repeat (first | exact (Kd.Za8 HR0_1.out HB.out) | (with_reducible refine Kd.C_alloc ?_ _) | (with_reducible refine Kd.Za0 ?_ _) | (with_reducible refine Kd.C_drew ?_))); (case side2 => exact HC0_1.out); (case side3 => repeat (first | exact (Kd.Za8 HR0_2.out HB.out) | (with_reducible refine Kd.C_alloc ?_ _) | (with_reducible refine Kd.Za0 ?_ _) | (with_reducible refine Kd.C_drew ?_))); (case side4 => exact HC0_2.out); (case side5 => repeat (first | exact (Kd.Za8 HR1.out HB.out) | (with_reducible refine Kd.C_alloc ?_ _) | (with_reducible refine Kd.Za0 ?_ _) | (with_reducible refine Kd.C_drew ?_))); (case side6 => exact HC1.out); rintro e w' ⟨rfl, ⟨nd, rfl⟩⟩; (try first | exact ⟨rfl, _, World.drewN_drewN _ _ _⟩ | exact ⟨rfl, _, Eq.trans (World.drewN_drewN _ _ _) (congrArg (World.drewN _) (Nat.add_assoc _ _ _))⟩)) | (go_at_call 50; (with_reducible refine (Zbu.calls a0_3 t394 a0_4 t395 _ A5.out).mono ?_); rintro e w' ⟨rfl, ⟨nd, rfl⟩⟩; (try first | exact ⟨rfl, _, World.drewN_drewN _ _ _⟩ | exact ⟨rfl, _, Eq.trans (World.drewN_drewN _ _ _) (congrArg (World.drewN _) (Nat.add_assoc _ _ _))⟩); obtain ⟨Ao21, co21, eo21⟩ := Kd.Zbn HO393.out; subst eo21; have p396 : 0 ≤ (0 : Int) := (by omega); have q396 : 0 < (t391.length : Int) := of_decide_eq_true (by first | (with_reducible assumption) | assumption); obtain ⟨ad396, e396, hx396_0⟩ := Kd.Zbx (Kd.Zaz HO393.out).2.2 0 p396 q396; cases e396; have qi396 : (0 < t391.length) = True := eq_true (by omega); (try rw [show ((0 : Int)).toNat = 0 from rfl] at hx396_0); (try rw [Addr.add_zero'] at hx396_0); replace p396 := eq_true p396; replace q396 := eq_true q396; have p397 : 0 ≤ (0 : Int) := (by omega); have q397 : 0 < (t391.length : Int) := of_decide_eq_true (by first | (with_reducible assumption) | assumption); obtain ⟨ad397, e397, hx397_0⟩ := Kd.Zbx (Kd.Zaz HO393.out).2.2 0 p397 q397; obtain rfl : ad396 = ad397 := (by injection e397); have qi397 : (0 < t391.length) = True := eq_true (by omega); (try rw [show ((0 : Int)).toNat = 0 from rfl] at hx397_0); (try rw [Addr.add_zero'] at hx397_0); replace p397 := eq_true p397; replace q397 := eq_true q397; have p398 : 0 ≤ (0 : Int) := (by omega); have q398 : 0 < (t391.length : Int) := of_decide_eq_true (by first | (with_reducible assumption) | assumption); obtain ⟨ad398, e398, hx398_0⟩ := Kd.Zbx (Kd.Zaz HO393.out).2.2 0 p398 q398; obtain rfl : ad396 = ad398 := (by injection e398); have qi398 : (0 < t391.length) = True := eq_true (by omega); (try rw [show ((0 : Int)).toNat = 0 from rfl] at hx398_0); (try rw [Addr.add_zero'] at hx398_0); replace p398 := eq_true p398; replace q398 := eq_true q398; have p399 : 0 ≤ ((ji14) : Int) := of_decide_eq_true (by first | (with_reducible assumption) | assumption); have q399 : (ji14) < (t391.length : Int) := of_decide_eq_true (by first | (with_reducible assumption) | assumption); obtain ⟨ad399, e399, hx399_0⟩ := Kd.Zbx (Kd.Zaz HO393.out).2.2 (ji14) p399 q399; obtain rfl : ad396 = ad399 := (by injection e399); replace p399 := eq_true p399; replace q399 := eq_true q399; have p400 : 0 ≤ (1 : Int) := (by omega); have q400 : 1 < (t391.length : Int) := of_decide_eq_true (by first | (with_reducible assumption) | assumption); obtain ⟨ad400, e400, hx400_0⟩ := Kd.Zbx (Kd.Zaz HO393.out).2.2 1 p400 q400; obtain rfl : ad396 = ad400 := (by injection e400); (try simp only [show (1 : Int).toNat = 1 from rfl, Nat.reduceMul, Nat.reduceEqDiff, Go.Addr.add, ↓reduceIte] at hx400_0); have qi400 : (1 < t391.length) = True := eq_true (by omega); (try rw [show ((1 : Int)).toNat = 1 from rfl] at hx400_0); replace p400 := eq_true p400; replace q400 := eq_true q400)))
 go_ret
 exact ⟨by first | rfl | (simp [Za1, Za2] <;> rfl) | (simp only [← hji14]; first | rfl | (simp [Za1, Za2] <;> rfl)) | (simp [*, Za1, Za2] <;> rfl), by repeat (first | (with_reducible first | exact HB.out | apply Zab | apply Za | apply Zac | refine Zaf ?_ GE390.out) | exact HB.out)⟩
end Go.Proofs.Ytpbcigilipdedaa.P
/- Plain: values of variables; what a sum comes to. -/
namespace Go.Proofs.Ytpbcigilipdedaa.P
open Go.RowKit Go.Proofs.YtpbcigilipdedaaW.PrintWords Go.Proofs.YtpbcigilipdedaaW.PrintLast Go.Proofs.YtpbcigilipdedaaW.PrintMore
set_option linter.unusedVariables false
set_option linter.unusedSimpArgs false
def at0 (a : List Int) (v : Int) : Int := if v < 0 then 0 else rd a v
theorem at_f (a : List Int) (v : Int) : Zcn.f a v = some (at0 a v) := by
  unfold Zcn.f at0
  by_cases h : v < 0
  · rw [if_pos h, if_pos h]
  rw [if_neg h, if_neg h]
  by_cases h2 : v ≥ (a.length : Int)
  rotate_left
  · rw [if_neg h2, if_pos (by omega), if_pos (by omega)]
  rw [if_pos h2]
  have : rd a v = 0 := by
    unfold rd
    rw [List.getD_eq_getElem?_getD, List.getElem?_eq_none (by omega)]
    rfl
  rw [this]
theorem picked_l0 (vars a : List Int) (hv : vars.length < 17592186044416) : ∀ (m n : Nat), n + m = vars.length → Ev (fun k => Zax.l0 k vars a ((vars.take n).map (at0 a)) (n : Int)) (vars.map (at0 a)) := by
  intro m
  induction m with
  | zero =>
    intro n h
    rw [List.take_of_length_le (by omega)]
    exact Ev.step (fun k => by rw [Zax.l0, if_neg (by omega)]) (Ev.pure _)
  | succ m ih =>
    intro n h
    have hn : n < vars.length := by omega
    have hstep := ih (n + 1) (by omega)
    rw [List.take_succ_eq_append_getElem hn, List.map_append] at hstep
    refine Ev.step (fun k => by rw [Zax.l0, if_pos (by omega), if_pos (by omega), Zcw vars n hn, at_f, Option.bind_some, if_pos (by rw [List.length_map, List.length_take]; omega), w1 (by omega)]; rfl) hstep
theorem picked_ev (vars a : List Int) (hv : vars.length < 17592186044416) : Ev (fun k => Zax.f k vars a) (vars.map (at0 a)) := picked_l0 vars a hv vars.length 0 (by omega)
theorem sum_nil (vars a : List Int) : Ev (fun k => Za7.f k vars [] a) 0 := by
  unfold Za7.f
  by_cases h : (0 : Int) < (vars.length : Int)
  rotate_left
  · exact Ev.step (fun k => by rw [Za7.l0, if_neg h]) (Ev.pure _)
  exact Ev.step (fun k => by rw [Za7.l0, if_pos h, if_neg (show ¬ ((0 : Int) < (([] : List Int).length : Int)) from Int.lt_irrefl 0)]) (Ev.pure _)
theorem held_some (op s rhs : Int) : ∃ b, Zbu.f op s rhs = some b := by
  unfold Zbu.f
  split
  · exact ⟨_, rfl⟩
  exact ⟨_, rfl⟩
end Go.Proofs.Ytpbcigilipdedaa.P
/- secateurref06.Holds at an element's constraint (Pf of Holds printed with KEEP3.tsv or KEEP4.tsv). -/
namespace Go.Proofs.Ytpbcigilipdedaa.P
open Go.RowKit Go.Proofs.YtpbcigilipdedaaW.PrintWords Go.Proofs.YtpbcigilipdedaaW.PrintLast Go.Proofs.YtpbcigilipdedaaW.PrintMore
set_option linter.unusedVariables false
set_option linter.unusedSimpArgs false
def elemB (i r : Int) (l : List Int) : Bool := decide (0 ≤ i) && decide (i < (l.length : Int)) && decide (l.getD i.toNat 0 = r)
theorem holdsE_ev (ix rs : Int) (list : List Int) (op rhs : Int) (rows : List (List Int)) (b : Int) (a : List Int) (hl : list.length < 1000000) (hi : at0 a ix ≤ 4611686018427387904) :
    Ev (fun k => Zbp.f k 3 (ix :: rs :: list) [] op rhs rows b a) (elemB (at0 a ix) (at0 a rs) (list.map (at0 a))) := by
  obtain ⟨hb, hh⟩ := held_some op 0 rhs
  have hp := picked_ev (ix :: rs :: list) a (by simp only [List.length_cons]; omega)
  rw [List.map_cons, List.map_cons] at hp
  generalize at0 a ix = i at hp hi ⊢
  generalize at0 a rs = r at hp ⊢
  generalize hL : list.map (at0 a) = l at hp ⊢
  have hll : l.length < 1000000 := by rw [← hL, List.length_map]; exact hl
  have hlen : ((i :: r :: l).length : Int) = (l.length : Int) + 2 := by simp only [List.length_cons]; omega
  have e0 : Go.Proofs.YtpbcigilipdedaaW.PrintWords.rd (i :: r :: l) 0 = i := rfl
  have e1 : Go.Proofs.YtpbcigilipdedaaW.PrintWords.rd (i :: r :: l) 1 = r := rfl
  unfold Zbp.f
  refine Ev.bind hp (Ev.bind (sum_nil _ _) (Ev.bind (Ev.const hh) ?_))
  refine Ev.Zc4 (by decide) (Ev.Zc4 (by decide) (Ev.Zc4 (by decide) (Ev.Zcf rfl ?_)))
  refine Ev.Zcf (by omega) ?_
  refine Ev.Zcf (by omega) ?_
  rw [e0, e1]
  by_cases h0 : i ≥ 0
  rotate_left
  · refine Ev.Zc4 h0 (Ev.const ?_)
    unfold elemB
    rw [decide_eq_false (show ¬ 0 ≤ i by omega)]
    rfl
  refine Ev.Zcf h0 ?_
  obtain ⟨n, rfl⟩ := Int.eq_ofNat_of_zero_le h0
  have hw := Zaa.mk (show wrap64 ((n : Int) + 2) = ((n + 2 : Nat) : Int) from by rw [w64 (by omega) (by omega)]; omega)
  simp only [hw.out]
  by_cases h1 : n < l.length
  rotate_left
  · refine Ev.Zc4 (by omega) (Ev.const ?_)
    unfold elemB
    rw [decide_eq_false (show ¬ (n : Int) < (l.length : Int) by omega)]
    simp
  refine Ev.Zcf (by omega) (Ev.Zcf (Int.natCast_nonneg _) (Ev.Zcf (by omega) (Ev.const ?_)))
  rw [Zcw _ (n + 2) (by simp only [List.length_cons]; omega)]
  have e : ((n : Int) :: r :: l)[n + 2]'(by simp only [List.length_cons]; omega) = l[n] := rfl
  rw [e]
  unfold elemB
  rw [decide_eq_true (show (0 : Int) ≤ (n : Int) by omega), decide_eq_true (show (n : Int) < (l.length : Int) by omega), Int.toNat_natCast, List.getD_eq_getElem?_getD, List.getElem?_eq_getElem h1]
  simp only [Bool.true_and, Option.getD_some]
  congr 1
end Go.Proofs.Ytpbcigilipdedaa.P
namespace Go.Proofs.Ytpbcigilipdedaa.P
open Go.RowKit Go.Proofs.YtpbcigilipdedaaW.PrintWords Go.Proofs.YtpbcigilipdedaaW.PrintLast Go.Proofs.YtpbcigilipdedaaW.PrintMore
attribute [local go_sem] Zcz Zc1 Zde Zdf Zct Zcu Zc0 Zc2
set_option linter.unusedVariables false
set_option linter.unusedSimpArgs false
def Zay.l0 : Nat → List (List (S41)) → List Int → List Int → Int → Option (List Int × Bool)
 | 0, _, _, _, _ => none
 | k + 1, x0, x1, x6, x7 => if x7 < (x0.length : Int) then (if 0 ≤ x7 then ((Zan.f k (Zdb x0 x7)).bind fun t698 => (if (t698.length : Int) = 0 then (some ((([] : List Int)), false)) else (if x7 < (x1.length : Int) then (if 0 ≤ (Int.tmod (Go.bits .and .i64 (rd x1 x7) 65535) (t698.length : Int)) then (if (Int.tmod (Go.bits .and .i64 (rd x1 x7) 65535) (t698.length : Int)) < (t698.length : Int) then (if x6.length < 17592186044416 then (Zay.l0 k x0 x1 (x6 ++ [rd t698 (Int.tmod (Go.bits .and .i64 (rd x1 x7) 65535) (t698.length : Int))]) (wrap64 (x7 + 1))) else (none)) else (none)) else (none)) else (if 0 ≤ (Int.tmod x7 (t698.length : Int)) then (if (Int.tmod x7 (t698.length : Int)) < (t698.length : Int) then (if x6.length < 17592186044416 then (Zay.l0 k x0 x1 (x6 ++ [rd t698 (Int.tmod x7 (t698.length : Int))]) (wrap64 (x7 + 1))) else (none)) else (none)) else (none))))) else (none)) else (some (x6, true))
def Zay.f (k : Nat) (l0 : List (List (S41))) (l1 : List Int) : Option (List Int × Bool) := Zay.l0 k l0 l1 (([] : List Int)) 0
theorem Zay.Zb4 : ∀ k, (∀ y0 y1 y2 y3, LeO (Zay.l0 k y0 y1 y2 y3) (Zay.l0 (k + 1) y0 y1 y2 y3))
 | 0 => fun _ _ _ _ r h => by simp [Zay.l0] at h
 | k + 1 => by
  have ih0 := Zay.Zb4 k
  intro y0 y1 y2 y3
  unfold Zay.l0
  repeat' first
  | (with_reducible exact ih0 _ _ _ _)
  | (with_reducible exact Zan.mono _ _)
  | (with_reducible exact LeO.refl _)
  | (with_reducible exact LeO.none _)
  | (with_reducible refine LeO.ite ?_ ?_)
  | (with_reducible refine LeO.bind ?_ (fun _ => ?_))
  | exact ih0 _ _ _ _
  | exact Zan.mono _ _
  | exact LeO.none _
  | refine LeO.ite ?_ ?_
  | refine LeO.bind ?_ (fun _ => ?_)
theorem Zay.mono : ∀ a0 a1 k, LeO (Zay.f k a0 a1) (Zay.f (k + 1) a0 a1) := by
 intro a0 a1 k
 have ih0 := Zay.Zb4 k
 unfold Zay.f
 repeat' first
   | (with_reducible exact ih0 _ _ _ _)
   | (with_reducible exact Zan.mono _ _)
   | (with_reducible exact LeO.refl _)
   | (with_reducible exact LeO.none _)
   | (with_reducible refine LeO.ite ?_ ?_)
   | (with_reducible refine LeO.bind ?_ (fun _ => ?_))
   | exact ih0 _ _ _ _
   | exact Zan.mono _ _
   | exact LeO.none _
   | refine LeO.ite ?_ ?_
   | refine LeO.bind ?_ (fun _ => ?_)
set_option maxHeartbeats 8000000 in
set_option maxRecDepth 100000 in
theorem Zay.calls (k : Nat) (A0 : Option Addr) (c0 : Nat) (l0 : List (List (S41))) (A1 : Option Addr) (c1 : Nat) (l1 : List Int) (r1 : List Int) (r2 : Bool) (w : World) (hr0 : Kd.C (Kd.slice 41 k41) w A0 l0.length l0) (hc0 : l0.length ≤ c0) (hr1 : Kd.C (Kd.int .i64) w A1 l1.length l1) (hc1 : l1.length ≤ c1) (h : Zay.f k l0 l1 = some (r1, r2)) :
  Calls Try.prog 30 #[.slice A0 l0.length c0, .slice A1 l1.length c1] w fun e w' => ∃ v0_ : Value, e = .returned (.tuple #[v0_, .bool r2]) ∧ Kd.R (Kd.int .i64) 3 w' w.heap.size (fun _ => True) v0_ r1 ∧ Below w.heap.size w w' := by
 have HR0 := Zaa.mk hr0
 have HC0 := Zaa.mk hc0
 clear hr0 hc0
 have HR1 := Zaa.mk hr1
 have HC1 := Zaa.mk hc1
 clear hr1 hc1
 have HB := Zaa.mk (Below.refl w.heap.size w)
 have H : (Zay.l0 k l0 l1 (([] : List Int)) 0) = some (r1, r2) := h
 clear h
 obtain ⟨y694, hy694⟩ : ∃ y_ : List Int, y_ = (([] : List Int)) := ⟨_, rfl⟩
 replace H : (Zay.l0 k l0 l1 y694 0) = some (r1, r2) := by first | (rw [hy694]; with_reducible exact H) | (have H2_ := (Option.bind_some _ _).symm.trans H; rw [hy694]; with_reducible exact H2_) | (have H2_ := (Option.bind_some _ _).symm.trans H; with_reducible exact H2_) | with_reducible exact H | (rw [hy694]; exact H) | exact H
 have Ny694 := Zaa.mk hy694
 clear hy694
 have H' := Zaa.mk H
 clear H
 go_enter Try.func30, Try.ntmps30
 go_wp2_with (first | ((with_reducible refine Zbq (N := 10) rfl ?_); refine Kd.Zds (Kd.int .i64) _ 3 ?hg (N := 10) ?hd (xs := ([] : List Int)) (inner := []) (ok := fun _ => True) (okp := fun _ => True) ?hr ?hp (fun _ hk => hk) trivial (Below.refl _ _) (Nat.le_refl _) (by simp) ?_; (case hd => rfl); (case hg => rfl); (case hr => first | (go_simp; done) | (go_simp; rfl)); (case hp => exact (Reps.none _ _)); intro v695 w3 ho4 hb hg_ hnew_; clear hg_ hnew_; (first | rw [← Ny694.out] at ho4 | (simp only [Int.reduceToNat] at ho4; rw [← Ny694.out] at ho4)); have n0_ := Zaa.mk (Kd.Zbs ho4 (Zae (by repeat (first | (with_reducible first | exact HB.out | apply Zab | apply Za | apply Zac) | exact HB.out)))); have n1_ := Zaa.mk (Zam (by repeat (first | (with_reducible first | exact HB.out | apply Zab | apply Za | apply Zac) | exact HB.out)) hb); clear HB; have HO696 := n0_; have HB := n1_; clear n0_ n1_; clear hb ho4))
 go_loopg [6, 7] k (fun kq v6 v7 w' => ∃ (x6_1 : List Int) (x7_1 : Int), v7 = .int .i64 x7_1 ∧ Zaa (Zay.l0 kq l0 l1 x6_1 x7_1 = some (r1, r2)) ∧ Zaa (kq ≤ k) ∧ Zaa (Kd.R (Kd.int .i64) 3 w' w.heap.size (fun _ => True) v6 x6_1) ∧ Zaa (Below w.heap.size w w'))
 case atStart => exact ⟨(y694), (0), (by first | rfl | (simp; done) | (simp [*]; done)), H', ⟨Nat.le_refl _⟩, ⟨by (with_reducible repeat (first | apply Kd.Za6 | apply Kd.Za5 | apply Kd.Zbb)); exact HO696.out⟩, ⟨by repeat (first | (with_reducible first | exact HB.out | apply Zab | apply Za | apply Zac) | exact HB.out)⟩⟩
 case round =>
  clear H'
  try clear c1
  try clear p2
  try clear c3
  obtain ⟨x6_1, x7_1, rfl, HA, HK1, HO_6, HB⟩ := hrel
  cases gk with
  | zero => exact absurd HA.out (by simp [Zay.l0])
  | succ k1 =>
   have H := HA.out
   clear HA
   simp only [Zay.l0] at H
   by_cases c5 : x7_1 < (l0.length : Int)
   rotate_left
   ·rw [if_neg c5] at H
    have c5b0 : decide (x7_1 < (l0.length : Int)) = false := decide_eq_false c5
    clear c5
    simp only [Option.some.injEq, Prod.mk.injEq] at H
    obtain ⟨rfl, rfl⟩ := H
    go_wp2
    go_ret2
    exact ⟨_, by first | rfl | (simp [Za1, Za2] <;> rfl) | (simp [*, Za1, Za2] <;> rfl), by (with_reducible repeat (first | apply Kd.Za6 | apply Kd.Za5 | apply Kd.Zbb)); exact HO_6.out, by repeat (first | (with_reducible first | exact HB.out | apply Zab | apply Za | apply Zac) | exact HB.out)⟩
   rw [if_pos c5] at H
   have c5b0 : decide (x7_1 < (l0.length : Int)) = true := decide_eq_true c5
   clear c5
   by_cases c6 : 0 ≤ x7_1
   rotate_left
   ·rw [if_neg c6] at H
    exact absurd H (by simp)
   rw [if_pos c6] at H
   have c6b0 : decide (0 ≤ x7_1) = true := decide_eq_true c6
   clear c6
   replace H := Option.bind_eq_some_iff.mp H
   obtain ⟨t698, A70, H⟩ := H
   replace H : (if (t698.length : Int) = 0 then (some ((([] : List Int)), false)) else (if x7_1 < (l1.length : Int) then (if 0 ≤ (Int.tmod (Go.bits .and .i64 (rd l1 x7_1) 65535) (t698.length : Int)) then (if (Int.tmod (Go.bits .and .i64 (rd l1 x7_1) 65535) (t698.length : Int)) < (t698.length : Int) then (if x6_1.length < 17592186044416 then (Zay.l0 k1 l0 l1 (x6_1 ++ [rd t698 (Int.tmod (Go.bits .and .i64 (rd l1 x7_1) 65535) (t698.length : Int))]) (wrap64 (x7_1 + 1))) else (none)) else (none)) else (none)) else (if 0 ≤ (Int.tmod x7_1 (t698.length : Int)) then (if (Int.tmod x7_1 (t698.length : Int)) < (t698.length : Int) then (if x6_1.length < 17592186044416 then (Zay.l0 k1 l0 l1 (x6_1 ++ [rd t698 (Int.tmod x7_1 (t698.length : Int))]) (wrap64 (x7_1 + 1))) else (none)) else (none)) else (none)))) = some (r1, r2) := H
   have A7 := Zaa.mk A70
   clear A70
   by_cases c8 : (t698.length : Int) = 0
   ·rw [if_pos c8] at H
    have c8b0 : ((t698.length : Int) == 0) = true := beq_iff_eq.mpr c8
    have c8b1 : ((t698.length : Int) != 0) = false := bne_eq_false_iff_eq.mpr c8
    clear c8
    obtain ⟨y701, hy701⟩ : ∃ y_ : List Int, y_ = (([] : List Int)) := ⟨_, rfl⟩
    replace H : (some (y701, false)) = some (r1, r2) := by first | (rw [hy701]; with_reducible exact H) | (have H2_ := (Option.bind_some _ _).symm.trans H; rw [hy701]; with_reducible exact H2_) | (have H2_ := (Option.bind_some _ _).symm.trans H; with_reducible exact H2_) | with_reducible exact H | (rw [hy701]; exact H) | exact H
    have Ny701 := Zaa.mk hy701
    clear hy701
    simp only [Option.some.injEq, Prod.mk.injEq] at H
    obtain ⟨rfl, rfl⟩ := H
    have p697 : 0 ≤ (x7_1 : Int) := of_decide_eq_true (by first | (with_reducible assumption) | assumption)
    have q697 : x7_1 < (l0.length : Int) := of_decide_eq_true (by first | (with_reducible assumption) | assumption)
    obtain ⟨ad697, A697_0, c697_0, e697, hx697_0, hl697_0, hi697_0⟩ := Zfu HR0.out x7_1 p697 q697
    cases e697
    replace hx697_0 := (HB.out.cell (World.block_lt_of_cell? w _ hx697_0)).trans hx697_0
    have HR697_0 := Zaa.mk hi697_0
    have HC697_0 := Zaa.mk hl697_0
    clear hi697_0 hl697_0
    replace p697 := eq_true p697
    replace q697 := eq_true q697
    go_wp2_with (first | ((with_reducible refine Zbo (f := 29) rfl ?_); refine Zcr (some 21) rfl rfl Try.func29 (by kernel_rfl) rfl #[.slice A697_0 (Zdb l0 x7_1).length c697_0] rfl (by (try simp only [List.map_toArray, List.map_cons, List.map_nil]); first | done | rfl | (simp only [List.length_drop, List.length_take]; rfl)) ?_; (refine withB (m := w.heap.size) (w0 := w) (by repeat (first | (with_reducible first | exact HB.out | apply Zab | apply Za | apply Zac) | exact HB.out)) ?_); intro hL_; (with_reducible refine (Zan.calls k1 _ _ (Zdb l0 x7_1) t698 _ ?side1 ?side2 A7.out).mono ?_); (case side1 => repeat (first | exact (Kd.Za8 HR697_0.out HB.out) | (with_reducible refine Kd.C_alloc ?_ _) | (with_reducible refine Kd.Za0 ?_ _) | (with_reducible refine Kd.C_drew ?_))); (case side2 => exact HC697_0.out); rintro e w9 ⟨v699, rfl, ho0, hb⟩; refine ⟨_, rfl, ?_⟩; have n0_ := Zaa.mk (Kd.Zck (mvR HO_6.out) (Kd.Zb6 ho0) hb); have n1_ := Zaa.mk (Kd.Zbs (Kd.Zc3 ho0 (Kd.R_lt (mvR HO_6.out))) (Zae hL_)); have n2_ := Zaa.mk (Zam hL_ hb); clear HO_6; clear HB; have HO_6 := n0_; have HO700 := n1_; have HB := n2_; clear n0_ n1_ n2_; (try clear hb); (try clear hb2); (try clear hk); (try clear hi); (try clear ho0); obtain ⟨Ao10, co10, eo10⟩ := Kd.Zbn HO700.out; subst eo10) | ((with_reducible refine Zbq (N := 25) rfl ?_); refine Kd.Zds (Kd.int .i64) _ 3 ?hg (N := 25) ?hd (xs := ([] : List Int)) (inner := []) (ok := fun _ => True) (okp := fun _ => True) ?hr ?hp (fun _ hk => hk) trivial (Below.refl _ _) (Nat.le_refl _) (by simp) ?_; (case hd => rfl); (case hg => rfl); (case hr => first | (go_simp; done) | (go_simp; rfl)); (case hp => exact (Reps.none _ _)); intro v702 w11 ho12 hb hg_ hnew_; clear hg_ hnew_; (first | rw [← Ny701.out] at ho12 | (simp only [Int.reduceToNat] at ho12; rw [← Ny701.out] at ho12)); have n2_ := Zaa.mk (Kd.Zbs (Kd.Zc3 (Kd.Zc3 ho12 (Kd.R_lt (mvR HO_6.out))) (Kd.R_lt (mvR HO700.out))) (Zae (by repeat (first | (with_reducible first | exact HB.out | apply Zab | apply Za | apply Zac) | exact HB.out)))); have n3_ := Zaa.mk (Zam (by repeat (first | (with_reducible first | exact HB.out | apply Zab | apply Za | apply Zac) | exact HB.out)) hb); clear HO_6; clear HO700; clear HB; have HO703 := n2_; have HB := n3_; clear n2_ n3_; clear hb ho12))
    go_ret2
    exact ⟨_, by first | rfl | (simp [Za1, Za2] <;> rfl) | (simp [*, Za1, Za2] <;> rfl), by (with_reducible repeat (first | apply Kd.Za6 | apply Kd.Za5 | apply Kd.Zbb)); exact Kd.Zbm HO703.out (fun _ hk => trivial), by repeat (first | (with_reducible first | exact HB.out | apply Zab | apply Za | apply Zac) | exact HB.out)⟩
   rw [if_neg c8] at H
   have c8b0 : ((t698.length : Int) == 0) = false := beq_eq_false_iff_ne.mpr c8
   have c8b1 : ((t698.length : Int) != 0) = true := bne_iff_ne.mpr c8
   have c8b2 : ¬ (t698 = []) := fun h_ => c8 (by rw [h_]; rfl)
   by_cases c13 : x7_1 < (l1.length : Int)
   rotate_left
   ·rw [if_neg c13] at H
    have c13b0 : decide (x7_1 < (l1.length : Int)) = false := decide_eq_false c13
    clear c13
    obtain ⟨ji21, hji21⟩ : ∃ j_ : Int, (Int.tmod x7_1 (t698.length : Int)) = j_ := ⟨_, rfl⟩
    replace H : (if 0 ≤ (ji21) then (if (ji21) < (t698.length : Int) then (if x6_1.length < 17592186044416 then (Zay.l0 k1 l0 l1 (x6_1 ++ [rd t698 (ji21)]) (wrap64 (x7_1 + 1))) else (none)) else (none)) else (none)) = some (r1, r2) := by first | (rw [hji21] at H; exact H) | (simp only [hji21] at H ⊢; exact H)
    (try rw [hji21] at A7)
    by_cases c22 : 0 ≤ (ji21)
    rotate_left
    ·rw [if_neg c22] at H
     exact absurd H (by simp)
    rw [if_pos c22] at H
    have c22b0 : decide (0 ≤ (ji21)) = true := decide_eq_true c22
    clear c22
    by_cases c23 : (ji21) < (t698.length : Int)
    rotate_left
    ·rw [if_neg c23] at H
     exact absurd H (by simp)
    rw [if_pos c23] at H
    have c23b0 : decide ((ji21) < (t698.length : Int)) = true := decide_eq_true c23
    clear c23
    by_cases c24 : x6_1.length < 17592186044416
    rotate_left
    ·rw [if_neg c24] at H
     exact absurd H (by simp)
    rw [if_pos c24] at H
    have LMc24 := Zaa.mk c24
    clear c24
    obtain ⟨y710, hy710⟩ : ∃ y_ : List Int, y_ = (x6_1 ++ [rd t698 (ji21)]) := ⟨_, rfl⟩
    replace H : (Zay.l0 k1 l0 l1 y710 (wrap64 (x7_1 + 1))) = some (r1, r2) := by first | (rw [hy710]; with_reducible exact H) | (have H2_ := (Option.bind_some _ _).symm.trans H; rw [hy710]; with_reducible exact H2_) | (have H2_ := (Option.bind_some _ _).symm.trans H; with_reducible exact H2_) | with_reducible exact H | (rw [hy710]; exact H) | exact H
    have Ny710 := Zaa.mk hy710
    clear hy710
    have H' := Zaa.mk H
    clear H
    have p697 : 0 ≤ (x7_1 : Int) := of_decide_eq_true (by first | (with_reducible assumption) | assumption)
    have q697 : x7_1 < (l0.length : Int) := of_decide_eq_true (by first | (with_reducible assumption) | assumption)
    obtain ⟨ad697, A697_0, c697_0, e697, hx697_0, hl697_0, hi697_0⟩ := Zfu HR0.out x7_1 p697 q697
    cases e697
    replace hx697_0 := (HB.out.cell (World.block_lt_of_cell? w _ hx697_0)).trans hx697_0
    have HR697_0 := Zaa.mk hi697_0
    have HC697_0 := Zaa.mk hl697_0
    clear hi697_0 hl697_0
    replace p697 := eq_true p697
    replace q697 := eq_true q697
    go_wp2_with (first | ((with_reducible refine Zbo (f := 29) rfl ?_); refine Zcr (some 21) rfl rfl Try.func29 (by kernel_rfl) rfl #[.slice A697_0 (Zdb l0 x7_1).length c697_0] rfl (by (try simp only [List.map_toArray, List.map_cons, List.map_nil]); first | done | rfl | (simp only [List.length_drop, List.length_take]; rfl)) ?_; (refine withB (m := w.heap.size) (w0 := w) (by repeat (first | (with_reducible first | exact HB.out | apply Zab | apply Za | apply Zac) | exact HB.out)) ?_); intro hL_; (with_reducible refine (Zan.calls k1 _ _ (Zdb l0 x7_1) t698 _ ?side1 ?side2 A7.out).mono ?_); (case side1 => repeat (first | exact (Kd.Za8 HR697_0.out HB.out) | (with_reducible refine Kd.C_alloc ?_ _) | (with_reducible refine Kd.Za0 ?_ _) | (with_reducible refine Kd.C_drew ?_))); (case side2 => exact HC697_0.out); rintro e w25 ⟨v699, rfl, ho0, hb⟩; refine ⟨_, rfl, ?_⟩; have n0_ := Zaa.mk (Kd.Zck (mvR HO_6.out) (Kd.Zb6 ho0) hb); have n1_ := Zaa.mk (Kd.Zbs (Kd.Zc3 ho0 (Kd.R_lt (mvR HO_6.out))) (Zae hL_)); have n2_ := Zaa.mk (Zam hL_ hb); clear HO_6; clear HB; have HO_6 := n0_; have HO700 := n1_; have HB := n2_; clear n0_ n1_ n2_; (try clear hb); (try clear hb2); (try clear hk); (try clear hi); (try clear ho0); obtain ⟨Ao26, co26, eo26⟩ := Kd.Zbn HO700.out; subst eo26; have p709 : 0 ≤ ((ji21) : Int) := of_decide_eq_true (by first | (with_reducible assumption) | assumption); have q709 : (ji21) < (t698.length : Int) := of_decide_eq_true (by first | (with_reducible assumption) | assumption); obtain ⟨ad709, e709, hx709_0⟩ := Kd.Zbx (Kd.Zaz HO700.out).2.2 (ji21) p709 q709; cases e709; replace p709 := eq_true p709; replace q709 := eq_true q709) | ((with_reducible refine Zbk (b := .append) (xs := #[.tmp 36, .tmp 44]) rfl ?_); at_builtin; refine Kd.Zcd (Kd.int .i64) (w0 := w) w.heap.size rfl (.tmp 36) (.tmp 44) 23 3 (.int .i64 0) 8 rfl Try.underlying23 info3 rfl (by decide) (by omega) u6 x6_1 (rd t698 (ji21)) [.int .i64 (rd t698 (ji21))] (fun k_ => some k_ ≠ (.slice (some ad709) t698.length co26 : Value).ownBlock) (fun _ => False) rfl rfl ?aP (fun _ hk => hk.elim) ?aF ?aO ?aB ?aS ?aL ?_; (case aP => exact rfl); (case aB => exact (by repeat (first | (with_reducible first | exact HB.out | apply Zab | apply Za | apply Zac) | exact HB.out))); (case aF => exact (fun k_ hk => Kd.fresh' (Kd.R_lt (mvR HO700.out)) k_ hk)); (case aO => exact (mvR (Kd.Zbm HO_6.out (fun _ hk => hk.2)))); (case aS => exact (Zae (by repeat (first | (with_reducible first | exact HB.out | apply Zab | apply Za | apply Zac) | exact HB.out)))); (case aL => have := LMc24.out; omega); intro v711 w27 ho hb hg hat; rw [← Ny710.out] at ho; have n1_ := Zaa.mk (hb); have n2_ := Zaa.mk (ho); clear HO700; clear HB; clear HO_6; have HB := n1_; have HO712 := n2_; clear n1_ n2_; clear ho hb hg hat))
    go_roundg k1
    case measure => have := HK1.out; omega
    case rel => exact ⟨(y710), (wrap64 (x7_1 + 1)), (by first | rfl | (simp; done) | (simp [*]; done)), H', ⟨by have := HK1.out; omega⟩, ⟨by (with_reducible repeat (first | apply Kd.Za6 | apply Kd.Za5 | apply Kd.Zbb)); exact Kd.Zbm HO712.out (fun _ hk => trivial)⟩, ⟨by repeat (first | (with_reducible first | exact HB.out | apply Zab | apply Za | apply Zac) | exact HB.out)⟩⟩
   rw [if_pos c13] at H
   have c13b0 : decide (x7_1 < (l1.length : Int)) = true := decide_eq_true c13
   clear c13
   obtain ⟨ji14, hji14⟩ : ∃ j_ : Int, (Int.tmod (Go.bits .and .i64 (rd l1 x7_1) 65535) (t698.length : Int)) = j_ := ⟨_, rfl⟩
   replace H : (if 0 ≤ (ji14) then (if (ji14) < (t698.length : Int) then (if x6_1.length < 17592186044416 then (Zay.l0 k1 l0 l1 (x6_1 ++ [rd t698 (ji14)]) (wrap64 (x7_1 + 1))) else (none)) else (none)) else (none)) = some (r1, r2) := by first | (rw [hji14] at H; exact H) | (simp only [hji14] at H ⊢; exact H)
   (try rw [hji14] at A7)
   by_cases c15 : 0 ≤ (ji14)
   rotate_left
   ·rw [if_neg c15] at H
    exact absurd H (by simp)
   rw [if_pos c15] at H
   have c15b0 : decide (0 ≤ (ji14)) = true := decide_eq_true c15
   clear c15
   by_cases c16 : (ji14) < (t698.length : Int)
   rotate_left
   ·rw [if_neg c16] at H
    exact absurd H (by simp)
   rw [if_pos c16] at H
   have c16b0 : decide ((ji14) < (t698.length : Int)) = true := decide_eq_true c16
   clear c16
   by_cases c17 : x6_1.length < 17592186044416
   rotate_left
   ·rw [if_neg c17] at H
    exact absurd H (by simp)
   rw [if_pos c17] at H
   have LMc17 := Zaa.mk c17
   clear c17
   obtain ⟨y706, hy706⟩ : ∃ y_ : List Int, y_ = (x6_1 ++ [rd t698 (ji14)]) := ⟨_, rfl⟩
   replace H : (Zay.l0 k1 l0 l1 y706 (wrap64 (x7_1 + 1))) = some (r1, r2) := by first | (rw [hy706]; with_reducible exact H) | (have H2_ := (Option.bind_some _ _).symm.trans H; rw [hy706]; with_reducible exact H2_) | (have H2_ := (Option.bind_some _ _).symm.trans H; with_reducible exact H2_) | with_reducible exact H | (rw [hy706]; exact H) | exact H
   have Ny706 := Zaa.mk hy706
   clear hy706
   have H' := Zaa.mk H
   clear H
   have p697 : 0 ≤ (x7_1 : Int) := of_decide_eq_true (by first | (with_reducible assumption) | assumption)
   have q697 : x7_1 < (l0.length : Int) := of_decide_eq_true (by first | (with_reducible assumption) | assumption)
   obtain ⟨ad697, A697_0, c697_0, e697, hx697_0, hl697_0, hi697_0⟩ := Zfu HR0.out x7_1 p697 q697
   cases e697
   replace hx697_0 := (HB.out.cell (World.block_lt_of_cell? w _ hx697_0)).trans hx697_0
   have HR697_0 := Zaa.mk hi697_0
   have HC697_0 := Zaa.mk hl697_0
   clear hi697_0 hl697_0
   replace p697 := eq_true p697
   replace q697 := eq_true q697
   go_wp2_with (first | ((with_reducible refine Zbo (f := 29) rfl ?_); refine Zcr (some 21) rfl rfl Try.func29 (by kernel_rfl) rfl #[.slice A697_0 (Zdb l0 x7_1).length c697_0] rfl (by (try simp only [List.map_toArray, List.map_cons, List.map_nil]); first | done | rfl | (simp only [List.length_drop, List.length_take]; rfl)) ?_; (refine withB (m := w.heap.size) (w0 := w) (by repeat (first | (with_reducible first | exact HB.out | apply Zab | apply Za | apply Zac) | exact HB.out)) ?_); intro hL_; (with_reducible refine (Zan.calls k1 _ _ (Zdb l0 x7_1) t698 _ ?side1 ?side2 A7.out).mono ?_); (case side1 => repeat (first | exact (Kd.Za8 HR697_0.out HB.out) | (with_reducible refine Kd.C_alloc ?_ _) | (with_reducible refine Kd.Za0 ?_ _) | (with_reducible refine Kd.C_drew ?_))); (case side2 => exact HC697_0.out); rintro e w18 ⟨v699, rfl, ho0, hb⟩; refine ⟨_, rfl, ?_⟩; have n0_ := Zaa.mk (Kd.Zck (mvR HO_6.out) (Kd.Zb6 ho0) hb); have n1_ := Zaa.mk (Kd.Zbs (Kd.Zc3 ho0 (Kd.R_lt (mvR HO_6.out))) (Zae hL_)); have n2_ := Zaa.mk (Zam hL_ hb); clear HO_6; clear HB; have HO_6 := n0_; have HO700 := n1_; have HB := n2_; clear n0_ n1_ n2_; (try clear hb); (try clear hb2); (try clear hk); (try clear hi); (try clear ho0); obtain ⟨Ao19, co19, eo19⟩ := Kd.Zbn HO700.out; subst eo19; have p704 : 0 ≤ (x7_1 : Int) := of_decide_eq_true (by first | (with_reducible assumption) | assumption); have q704 : x7_1 < (l1.length : Int) := of_decide_eq_true (by first | (with_reducible assumption) | assumption); obtain ⟨ad704, e704, hx704_0⟩ := Kd.Zbx HR1.out x7_1 p704 q704; cases e704; replace hx704_0 := (HB.out.cell (World.block_lt_of_cell? w _ hx704_0)).trans hx704_0; replace p704 := eq_true p704; replace q704 := eq_true q704; have p705 : 0 ≤ ((ji14) : Int) := of_decide_eq_true (by first | (with_reducible assumption) | assumption); have q705 : (ji14) < (t698.length : Int) := of_decide_eq_true (by first | (with_reducible assumption) | assumption); obtain ⟨ad705, e705, hx705_0⟩ := Kd.Zbx (Kd.Zaz HO700.out).2.2 (ji14) p705 q705; cases e705; replace p705 := eq_true p705; replace q705 := eq_true q705) | ((with_reducible refine Zbk (b := .append) (xs := #[.tmp 36, .tmp 44]) rfl ?_); at_builtin; refine Kd.Zcd (Kd.int .i64) (w0 := w) w.heap.size rfl (.tmp 36) (.tmp 44) 23 3 (.int .i64 0) 8 rfl Try.underlying23 info3 rfl (by decide) (by omega) u6 x6_1 (rd t698 (ji14)) [.int .i64 (rd t698 (ji14))] (fun k_ => some k_ ≠ (.slice (some ad705) t698.length co19 : Value).ownBlock) (fun _ => False) rfl rfl ?aP (fun _ hk => hk.elim) ?aF ?aO ?aB ?aS ?aL ?_; (case aP => exact rfl); (case aB => exact (by repeat (first | (with_reducible first | exact HB.out | apply Zab | apply Za | apply Zac) | exact HB.out))); (case aF => exact (fun k_ hk => Kd.fresh' (Kd.R_lt (mvR HO700.out)) k_ hk)); (case aO => exact (mvR (Kd.Zbm HO_6.out (fun _ hk => hk.2)))); (case aS => exact (Zae (by repeat (first | (with_reducible first | exact HB.out | apply Zab | apply Za | apply Zac) | exact HB.out)))); (case aL => have := LMc17.out; omega); intro v707 w20 ho hb hg hat; rw [← Ny706.out] at ho; have n1_ := Zaa.mk (hb); have n2_ := Zaa.mk (ho); clear HO700; clear HB; clear HO_6; have HB := n1_; have HO708 := n2_; clear n1_ n2_; clear ho hb hg hat))
   go_roundg k1
   case measure => have := HK1.out; omega
   case rel => exact ⟨(y706), (wrap64 (x7_1 + 1)), (by first | rfl | (simp; done) | (simp [*]; done)), H', ⟨by have := HK1.out; omega⟩, ⟨by (with_reducible repeat (first | apply Kd.Za6 | apply Kd.Za5 | apply Kd.Zbb)); exact Kd.Zbm HO708.out (fun _ hk => trivial)⟩, ⟨by repeat (first | (with_reducible first | exact HB.out | apply Zab | apply Za | apply Zac) | exact HB.out)⟩⟩
end Go.Proofs.Ytpbcigilipdedaa.P
/- Plain: values picked of domains. -/
namespace Go.Proofs.Ytpbcigilipdedaa.P
open Go.RowKit Go.Proofs.YtpbcigilipdedaaW.PrintWords Go.Proofs.YtpbcigilipdedaaW.PrintLast Go.Proofs.YtpbcigilipdedaaW.PrintMore
set_option linter.unusedVariables false
set_option linter.unusedSimpArgs false
def Picked (d : List (List Rg)) (a : List Int) : Prop := a.length = d.length ∧ ∀ i (h : i < a.length) (h' : i < d.length), Va d[i] a[i]
theorem pick_l0 (d : List (List Rg)) (a : List Int) (hd : Doms d) : ∀ (m n : Nat) (out : List Int), n + m = d.length → Picked (d.take n) out →
    ∃ r : List Int × Bool, Ev (fun k => Zay.l0 k d a out (n : Int)) r ∧ (r.2 = true → Picked d r.1) ∧ (r.2 = false → r.1 = [] ∧ ∃ x ∈ d, vals x = []) := by
  intro m
  induction m with
  | zero =>
    intro n out h hp
    rw [List.take_of_length_le (by omega)] at hp
    exact ⟨(out, true), Ev.step (fun k => by rw [Zay.l0, if_neg (by omega)]) (Ev.pure _), fun _ => hp, fun h => by cases h⟩
  | succ m ih =>
    intro n out h hp
    have hn : n < d.length := by omega
    have h64 := hd.1
    obtain ⟨g, hvl⟩ := hd.2 _ (List.getElem_mem hn)
    have hV := Zf0 d[n] g (Int.le_refl _)
    have hol : out.length = n := by have := hp.1; rw [List.length_take] at this; omega
    by_cases h0 : vals d[n] = []
    · refine ⟨([], false), Ev.step (fun k => by rw [Zay.l0, if_pos (by omega), if_pos (by omega), rdR_nat d n hn]) (Ev.bind hV ?_), (fun h => by cases h), fun _ => ⟨rfl, _, List.getElem_mem hn, h0⟩⟩
      refine Ev.Zcf (by rw [h0]; rfl) ?_
      exact Ev.pure _
    have hpos : 0 < (vals d[n]).length := List.length_pos_iff.2 h0
    have next : ∀ q : Int, 0 ≤ q → q < ((vals d[n]).length : Int) → ∃ r : List Int × Bool, Ev (fun k => Zay.l0 k d a (out ++ [rd (vals d[n]) q]) ((n + 1 : Nat) : Int)) r ∧ (r.2 = true → Picked d r.1) ∧ (r.2 = false → r.1 = [] ∧ ∃ x ∈ d, vals x = []) := fun q hq0 hq1 => by
      obtain ⟨j, rfl⟩ := Int.eq_ofNat_of_zero_le hq0
      have hj : j < (vals d[n]).length := by omega
      rw [Zcw _ j hj]
      refine ih (n + 1) _ (by omega) ⟨by simp; omega, fun i h1 h2 => ?_⟩
      by_cases hi : i < n
      · have := hp.2 i (by omega) (by rw [List.length_take]; omega)
        rw [List.getElem_append_left (by omega)]
        simpa using this
      have hin : i = n := by simp at h1; omega
      subst hin
      rw [List.getElem_append_right (by omega)]
      simp only [hol, Nat.sub_self, List.getElem_cons_zero, List.getElem_take]
      exact (Zc8 _ _).1 (List.getElem_mem hj)
    by_cases hna : n < a.length
    rotate_left
    · obtain ⟨t0, t1⟩ := tmod_in (n := (n : Int)) (m := (vals d[n]).length) (by omega) hpos
      obtain ⟨r, hr, h1⟩ := next _ t0 t1
      refine ⟨r, Ev.step (fun k => by rw [Zay.l0, if_pos (by omega), if_pos (by omega), rdR_nat d n hn]) (Ev.bind hV ?_), h1⟩
      refine Ev.Zc4 (by omega) ?_
      refine Ev.Zc4 (by omega) ?_
      refine Ev.Zcf t0 ?_
      refine Ev.Zcf t1 ?_
      refine Ev.Zcf (by omega) ?_
      simp only [w1 (show n < 4611686018427387904 by omega)]
      exact hr
    obtain ⟨b0, b1⟩ := and16 (rd a (n : Int))
    obtain ⟨t0, t1⟩ := tmod_in (m := (vals d[n]).length) b0 hpos
    obtain ⟨r, hr, h1⟩ := next _ t0 t1
    refine ⟨r, Ev.step (fun k => by rw [Zay.l0, if_pos (by omega), if_pos (by omega), rdR_nat d n hn]) (Ev.bind hV ?_), h1⟩
    refine Ev.Zc4 (by omega) ?_
    refine Ev.Zcf (by omega) ?_
    refine Ev.Zcf t0 ?_
    refine Ev.Zcf t1 ?_
    refine Ev.Zcf (by omega) ?_
    simp only [w1 (show n < 4611686018427387904 by omega)]
    exact hr
theorem pick_ev (d : List (List Rg)) (a : List Int) (hd : Doms d) : ∃ r : List Int × Bool, Ev (fun k => Zay.f k d a) r ∧ (r.2 = true → Picked d r.1) ∧ (r.2 = false → r.1 = [] ∧ ∃ x ∈ d, vals x = []) :=
  pick_l0 d a hd d.length 0 [] (by omega) ⟨by simp, fun i h => absurd h (by simp)⟩
end Go.Proofs.Ytpbcigilipdedaa.P
/- Two lists of domains that are one. -/
namespace Go.Proofs.Ytpbcigilipdedaa.P
open Go.RowKit Go.Proofs.YtpbcigilipdedaaW.PrintWords Go.Proofs.YtpbcigilipdedaaW.PrintLast Go.Proofs.YtpbcigilipdedaaW.PrintMore
set_option linter.unusedVariables false
set_option linter.unusedSimpArgs false
theorem dv_ext {l m : List (List Rg)} (e : l.length = m.length) (h : ∀ j : Int, 0 ≤ j → j < (l.length : Int) → dv l j = dv m j) : l = m := by
  refine List.ext_getElem e (fun i h1 h2 => ?_)
  have := h (i : Int) (by omega) (by omega)
  unfold dv at this
  simpa [List.getD_eq_getElem?_getD, List.getElem?_eq_getElem h1, List.getElem?_eq_getElem h2] using this
theorem same3_l0 (l : List (List Rg)) (hl : l.length < 4611686018427387904) (hin : ∀ x ∈ l, x.length < 4611686018427387904) : ∀ (m n : Nat), n + m = l.length → Ev (fun k => Zap.l0 k l l (n : Int)) true := by
  intro m
  induction m with
  | zero =>
    intro n h
    exact Ev.step (G := fun _ => some true) (fun k => by rw [Zap.l0, if_neg (by omega)]) (Ev.pure _)
  | succ m ih =>
    intro n h
    have hn : n < l.length := by omega
    refine Ev.step (fun k => by rw [Zap.l0, if_pos (by omega), if_pos (by omega), if_pos (by omega), rdR_nat l n hn]) (Ev.bind (Zfm l[n] (hin _ (List.getElem_mem hn))) (Ev.Zcf rfl ?_))
    simp only [w1 (show n < 4611686018427387904 by omega)]
    exact ih (n + 1) (by omega)
theorem same3_self (l : List (List Rg)) (hl : l.length < 4611686018427387904) (hin : ∀ x ∈ l, x.length < 4611686018427387904) : Ev (fun k => Zap.f k l l) true :=
  Ev.Zcf rfl (same3_l0 l hl hin l.length 0 (by omega))
end Go.Proofs.Ytpbcigilipdedaa.P
namespace Go.Proofs.Ytpbcigilipdedaa.P
open Go.RowKit Go.Proofs.YtpbcigilipdedaaW.PrintWords Go.Proofs.YtpbcigilipdedaaW.PrintLast Go.Proofs.YtpbcigilipdedaaW.PrintMore
attribute [local go_sem] Zcz Zc1 Zde Zdf Zct Zcu Zc0 Zc2
set_option linter.unusedVariables false
set_option linter.unusedSimpArgs false
def Zao.l0 : Nat → List (List Int) → Int → List (List Int) → Int → List Int → List Int → Int → Int → List (List Int) → Int → List Int → List Int → Option (Bool)
 | 0, _, _, _, _, _, _, _, _, _, _, _, _ => none
 | k + 1, x3, x4, x1053000, x1053001, x1053002, x1053003, x1053004, x1053005, x1053006, x1053007, x1053008, x1053009 => if x4 < (x1053000.length : Int) then (if 0 ≤ x4 then (if 0 ≤ (mn ((Zci x1053000 x4).length : Int) 1) then (if (mn ((Zci x1053000 x4).length : Int) 1) ≤ ((Zci x1053000 x4).length : Int) then (if x3.length < 5864062014805 then (Zao.l0 k (x3 ++ [((Zci x1053000 x4).take ((mn ((Zci x1053000 x4).length : Int) 1) : Int).toNat)]) (wrap64 (x4 + 1)) x1053000 x1053001 x1053002 x1053003 x1053004 x1053005 x1053006 x1053007 x1053008 x1053009) else (none)) else (none)) else (none)) else (none)) else ((Zaq.f k x3 x1053001 x1053002 x1053003 x1053004 x1053005 x1053006 x1053007 x1053008 x1053009 3).bind fun bt1066 => (if bt1066.2.2.2.2.2.2.2.2 = true then ((Zay.f k bt1066.1 x1053008).bind fun bt1085 => ((Zai.f k bt1066.1 bt1066.2.1 bt1066.2.2.1 bt1066.2.2.2.1 bt1066.2.2.2.2.1 bt1066.2.2.2.2.2.1 bt1066.2.2.2.2.2.2.1 bt1066.2.2.2.2.2.2.2.1).bind fun bt1089 => (if bt1085.2 = true then ((Zbp.f k bt1066.2.1 bt1066.2.2.1 bt1066.2.2.2.1 bt1066.2.2.2.2.1 bt1066.2.2.2.2.2.1 bt1066.2.2.2.2.2.2.1 bt1066.2.2.2.2.2.2.2.1 bt1085.1).bind fun t1093 => (if (bt1089.2 == t1093) = true then (if bt1089.2 = true then ((Zap.f k bt1089.1 bt1066.1).bind fun t1094 => (if t1094 = true then ((Zav.f k).bind fun t1095 => (some t1095)) else (none))) else ((Zav.f k).bind fun t1096 => (some t1096))) else (none))) else (if bt1089.2 = true then (none) else ((Zav.f k).bind fun t1097 => (some t1097)))))) else ((Zav.f k).bind fun t1084 => (some t1084))))
def Zao.f (k : Nat) (l0_0 : List (List Int)) (a0_1 : Int) (l0_2 : List Int) (l0_3 : List Int) (a0_4 : Int) (a0_5 : Int) (l0_6 : List (List Int)) (a0_7 : Int) (l0_8 : List Int) (l0_9 : List Int) : Option (Bool) := Zao.l0 k (([] : List (List Int))) 0 l0_0 a0_1 l0_2 l0_3 a0_4 a0_5 l0_6 a0_7 l0_8 l0_9
theorem Zao.Zb4 : ∀ k, (∀ y0 y1 y2 y3 y4 y5 y6 y7 y8 y9 y10 y11, LeO (Zao.l0 k y0 y1 y2 y3 y4 y5 y6 y7 y8 y9 y10 y11) (Zao.l0 (k + 1) y0 y1 y2 y3 y4 y5 y6 y7 y8 y9 y10 y11))
 | 0 => fun _ _ _ _ _ _ _ _ _ _ _ _ r h => by simp [Zao.l0] at h
 | k + 1 => by
  have ih0 := Zao.Zb4 k
  intro y0 y1 y2 y3 y4 y5 y6 y7 y8 y9 y10 y11
  unfold Zao.l0
  repeat' first
  | (with_reducible exact ih0 _ _ _ _ _ _ _ _ _ _ _ _)
  | (with_reducible exact Zai.mono _ _ _ _ _ _ _ _ _)
  | (with_reducible exact Zaq.mono _ _ _ _ _ _ _ _ _ _ _ _)
  | (with_reducible exact Zay.mono _ _ _)
  | (with_reducible exact Zav.mono _)
  | (with_reducible exact Zap.mono _ _ _)
  | (with_reducible exact Zbp.mono _ _ _ _ _ _ _ _ _)
  | (with_reducible exact LeO.refl _)
  | (with_reducible exact LeO.none _)
  | (with_reducible refine LeO.ite ?_ ?_)
  | (with_reducible refine LeO.bind ?_ (fun _ => ?_))
  | exact ih0 _ _ _ _ _ _ _ _ _ _ _ _
  | exact Zai.mono _ _ _ _ _ _ _ _ _
  | exact Zaq.mono _ _ _ _ _ _ _ _ _ _ _ _
  | exact Zay.mono _ _ _
  | exact Zav.mono _
  | exact Zap.mono _ _ _
  | exact Zbp.mono _ _ _ _ _ _ _ _ _
  | exact LeO.none _
  | refine LeO.ite ?_ ?_
  | refine LeO.bind ?_ (fun _ => ?_)
theorem Zao.mono : ∀ a0 a1 a2 a3 a4 a5 a6 a7 a8 a9 k, LeO (Zao.f k a0 a1 a2 a3 a4 a5 a6 a7 a8 a9) (Zao.f (k + 1) a0 a1 a2 a3 a4 a5 a6 a7 a8 a9) := by
 intro a0 a1 a2 a3 a4 a5 a6 a7 a8 a9 k
 have ih0 := Zao.Zb4 k
 unfold Zao.f
 repeat' first
   | (with_reducible exact ih0 _ _ _ _ _ _ _ _ _ _ _ _)
   | (with_reducible exact Zai.mono _ _ _ _ _ _ _ _ _)
   | (with_reducible exact Zaq.mono _ _ _ _ _ _ _ _ _ _ _ _)
   | (with_reducible exact Zay.mono _ _ _)
   | (with_reducible exact Zav.mono _)
   | (with_reducible exact Zap.mono _ _ _)
   | (with_reducible exact Zbp.mono _ _ _ _ _ _ _ _ _)
   | (with_reducible exact LeO.refl _)
   | (with_reducible exact LeO.none _)
   | (with_reducible refine LeO.ite ?_ ?_)
   | (with_reducible refine LeO.bind ?_ (fun _ => ?_))
   | exact ih0 _ _ _ _ _ _ _ _ _ _ _ _
   | exact Zai.mono _ _ _ _ _ _ _ _ _
   | exact Zaq.mono _ _ _ _ _ _ _ _ _ _ _ _
   | exact Zay.mono _ _ _
   | exact Zav.mono _
   | exact Zap.mono _ _ _
   | exact Zbp.mono _ _ _ _ _ _ _ _ _
   | exact LeO.none _
   | refine LeO.ite ?_ ?_
   | refine LeO.bind ?_ (fun _ => ?_)
def Zao.T5 : Bool × List (List Nat × List Nat) := (true, [([], []), ([], []), ([1], [1]), ([], []), ([2, 3], [2, 3]), ([4], [4]), ([], []), ([6], [6]), ([], []), ([7, 8], [7, 8]), ([9], [9]), ([10], [10]), ([11], [11]), ([5, 12], [5, 12]), ([13], [13]), ([0, 14], [0, 14]), ([15, 15, 0, 1, 2, 3, 4, 5, 6, 7, 8, 9, 10, 11, 12, 13, 14, 15], [0, 15])])
def Zao.B5 : List Nat := [0, 0, 2, 0, 14, 30, 0, 64, 0, 448, 960, 1984, 4032, 8190, 16382, 32767, 65535]
theorem Zao.tab5 : rtab .any (opsOf Try.f12 5) = Zao.T5 := by kernel_rfl
theorem Zao.bits5 : waitsOk Zao.T5.2 Zao.B5 = true := by kernel_rfl
set_option maxHeartbeats 8000000 in
set_option maxRecDepth 100000 in
theorem Zao.calls (k : Nat) (P0_0_ : Nat → Prop) (A0_0 : Option Addr) (c0_0 : Nat) (l0_0 : List (List Int)) (a0_1 : Int) (A0_2 : Option Addr) (c0_2 : Nat) (l0_2 : List Int) (A0_3 : Option Addr) (c0_3 : Nat) (l0_3 : List Int) (a0_4 : Int) (a0_5 : Int) (A0_6 : Option Addr) (c0_6 : Nat) (l0_6 : List (List Int)) (a0_7 : Int) (A0_8 : Option Addr) (c0_8 : Nat) (l0_8 : List Int) (A0_9 : Option Addr) (c0_9 : Nat) (l0_9 : List Int) (r : Bool) (w : World) (hs0_0 : Kd.V (Kd.slice 3 (Kd.int .i64)) 23 w w.heap.size (fun k_ => P0_0_ k_) (.slice A0_0 l0_0.length c0_0) l0_0) (hr0_2 : Kd.C (Kd.int .i64) w A0_2 l0_2.length l0_2) (hc0_2 : l0_2.length ≤ c0_2) (hr0_3 : Kd.C (Kd.int .i64) w A0_3 l0_3.length l0_3) (hc0_3 : l0_3.length ≤ c0_3) (hr0_6 : Kd.C (Kd.slice 3 (Kd.int .i64)) w A0_6 l0_6.length l0_6) (hc0_6 : l0_6.length ≤ c0_6) (hr0_8 : Kd.C (Kd.int .i64) w A0_8 l0_8.length l0_8) (hc0_8 : l0_8.length ≤ c0_8) (hr0_9 : Kd.C (Kd.int .i64) w A0_9 l0_9.length l0_9) (hc0_9 : l0_9.length ≤ c0_9) (h : Zao.f k l0_0 a0_1 l0_2 l0_3 a0_4 a0_5 l0_6 a0_7 l0_8 l0_9 = some r) :
  Calls Try.prog 12 #[.agg #[.slice A0_0 l0_0.length c0_0, .int .i64 a0_1, .slice A0_2 l0_2.length c0_2, .slice A0_3 l0_3.length c0_3, .int .i64 a0_4, .int .i64 a0_5, .slice A0_6 l0_6.length c0_6, .int .i64 a0_7, .slice A0_8 l0_8.length c0_8, .slice A0_9 l0_9.length c0_9]] w fun e w' => e = .returned (.bool r) ∧ Below w.heap.size w w' := by
 have hu27 := Try.underlying27
 have hu25 := Try.underlying25
 have HO0_0 := Zaa.mk (show Kd.V (Kd.slice 3 (Kd.int .i64)) 23 w w.heap.size (fun k_ => (P0_0_ k_ ∨ w.heap.size ≤ k_)) (.slice A0_0 l0_0.length c0_0) l0_0 from Kd.Zd1 hs0_0 (fun k_ hk => .inl hk))
 have HR0_2 := Zaa.mk hr0_2
 have HC0_2 := Zaa.mk hc0_2
 clear hr0_2 hc0_2
 have HR0_3 := Zaa.mk hr0_3
 have HC0_3 := Zaa.mk hc0_3
 clear hr0_3 hc0_3
 have HR0_6 := Zaa.mk hr0_6
 have HC0_6 := Zaa.mk hc0_6
 clear hr0_6 hc0_6
 have HR0_8 := Zaa.mk hr0_8
 have HC0_8 := Zaa.mk hc0_8
 clear hr0_8 hc0_8
 have HR0_9 := Zaa.mk hr0_9
 have HC0_9 := Zaa.mk hc0_9
 clear hr0_9 hc0_9
 have HB := Zaa.mk (Below.refl w.heap.size w)
 have H : (Zao.l0 k (([] : List (List Int))) 0 l0_0 a0_1 l0_2 l0_3 a0_4 a0_5 l0_6 a0_7 l0_8 l0_9) = some r := h
 clear h
 obtain ⟨y1053, hy1053⟩ : ∃ y_ : List (List Int), y_ = (([] : List (List Int))) := ⟨_, rfl⟩
 replace H : (Zao.l0 k y1053 0 l0_0 a0_1 l0_2 l0_3 a0_4 a0_5 l0_6 a0_7 l0_8 l0_9) = some r := by first | (rw [hy1053]; with_reducible exact H) | (have H2_ := (Option.bind_some _ _).symm.trans H; rw [hy1053]; with_reducible exact H2_) | (have H2_ := (Option.bind_some _ _).symm.trans H; with_reducible exact H2_) | with_reducible exact H | (rw [hy1053]; exact H) | exact H
 have Ny1053 := Zaa.mk hy1053
 clear hy1053
 have H' := Zaa.mk H
 clear H
 go_enter Try.func12, Try.ntmps12
 go_wp2_with (first | ((with_reducible refine Zbq (N := 1) rfl ?_); refine Zb9 ?hg (N := 1) ?hd (cs := #[.slice A0_0 l0_0.length c0_0, .int .i64 a0_1, .slice A0_2 l0_2.length c0_2, .slice A0_3 l0_3.length c0_3, .int .i64 a0_4, .int .i64 a0_5, .slice A0_6 l0_6.length c0_6, .int .i64 a0_7, .slice A0_8 l0_8.length c0_8, .slice A0_9 l0_9.length c0_9]) (t := 27) ?hr ?_; (case hd => rfl); (case hg => rfl); (case hr => first | (go_simp; done) | (go_simp; rfl)); intro gb1052 hg w2 hbox hb; have n0_ := Zaa.mk (Kd.V_below (Kd.V_elderB (by (with_reducible repeat (first | apply Kd.Zep | apply Kd.Zeq | apply Kd.Zfd)); exact HO0_0.out) gb1052 (Nat.le_of_eq hg.symm)) hb); have n1_ := Zaa.mk (Zam (by repeat (first | (with_reducible first | exact HB.out | apply Zab | apply Za | apply Zac) | exact HB.out)) hb); have n2_ := Zaa.mk (hbox); have n4_ := Zaa.mk ((by rw [hg]; exact (Zae (by repeat (first | (with_reducible first | exact HB.out | apply Zab | apply Za | apply Zac) | exact HB.out))) : w.heap.size ≤ gb1052)); clear HO0_0; clear HB; have HO0_0 := n0_; have HB := n1_; have BK1052 := n2_; have GE1052 := n4_; clear n0_ n1_ n2_ n4_; clear hb hbox hg) | ((with_reducible refine Zbq (N := 12) rfl ?_); refine Kd.N_lit (Kd.slice 3 (Kd.int .i64)) _ 23 ?hg (N' := 12) ?hd (xs := ([] : List (List Int))) (inner := []) (ok := (fun k_ => (P0_0_ k_ ∨ w.heap.size ≤ k_) ∧ k_ ≠ gb1052)) (okp := (fun k_ => (P0_0_ k_ ∨ w.heap.size ≤ k_) ∧ k_ ≠ gb1052)) ?hr ?hp (fun _ hk => hk) ((show ∀ k_, w2.heap.size ≤ k_ → (fun k_ => (P0_0_ k_ ∨ w.heap.size ≤ k_) ∧ k_ ≠ gb1052) k_ from fun k_ hk => ⟨(.inr (Nat.le_trans (Zae (by repeat (first | (with_reducible first | exact HB.out | apply Zab | apply Za | apply Zac | refine Zaf ?_ GE1052.out) | exact HB.out))) hk)), Kd.freshB (g := gb1052) (o := .cells #[.slice A0_0 l0_0.length c0_0, .int .i64 a0_1, .slice A0_2 l0_2.length c0_2, .slice A0_3 l0_3.length c0_3, .int .i64 a0_4, .int .i64 a0_5, .slice A0_6 l0_6.length c0_6, .int .i64 a0_7, .slice A0_8 l0_8.length c0_8, .slice A0_9 l0_9.length c0_9] 27 (0, 0)) (mvK BK1052.out) k_ hk⟩) _ (Nat.le_refl _)) (Below.refl _ _) (Nat.le_refl _) (by simp) ?_; (case hd => rfl); (case hg => rfl); (case hr => first | (go_simp; done) | (go_simp; rfl)); (case hp => exact (Reps.none _ _)); intro v1054 w3 ho4 hb hg_ hnew_; clear hg_ hnew_; (first | rw [← Ny1053.out] at ho4 | (simp only [Int.reduceToNat] at ho4; rw [← Ny1053.out] at ho4)); have n0_ := Zaa.mk (Kd.V_elder' (by (with_reducible repeat (first | apply Kd.Zep | apply Kd.Zeq | apply Kd.Zfd)); exact HO0_0.out) (by first | exact Kd.Ze5 ho4 | exact Kd.Zfc ho4 | exact Kd.Zb6 ho4) hb); have n1_ := Zaa.mk (Kd.Zdx ho4 (Zae (by repeat (first | (with_reducible first | exact HB.out | apply Zab | apply Za | apply Zac | refine Zaf ?_ GE1052.out) | exact HB.out)))); have n2_ := Zaa.mk (Zbe (g := gb1052) (o := .cells #[.slice A0_0 l0_0.length c0_0, .int .i64 a0_1, .slice A0_2 l0_2.length c0_2, .slice A0_3 l0_3.length c0_3, .int .i64 a0_4, .int .i64 a0_5, .slice A0_6 l0_6.length c0_6, .int .i64 a0_7, .slice A0_8 l0_8.length c0_8, .slice A0_9 l0_9.length c0_9] 27 (0, 0)) (mvK BK1052.out) hb); have n3_ := Zaa.mk (Zam (by repeat (first | (with_reducible first | exact HB.out | apply Zab | apply Za | apply Zac | refine Zaf ?_ GE1052.out) | exact HB.out)) hb); clear HO0_0; clear BK1052; clear HB; have HO0_0 := n0_; have HO1055 := n1_; have BK1052 := n2_; have HB := n3_; clear n0_ n1_ n2_ n3_; clear hb ho4))
 go_loopg [3, 4] k (fun kq v3 v4 w' => ∃ (x3_1 : List (List Int)) (x4_1 : Int), v4 = .int .i64 x4_1 ∧ Zaa (Zao.l0 kq x3_1 x4_1 l0_0 a0_1 l0_2 l0_3 a0_4 a0_5 l0_6 a0_7 l0_8 l0_9 = some r) ∧ Zaa (kq ≤ k) ∧ Zaa (Kd.N (Kd.slice 3 (Kd.int .i64)) 23 w' w.heap.size (fun k_ => (P0_0_ k_ ∨ w.heap.size ≤ k_) ∧ k_ ≠ gb1052) v3 x3_1) ∧ Zaa (Kd.V (Kd.slice 3 (Kd.int .i64)) 23 w' w.heap.size (fun k_ => (P0_0_ k_ ∨ w.heap.size ≤ k_) ∧ some k_ ≠ (v3 : Value).ownBlock ∧ k_ ≠ gb1052) (.slice A0_0 l0_0.length c0_0) l0_0) ∧ Zaa (w'.heap[gb1052]? = some (.cells #[(.slice A0_0 l0_0.length c0_0), .int .i64 a0_1, (.slice A0_2 l0_2.length c0_2), (.slice A0_3 l0_3.length c0_3), .int .i64 a0_4, .int .i64 a0_5, (.slice A0_6 l0_6.length c0_6), .int .i64 a0_7, (.slice A0_8 l0_8.length c0_8), (.slice A0_9 l0_9.length c0_9)] 27 (0, 0))) ∧ Zaa (Below w.heap.size w w'))
 case atStart => exact ⟨(y1053), (0), (by first | rfl | (simp; done) | (simp [*]; done)), H', ⟨Nat.le_refl _⟩, ⟨by (with_reducible repeat (first | apply Kd.Zb7 | apply Kd.Zb8 | apply Kd.Zce)); exact HO1055.out⟩, ⟨by (with_reducible repeat (first | apply Kd.Zep | apply Kd.Zeq | apply Kd.Zfd)); exact Kd.Zd1 HO0_0.out (fun _ hk => ⟨hk.1.1, ⟨hk.2, hk.1.2⟩⟩)⟩, ⟨by (with_reducible repeat (first | refine Zag ?_ _ | refine Zak ?_ | refine Zad ?_ _)); exact BK1052.out⟩, ⟨by repeat (first | (with_reducible first | exact HB.out | apply Zab | apply Za | apply Zac | refine Zaf ?_ GE1052.out) | exact HB.out)⟩⟩
 case round =>
  clear H'
  try clear c1
  try clear p2
  obtain ⟨x3_1, x4_1, rfl, HA, HK1, HO_3, HO_1053000, BK1052, HB⟩ := hrel
  cases gk with
  | zero => exact absurd HA.out (by simp [Zao.l0])
  | succ k1 =>
   have H := HA.out
   clear HA
   simp only [Zao.l0] at H
   by_cases c5 : x4_1 < (l0_0.length : Int)
   ·rw [if_pos c5] at H
    have c5b0 : decide (x4_1 < (l0_0.length : Int)) = true := decide_eq_true c5
    clear c5
    by_cases c6 : 0 ≤ x4_1
    rotate_left
    ·rw [if_neg c6] at H
     exact absurd H (by simp)
    rw [if_pos c6] at H
    have c6b0 : decide (0 ≤ x4_1) = true := decide_eq_true c6
    clear c6
    obtain ⟨ji7, hji7⟩ : ∃ j_ : Int, (mn ((Zci l0_0 x4_1).length : Int) 1) = j_ := ⟨_, rfl⟩
    replace H : (if 0 ≤ (ji7) then (if (ji7) ≤ ((Zci l0_0 x4_1).length : Int) then (if x3_1.length < 5864062014805 then (Zao.l0 k1 (x3_1 ++ [((Zci l0_0 x4_1).take ((ji7) : Int).toNat)]) (wrap64 (x4_1 + 1)) l0_0 a0_1 l0_2 l0_3 a0_4 a0_5 l0_6 a0_7 l0_8 l0_9) else (none)) else (none)) else (none)) = some r := by first | (rw [hji7] at H; exact H) | (simp only [hji7] at H ⊢; exact H)
    have hji7_ : (if 1 < ((Zci l0_0 x4_1).length : Int) then 1 else ((Zci l0_0 x4_1).length : Int)) = ji7 := hji7
    by_cases c8 : 0 ≤ (ji7)
    rotate_left
    ·rw [if_neg c8] at H
     exact absurd H (by simp)
    rw [if_pos c8] at H
    have c8b0 := eq_true c8
    have c8b1 : decide (0 ≤ (ji7)) = true := decide_eq_true c8
    clear c8
    by_cases c9 : (ji7) ≤ ((Zci l0_0 x4_1).length : Int)
    rotate_left
    ·rw [if_neg c9] at H
     exact absurd H (by simp)
    rw [if_pos c9] at H
    have c9b0 := eq_true c9
    have c9b1 : decide ((ji7) ≤ ((Zci l0_0 x4_1).length : Int)) = true := decide_eq_true c9
    clear c9
    obtain ⟨y1058, hy1058⟩ : ∃ y_ : List Int, y_ = ((Zci l0_0 x4_1).take ((ji7) : Int).toNat) := ⟨_, rfl⟩
    replace H : (if x3_1.length < 5864062014805 then (Zao.l0 k1 (x3_1 ++ [y1058]) (wrap64 (x4_1 + 1)) l0_0 a0_1 l0_2 l0_3 a0_4 a0_5 l0_6 a0_7 l0_8 l0_9) else (none)) = some r := by first | (rw [hy1058]; with_reducible exact H) | (have H2_ := (Option.bind_some _ _).symm.trans H; rw [hy1058]; with_reducible exact H2_) | (have H2_ := (Option.bind_some _ _).symm.trans H; with_reducible exact H2_) | with_reducible exact H | (rw [hy1058]; exact H) | exact H
    have Ny1058 := Zaa.mk hy1058
    clear hy1058
    by_cases c10 : x3_1.length < 5864062014805
    rotate_left
    ·rw [if_neg c10] at H
     exact absurd H (by simp)
    rw [if_pos c10] at H
    have LMc10 := Zaa.mk c10
    clear c10
    obtain ⟨y1063, hy1063⟩ : ∃ y_ : List (List Int), y_ = (x3_1 ++ [y1058]) := ⟨_, rfl⟩
    replace H : (Zao.l0 k1 y1063 (wrap64 (x4_1 + 1)) l0_0 a0_1 l0_2 l0_3 a0_4 a0_5 l0_6 a0_7 l0_8 l0_9) = some r := by first | (rw [hy1063]; with_reducible exact H) | (have H2_ := (Option.bind_some _ _).symm.trans H; rw [hy1063]; with_reducible exact H2_) | (have H2_ := (Option.bind_some _ _).symm.trans H; with_reducible exact H2_) | with_reducible exact H | (rw [hy1063]; exact H) | exact H
    have Ny1063 := Zaa.mk hy1063
    clear hy1063
    have H' := Zaa.mk H
    clear H
    obtain ⟨hcz11_0, hcz11_1, hcz11_2, hcz11_3, hcz11_4, hcz11_5, hcz11_6, hcz11_7, hcz11_8, hcz11_9, hfz11_0, hfz11_1, hfz11_2, hfz11_3, hfz11_4, hfz11_5, hfz11_6, hfz11_7, hfz11_8, hfz11_9⟩ := Zes BK1052.out
    try go_wp2
    have n0_ := Zaa.mk (Kd.Zce HO_3.out)
    have n1_ := Zaa.mk (Kd.Zfd HO_1053000.out)
    have n2_ := Zaa.mk (Zak BK1052.out)
    have n3_ := Zaa.mk (Zac HB.out)
    clear HO_3
    clear HO_1053000
    clear BK1052
    clear HB
    have HO_3 := n0_
    have HO_1053000 := n1_
    have BK1052 := n2_
    have HB := n3_
    clear n0_ n1_ n2_ n3_
    have p1056 : 0 ≤ (x4_1 : Int) := of_decide_eq_true (by first | (with_reducible assumption) | assumption)
    have q1056 : x4_1 < (l0_0.length : Int) := of_decide_eq_true (by first | (with_reducible assumption) | assumption)
    obtain ⟨ad1056, A1056_0, c1056_0, e1056, hx1056_0, hl1056_0, hi1056_0⟩ := Zf9 (Kd.Zfe HO_1053000.out).2.2 x4_1 p1056 q1056
    cases e1056
    obtain ⟨ce1056, hce1056, hMe1056, hcc1056⟩ := Kd.V_get HO_1053000.out [] x4_1 p1056 (by first | exact q1056 | exact of_decide_eq_true (by first | (with_reducible assumption) | assumption) | (have e_ := (Kd.Zfe HO_1053000.out).1; omega))
    obtain ⟨ua1056_0, uc1056_0, rfl, ul1056_0, ge1056_0⟩ := Kd.Zd5 hMe1056
    have hv1056_0 := hcc1056 0 _ rfl
    rw [Nat.add_zero, show ((Kd.slice 3 (Kd.int .i64))).sz = 1 from rfl, Nat.mul_one] at hv1056_0
    replace hv1056_0 := Option.some.inj (hv1056_0.symm.trans hx1056_0)
    injection hv1056_0 with hva_ hvn_ hvc_
    rw [hva_] at ge1056_0
    rw [hvc_] at ul1056_0
    have HL1056_0 := Zaa.mk (show Kd.V (Kd.int .i64) 3 _ w.heap.size _ _ (Zci l0_0 x4_1) from Kd.V_mk ul1056_0 ge1056_0)
    clear hva_ hvn_ hvc_ ge1056_0 ul1056_0
    clear hcc1056 hce1056
    have HR1056_0 := Zaa.mk hi1056_0
    have HC1056_0 := Zaa.mk hl1056_0
    clear hi1056_0 hl1056_0
    replace p1056 := eq_true p1056
    replace q1056 := eq_true q1056
    have p1057 : 0 ≤ (x4_1 : Int) := of_decide_eq_true (by first | (with_reducible assumption) | assumption)
    have q1057 : x4_1 < (l0_0.length : Int) := of_decide_eq_true (by first | (with_reducible assumption) | assumption)
    obtain ⟨ad1057, A1057_0, c1057_0, e1057, hx1057_0, hl1057_0, hi1057_0⟩ := Zf9 (Kd.Zfe HO_1053000.out).2.2 x4_1 p1057 q1057
    obtain rfl : ad1056 = ad1057 := (by injection e1057)
    obtain ⟨ce1057, hce1057, hMe1057, hcc1057⟩ := Kd.V_get HO_1053000.out [] x4_1 p1057 (by first | exact q1057 | exact of_decide_eq_true (by first | (with_reducible assumption) | assumption) | (have e_ := (Kd.Zfe HO_1053000.out).1; omega))
    obtain ⟨ua1057_0, uc1057_0, rfl, ul1057_0, ge1057_0⟩ := Kd.Zd5 hMe1057
    have hv1057_0 := hcc1057 0 _ rfl
    rw [Nat.add_zero, show ((Kd.slice 3 (Kd.int .i64))).sz = 1 from rfl, Nat.mul_one] at hv1057_0
    replace hv1057_0 := Option.some.inj (hv1057_0.symm.trans hx1057_0)
    injection hv1057_0 with hva_ hvn_ hvc_
    rw [hva_] at ge1057_0
    rw [hvc_] at ul1057_0
    have HL1057_0 := Zaa.mk (show Kd.V (Kd.int .i64) 3 _ w.heap.size _ _ (Zci l0_0 x4_1) from Kd.V_mk ul1057_0 ge1057_0)
    clear hva_ hvn_ hvc_ ge1057_0 ul1057_0
    clear hcc1057 hce1057
    have HR1057_0 := Zaa.mk hi1057_0
    have HC1057_0 := Zaa.mk hl1057_0
    clear hi1057_0 hl1057_0
    replace p1057 := eq_true p1057
    replace q1057 := eq_true q1057
    have ea_ := Option.some.inj (hx1056_0.symm.trans hx1057_0)
    injection ea_ with ea_ en_ ec_
    subst ea_
    subst ec_
    clear en_
    have q13 : ((ji7) : Int) ≤ (((Zci l0_0 x4_1).length : Int) : Int) := of_decide_eq_true (by first | (with_reducible assumption) | assumption)
    obtain ⟨i013, hi013, _, hsz13, _⟩ := info_parts info3
    have hroom13 : (Zci l0_0 x4_1).length ≤ c1056_0 := HC1056_0.out
    have hC13 : Kd.F (Kd.int .i64) _ _ A1056_0 (Zci l0_0 x4_1).length (Zci l0_0 x4_1) := (Kd.V_at (base := w.heap.size) HL1056_0.out).2.2
    have hcut13 := cut_to (P := Try.prog) 23 3 .i64 Try.underlying23 hi013 A1056_0 (Zci l0_0 x4_1).length c1056_0 (ji7) (of_decide_eq_true (by first | (with_reducible assumption) | assumption)) q13 hroom13
    have hr13 := Kd.F_take (m := ((ji7) : Int).toNat) hC13 (by omega)
    have hy13 : y1058.length = ((ji7) : Int).toNat := (by rw [Ny1058.out, List.length_take]; omega)
    rw [← Ny1058.out] at hr13
    rw [← hy13] at hcut13
    have HO1062 := Zaa.mk (show Kd.V (Kd.int .i64) 3 _ w.heap.size _ (.slice A1056_0 y1058.length c1056_0) y1058 from Kd.V_mk (by omega) hr13)
    have HC1062 := Zaa.mk (show y1058.length ≤ c1056_0 from by omega)
    clear hr13 hC13 hroom13 hi013 hsz13
    have KY13 := Zaa.mk hy13
    clear hy13
    replace q13 := eq_true q13
    refine Zeg (n := 17) (S := fun w' => w'.cell? ⟨gb1052, 0, none⟩ = some (.slice (some ad1056) l0_0.length c0_0) ∧ w'.cell? ⟨gb1052, 1, none⟩ = some (.int .i64 a0_1) ∧ w'.cell? ⟨gb1052, 2, none⟩ = some (.slice A0_2 l0_2.length c0_2) ∧ w'.cell? ⟨gb1052, 3, none⟩ = some (.slice A0_3 l0_3.length c0_3) ∧ w'.cell? ⟨gb1052, 4, none⟩ = some (.int .i64 a0_4) ∧ w'.cell? ⟨gb1052, 5, none⟩ = some (.int .i64 a0_5) ∧ w'.cell? ⟨gb1052, 6, none⟩ = some (.slice A0_6 l0_6.length c0_6) ∧ w'.cell? ⟨gb1052, 7, none⟩ = some (.int .i64 a0_7) ∧ w'.cell? ⟨gb1052, 8, none⟩ = some (.slice A0_8 l0_8.length c0_8) ∧ w'.cell? ⟨gb1052, 9, none⟩ = some (.slice A0_9 l0_9.length c0_9) ∧ w'.cell? (ad1056.add (x4_1).toNat) = some (.slice A1056_0 (Zci l0_0 x4_1).length c1056_0) ∧ w'.cell? (ad1056.add (x4_1).toNat) = some (.slice A1056_0 (Zci l0_0 x4_1).length c1056_0)) (ds := [14, 15]) #[false, false, false, false, false, false, false, false, false, false, false, false, false, false, false, false, false] (by kernel_rfl) rfl rfl ⟨(Za3 BK1052.out 0).trans rfl, (Za3 BK1052.out 1).trans rfl, (Za3 BK1052.out 2).trans rfl, (Za3 BK1052.out 3).trans rfl, (Za3 BK1052.out 4).trans rfl, (Za3 BK1052.out 5).trans rfl, (Za3 BK1052.out 6).trans rfl, (Za3 BK1052.out 7).trans rfl, (Za3 BK1052.out 8).trans rfl, (Za3 BK1052.out 9).trans rfl, hx1056_0, hx1057_0⟩ (fun hHeld => ?_); refine Zda Zao.tab5 Zao.bits5 (fun HT_ HW_ => ?_)
    generalize wr.drew = w12 at HO_3 HO_1053000 BK1052 HB HL1056_0 HL1057_0 HO1062 HR1056_0 HR1057_0 hx1056_0 hx1057_0 hHeld ⊢
    refine Zbv (i := 0) (N := some 20) (v := ?_) (a' := ?_) #[true, false, false, false, false, false, false, false, false, false, false, false, false, false, false, false, false] rfl rfl (Zbf HT_.out (by kernel_rfl)) (fun _ _ _ h => h) (Or.inl ⟨by rfl, ?_⟩) ?_ ?_
    rotate_left
    ·intro w'
     go_simp
     with_reducible rfl
    rotate_left
    ·simp only [Act.put, List.setIfInBounds_toArray, List.set_cons_zero, List.set_cons_succ, Zbh, Zbi]
     rfl
    refine Zbv (i := 1) (N := some 21) (v := ?_) (a' := ?_) #[true, true, false, false, false, false, false, false, false, false, false, false, false, false, false, false, false] rfl rfl (Zbf HT_.out (by kernel_rfl)) (fun _ _ _ h => h) (Or.inl ⟨by rfl, ?_⟩) ?_ ?_
    rotate_left
    ·intro w'
     go_simp
     with_reducible rfl
    rotate_left
    ·simp only [Act.put, List.setIfInBounds_toArray, List.set_cons_zero, List.set_cons_succ, Zbh, Zbi]
     rfl
    refine Zbv (i := 3) (N := some 23) (v := ?_) (a' := ?_) #[true, true, false, true, false, false, false, false, false, false, false, false, false, false, false, false, false] rfl rfl (Zbf HT_.out (by kernel_rfl)) (fun _ _ _ h => h) (Or.inl ⟨by rfl, ?_⟩) ?_ ?_
    rotate_left
    ·intro w'
     go_simp
     with_reducible rfl
    rotate_left
    ·simp only [Act.put, List.setIfInBounds_toArray, List.set_cons_zero, List.set_cons_succ, Zbh, Zbi]
     rfl
    refine Zbv (i := 6) (N := some 26) (v := ?_) (a' := ?_) #[true, true, false, true, false, false, true, false, false, false, false, false, false, false, false, false, false] rfl rfl (Zbf HT_.out (by kernel_rfl)) (fun _ _ _ h => h) (Or.inl ⟨by rfl, ?_⟩) ?_ ?_
    rotate_left
    ·intro w'
     go_simp
     with_reducible rfl
    rotate_left
    ·simp only [Act.put, List.setIfInBounds_toArray, List.set_cons_zero, List.set_cons_succ, Zbh, Zbi]
     rfl
    refine Zbv (i := 8) (N := some 28) (v := ?_) (a' := ?_) #[true, true, false, true, false, false, true, false, true, false, false, false, false, false, false, false, false] rfl rfl (Zbf HT_.out (by kernel_rfl)) (fun _ _ _ h => h) (Or.inl ⟨by rfl, ?_⟩) ?_ ?_
    rotate_left
    ·intro w'
     go_simp
     with_reducible rfl
    rotate_left
    ·simp only [Act.put, List.setIfInBounds_toArray, List.set_cons_zero, List.set_cons_succ, Zbh, Zbi]
     rfl
    refine Zdw (i := 2) (N := some 22) (v := ?_) (a' := ?_) #[true, true, true, true, false, false, true, false, true, false, false, false, false, false, false, false, false] rfl rfl (Zcq HT_.out HW_.out (by kernel_rfl)) (fun _ _ _ h => h) (Or.inl ⟨by rfl, ?_⟩) hHeld ?_ ?_
    rotate_left
    ·rintro w' ⟨s0, s1, s2, s3, s4, s5, s6, s7, s8, s9, s10, s11⟩
     go_simp
     with_reducible rfl
    rotate_left
    ·simp only [Act.put, List.setIfInBounds_toArray, List.set_cons_zero, List.set_cons_succ, Zbh, Zbi]
     rfl
    refine Zbv (i := 4) (N := some 24) (v := ?_) (a' := ?_) #[true, true, true, true, true, false, true, false, true, false, false, false, false, false, false, false, false] rfl rfl (Zbf HT_.out (by kernel_rfl)) (fun _ _ _ h => h) (Or.inl ⟨by rfl, ?_⟩) ?_ ?_
    rotate_left
    ·intro w'
     go_simp
     with_reducible rfl
    rotate_left
    ·simp only [Act.put, List.setIfInBounds_toArray, List.set_cons_zero, List.set_cons_succ, Zbh, Zbi]
     rfl
    refine Zdw (i := 5) (N := some 25) (v := ?_) (a' := ?_) #[true, true, true, true, true, true, true, false, true, false, false, false, false, false, false, false, false] rfl rfl (Zcq HT_.out HW_.out (by kernel_rfl)) (fun _ _ _ h => h) (Or.inl ⟨by rfl, ?_⟩) hHeld ?_ ?_
    rotate_left
    ·rintro w' ⟨s0, s1, s2, s3, s4, s5, s6, s7, s8, s9, s10, s11⟩
     go_simp
     with_reducible rfl
    rotate_left
    ·simp only [Act.put, List.setIfInBounds_toArray, List.set_cons_zero, List.set_cons_succ, Zbh, Zbi]
     rfl
    refine Zdw (i := 7) (N := some 27) (v := ?_) (a' := ?_) #[true, true, true, true, true, true, true, true, true, false, false, false, false, false, false, false, false] rfl rfl (Zcq HT_.out HW_.out (by kernel_rfl)) (fun _ _ _ h => h) (Or.inl ⟨by rfl, ?_⟩) hHeld ?_ ?_
    rotate_left
    ·rintro w' ⟨s0, s1, s2, s3, s4, s5, s6, s7, s8, s9, s10, s11⟩
     go_simp
     with_reducible rfl
    rotate_left
    ·simp only [Act.put, List.setIfInBounds_toArray, List.set_cons_zero, List.set_cons_succ, Zbh, Zbi]
     rfl
    refine Zbv (i := 9) (N := some 29) (v := ?_) (a' := ?_) #[true, true, true, true, true, true, true, true, true, true, false, false, false, false, false, false, false] rfl rfl (Zbf HT_.out (by kernel_rfl)) (fun _ _ _ h => h) (Or.inl ⟨by rfl, ?_⟩) ?_ ?_
    rotate_left
    ·intro w'
     go_simp
     with_reducible rfl
    rotate_left
    ·simp only [Act.put, List.setIfInBounds_toArray, List.set_cons_zero, List.set_cons_succ, Zbh, Zbi]
     rfl
    refine Zdw (i := 10) (N := some 30) (v := ?_) (a' := ?_) #[true, true, true, true, true, true, true, true, true, true, true, false, false, false, false, false, false] rfl rfl (Zcq HT_.out HW_.out (by kernel_rfl)) (fun _ _ _ h => h) (Or.inl ⟨by rfl, ?_⟩) hHeld ?_ ?_
    rotate_left
    ·rintro w' ⟨s0, s1, s2, s3, s4, s5, s6, s7, s8, s9, s10, s11⟩
     go_simp
     with_reducible rfl
    rotate_left
    ·simp only [Act.put, List.setIfInBounds_toArray, List.set_cons_zero, List.set_cons_succ, Zbh, Zbi]
     rfl
    refine Zbv (i := 11) (N := some 31) (v := ?_) (a' := ?_) #[true, true, true, true, true, true, true, true, true, true, true, true, false, false, false, false, false] rfl rfl (Zbf HT_.out (by kernel_rfl)) (fun _ _ _ h => h) (Or.inl ⟨by rfl, ?_⟩) ?_ ?_
    rotate_left
    ·intro w'
     go_simp
     with_reducible rfl
    rotate_left
    ·simp only [Act.put, List.setIfInBounds_toArray, List.set_cons_zero, List.set_cons_succ, Zbh, Zbi]
     rfl
    refine Zbv (i := 12) (N := some 32) (v := ?_) (a' := ?_) #[true, true, true, true, true, true, true, true, true, true, true, true, true, false, false, false, false] rfl rfl (Zbf HT_.out (by kernel_rfl)) (fun _ _ _ h => h) (Or.inl ⟨by rfl, ?_⟩) ?_ ?_
    rotate_left
    ·intro w'
     go_simp
     with_reducible rfl
    rotate_left
    ·simp only [Act.put, List.setIfInBounds_toArray, List.set_cons_zero, List.set_cons_succ, Zbh, Zbi]
     rfl
    refine Zbv (i := 13) (N := some 33) (v := ?_) (a' := ?_) #[true, true, true, true, true, true, true, true, true, true, true, true, true, true, false, false, false] rfl rfl (Zbf HT_.out (by kernel_rfl)) (fun _ _ _ h => h) (Or.inl ⟨by rfl, ?_⟩) ?_ ?_
    rotate_left
    ·intro w'
     go_simp
     with_reducible rfl
    rotate_left
    ·simp only [Act.put, List.setIfInBounds_toArray, List.set_cons_zero, List.set_cons_succ, Zbh, Zbi]
     rfl
    refine last_ (i := 14) (N := some 34) #[true, true, true, true, true, true, true, true, true, true, true, true, true, true, true, false, false] rfl rfl (Zec HT_.out (by kernel_rfl)) (by decide) (fun K hK => ?_)
    refine value_ (w1 := ?_) (v := ?_) (by rfl) rfl ?_ ?_
    rotate_left 2
    ·go_simp
     constructor
     ·rfl
     rfl
    refine hK.out _ _ ?_
    clear hK K
    refine Zgs (a' := ?_) ?_ ?_
    rotate_left
    ·show Act.put _ (some 34) _ = _
     simp only [Act.put, List.setIfInBounds_toArray, List.set_cons_zero, List.set_cons_succ, Zbh, Zbi]
     rfl
    refine last_ (i := 15) (N := some 35) #[true, true, true, true, true, true, true, true, true, true, true, true, true, true, true, true, false] rfl rfl (Zec HT_.out (by kernel_rfl)) (by decide) (fun K hK => ?_)
    refine Kd.N_append_step (Kd.slice 3 (Kd.int .i64)) (w0 := w) w.heap.size (by rfl) (.tmp 20) (.tmp 34) 22 23 (.slice none 0 0) 24 rfl Try.underlying22 info23 rfl (by decide) (by omega) u3 x3_1 y1058 [.slice A1056_0 y1058.length c1056_0] (fun k_ => (P0_0_ k_ ∨ w.heap.size ≤ k_) ∧ k_ ≠ gb1052) (fun k_ => ((fun k_ => (P0_0_ k_ ∨ w.heap.size ≤ k_) ∧ k_ ≠ gb1052)) k_ ∧ some k_ ≠ (u3 : Value).ownBlock) rfl rfl ?aP (fun _ hk => hk) ?aF ?aO ?aB ?aS ?aL ?_
    (case aP => exact (Kd.Zc7 (Kd.Zfe (Kd.Zd1 (ok' := (fun k_ => ((fun k_ => (P0_0_ k_ ∨ w.heap.size ≤ k_) ∧ k_ ≠ gb1052)) k_ ∧ some k_ ≠ (u3 : Value).ownBlock)) (HO1062.out) (fun k_ hk => ⟨⟨hk.1, hk.2.2⟩, hk.2.1⟩))).2.1 (Kd.V_F (Kd.Zd1 (ok' := (fun k_ => ((fun k_ => (P0_0_ k_ ∨ w.heap.size ≤ k_) ∧ k_ ≠ gb1052)) k_ ∧ some k_ ≠ (u3 : Value).ownBlock)) (HO1062.out) (fun k_ hk => ⟨⟨hk.1, hk.2.2⟩, hk.2.1⟩)))))
    (case aB => exact (mvB HB.out))
    (case aF => exact (fun k_ hk => ⟨(.inr (Nat.le_trans (Zae (mvB HB.out)) hk)), Kd.freshB (g := gb1052) (o := .cells #[.slice (some ad1056) l0_0.length c0_0, .int .i64 a0_1, .slice A0_2 l0_2.length c0_2, .slice A0_3 l0_3.length c0_3, .int .i64 a0_4, .int .i64 a0_5, .slice A0_6 l0_6.length c0_6, .int .i64 a0_7, .slice A0_8 l0_8.length c0_8, .slice A0_9 l0_9.length c0_9] 27 (0, 0)) (mvK BK1052.out) k_ hk⟩))
    (case aO => exact (mvN HO_3.out))
    (case aS => exact (Zae (mvB HB.out)))
    (case aL => have := LMc10.out; omega)
    intro v1064 w14 ho hb hg hat
    rw [← Ny1063.out] at ho
    have n0_ := Zaa.mk (Kd.Zgb (ok := (fun k_ => (P0_0_ k_ ∨ w.heap.size ≤ k_) ∧ k_ ≠ gb1052)) (by (with_reducible repeat (first | apply Kd.Zep | apply Kd.Zeq | apply Kd.Zfd)); exact Kd.Zd1 HO_1053000.out (fun _ hk => ⟨⟨hk.1, hk.2.2⟩, hk.2.1⟩)) hg hat)
    have n1_ := Zaa.mk (Zcv (g := gb1052) (o := .cells #[.slice (some ad1056) l0_0.length c0_0, .int .i64 a0_1, .slice A0_2 l0_2.length c0_2, .slice A0_3 l0_3.length c0_3, .int .i64 a0_4, .int .i64 a0_5, .slice A0_6 l0_6.length c0_6, .int .i64 a0_7, .slice A0_8 l0_8.length c0_8, .slice A0_9 l0_9.length c0_9] 27 (0, 0)) (mvK BK1052.out) hg (Kd.N_ne HO_3.out BK1052.out (by decide)))
    have n2_ := Zaa.mk (Kd.Zgb (ok := (fun k_ => (P0_0_ k_ ∨ w.heap.size ≤ k_) ∧ k_ ≠ gb1052)) (by (with_reducible repeat (first | apply Kd.Zep | apply Kd.Zeq | apply Kd.Zfd)); exact Kd.Zd1 HL1056_0.out (fun _ hk => ⟨⟨hk.1, hk.2.2⟩, hk.2.1⟩)) hg hat)
    have n3_ := Zaa.mk (Kd.Zgb (ok := (fun k_ => (P0_0_ k_ ∨ w.heap.size ≤ k_) ∧ k_ ≠ gb1052)) (by (with_reducible repeat (first | apply Kd.Zep | apply Kd.Zeq | apply Kd.Zfd)); exact Kd.Zd1 HL1057_0.out (fun _ hk => ⟨⟨hk.1, hk.2.2⟩, hk.2.1⟩)) hg hat)
    have n4_ := Zaa.mk (Kd.Zgb (ok := (fun k_ => (P0_0_ k_ ∨ w.heap.size ≤ k_) ∧ k_ ≠ gb1052)) (by (with_reducible repeat (first | apply Kd.Zep | apply Kd.Zeq | apply Kd.Zfd)); exact Kd.Zd1 HO1062.out (fun _ hk => ⟨⟨hk.1, hk.2.2⟩, hk.2.1⟩)) hg hat)
    have n5_ := Zaa.mk (hb)
    have n6_ := Zaa.mk (ho)
    clear HO_1053000
    clear BK1052
    clear HL1056_0
    clear HL1057_0
    clear HO1062
    clear HB
    clear HO_3
    have HO_1053000 := n0_
    have BK1052 := n1_
    have HL1056_0 := n2_
    have HL1057_0 := n3_
    have HO1062 := n4_
    have HB := n5_
    have HO1065 := n6_
    clear n0_ n1_ n2_ n3_ n4_ n5_ n6_
    clear ho hb hg hat
    refine hK.out _ _ ?_
    clear hK K
    refine Zgs (a' := ?_) ?_ ?_
    rotate_left
    ·show Act.put _ (some 35) _ = _
     simp only [Act.put, List.setIfInBounds_toArray, List.set_cons_zero, List.set_cons_succ, Zbh, Zbi]
     rfl
    refine Zbv (i := 16) (N := some 3) (v := ?_) (a' := ?_) #[true, true, true, true, true, true, true, true, true, true, true, true, true, true, true, true, true] rfl rfl (Zbf HT_.out (by kernel_rfl)) (fun _ _ _ h => h) (Or.inl ⟨by rfl, ?_⟩) ?_ ?_
    rotate_left
    ·intro w'
     go_simp
     with_reducible rfl
    rotate_left
    ·simp only [Act.put, List.setIfInBounds_toArray, List.set_cons_zero, List.set_cons_succ, Zbh, Zbi]
     rfl
    refine Zfw (Zdz HT_.out (by kernel_rfl)) ?_
    try go_wp2
    go_roundg k1
    case measure => have := HK1.out; omega
    case rel => exact ⟨(y1063), (wrap64 (x4_1 + 1)), (by first | rfl | (simp; done) | (simp [*]; done)), H', ⟨by have := HK1.out; omega⟩, ⟨by (with_reducible repeat (first | apply Kd.Zb7 | apply Kd.Zb8 | apply Kd.Zce)); exact HO1065.out⟩, ⟨by (with_reducible repeat (first | apply Kd.Zep | apply Kd.Zeq | apply Kd.Zfd)); exact Kd.Zd1 HO_1053000.out (fun _ hk => ⟨hk.1.1, ⟨hk.2, hk.1.2⟩⟩)⟩, ⟨by (with_reducible repeat (first | refine Zag ?_ _ | refine Zak ?_ | refine Zad ?_ _)); exact BK1052.out⟩, ⟨by repeat (first | (with_reducible first | exact HB.out | apply Zab | apply Za | apply Zac | refine Zaf ?_ GE1052.out) | exact HB.out)⟩⟩
   rw [if_neg c5] at H
   have c5b0 : decide (x4_1 < (l0_0.length : Int)) = false := decide_eq_false c5
   clear c5
   replace H := Option.bind_eq_some_iff.mp H
   obtain ⟨⟨t1066, t1069, t1070, t1073, t1076, t1077, t1078, t1081, t1082⟩, A150, H⟩ := H
   replace H : (if t1082 = true then ((Zay.f k1 t1066 l0_8).bind fun bt1085 => ((Zai.f k1 t1066 t1069 t1070 t1073 t1076 t1077 t1078 t1081).bind fun bt1089 => (if bt1085.2 = true then ((Zbp.f k1 t1069 t1070 t1073 t1076 t1077 t1078 t1081 bt1085.1).bind fun t1093 => (if (bt1089.2 == t1093) = true then (if bt1089.2 = true then ((Zap.f k1 bt1089.1 t1066).bind fun t1094 => (if t1094 = true then ((Zav.f k1).bind fun t1095 => (some t1095)) else (none))) else ((Zav.f k1).bind fun t1096 => (some t1096))) else (none))) else (if bt1089.2 = true then (none) else ((Zav.f k1).bind fun t1097 => (some t1097)))))) else ((Zav.f k1).bind fun t1084 => (some t1084))) = some r := H
   have A15 := Zaa.mk A150
   clear A150
   by_cases c16 : t1082 = true
   rotate_left
   ·replace c16 := Bool.eq_false_iff.mpr c16
    subst c16
    have H1 : ((Zav.f k1).bind fun t1084 => (some t1084)) = some r := by rw [if_neg (show ¬ (false = true) by decide)] at H; exact H
    clear H
    have H := H1
    clear H1
    replace H := Option.bind_eq_some_iff.mp H
    obtain ⟨t1084, A810, H⟩ := H
    replace H : (some t1084) = some r := H
    have A81 := Zaa.mk A810
    clear A810
    obtain rfl := Option.some.inj H
    obtain ⟨hcz82_0, hcz82_1, hcz82_2, hcz82_3, hcz82_4, hcz82_5, hcz82_6, hcz82_7, hcz82_8, hcz82_9, hfz82_0, hfz82_1, hfz82_2, hfz82_3, hfz82_4, hfz82_5, hfz82_6, hfz82_7, hfz82_8, hfz82_9⟩ := Zes BK1052.out
    obtain ⟨Ao83, co83, eo83⟩ := Kd.Zdr HO_3.out
    subst eo83
    go_wp2_with (first | ((with_reducible refine Zbo (f := 14) rfl ?_); refine Zcr (some 40) rfl rfl Try.func14 (by kernel_rfl) rfl #[.agg #[.slice Ao83 x3_1.length co83, .int .i64 a0_1, .slice A0_2 l0_2.length c0_2, .slice A0_3 l0_3.length c0_3, .int .i64 a0_4, .int .i64 a0_5, .slice A0_6 l0_6.length c0_6, .int .i64 a0_7, .slice A0_8 l0_8.length c0_8, .slice A0_9 l0_9.length c0_9], .int .i64 3] rfl (by (try simp only [List.map_toArray, List.map_cons, List.map_nil]); first | done | rfl | (simp only [List.length_drop, List.length_take]; rfl)) ?_; (refine withB (m := w.heap.size) (w0 := w) (by repeat (first | (with_reducible first | exact HB.out | apply Zab | apply Za | apply Zac | refine Zaf ?_ GE1052.out) | exact HB.out)) ?_); intro hL_; (with_reducible refine (Zaq.calls k1 _ _ x3_1 a0_1 _ _ l0_2 _ _ l0_3 a0_4 a0_5 _ _ l0_6 a0_7 _ _ l0_8 _ _ l0_9 3 t1066 t1069 t1070 t1073 t1076 t1077 t1078 t1081 false _ ?side1 ?side2 ?side3 ?side4 ?side5 ?side6 ?side7 ?side8 ?side9 ?side10 ?side11 ?side12 A15.out).mono ?_); (case side1 => refine (Kd.Zb2 (e := 23) (base := w.heap.size) (ok := fun k_ => ((P0_0_ k_ ∨ w.heap.size ≤ k_) ∧ k_ ≠ gb1052)) (n := x3_1.length) (c := co83) ?_).2.2; exact (by (with_reducible repeat (first | apply Kd.Zb7 | apply Kd.Zb8 | apply Kd.Zce)); exact (Zga HO_3.out fun _ hk => hk.2))); (case side2 => exact (Kd.Zb2 HO_3.out).2.1); (case side3 => exact Kd.Za8 HR0_2.out hL_); (case side4 => exact HC0_2.out); (case side5 => exact Kd.Za8 HR0_3.out hL_); (case side6 => exact HC0_3.out); (case side7 => exact Kd.Za8 HR0_6.out hL_); (case side8 => exact HC0_6.out); (case side9 => exact Kd.Za8 HR0_8.out hL_); (case side10 => exact HC0_8.out); (case side11 => exact Kd.Za8 HR0_9.out hL_); (case side12 => exact HC0_9.out); rintro e w84 ⟨v1067, v1071, v1074, v1079, rfl, ho0, ho1, ho2, ho3, hb⟩; refine ⟨_, rfl, ?_⟩; have n3_ := Zaa.mk (Kd.Zbs (Kd.Ze6 (M := fun k_ => (w.heap.size ≤ k_)) ho1 (Zae hL_) (fun k_ h_ => h_)) (Zae hL_)); have n4_ := Zaa.mk (Kd.Zbs (Kd.Ze6 (M := fun k_ => (w.heap.size ≤ k_)) ho2 (Zae hL_) (fun k_ h_ => h_)) (Zae hL_)); have n5_ := Zaa.mk (Kd.Zdx (Kd.Zdc (ok' := fun k_ => (P0_0_ k_ ∨ w.heap.size ≤ k_) ∧ some k_ ≠ (v1067 : Value).ownBlock ∧ some k_ ≠ (v1071 : Value).ownBlock ∧ some k_ ≠ (v1074 : Value).ownBlock ∧ some k_ ≠ (.slice Ao83 x3_1.length co83 : Value).ownBlock ∧ k_ ≠ gb1052) (Kd.S_N (Kd.Zd8 (Kd.Zdp ho3 (Kd.Zdn ho0) (by decide)))) (fun k_ hk_ => ⟨(.inr (Nat.le_trans (Zae hL_) hk_.2.1)), hk_.1.2, hk_.1.1.1, hk_.1.1.2, (Kd.fresh' (Kd.N_lt (by (with_reducible repeat (first | apply Kd.Zb7 | apply Kd.Zb8 | apply Kd.Zce)); exact (Zga HO_3.out fun _ hk => hk.2))) k_ hk_.2.1), (Kd.freshB (g := gb1052) (o := .cells #[.slice Ao83 x3_1.length co83, .int .i64 a0_1, .slice A0_2 l0_2.length c0_2, .slice A0_3 l0_3.length c0_3, .int .i64 a0_4, .int .i64 a0_5, .slice A0_6 l0_6.length c0_6, .int .i64 a0_7, .slice A0_8 l0_8.length c0_8, .slice A0_9 l0_9.length c0_9] 27 (0, 0)) (by (with_reducible repeat (first | refine Zag ?_ _ | refine Zak ?_ | refine Zad ?_ _)); refine Zbl (cs := #[.slice A0_0 l0_0.length c0_0, .int .i64 a0_1, .slice A0_2 l0_2.length c0_2, .slice A0_3 l0_3.length c0_3, .int .i64 a0_4, .int .i64 a0_5, .slice A0_6 l0_6.length c0_6, .int .i64 a0_7, .slice A0_8 l0_8.length c0_8, .slice A0_9 l0_9.length c0_9]) ?_ 0 _ rfl; (with_reducible repeat (first | refine Zag ?_ _ | refine Zak ?_ | refine Zad ?_ _)); exact BK1052.out) k_ hk_.2.1)⟩)) (Zae hL_)); have n6_ := Zaa.mk (Zbe (g := gb1052) (o := .cells #[.slice Ao83 x3_1.length co83, .int .i64 a0_1, .slice A0_2 l0_2.length c0_2, .slice A0_3 l0_3.length c0_3, .int .i64 a0_4, .int .i64 a0_5, .slice A0_6 l0_6.length c0_6, .int .i64 a0_7, .slice A0_8 l0_8.length c0_8, .slice A0_9 l0_9.length c0_9] 27 (0, 0)) (by (with_reducible repeat (first | refine Zag ?_ _ | refine Zak ?_ | refine Zad ?_ _)); refine Zbl (cs := #[.slice A0_0 l0_0.length c0_0, .int .i64 a0_1, .slice A0_2 l0_2.length c0_2, .slice A0_3 l0_3.length c0_3, .int .i64 a0_4, .int .i64 a0_5, .slice A0_6 l0_6.length c0_6, .int .i64 a0_7, .slice A0_8 l0_8.length c0_8, .slice A0_9 l0_9.length c0_9]) ?_ 0 _ rfl; (with_reducible repeat (first | refine Zag ?_ _ | refine Zak ?_ | refine Zad ?_ _)); exact BK1052.out) hb); have n7_ := Zaa.mk (Zam hL_ hb); clear HO_3; clear HO_1053000; clear BK1052; clear HB; have HO1072 := n3_; have HO1075 := n4_; have HO1080 := n5_; have BK1052 := n6_; have HB := n7_; clear n3_ n4_ n5_ n6_ n7_; (try clear hb); (try clear hb2); (try clear hk); (try clear hi); (try clear ho0); (try clear ho1); (try clear ho2); (try clear ho3)) | ((with_reducible refine Zbq (N := 6) rfl ?_); refine Zb9 ?hg (N := 6) ?hd (cs := #[.int .i64 0, .slice none 0 0, .slice none 0 0, .int .i64 0, .int .i64 0, .slice none 0 0, .int .i64 0]) (t := 25) ?hr ?_; (case hd => rfl); (case hg => rfl); (case hr => first | (go_simp; done) | (go_simp; rfl)); intro gb1083 hg w85 hbox hb; have n3_ := Zaa.mk (Kd.Zca (mvR HO1072.out) hb); have n4_ := Zaa.mk (Kd.Zca (mvR HO1075.out) hb); have n5_ := Zaa.mk (Kd.Zdm (Kd.Zd6 (mvN HO1080.out) gb1083 (Nat.le_of_eq hg.symm)) hb); have n7_ := Zaa.mk (Zam (by repeat (first | (with_reducible first | exact HB.out | apply Zab | apply Za | apply Zac | refine Zaf ?_ GE1052.out) | exact HB.out)) hb); have n8_ := Zaa.mk (hbox); have n10_ := Zaa.mk ((by rw [hg]; exact (Zae (by repeat (first | (with_reducible first | exact HB.out | apply Zab | apply Za | apply Zac | refine Zaf ?_ GE1052.out) | exact HB.out))) : w.heap.size ≤ gb1083)); have n11_ := Zaa.mk ((by rw [hg]; exact Nat.ne_of_lt (Zdj (g := gb1052) (o := .cells #[.slice Ao83 x3_1.length co83, .int .i64 a0_1, .slice A0_2 l0_2.length c0_2, .slice A0_3 l0_3.length c0_3, .int .i64 a0_4, .int .i64 a0_5, .slice A0_6 l0_6.length c0_6, .int .i64 a0_7, .slice A0_8 l0_8.length c0_8, .slice A0_9 l0_9.length c0_9] 27 (0, 0)) (mvK BK1052.out)) : gb1052 ≠ gb1083)); have n12_ := Zaa.mk ((by rw [hg]; exact Nat.ne_of_gt (Zdj (g := gb1052) (o := .cells #[.slice Ao83 x3_1.length co83, .int .i64 a0_1, .slice A0_2 l0_2.length c0_2, .slice A0_3 l0_3.length c0_3, .int .i64 a0_4, .int .i64 a0_5, .slice A0_6 l0_6.length c0_6, .int .i64 a0_7, .slice A0_8 l0_8.length c0_8, .slice A0_9 l0_9.length c0_9] 27 (0, 0)) (mvK BK1052.out)) : gb1083 ≠ gb1052)); clear HO1072; clear HO1075; clear HO1080; clear BK1052; clear HB; have HO1072 := n3_; have HO1075 := n4_; have HO1080 := n5_; have HB := n7_; have BK1083 := n8_; have GE1083 := n10_; have NB1052_1083 := n11_; have NB1083_1052 := n12_; clear n3_ n4_ n5_ n7_ n8_ n10_ n11_ n12_; clear hb hbox hg; have hnb86 := NB1083_1052.out; have hnc86 := NB1052_1083.out; obtain ⟨hcz87_0, hcz87_1, hcz87_2, hcz87_3, hcz87_4, hcz87_5, hcz87_6, hfz87_0, hfz87_1, hfz87_2, hfz87_3, hfz87_4, hfz87_5, hfz87_6⟩ := Zcg BK1083.out; obtain ⟨Ao88, co88, eo88⟩ := Kd.Zbn HO1072.out; subst eo88; obtain ⟨Ao89, co89, eo89⟩ := Kd.Zbn HO1075.out; subst eo89; obtain ⟨Ao90, co90, eo90⟩ := Kd.Zdr HO1080.out; subst eo90) | ((with_reducible refine Zbo (f := 34) rfl ?_); refine Zcr (some 46) rfl rfl Try.func34 (by kernel_rfl) rfl #[] rfl (by (try simp only [List.map_toArray, List.map_cons, List.map_nil]); first | done | rfl | (simp only [List.length_drop, List.length_take]; rfl)) ?_; (with_reducible refine (Zav.calls k1  t1084 _ A81.out).mono ?_); rintro e w91 ⟨rfl, hb⟩; refine ⟨_, rfl, ?_⟩; have n8_ := Zaa.mk (Zam (by repeat (first | (with_reducible first | exact HB.out | apply Zab | apply Za | apply Zac | refine Zaf ?_ GE1052.out | refine Zaf ?_ GE1083.out) | exact HB.out)) hb); clear HO1072; clear HO1075; clear HO1080; clear BK1083; clear HB; have HB := n8_; clear n8_; (try clear hb); (try clear hb2); (try clear hk); (try clear hi)))
    go_ret
    exact ⟨by first | rfl | (simp [Za1, Za2] <;> rfl) | (simp [*, Za1, Za2] <;> rfl), by repeat (first | (with_reducible first | exact HB.out | apply Zab | apply Za | apply Zac | refine Zaf ?_ GE1052.out | refine Zaf ?_ GE1083.out) | exact HB.out)⟩
   subst c16
   have H1 : ((Zay.f k1 t1066 l0_8).bind fun bt1085 => ((Zai.f k1 t1066 t1069 t1070 t1073 t1076 t1077 t1078 t1081).bind fun bt1089 => (if bt1085.2 = true then ((Zbp.f k1 t1069 t1070 t1073 t1076 t1077 t1078 t1081 bt1085.1).bind fun t1093 => (if (bt1089.2 == t1093) = true then (if bt1089.2 = true then ((Zap.f k1 bt1089.1 t1066).bind fun t1094 => (if t1094 = true then ((Zav.f k1).bind fun t1095 => (some t1095)) else (none))) else ((Zav.f k1).bind fun t1096 => (some t1096))) else (none))) else (if bt1089.2 = true then (none) else ((Zav.f k1).bind fun t1097 => (some t1097)))))) = some r := by rw [if_pos rfl] at H; exact H
   clear H
   have H := H1
   clear H1
   replace H := Option.bind_eq_some_iff.mp H
   obtain ⟨⟨t1085, t1086⟩, A170, H⟩ := H
   replace H : ((Zai.f k1 t1066 t1069 t1070 t1073 t1076 t1077 t1078 t1081).bind fun bt1089 => (if t1086 = true then ((Zbp.f k1 t1069 t1070 t1073 t1076 t1077 t1078 t1081 t1085).bind fun t1093 => (if (bt1089.2 == t1093) = true then (if bt1089.2 = true then ((Zap.f k1 bt1089.1 t1066).bind fun t1094 => (if t1094 = true then ((Zav.f k1).bind fun t1095 => (some t1095)) else (none))) else ((Zav.f k1).bind fun t1096 => (some t1096))) else (none))) else (if bt1089.2 = true then (none) else ((Zav.f k1).bind fun t1097 => (some t1097))))) = some r := H
   have A17 := Zaa.mk A170
   clear A170
   replace H := Option.bind_eq_some_iff.mp H
   obtain ⟨⟨t1089, t1092⟩, A180, H⟩ := H
   replace H : (if t1086 = true then ((Zbp.f k1 t1069 t1070 t1073 t1076 t1077 t1078 t1081 t1085).bind fun t1093 => (if (t1092 == t1093) = true then (if t1092 = true then ((Zap.f k1 t1089 t1066).bind fun t1094 => (if t1094 = true then ((Zav.f k1).bind fun t1095 => (some t1095)) else (none))) else ((Zav.f k1).bind fun t1096 => (some t1096))) else (none))) else (if t1092 = true then (none) else ((Zav.f k1).bind fun t1097 => (some t1097)))) = some r := H
   have A18 := Zaa.mk A180
   clear A180
   by_cases c19 : t1086 = true
   rotate_left
   ·replace c19 := Bool.eq_false_iff.mpr c19
    subst c19
    have H1 : (if t1092 = true then (none) else ((Zav.f k1).bind fun t1097 => (some t1097))) = some r := by rw [if_neg (show ¬ (false = true) by decide)] at H; exact H
    clear H
    have H := H1
    clear H1
    by_cases c64 : t1092 = true
    ·subst c64
     have H1 : (none) = some r := by rw [if_pos rfl] at H; exact H
     clear H
     have H := H1
     clear H1
     exact absurd H (by simp)
    replace c64 := Bool.eq_false_iff.mpr c64
    subst c64
    have H1 : ((Zav.f k1).bind fun t1097 => (some t1097)) = some r := by rw [if_neg (show ¬ (false = true) by decide)] at H; exact H
    clear H
    have H := H1
    clear H1
    replace H := Option.bind_eq_some_iff.mp H
    obtain ⟨t1097, A650, H⟩ := H
    replace H : (some t1097) = some r := H
    have A65 := Zaa.mk A650
    clear A650
    obtain rfl := Option.some.inj H
    obtain ⟨hcz66_0, hcz66_1, hcz66_2, hcz66_3, hcz66_4, hcz66_5, hcz66_6, hcz66_7, hcz66_8, hcz66_9, hfz66_0, hfz66_1, hfz66_2, hfz66_3, hfz66_4, hfz66_5, hfz66_6, hfz66_7, hfz66_8, hfz66_9⟩ := Zes BK1052.out
    obtain ⟨Ao67, co67, eo67⟩ := Kd.Zdr HO_3.out
    subst eo67
    go_wp2_with (first | ((with_reducible refine Zbo (f := 14) rfl ?_); refine Zcr (some 40) rfl rfl Try.func14 (by kernel_rfl) rfl #[.agg #[.slice Ao67 x3_1.length co67, .int .i64 a0_1, .slice A0_2 l0_2.length c0_2, .slice A0_3 l0_3.length c0_3, .int .i64 a0_4, .int .i64 a0_5, .slice A0_6 l0_6.length c0_6, .int .i64 a0_7, .slice A0_8 l0_8.length c0_8, .slice A0_9 l0_9.length c0_9], .int .i64 3] rfl (by (try simp only [List.map_toArray, List.map_cons, List.map_nil]); first | done | rfl | (simp only [List.length_drop, List.length_take]; rfl)) ?_; (refine withB (m := w.heap.size) (w0 := w) (by repeat (first | (with_reducible first | exact HB.out | apply Zab | apply Za | apply Zac | refine Zaf ?_ GE1052.out) | exact HB.out)) ?_); intro hL_; (with_reducible refine (Zaq.calls k1 _ _ x3_1 a0_1 _ _ l0_2 _ _ l0_3 a0_4 a0_5 _ _ l0_6 a0_7 _ _ l0_8 _ _ l0_9 3 t1066 t1069 t1070 t1073 t1076 t1077 t1078 t1081 true _ ?side1 ?side2 ?side3 ?side4 ?side5 ?side6 ?side7 ?side8 ?side9 ?side10 ?side11 ?side12 A15.out).mono ?_); (case side1 => refine (Kd.Zb2 (e := 23) (base := w.heap.size) (ok := fun k_ => ((P0_0_ k_ ∨ w.heap.size ≤ k_) ∧ k_ ≠ gb1052)) (n := x3_1.length) (c := co67) ?_).2.2; exact (by (with_reducible repeat (first | apply Kd.Zb7 | apply Kd.Zb8 | apply Kd.Zce)); exact (Zga HO_3.out fun _ hk => hk.2))); (case side2 => exact (Kd.Zb2 HO_3.out).2.1); (case side3 => exact Kd.Za8 HR0_2.out hL_); (case side4 => exact HC0_2.out); (case side5 => exact Kd.Za8 HR0_3.out hL_); (case side6 => exact HC0_3.out); (case side7 => exact Kd.Za8 HR0_6.out hL_); (case side8 => exact HC0_6.out); (case side9 => exact Kd.Za8 HR0_8.out hL_); (case side10 => exact HC0_8.out); (case side11 => exact Kd.Za8 HR0_9.out hL_); (case side12 => exact HC0_9.out); rintro e w68 ⟨v1067, v1071, v1074, v1079, rfl, ho0, ho1, ho2, ho3, hb⟩; refine ⟨_, rfl, ?_⟩; have n2_ := Zaa.mk (Kd.Zdx (Kd.Zdc (ok' := fun k_ => (P0_0_ k_ ∨ w.heap.size ≤ k_) ∧ some k_ ≠ (v1071 : Value).ownBlock ∧ some k_ ≠ (v1074 : Value).ownBlock ∧ some k_ ≠ (v1079 : Value).ownBlock ∧ some k_ ≠ (.slice Ao67 x3_1.length co67 : Value).ownBlock ∧ k_ ≠ gb1052) (Kd.S_N (Kd.Zd8 (Kd.Zdp (Kd.Zdp (Kd.Zdp ho0 (Kd.Zdk ho1) (by decide)) (Kd.Zdk ho2) (by decide)) (Kd.Zdn ho3) (by decide)))) (fun k_ hk_ => ⟨(.inr (Nat.le_trans (Zae hL_) hk_.2.1)), hk_.1.1.1.2, hk_.1.1.2, hk_.1.2, (Kd.fresh' (Kd.N_lt (by (with_reducible repeat (first | apply Kd.Zb7 | apply Kd.Zb8 | apply Kd.Zce)); exact (Zga HO_3.out fun _ hk => hk.2))) k_ hk_.2.1), (Kd.freshB (g := gb1052) (o := .cells #[.slice Ao67 x3_1.length co67, .int .i64 a0_1, .slice A0_2 l0_2.length c0_2, .slice A0_3 l0_3.length c0_3, .int .i64 a0_4, .int .i64 a0_5, .slice A0_6 l0_6.length c0_6, .int .i64 a0_7, .slice A0_8 l0_8.length c0_8, .slice A0_9 l0_9.length c0_9] 27 (0, 0)) (by (with_reducible repeat (first | refine Zag ?_ _ | refine Zak ?_ | refine Zad ?_ _)); refine Zbl (cs := #[.slice A0_0 l0_0.length c0_0, .int .i64 a0_1, .slice A0_2 l0_2.length c0_2, .slice A0_3 l0_3.length c0_3, .int .i64 a0_4, .int .i64 a0_5, .slice A0_6 l0_6.length c0_6, .int .i64 a0_7, .slice A0_8 l0_8.length c0_8, .slice A0_9 l0_9.length c0_9]) ?_ 0 _ rfl; (with_reducible repeat (first | refine Zag ?_ _ | refine Zak ?_ | refine Zad ?_ _)); exact BK1052.out) k_ hk_.2.1)⟩)) (Zae hL_)); have n3_ := Zaa.mk (Kd.Zbs (Kd.Ze6 (M := fun k_ => (w.heap.size ≤ k_)) ho1 (Zae hL_) (fun k_ h_ => h_)) (Zae hL_)); have n4_ := Zaa.mk (Kd.Zbs (Kd.Ze6 (M := fun k_ => (w.heap.size ≤ k_)) ho2 (Zae hL_) (fun k_ h_ => h_)) (Zae hL_)); have n5_ := Zaa.mk (Kd.Zdx (Kd.Zdc (ok' := fun k_ => (P0_0_ k_ ∨ w.heap.size ≤ k_) ∧ some k_ ≠ (v1067 : Value).ownBlock ∧ some k_ ≠ (v1071 : Value).ownBlock ∧ some k_ ≠ (v1074 : Value).ownBlock ∧ some k_ ≠ (.slice Ao67 x3_1.length co67 : Value).ownBlock ∧ k_ ≠ gb1052) (Kd.S_N (Kd.Zd8 (Kd.Zdp ho3 (Kd.Zdn ho0) (by decide)))) (fun k_ hk_ => ⟨(.inr (Nat.le_trans (Zae hL_) hk_.2.1)), hk_.1.2, hk_.1.1.1, hk_.1.1.2, (Kd.fresh' (Kd.N_lt (by (with_reducible repeat (first | apply Kd.Zb7 | apply Kd.Zb8 | apply Kd.Zce)); exact (Zga HO_3.out fun _ hk => hk.2))) k_ hk_.2.1), (Kd.freshB (g := gb1052) (o := .cells #[.slice Ao67 x3_1.length co67, .int .i64 a0_1, .slice A0_2 l0_2.length c0_2, .slice A0_3 l0_3.length c0_3, .int .i64 a0_4, .int .i64 a0_5, .slice A0_6 l0_6.length c0_6, .int .i64 a0_7, .slice A0_8 l0_8.length c0_8, .slice A0_9 l0_9.length c0_9] 27 (0, 0)) (by (with_reducible repeat (first | refine Zag ?_ _ | refine Zak ?_ | refine Zad ?_ _)); refine Zbl (cs := #[.slice A0_0 l0_0.length c0_0, .int .i64 a0_1, .slice A0_2 l0_2.length c0_2, .slice A0_3 l0_3.length c0_3, .int .i64 a0_4, .int .i64 a0_5, .slice A0_6 l0_6.length c0_6, .int .i64 a0_7, .slice A0_8 l0_8.length c0_8, .slice A0_9 l0_9.length c0_9]) ?_ 0 _ rfl; (with_reducible repeat (first | refine Zag ?_ _ | refine Zak ?_ | refine Zad ?_ _)); exact BK1052.out) k_ hk_.2.1)⟩)) (Zae hL_)); have n6_ := Zaa.mk (Zbe (g := gb1052) (o := .cells #[.slice Ao67 x3_1.length co67, .int .i64 a0_1, .slice A0_2 l0_2.length c0_2, .slice A0_3 l0_3.length c0_3, .int .i64 a0_4, .int .i64 a0_5, .slice A0_6 l0_6.length c0_6, .int .i64 a0_7, .slice A0_8 l0_8.length c0_8, .slice A0_9 l0_9.length c0_9] 27 (0, 0)) (by (with_reducible repeat (first | refine Zag ?_ _ | refine Zak ?_ | refine Zad ?_ _)); refine Zbl (cs := #[.slice A0_0 l0_0.length c0_0, .int .i64 a0_1, .slice A0_2 l0_2.length c0_2, .slice A0_3 l0_3.length c0_3, .int .i64 a0_4, .int .i64 a0_5, .slice A0_6 l0_6.length c0_6, .int .i64 a0_7, .slice A0_8 l0_8.length c0_8, .slice A0_9 l0_9.length c0_9]) ?_ 0 _ rfl; (with_reducible repeat (first | refine Zag ?_ _ | refine Zak ?_ | refine Zad ?_ _)); exact BK1052.out) hb); have n7_ := Zaa.mk (Zam hL_ hb); clear HO_3; clear HO_1053000; clear BK1052; clear HB; have HO1068 := n2_; have HO1072 := n3_; have HO1075 := n4_; have HO1080 := n5_; have BK1052 := n6_; have HB := n7_; clear n2_ n3_ n4_ n5_ n6_ n7_; (try clear hb); (try clear hb2); (try clear hk); (try clear hi); (try clear ho0); (try clear ho1); (try clear ho2); (try clear ho3)) | ((with_reducible refine Zbq (N := 6) rfl ?_); refine Zb9 ?hg (N := 6) ?hd (cs := #[.int .i64 0, .slice none 0 0, .slice none 0 0, .int .i64 0, .int .i64 0, .slice none 0 0, .int .i64 0]) (t := 25) ?hr ?_; (case hd => rfl); (case hg => rfl); (case hr => first | (go_simp; done) | (go_simp; rfl)); intro gb1083 hg w69 hbox hb; have n2_ := Zaa.mk (Kd.Zdm (Kd.Zd6 (mvN HO1068.out) gb1083 (Nat.le_of_eq hg.symm)) hb); have n3_ := Zaa.mk (Kd.Zca (mvR HO1072.out) hb); have n4_ := Zaa.mk (Kd.Zca (mvR HO1075.out) hb); have n5_ := Zaa.mk (Kd.Zdm (Kd.Zd6 (mvN HO1080.out) gb1083 (Nat.le_of_eq hg.symm)) hb); have n6_ := Zaa.mk (Zbe (g := gb1052) (o := .cells #[.slice Ao67 x3_1.length co67, .int .i64 a0_1, .slice A0_2 l0_2.length c0_2, .slice A0_3 l0_3.length c0_3, .int .i64 a0_4, .int .i64 a0_5, .slice A0_6 l0_6.length c0_6, .int .i64 a0_7, .slice A0_8 l0_8.length c0_8, .slice A0_9 l0_9.length c0_9] 27 (0, 0)) (mvK BK1052.out) hb); have n7_ := Zaa.mk (Zam (by repeat (first | (with_reducible first | exact HB.out | apply Zab | apply Za | apply Zac | refine Zaf ?_ GE1052.out) | exact HB.out)) hb); have n8_ := Zaa.mk (hbox); have n10_ := Zaa.mk ((by rw [hg]; exact (Zae (by repeat (first | (with_reducible first | exact HB.out | apply Zab | apply Za | apply Zac | refine Zaf ?_ GE1052.out) | exact HB.out))) : w.heap.size ≤ gb1083)); have n11_ := Zaa.mk ((by rw [hg]; exact Nat.ne_of_lt (Zdj (g := gb1052) (o := .cells #[.slice Ao67 x3_1.length co67, .int .i64 a0_1, .slice A0_2 l0_2.length c0_2, .slice A0_3 l0_3.length c0_3, .int .i64 a0_4, .int .i64 a0_5, .slice A0_6 l0_6.length c0_6, .int .i64 a0_7, .slice A0_8 l0_8.length c0_8, .slice A0_9 l0_9.length c0_9] 27 (0, 0)) (mvK BK1052.out)) : gb1052 ≠ gb1083)); have n12_ := Zaa.mk ((by rw [hg]; exact Nat.ne_of_gt (Zdj (g := gb1052) (o := .cells #[.slice Ao67 x3_1.length co67, .int .i64 a0_1, .slice A0_2 l0_2.length c0_2, .slice A0_3 l0_3.length c0_3, .int .i64 a0_4, .int .i64 a0_5, .slice A0_6 l0_6.length c0_6, .int .i64 a0_7, .slice A0_8 l0_8.length c0_8, .slice A0_9 l0_9.length c0_9] 27 (0, 0)) (mvK BK1052.out)) : gb1083 ≠ gb1052)); clear HO1068; clear HO1072; clear HO1075; clear HO1080; clear BK1052; clear HB; have HO1068 := n2_; have HO1072 := n3_; have HO1075 := n4_; have HO1080 := n5_; have BK1052 := n6_; have HB := n7_; have BK1083 := n8_; have GE1083 := n10_; have NB1052_1083 := n11_; have NB1083_1052 := n12_; clear n2_ n3_ n4_ n5_ n6_ n7_ n8_ n10_ n11_ n12_; clear hb hbox hg; have hnb70 := NB1083_1052.out; have hnc70 := NB1052_1083.out; obtain ⟨hcz71_0, hcz71_1, hcz71_2, hcz71_3, hcz71_4, hcz71_5, hcz71_6, hfz71_0, hfz71_1, hfz71_2, hfz71_3, hfz71_4, hfz71_5, hfz71_6⟩ := Zcg BK1083.out; obtain ⟨Ao72, co72, eo72⟩ := Kd.Zbn HO1072.out; subst eo72; obtain ⟨Ao73, co73, eo73⟩ := Kd.Zbn HO1075.out; subst eo73; obtain ⟨Ao74, co74, eo74⟩ := Kd.Zdr HO1080.out; subst eo74; obtain ⟨hcz75_0, hcz75_1, hcz75_2, hcz75_3, hcz75_4, hcz75_5, hcz75_6, hcz75_7, hcz75_8, hcz75_9, hfz75_0, hfz75_1, hfz75_2, hfz75_3, hfz75_4, hfz75_5, hfz75_6, hfz75_7, hfz75_8, hfz75_9⟩ := Zes BK1052.out; obtain ⟨Ao76, co76, eo76⟩ := Kd.Zdr HO1068.out; subst eo76) | ((with_reducible refine Zbo (f := 30) rfl ?_); refine Zcr (some 51) rfl rfl Try.func30 (by kernel_rfl) rfl #[.slice Ao76 t1066.length co76, .slice A0_8 l0_8.length c0_8] rfl (by (try simp only [List.map_toArray, List.map_cons, List.map_nil]); first | done | rfl | (simp only [List.length_drop, List.length_take]; rfl)) ?_; (refine withB (m := w.heap.size) (w0 := w) (by repeat (first | (with_reducible first | exact HB.out | apply Zab | apply Za | apply Zac | refine Zaf ?_ GE1052.out | refine Zaf ?_ GE1083.out) | exact HB.out)) ?_); intro hL_; (with_reducible refine (Zay.calls k1 _ _ t1066 _ _ l0_8 t1085 false _ ?side1 ?side2 ?side3 ?side4 A17.out).mono ?_); (case side1 => refine (Kd.Zb2 (e := 39) (base := w.heap.size) (ok := fun k_ => (((P0_0_ k_ ∨ w.heap.size ≤ k_) ∧ (some k_ ≠ (.slice Ao72 t1070.length co72 : Value).ownBlock ∧ (some k_ ≠ (.slice Ao73 t1073.length co73 : Value).ownBlock ∧ (some k_ ≠ (.slice Ao74 t1078.length co74 : Value).ownBlock ∧ (some k_ ≠ (.slice Ao67 x3_1.length co67 : Value).ownBlock ∧ k_ ≠ gb1052))))) ∧ k_ ≠ gb1083)) (n := t1066.length) (c := co76) ?_).2.2; exact (by (with_reducible repeat (first | apply Kd.Zb7 | apply Kd.Zb8 | apply Kd.Zce)); exact (Zfx HO1068.out fun _ hk => hk.2))); (case side2 => exact (Kd.Zb2 HO1068.out).2.1); (case side3 => exact Kd.Za8 HR0_8.out hL_); (case side4 => exact HC0_8.out); rintro e w77 ⟨v1087, rfl, ho0, hb⟩; refine ⟨_, rfl, ?_⟩; have n2_ := Zaa.mk (Kd.Zcj (by (with_reducible repeat (first | apply Kd.Zb7 | apply Kd.Zb8 | apply Kd.Zce)); exact (Zfx HO1068.out fun _ hk => hk.2)) (Kd.Zb6 ho0) hb); have n3_ := Zaa.mk (Kd.Zck (by (with_reducible repeat (first | apply Kd.Za6 | apply Kd.Za5 | apply Kd.Zbb)); exact (Zfg (Kd.Zc HO1072.out BK1083.out (by decide)))) (Kd.Zb6 ho0) hb); have n4_ := Zaa.mk (Kd.Zck (by (with_reducible repeat (first | apply Kd.Za6 | apply Kd.Za5 | apply Kd.Zbb)); exact (Zfg (Kd.Zc HO1075.out BK1083.out (by decide)))) (Kd.Zb6 ho0) hb); have n5_ := Zaa.mk (Kd.Zcj (by (with_reducible repeat (first | apply Kd.Zb7 | apply Kd.Zb8 | apply Kd.Zce)); exact (Zfx HO1080.out fun _ hk => hk.2)) (Kd.Zb6 ho0) hb); have n8_ := Zaa.mk (Zbe (g := gb1083) (o := .cells #[.int .i64 t1069, .slice Ao72 t1070.length co72, .slice Ao73 t1073.length co73, .int .i64 t1076, .int .i64 t1077, .slice Ao74 t1078.length co74, .int .i64 t1081] 25 (0, 0)) (by (with_reducible repeat (first | refine Zag ?_ _ | refine Zak ?_ | refine Zad ?_ _)); refine Zbl (cs := #[.int .i64 t1069, .slice Ao72 t1070.length co72, .slice Ao73 t1073.length co73, .int .i64 t1076, .int .i64 t1077, .slice Ao74 t1078.length co74, .int .i64 0]) ?_ 6 _ rfl; (with_reducible repeat (first | refine Zag ?_ _ | refine Zak ?_ | refine Zad ?_ _)); refine Zbl (cs := #[.int .i64 t1069, .slice Ao72 t1070.length co72, .slice Ao73 t1073.length co73, .int .i64 t1076, .int .i64 t1077, .slice none 0 0, .int .i64 0]) ?_ 5 _ rfl; (with_reducible repeat (first | refine Zag ?_ _ | refine Zak ?_ | refine Zad ?_ _)); refine Zbl (cs := #[.int .i64 t1069, .slice Ao72 t1070.length co72, .slice Ao73 t1073.length co73, .int .i64 t1076, .int .i64 0, .slice none 0 0, .int .i64 0]) ?_ 4 _ rfl; (with_reducible repeat (first | refine Zag ?_ _ | refine Zak ?_ | refine Zad ?_ _)); refine Zbl (cs := #[.int .i64 t1069, .slice Ao72 t1070.length co72, .slice Ao73 t1073.length co73, .int .i64 0, .int .i64 0, .slice none 0 0, .int .i64 0]) ?_ 3 _ rfl; (with_reducible repeat (first | refine Zag ?_ _ | refine Zak ?_ | refine Zad ?_ _)); refine Zbl (cs := #[.int .i64 t1069, .slice Ao72 t1070.length co72, .slice none 0 0, .int .i64 0, .int .i64 0, .slice none 0 0, .int .i64 0]) ?_ 2 _ rfl; (with_reducible repeat (first | refine Zag ?_ _ | refine Zak ?_ | refine Zad ?_ _)); refine Zbl (cs := #[.int .i64 t1069, .slice none 0 0, .slice none 0 0, .int .i64 0, .int .i64 0, .slice none 0 0, .int .i64 0]) ?_ 1 _ rfl; (with_reducible repeat (first | refine Zag ?_ _ | refine Zak ?_ | refine Zad ?_ _)); refine Zbl (cs := #[.int .i64 0, .slice none 0 0, .slice none 0 0, .int .i64 0, .int .i64 0, .slice none 0 0, .int .i64 0]) ?_ 0 _ rfl; (with_reducible repeat (first | refine Zag ?_ _ | refine Zak ?_ | refine Zad ?_ _)); exact BK1083.out) hb); have n9_ := Zaa.mk (Zam hL_ hb); clear HO1068; clear HO1072; clear HO1075; clear HO1080; clear BK1052; clear BK1083; clear HB; have HO1068 := n2_; have HO1072 := n3_; have HO1075 := n4_; have HO1080 := n5_; have BK1083 := n8_; have HB := n9_; clear n2_ n3_ n4_ n5_ n8_ n9_; (try clear hb); (try clear hb2); (try clear hk); (try clear hi); (try clear ho0); obtain ⟨hcz78_0, hcz78_1, hcz78_2, hcz78_3, hcz78_4, hcz78_5, hcz78_6, hfz78_0, hfz78_1, hfz78_2, hfz78_3, hfz78_4, hfz78_5, hfz78_6⟩ := Zcg BK1083.out) | ((with_reducible refine Zbo (f := 35) rfl ?_); refine Zcr (some 57) rfl rfl Try.func35 (by kernel_rfl) rfl #[.slice Ao76 t1066.length co76, .agg #[.int .i64 t1069, .slice Ao72 t1070.length co72, .slice Ao73 t1073.length co73, .int .i64 t1076, .int .i64 t1077, .slice Ao74 t1078.length co74, .int .i64 t1081]] rfl (by (try simp only [List.map_toArray, List.map_cons, List.map_nil]); first | done | rfl | (simp only [List.length_drop, List.length_take]; rfl)) ?_; (with_reducible refine (Zai.calls k1 _ _ t1066 t1069 _ _ t1070 _ _ t1073 t1076 t1077 _ _ t1078 t1081 t1089 false _ ?side1 ?side2 ?side3 ?side4 ?side5 ?side6 ?side7 ?side8 A18.out).mono ?_); (case side1 => repeat (first | exact (Kd.Zb2 HO1068.out).2.2 | (with_reducible refine Kd.C_alloc ?_ _) | (with_reducible refine Kd.Za0 ?_ _) | (with_reducible refine Kd.C_drew ?_))); (case side2 => exact (Kd.Zb2 HO1068.out).2.1); (case side3 => repeat (first | exact (Kd.Zaz HO1072.out).2.2 | (with_reducible refine Kd.C_alloc ?_ _) | (with_reducible refine Kd.Za0 ?_ _) | (with_reducible refine Kd.C_drew ?_))); (case side4 => exact (Kd.Zaz HO1072.out).2.1); (case side5 => repeat (first | exact (Kd.Zaz HO1075.out).2.2 | (with_reducible refine Kd.C_alloc ?_ _) | (with_reducible refine Kd.Za0 ?_ _) | (with_reducible refine Kd.C_drew ?_))); (case side6 => exact (Kd.Zaz HO1075.out).2.1); (case side7 => repeat (first | exact (Kd.Zb2 HO1080.out).2.2 | (with_reducible refine Kd.C_alloc ?_ _) | (with_reducible refine Kd.Za0 ?_ _) | (with_reducible refine Kd.C_drew ?_))); (case side8 => exact (Kd.Zb2 HO1080.out).2.1); rintro e w79 ⟨v1090, rfl, ho0, hb⟩; refine ⟨_, rfl, ?_⟩; have n10_ := Zaa.mk (Zam (by repeat (first | (with_reducible first | exact HB.out | apply Zab | apply Za | apply Zac | refine Zaf ?_ GE1052.out | refine Zaf ?_ GE1083.out) | exact HB.out)) hb); clear HO1068; clear HO1072; clear HO1075; clear HO1080; clear BK1083; clear HB; have HB := n10_; clear n10_; (try clear hb); (try clear hb2); (try clear hk); (try clear hi); (try clear ho0)) | (go_at_call 34; (with_reducible refine (Zav.calls k1  t1097 _ A65.out).mono ?_); rintro e w80 ⟨rfl, hb⟩; have n10_ := Zaa.mk (Zam (by repeat (first | (with_reducible first | exact HB.out | apply Zab | apply Za | apply Zac | refine Zaf ?_ GE1052.out | refine Zaf ?_ GE1083.out) | exact HB.out)) hb); clear HB; have HB := n10_; clear n10_; (try clear hb); (try clear hb2); (try clear hk); (try clear hi)))
    go_ret
    exact ⟨by first | rfl | (simp [Za1, Za2] <;> rfl) | (simp [*, Za1, Za2] <;> rfl), by repeat (first | (with_reducible first | exact HB.out | apply Zab | apply Za | apply Zac | refine Zaf ?_ GE1052.out | refine Zaf ?_ GE1083.out) | exact HB.out)⟩
   subst c19
   have H1 : ((Zbp.f k1 t1069 t1070 t1073 t1076 t1077 t1078 t1081 t1085).bind fun t1093 => (if (t1092 == t1093) = true then (if t1092 = true then ((Zap.f k1 t1089 t1066).bind fun t1094 => (if t1094 = true then ((Zav.f k1).bind fun t1095 => (some t1095)) else (none))) else ((Zav.f k1).bind fun t1096 => (some t1096))) else (none))) = some r := by rw [if_pos rfl] at H; exact H
   clear H
   have H := H1
   clear H1
   replace H := Option.bind_eq_some_iff.mp H
   obtain ⟨t1093, A200, H⟩ := H
   replace H : (if (t1092 == t1093) = true then (if t1092 = true then ((Zap.f k1 t1089 t1066).bind fun t1094 => (if t1094 = true then ((Zav.f k1).bind fun t1095 => (some t1095)) else (none))) else ((Zav.f k1).bind fun t1096 => (some t1096))) else (none)) = some r := H
   have A20 := Zaa.mk A200
   clear A200
   by_cases c21 : (t1092 == t1093) = true
   rotate_left
   ·rw [if_neg c21] at H
    exact absurd H (by simp)
   rw [if_pos c21] at H
   have c21b0 : (t1092 == t1093) = true := c21
   (try (have c21b1 : decide (t1092 = t1093) = true := by simpa using c21))
   (try (have c21b2 : (t1092 == t1093) = true := by simpa using c21))
   clear c21
   by_cases c22 : t1092 = true
   rotate_left
   ·replace c22 := Bool.eq_false_iff.mpr c22
    subst c22
    have H1 : ((Zav.f k1).bind fun t1096 => (some t1096)) = some r := by rw [if_neg (show ¬ (false = true) by decide)] at H; exact H
    clear H
    have H := H1
    clear H1
    replace H := Option.bind_eq_some_iff.mp H
    obtain ⟨t1096, A450, H⟩ := H
    replace H : (some t1096) = some r := H
    have A45 := Zaa.mk A450
    clear A450
    obtain rfl := Option.some.inj H
    obtain ⟨hcz46_0, hcz46_1, hcz46_2, hcz46_3, hcz46_4, hcz46_5, hcz46_6, hcz46_7, hcz46_8, hcz46_9, hfz46_0, hfz46_1, hfz46_2, hfz46_3, hfz46_4, hfz46_5, hfz46_6, hfz46_7, hfz46_8, hfz46_9⟩ := Zes BK1052.out
    obtain ⟨Ao47, co47, eo47⟩ := Kd.Zdr HO_3.out
    subst eo47
    go_wp2_with (first | ((with_reducible refine Zbo (f := 14) rfl ?_); refine Zcr (some 40) rfl rfl Try.func14 (by kernel_rfl) rfl #[.agg #[.slice Ao47 x3_1.length co47, .int .i64 a0_1, .slice A0_2 l0_2.length c0_2, .slice A0_3 l0_3.length c0_3, .int .i64 a0_4, .int .i64 a0_5, .slice A0_6 l0_6.length c0_6, .int .i64 a0_7, .slice A0_8 l0_8.length c0_8, .slice A0_9 l0_9.length c0_9], .int .i64 3] rfl (by (try simp only [List.map_toArray, List.map_cons, List.map_nil]); first | done | rfl | (simp only [List.length_drop, List.length_take]; rfl)) ?_; (refine withB (m := w.heap.size) (w0 := w) (by repeat (first | (with_reducible first | exact HB.out | apply Zab | apply Za | apply Zac | refine Zaf ?_ GE1052.out) | exact HB.out)) ?_); intro hL_; (with_reducible refine (Zaq.calls k1 _ _ x3_1 a0_1 _ _ l0_2 _ _ l0_3 a0_4 a0_5 _ _ l0_6 a0_7 _ _ l0_8 _ _ l0_9 3 t1066 t1069 t1070 t1073 t1076 t1077 t1078 t1081 true _ ?side1 ?side2 ?side3 ?side4 ?side5 ?side6 ?side7 ?side8 ?side9 ?side10 ?side11 ?side12 A15.out).mono ?_); (case side1 => refine (Kd.Zb2 (e := 23) (base := w.heap.size) (ok := fun k_ => ((P0_0_ k_ ∨ w.heap.size ≤ k_) ∧ k_ ≠ gb1052)) (n := x3_1.length) (c := co47) ?_).2.2; exact (by (with_reducible repeat (first | apply Kd.Zb7 | apply Kd.Zb8 | apply Kd.Zce)); exact (Zga HO_3.out fun _ hk => hk.2))); (case side2 => exact (Kd.Zb2 HO_3.out).2.1); (case side3 => exact Kd.Za8 HR0_2.out hL_); (case side4 => exact HC0_2.out); (case side5 => exact Kd.Za8 HR0_3.out hL_); (case side6 => exact HC0_3.out); (case side7 => exact Kd.Za8 HR0_6.out hL_); (case side8 => exact HC0_6.out); (case side9 => exact Kd.Za8 HR0_8.out hL_); (case side10 => exact HC0_8.out); (case side11 => exact Kd.Za8 HR0_9.out hL_); (case side12 => exact HC0_9.out); rintro e w48 ⟨v1067, v1071, v1074, v1079, rfl, ho0, ho1, ho2, ho3, hb⟩; refine ⟨_, rfl, ?_⟩; have n2_ := Zaa.mk (Kd.Zdx (Kd.Zdc (ok' := fun k_ => (P0_0_ k_ ∨ w.heap.size ≤ k_) ∧ some k_ ≠ (v1071 : Value).ownBlock ∧ some k_ ≠ (v1074 : Value).ownBlock ∧ some k_ ≠ (v1079 : Value).ownBlock ∧ some k_ ≠ (.slice Ao47 x3_1.length co47 : Value).ownBlock ∧ k_ ≠ gb1052) (Kd.S_N (Kd.Zd8 (Kd.Zdp (Kd.Zdp (Kd.Zdp ho0 (Kd.Zdk ho1) (by decide)) (Kd.Zdk ho2) (by decide)) (Kd.Zdn ho3) (by decide)))) (fun k_ hk_ => ⟨(.inr (Nat.le_trans (Zae hL_) hk_.2.1)), hk_.1.1.1.2, hk_.1.1.2, hk_.1.2, (Kd.fresh' (Kd.N_lt (by (with_reducible repeat (first | apply Kd.Zb7 | apply Kd.Zb8 | apply Kd.Zce)); exact (Zga HO_3.out fun _ hk => hk.2))) k_ hk_.2.1), (Kd.freshB (g := gb1052) (o := .cells #[.slice Ao47 x3_1.length co47, .int .i64 a0_1, .slice A0_2 l0_2.length c0_2, .slice A0_3 l0_3.length c0_3, .int .i64 a0_4, .int .i64 a0_5, .slice A0_6 l0_6.length c0_6, .int .i64 a0_7, .slice A0_8 l0_8.length c0_8, .slice A0_9 l0_9.length c0_9] 27 (0, 0)) (by (with_reducible repeat (first | refine Zag ?_ _ | refine Zak ?_ | refine Zad ?_ _)); refine Zbl (cs := #[.slice A0_0 l0_0.length c0_0, .int .i64 a0_1, .slice A0_2 l0_2.length c0_2, .slice A0_3 l0_3.length c0_3, .int .i64 a0_4, .int .i64 a0_5, .slice A0_6 l0_6.length c0_6, .int .i64 a0_7, .slice A0_8 l0_8.length c0_8, .slice A0_9 l0_9.length c0_9]) ?_ 0 _ rfl; (with_reducible repeat (first | refine Zag ?_ _ | refine Zak ?_ | refine Zad ?_ _)); exact BK1052.out) k_ hk_.2.1)⟩)) (Zae hL_)); have n3_ := Zaa.mk (Kd.Zbs (Kd.Ze6 (M := fun k_ => (w.heap.size ≤ k_)) ho1 (Zae hL_) (fun k_ h_ => h_)) (Zae hL_)); have n4_ := Zaa.mk (Kd.Zbs (Kd.Ze6 (M := fun k_ => (w.heap.size ≤ k_)) ho2 (Zae hL_) (fun k_ h_ => h_)) (Zae hL_)); have n5_ := Zaa.mk (Kd.Zdx (Kd.Zdc (ok' := fun k_ => (P0_0_ k_ ∨ w.heap.size ≤ k_) ∧ some k_ ≠ (v1067 : Value).ownBlock ∧ some k_ ≠ (v1071 : Value).ownBlock ∧ some k_ ≠ (v1074 : Value).ownBlock ∧ some k_ ≠ (.slice Ao47 x3_1.length co47 : Value).ownBlock ∧ k_ ≠ gb1052) (Kd.S_N (Kd.Zd8 (Kd.Zdp ho3 (Kd.Zdn ho0) (by decide)))) (fun k_ hk_ => ⟨(.inr (Nat.le_trans (Zae hL_) hk_.2.1)), hk_.1.2, hk_.1.1.1, hk_.1.1.2, (Kd.fresh' (Kd.N_lt (by (with_reducible repeat (first | apply Kd.Zb7 | apply Kd.Zb8 | apply Kd.Zce)); exact (Zga HO_3.out fun _ hk => hk.2))) k_ hk_.2.1), (Kd.freshB (g := gb1052) (o := .cells #[.slice Ao47 x3_1.length co47, .int .i64 a0_1, .slice A0_2 l0_2.length c0_2, .slice A0_3 l0_3.length c0_3, .int .i64 a0_4, .int .i64 a0_5, .slice A0_6 l0_6.length c0_6, .int .i64 a0_7, .slice A0_8 l0_8.length c0_8, .slice A0_9 l0_9.length c0_9] 27 (0, 0)) (by (with_reducible repeat (first | refine Zag ?_ _ | refine Zak ?_ | refine Zad ?_ _)); refine Zbl (cs := #[.slice A0_0 l0_0.length c0_0, .int .i64 a0_1, .slice A0_2 l0_2.length c0_2, .slice A0_3 l0_3.length c0_3, .int .i64 a0_4, .int .i64 a0_5, .slice A0_6 l0_6.length c0_6, .int .i64 a0_7, .slice A0_8 l0_8.length c0_8, .slice A0_9 l0_9.length c0_9]) ?_ 0 _ rfl; (with_reducible repeat (first | refine Zag ?_ _ | refine Zak ?_ | refine Zad ?_ _)); exact BK1052.out) k_ hk_.2.1)⟩)) (Zae hL_)); have n6_ := Zaa.mk (Zbe (g := gb1052) (o := .cells #[.slice Ao47 x3_1.length co47, .int .i64 a0_1, .slice A0_2 l0_2.length c0_2, .slice A0_3 l0_3.length c0_3, .int .i64 a0_4, .int .i64 a0_5, .slice A0_6 l0_6.length c0_6, .int .i64 a0_7, .slice A0_8 l0_8.length c0_8, .slice A0_9 l0_9.length c0_9] 27 (0, 0)) (by (with_reducible repeat (first | refine Zag ?_ _ | refine Zak ?_ | refine Zad ?_ _)); refine Zbl (cs := #[.slice A0_0 l0_0.length c0_0, .int .i64 a0_1, .slice A0_2 l0_2.length c0_2, .slice A0_3 l0_3.length c0_3, .int .i64 a0_4, .int .i64 a0_5, .slice A0_6 l0_6.length c0_6, .int .i64 a0_7, .slice A0_8 l0_8.length c0_8, .slice A0_9 l0_9.length c0_9]) ?_ 0 _ rfl; (with_reducible repeat (first | refine Zag ?_ _ | refine Zak ?_ | refine Zad ?_ _)); exact BK1052.out) hb); have n7_ := Zaa.mk (Zam hL_ hb); clear HO_3; clear HO_1053000; clear BK1052; clear HB; have HO1068 := n2_; have HO1072 := n3_; have HO1075 := n4_; have HO1080 := n5_; have BK1052 := n6_; have HB := n7_; clear n2_ n3_ n4_ n5_ n6_ n7_; (try clear hb); (try clear hb2); (try clear hk); (try clear hi); (try clear ho0); (try clear ho1); (try clear ho2); (try clear ho3)) | ((with_reducible refine Zbq (N := 6) rfl ?_); refine Zb9 ?hg (N := 6) ?hd (cs := #[.int .i64 0, .slice none 0 0, .slice none 0 0, .int .i64 0, .int .i64 0, .slice none 0 0, .int .i64 0]) (t := 25) ?hr ?_; (case hd => rfl); (case hg => rfl); (case hr => first | (go_simp; done) | (go_simp; rfl)); intro gb1083 hg w49 hbox hb; have n2_ := Zaa.mk (Kd.Zdm (Kd.Zd6 (mvN HO1068.out) gb1083 (Nat.le_of_eq hg.symm)) hb); have n3_ := Zaa.mk (Kd.Zca (mvR HO1072.out) hb); have n4_ := Zaa.mk (Kd.Zca (mvR HO1075.out) hb); have n5_ := Zaa.mk (Kd.Zdm (Kd.Zd6 (mvN HO1080.out) gb1083 (Nat.le_of_eq hg.symm)) hb); have n6_ := Zaa.mk (Zbe (g := gb1052) (o := .cells #[.slice Ao47 x3_1.length co47, .int .i64 a0_1, .slice A0_2 l0_2.length c0_2, .slice A0_3 l0_3.length c0_3, .int .i64 a0_4, .int .i64 a0_5, .slice A0_6 l0_6.length c0_6, .int .i64 a0_7, .slice A0_8 l0_8.length c0_8, .slice A0_9 l0_9.length c0_9] 27 (0, 0)) (mvK BK1052.out) hb); have n7_ := Zaa.mk (Zam (by repeat (first | (with_reducible first | exact HB.out | apply Zab | apply Za | apply Zac | refine Zaf ?_ GE1052.out) | exact HB.out)) hb); have n8_ := Zaa.mk (hbox); have n10_ := Zaa.mk ((by rw [hg]; exact (Zae (by repeat (first | (with_reducible first | exact HB.out | apply Zab | apply Za | apply Zac | refine Zaf ?_ GE1052.out) | exact HB.out))) : w.heap.size ≤ gb1083)); have n11_ := Zaa.mk ((by rw [hg]; exact Nat.ne_of_lt (Zdj (g := gb1052) (o := .cells #[.slice Ao47 x3_1.length co47, .int .i64 a0_1, .slice A0_2 l0_2.length c0_2, .slice A0_3 l0_3.length c0_3, .int .i64 a0_4, .int .i64 a0_5, .slice A0_6 l0_6.length c0_6, .int .i64 a0_7, .slice A0_8 l0_8.length c0_8, .slice A0_9 l0_9.length c0_9] 27 (0, 0)) (mvK BK1052.out)) : gb1052 ≠ gb1083)); have n12_ := Zaa.mk ((by rw [hg]; exact Nat.ne_of_gt (Zdj (g := gb1052) (o := .cells #[.slice Ao47 x3_1.length co47, .int .i64 a0_1, .slice A0_2 l0_2.length c0_2, .slice A0_3 l0_3.length c0_3, .int .i64 a0_4, .int .i64 a0_5, .slice A0_6 l0_6.length c0_6, .int .i64 a0_7, .slice A0_8 l0_8.length c0_8, .slice A0_9 l0_9.length c0_9] 27 (0, 0)) (mvK BK1052.out)) : gb1083 ≠ gb1052)); clear HO1068; clear HO1072; clear HO1075; clear HO1080; clear BK1052; clear HB; have HO1068 := n2_; have HO1072 := n3_; have HO1075 := n4_; have HO1080 := n5_; have BK1052 := n6_; have HB := n7_; have BK1083 := n8_; have GE1083 := n10_; have NB1052_1083 := n11_; have NB1083_1052 := n12_; clear n2_ n3_ n4_ n5_ n6_ n7_ n8_ n10_ n11_ n12_; clear hb hbox hg; have hnb50 := NB1083_1052.out; have hnc50 := NB1052_1083.out; obtain ⟨hcz51_0, hcz51_1, hcz51_2, hcz51_3, hcz51_4, hcz51_5, hcz51_6, hfz51_0, hfz51_1, hfz51_2, hfz51_3, hfz51_4, hfz51_5, hfz51_6⟩ := Zcg BK1083.out; obtain ⟨Ao52, co52, eo52⟩ := Kd.Zbn HO1072.out; subst eo52; obtain ⟨Ao53, co53, eo53⟩ := Kd.Zbn HO1075.out; subst eo53; obtain ⟨Ao54, co54, eo54⟩ := Kd.Zdr HO1080.out; subst eo54; obtain ⟨hcz55_0, hcz55_1, hcz55_2, hcz55_3, hcz55_4, hcz55_5, hcz55_6, hcz55_7, hcz55_8, hcz55_9, hfz55_0, hfz55_1, hfz55_2, hfz55_3, hfz55_4, hfz55_5, hfz55_6, hfz55_7, hfz55_8, hfz55_9⟩ := Zes BK1052.out; obtain ⟨Ao56, co56, eo56⟩ := Kd.Zdr HO1068.out; subst eo56) | ((with_reducible refine Zbo (f := 30) rfl ?_); refine Zcr (some 51) rfl rfl Try.func30 (by kernel_rfl) rfl #[.slice Ao56 t1066.length co56, .slice A0_8 l0_8.length c0_8] rfl (by (try simp only [List.map_toArray, List.map_cons, List.map_nil]); first | done | rfl | (simp only [List.length_drop, List.length_take]; rfl)) ?_; (refine withB (m := w.heap.size) (w0 := w) (by repeat (first | (with_reducible first | exact HB.out | apply Zab | apply Za | apply Zac | refine Zaf ?_ GE1052.out | refine Zaf ?_ GE1083.out) | exact HB.out)) ?_); intro hL_; (with_reducible refine (Zay.calls k1 _ _ t1066 _ _ l0_8 t1085 true _ ?side1 ?side2 ?side3 ?side4 A17.out).mono ?_); (case side1 => refine (Kd.Zb2 (e := 39) (base := w.heap.size) (ok := fun k_ => (((P0_0_ k_ ∨ w.heap.size ≤ k_) ∧ (some k_ ≠ (.slice Ao52 t1070.length co52 : Value).ownBlock ∧ (some k_ ≠ (.slice Ao53 t1073.length co53 : Value).ownBlock ∧ (some k_ ≠ (.slice Ao54 t1078.length co54 : Value).ownBlock ∧ (some k_ ≠ (.slice Ao47 x3_1.length co47 : Value).ownBlock ∧ k_ ≠ gb1052))))) ∧ k_ ≠ gb1083)) (n := t1066.length) (c := co56) ?_).2.2; exact (by (with_reducible repeat (first | apply Kd.Zb7 | apply Kd.Zb8 | apply Kd.Zce)); exact (Zfx HO1068.out fun _ hk => hk.2))); (case side2 => exact (Kd.Zb2 HO1068.out).2.1); (case side3 => exact Kd.Za8 HR0_8.out hL_); (case side4 => exact HC0_8.out); rintro e w57 ⟨v1087, rfl, ho0, hb⟩; refine ⟨_, rfl, ?_⟩; have n2_ := Zaa.mk (Kd.Zcj (by (with_reducible repeat (first | apply Kd.Zb7 | apply Kd.Zb8 | apply Kd.Zce)); exact (Zfx HO1068.out fun _ hk => hk.2)) (Kd.Zb6 ho0) hb); have n3_ := Zaa.mk (Kd.Zck (by (with_reducible repeat (first | apply Kd.Za6 | apply Kd.Za5 | apply Kd.Zbb)); exact (Zfg (Kd.Zc HO1072.out BK1083.out (by decide)))) (Kd.Zb6 ho0) hb); have n4_ := Zaa.mk (Kd.Zck (by (with_reducible repeat (first | apply Kd.Za6 | apply Kd.Za5 | apply Kd.Zbb)); exact (Zfg (Kd.Zc HO1075.out BK1083.out (by decide)))) (Kd.Zb6 ho0) hb); have n5_ := Zaa.mk (Kd.Zcj (by (with_reducible repeat (first | apply Kd.Zb7 | apply Kd.Zb8 | apply Kd.Zce)); exact (Zfx HO1080.out fun _ hk => hk.2)) (Kd.Zb6 ho0) hb); have n6_ := Zaa.mk (Kd.Zbs (Kd.Zc3 (Kd.Zc3 (Kd.Ze6 (M := fun k_ => (w.heap.size ≤ k_)) ho0 (Zae hL_) (fun k_ h_ => h_)) (Kd.R_lt (by (with_reducible repeat (first | apply Kd.Za6 | apply Kd.Za5 | apply Kd.Zbb)); exact (Zfg (Kd.Zc HO1072.out BK1083.out (by decide)))))) (Kd.R_lt (by (with_reducible repeat (first | apply Kd.Za6 | apply Kd.Za5 | apply Kd.Zbb)); exact (Zfg (Kd.Zc HO1075.out BK1083.out (by decide)))))) (Zae hL_)); have n8_ := Zaa.mk (Zbe (g := gb1083) (o := .cells #[.int .i64 t1069, .slice Ao52 t1070.length co52, .slice Ao53 t1073.length co53, .int .i64 t1076, .int .i64 t1077, .slice Ao54 t1078.length co54, .int .i64 t1081] 25 (0, 0)) (by (with_reducible repeat (first | refine Zag ?_ _ | refine Zak ?_ | refine Zad ?_ _)); refine Zbl (cs := #[.int .i64 t1069, .slice Ao52 t1070.length co52, .slice Ao53 t1073.length co53, .int .i64 t1076, .int .i64 t1077, .slice Ao54 t1078.length co54, .int .i64 0]) ?_ 6 _ rfl; (with_reducible repeat (first | refine Zag ?_ _ | refine Zak ?_ | refine Zad ?_ _)); refine Zbl (cs := #[.int .i64 t1069, .slice Ao52 t1070.length co52, .slice Ao53 t1073.length co53, .int .i64 t1076, .int .i64 t1077, .slice none 0 0, .int .i64 0]) ?_ 5 _ rfl; (with_reducible repeat (first | refine Zag ?_ _ | refine Zak ?_ | refine Zad ?_ _)); refine Zbl (cs := #[.int .i64 t1069, .slice Ao52 t1070.length co52, .slice Ao53 t1073.length co53, .int .i64 t1076, .int .i64 0, .slice none 0 0, .int .i64 0]) ?_ 4 _ rfl; (with_reducible repeat (first | refine Zag ?_ _ | refine Zak ?_ | refine Zad ?_ _)); refine Zbl (cs := #[.int .i64 t1069, .slice Ao52 t1070.length co52, .slice Ao53 t1073.length co53, .int .i64 0, .int .i64 0, .slice none 0 0, .int .i64 0]) ?_ 3 _ rfl; (with_reducible repeat (first | refine Zag ?_ _ | refine Zak ?_ | refine Zad ?_ _)); refine Zbl (cs := #[.int .i64 t1069, .slice Ao52 t1070.length co52, .slice none 0 0, .int .i64 0, .int .i64 0, .slice none 0 0, .int .i64 0]) ?_ 2 _ rfl; (with_reducible repeat (first | refine Zag ?_ _ | refine Zak ?_ | refine Zad ?_ _)); refine Zbl (cs := #[.int .i64 t1069, .slice none 0 0, .slice none 0 0, .int .i64 0, .int .i64 0, .slice none 0 0, .int .i64 0]) ?_ 1 _ rfl; (with_reducible repeat (first | refine Zag ?_ _ | refine Zak ?_ | refine Zad ?_ _)); refine Zbl (cs := #[.int .i64 0, .slice none 0 0, .slice none 0 0, .int .i64 0, .int .i64 0, .slice none 0 0, .int .i64 0]) ?_ 0 _ rfl; (with_reducible repeat (first | refine Zag ?_ _ | refine Zak ?_ | refine Zad ?_ _)); exact BK1083.out) hb); have n9_ := Zaa.mk (Zam hL_ hb); clear HO1068; clear HO1072; clear HO1075; clear HO1080; clear BK1052; clear BK1083; clear HB; have HO1068 := n2_; have HO1072 := n3_; have HO1075 := n4_; have HO1080 := n5_; have HO1088 := n6_; have BK1083 := n8_; have HB := n9_; clear n2_ n3_ n4_ n5_ n6_ n8_ n9_; (try clear hb); (try clear hb2); (try clear hk); (try clear hi); (try clear ho0); obtain ⟨hcz58_0, hcz58_1, hcz58_2, hcz58_3, hcz58_4, hcz58_5, hcz58_6, hfz58_0, hfz58_1, hfz58_2, hfz58_3, hfz58_4, hfz58_5, hfz58_6⟩ := Zcg BK1083.out) | ((with_reducible refine Zbo (f := 35) rfl ?_); refine Zcr (some 57) rfl rfl Try.func35 (by kernel_rfl) rfl #[.slice Ao56 t1066.length co56, .agg #[.int .i64 t1069, .slice Ao52 t1070.length co52, .slice Ao53 t1073.length co53, .int .i64 t1076, .int .i64 t1077, .slice Ao54 t1078.length co54, .int .i64 t1081]] rfl (by (try simp only [List.map_toArray, List.map_cons, List.map_nil]); first | done | rfl | (simp only [List.length_drop, List.length_take]; rfl)) ?_; (with_reducible refine (Zai.calls k1 _ _ t1066 t1069 _ _ t1070 _ _ t1073 t1076 t1077 _ _ t1078 t1081 t1089 false _ ?side1 ?side2 ?side3 ?side4 ?side5 ?side6 ?side7 ?side8 A18.out).mono ?_); (case side1 => repeat (first | exact (Kd.Zb2 HO1068.out).2.2 | (with_reducible refine Kd.C_alloc ?_ _) | (with_reducible refine Kd.Za0 ?_ _) | (with_reducible refine Kd.C_drew ?_))); (case side2 => exact (Kd.Zb2 HO1068.out).2.1); (case side3 => repeat (first | exact (Kd.Zaz HO1072.out).2.2 | (with_reducible refine Kd.C_alloc ?_ _) | (with_reducible refine Kd.Za0 ?_ _) | (with_reducible refine Kd.C_drew ?_))); (case side4 => exact (Kd.Zaz HO1072.out).2.1); (case side5 => repeat (first | exact (Kd.Zaz HO1075.out).2.2 | (with_reducible refine Kd.C_alloc ?_ _) | (with_reducible refine Kd.Za0 ?_ _) | (with_reducible refine Kd.C_drew ?_))); (case side6 => exact (Kd.Zaz HO1075.out).2.1); (case side7 => repeat (first | exact (Kd.Zb2 HO1080.out).2.2 | (with_reducible refine Kd.C_alloc ?_ _) | (with_reducible refine Kd.Za0 ?_ _) | (with_reducible refine Kd.C_drew ?_))); (case side8 => exact (Kd.Zb2 HO1080.out).2.1); rintro e w59 ⟨v1090, rfl, ho0, hb⟩; refine ⟨_, rfl, ?_⟩; have n3_ := Zaa.mk (Kd.Zca (mvR HO1072.out) hb); have n4_ := Zaa.mk (Kd.Zca (mvR HO1075.out) hb); have n5_ := Zaa.mk (Kd.Zcj (mvN HO1080.out) (by first | exact Kd.Ze5 ho0 | exact Kd.Zfc ho0 | exact Kd.Zb6 ho0) hb); have n6_ := Zaa.mk (Kd.Zca (mvR HO1088.out) hb); have n9_ := Zaa.mk (Zbe (g := gb1083) (o := .cells #[.int .i64 t1069, .slice Ao52 t1070.length co52, .slice Ao53 t1073.length co53, .int .i64 t1076, .int .i64 t1077, .slice Ao54 t1078.length co54, .int .i64 t1081] 25 (0, 0)) (mvK BK1083.out) hb); have n10_ := Zaa.mk (Zam (by repeat (first | (with_reducible first | exact HB.out | apply Zab | apply Za | apply Zac | refine Zaf ?_ GE1052.out | refine Zaf ?_ GE1083.out) | exact HB.out)) hb); clear HO1068; clear HO1072; clear HO1075; clear HO1080; clear HO1088; clear BK1083; clear HB; have HO1072 := n3_; have HO1075 := n4_; have HO1080 := n5_; have HO1088 := n6_; have BK1083 := n9_; have HB := n10_; clear n3_ n4_ n5_ n6_ n9_ n10_; (try clear hb); (try clear hb2); (try clear hk); (try clear hi); (try clear ho0); obtain ⟨hcz60_0, hcz60_1, hcz60_2, hcz60_3, hcz60_4, hcz60_5, hcz60_6, hfz60_0, hfz60_1, hfz60_2, hfz60_3, hfz60_4, hfz60_5, hfz60_6⟩ := Zcg BK1083.out; obtain ⟨Ao61, co61, eo61⟩ := Kd.Zbn HO1088.out; subst eo61) | (go_at_call 32; (with_reducible refine (Zbp.calls k1 t1069 _ _ t1070 _ _ t1073 t1076 t1077 _ _ t1078 t1081 _ _ t1085 t1093 _ ?side1 ?side2 ?side3 ?side4 ?side5 ?side6 ?side7 ?side8 A20.out).mono ?_); (case side1 => repeat (first | exact (Kd.Zaz HO1072.out).2.2 | (with_reducible refine Kd.C_alloc ?_ _) | (with_reducible refine Kd.Za0 ?_ _) | (with_reducible refine Kd.C_drew ?_))); (case side2 => exact (Kd.Zaz HO1072.out).2.1); (case side3 => repeat (first | exact (Kd.Zaz HO1075.out).2.2 | (with_reducible refine Kd.C_alloc ?_ _) | (with_reducible refine Kd.Za0 ?_ _) | (with_reducible refine Kd.C_drew ?_))); (case side4 => exact (Kd.Zaz HO1075.out).2.1); (case side5 => repeat (first | exact (Kd.Zb2 HO1080.out).2.2 | (with_reducible refine Kd.C_alloc ?_ _) | (with_reducible refine Kd.Za0 ?_ _) | (with_reducible refine Kd.C_drew ?_))); (case side6 => exact (Kd.Zb2 HO1080.out).2.1); (case side7 => repeat (first | exact (Kd.Zaz HO1088.out).2.2 | (with_reducible refine Kd.C_alloc ?_ _) | (with_reducible refine Kd.Za0 ?_ _) | (with_reducible refine Kd.C_drew ?_))); (case side8 => exact (Kd.Zaz HO1088.out).2.1); rintro e w62 ⟨rfl, hb⟩; have n10_ := Zaa.mk (Zam (by repeat (first | (with_reducible first | exact HB.out | apply Zab | apply Za | apply Zac | refine Zaf ?_ GE1052.out | refine Zaf ?_ GE1083.out) | exact HB.out)) hb); clear HO1072; clear HO1075; clear HO1080; clear HO1088; clear BK1083; clear HB; have HB := n10_; clear n10_; (try clear hb); (try clear hb2); (try clear hk); (try clear hi)) | (go_at_call 34; (with_reducible refine (Zav.calls k1  t1096 _ A45.out).mono ?_); rintro e w63 ⟨rfl, hb⟩; have n10_ := Zaa.mk (Zam (by repeat (first | (with_reducible first | exact HB.out | apply Zab | apply Za | apply Zac | refine Zaf ?_ GE1052.out | refine Zaf ?_ GE1083.out) | exact HB.out)) hb); clear HB; have HB := n10_; clear n10_; (try clear hb); (try clear hb2); (try clear hk); (try clear hi)))
    go_ret
    exact ⟨by first | rfl | (simp [Za1, Za2] <;> rfl) | (simp [*, Za1, Za2] <;> rfl), by repeat (first | (with_reducible first | exact HB.out | apply Zab | apply Za | apply Zac | refine Zaf ?_ GE1052.out | refine Zaf ?_ GE1083.out) | exact HB.out)⟩
   subst c22
   have H1 : ((Zap.f k1 t1089 t1066).bind fun t1094 => (if t1094 = true then ((Zav.f k1).bind fun t1095 => (some t1095)) else (none))) = some r := by rw [if_pos rfl] at H; exact H
   clear H
   have H := H1
   clear H1
   replace H := Option.bind_eq_some_iff.mp H
   obtain ⟨t1094, A230, H⟩ := H
   replace H : (if t1094 = true then ((Zav.f k1).bind fun t1095 => (some t1095)) else (none)) = some r := H
   have A23 := Zaa.mk A230
   clear A230
   by_cases c24 : t1094 = true
   rotate_left
   ·replace c24 := Bool.eq_false_iff.mpr c24
    subst c24
    have H1 : (none) = some r := by rw [if_neg (show ¬ (false = true) by decide)] at H; exact H
    clear H
    have H := H1
    clear H1
    exact absurd H (by simp)
   subst c24
   have H1 : ((Zav.f k1).bind fun t1095 => (some t1095)) = some r := by rw [if_pos rfl] at H; exact H
   clear H
   have H := H1
   clear H1
   replace H := Option.bind_eq_some_iff.mp H
   obtain ⟨t1095, A250, H⟩ := H
   replace H : (some t1095) = some r := H
   have A25 := Zaa.mk A250
   clear A250
   obtain rfl := Option.some.inj H
   obtain ⟨hcz26_0, hcz26_1, hcz26_2, hcz26_3, hcz26_4, hcz26_5, hcz26_6, hcz26_7, hcz26_8, hcz26_9, hfz26_0, hfz26_1, hfz26_2, hfz26_3, hfz26_4, hfz26_5, hfz26_6, hfz26_7, hfz26_8, hfz26_9⟩ := Zes BK1052.out
   obtain ⟨Ao27, co27, eo27⟩ := Kd.Zdr HO_3.out
   subst eo27
   go_wp2_with (first | ((with_reducible refine Zbo (f := 14) rfl ?_); refine Zcr (some 40) rfl rfl Try.func14 (by kernel_rfl) rfl #[.agg #[.slice Ao27 x3_1.length co27, .int .i64 a0_1, .slice A0_2 l0_2.length c0_2, .slice A0_3 l0_3.length c0_3, .int .i64 a0_4, .int .i64 a0_5, .slice A0_6 l0_6.length c0_6, .int .i64 a0_7, .slice A0_8 l0_8.length c0_8, .slice A0_9 l0_9.length c0_9], .int .i64 3] rfl (by (try simp only [List.map_toArray, List.map_cons, List.map_nil]); first | done | rfl | (simp only [List.length_drop, List.length_take]; rfl)) ?_; (refine withB (m := w.heap.size) (w0 := w) (by repeat (first | (with_reducible first | exact HB.out | apply Zab | apply Za | apply Zac | refine Zaf ?_ GE1052.out) | exact HB.out)) ?_); intro hL_; (with_reducible refine (Zaq.calls k1 _ _ x3_1 a0_1 _ _ l0_2 _ _ l0_3 a0_4 a0_5 _ _ l0_6 a0_7 _ _ l0_8 _ _ l0_9 3 t1066 t1069 t1070 t1073 t1076 t1077 t1078 t1081 true _ ?side1 ?side2 ?side3 ?side4 ?side5 ?side6 ?side7 ?side8 ?side9 ?side10 ?side11 ?side12 A15.out).mono ?_); (case side1 => refine (Kd.Zb2 (e := 23) (base := w.heap.size) (ok := fun k_ => ((P0_0_ k_ ∨ w.heap.size ≤ k_) ∧ k_ ≠ gb1052)) (n := x3_1.length) (c := co27) ?_).2.2; exact (by (with_reducible repeat (first | apply Kd.Zb7 | apply Kd.Zb8 | apply Kd.Zce)); exact (Zga HO_3.out fun _ hk => hk.2))); (case side2 => exact (Kd.Zb2 HO_3.out).2.1); (case side3 => exact Kd.Za8 HR0_2.out hL_); (case side4 => exact HC0_2.out); (case side5 => exact Kd.Za8 HR0_3.out hL_); (case side6 => exact HC0_3.out); (case side7 => exact Kd.Za8 HR0_6.out hL_); (case side8 => exact HC0_6.out); (case side9 => exact Kd.Za8 HR0_8.out hL_); (case side10 => exact HC0_8.out); (case side11 => exact Kd.Za8 HR0_9.out hL_); (case side12 => exact HC0_9.out); rintro e w28 ⟨v1067, v1071, v1074, v1079, rfl, ho0, ho1, ho2, ho3, hb⟩; refine ⟨_, rfl, ?_⟩; have n0_ := Zaa.mk (Kd.Zdc (Kd.N_told (Kd.N_told (Kd.N_told (Kd.N_told (Kd.N_old (by (with_reducible repeat (first | apply Kd.Zb7 | apply Kd.Zb8 | apply Kd.Zce)); exact (Zga HO_3.out fun _ hk => hk.2)) hb) (by first | exact Kd.Ze5 ho0 | exact Kd.Zfc ho0 | exact Kd.Zb6 ho0)) (Kd.Zb6 ho1)) (Kd.Zb6 ho2)) (by first | exact Kd.Ze5 ho3 | exact Kd.Zfc ho3 | exact Kd.Zb6 ho3)) (fun _ h_ => h_.1)); have n2_ := Zaa.mk (Kd.Zdx (Kd.Zdc (ok' := fun k_ => (P0_0_ k_ ∨ w.heap.size ≤ k_) ∧ some k_ ≠ (v1071 : Value).ownBlock ∧ some k_ ≠ (v1074 : Value).ownBlock ∧ some k_ ≠ (v1079 : Value).ownBlock ∧ some k_ ≠ (.slice Ao27 x3_1.length co27 : Value).ownBlock ∧ k_ ≠ gb1052) (Kd.S_N (Kd.Zd8 (Kd.Zdp (Kd.Zdp (Kd.Zdp ho0 (Kd.Zdk ho1) (by decide)) (Kd.Zdk ho2) (by decide)) (Kd.Zdn ho3) (by decide)))) (fun k_ hk_ => ⟨(.inr (Nat.le_trans (Zae hL_) hk_.2.1)), hk_.1.1.1.2, hk_.1.1.2, hk_.1.2, (Kd.fresh' (Kd.N_lt (by (with_reducible repeat (first | apply Kd.Zb7 | apply Kd.Zb8 | apply Kd.Zce)); exact (Zga HO_3.out fun _ hk => hk.2))) k_ hk_.2.1), (Kd.freshB (g := gb1052) (o := .cells #[.slice Ao27 x3_1.length co27, .int .i64 a0_1, .slice A0_2 l0_2.length c0_2, .slice A0_3 l0_3.length c0_3, .int .i64 a0_4, .int .i64 a0_5, .slice A0_6 l0_6.length c0_6, .int .i64 a0_7, .slice A0_8 l0_8.length c0_8, .slice A0_9 l0_9.length c0_9] 27 (0, 0)) (by (with_reducible repeat (first | refine Zag ?_ _ | refine Zak ?_ | refine Zad ?_ _)); refine Zbl (cs := #[.slice A0_0 l0_0.length c0_0, .int .i64 a0_1, .slice A0_2 l0_2.length c0_2, .slice A0_3 l0_3.length c0_3, .int .i64 a0_4, .int .i64 a0_5, .slice A0_6 l0_6.length c0_6, .int .i64 a0_7, .slice A0_8 l0_8.length c0_8, .slice A0_9 l0_9.length c0_9]) ?_ 0 _ rfl; (with_reducible repeat (first | refine Zag ?_ _ | refine Zak ?_ | refine Zad ?_ _)); exact BK1052.out) k_ hk_.2.1)⟩)) (Zae hL_)); have n3_ := Zaa.mk (Kd.Zbs (Kd.Ze6 (M := fun k_ => (w.heap.size ≤ k_)) ho1 (Zae hL_) (fun k_ h_ => h_)) (Zae hL_)); have n4_ := Zaa.mk (Kd.Zbs (Kd.Ze6 (M := fun k_ => (w.heap.size ≤ k_)) ho2 (Zae hL_) (fun k_ h_ => h_)) (Zae hL_)); have n5_ := Zaa.mk (Kd.Zdx (Kd.Zdc (ok' := fun k_ => (P0_0_ k_ ∨ w.heap.size ≤ k_) ∧ some k_ ≠ (v1067 : Value).ownBlock ∧ some k_ ≠ (v1071 : Value).ownBlock ∧ some k_ ≠ (v1074 : Value).ownBlock ∧ some k_ ≠ (.slice Ao27 x3_1.length co27 : Value).ownBlock ∧ k_ ≠ gb1052) (Kd.S_N (Kd.Zd8 (Kd.Zdp ho3 (Kd.Zdn ho0) (by decide)))) (fun k_ hk_ => ⟨(.inr (Nat.le_trans (Zae hL_) hk_.2.1)), hk_.1.2, hk_.1.1.1, hk_.1.1.2, (Kd.fresh' (Kd.N_lt (by (with_reducible repeat (first | apply Kd.Zb7 | apply Kd.Zb8 | apply Kd.Zce)); exact (Zga HO_3.out fun _ hk => hk.2))) k_ hk_.2.1), (Kd.freshB (g := gb1052) (o := .cells #[.slice Ao27 x3_1.length co27, .int .i64 a0_1, .slice A0_2 l0_2.length c0_2, .slice A0_3 l0_3.length c0_3, .int .i64 a0_4, .int .i64 a0_5, .slice A0_6 l0_6.length c0_6, .int .i64 a0_7, .slice A0_8 l0_8.length c0_8, .slice A0_9 l0_9.length c0_9] 27 (0, 0)) (by (with_reducible repeat (first | refine Zag ?_ _ | refine Zak ?_ | refine Zad ?_ _)); refine Zbl (cs := #[.slice A0_0 l0_0.length c0_0, .int .i64 a0_1, .slice A0_2 l0_2.length c0_2, .slice A0_3 l0_3.length c0_3, .int .i64 a0_4, .int .i64 a0_5, .slice A0_6 l0_6.length c0_6, .int .i64 a0_7, .slice A0_8 l0_8.length c0_8, .slice A0_9 l0_9.length c0_9]) ?_ 0 _ rfl; (with_reducible repeat (first | refine Zag ?_ _ | refine Zak ?_ | refine Zad ?_ _)); exact BK1052.out) k_ hk_.2.1)⟩)) (Zae hL_)); have n6_ := Zaa.mk (Zbe (g := gb1052) (o := .cells #[.slice Ao27 x3_1.length co27, .int .i64 a0_1, .slice A0_2 l0_2.length c0_2, .slice A0_3 l0_3.length c0_3, .int .i64 a0_4, .int .i64 a0_5, .slice A0_6 l0_6.length c0_6, .int .i64 a0_7, .slice A0_8 l0_8.length c0_8, .slice A0_9 l0_9.length c0_9] 27 (0, 0)) (by (with_reducible repeat (first | refine Zag ?_ _ | refine Zak ?_ | refine Zad ?_ _)); refine Zbl (cs := #[.slice A0_0 l0_0.length c0_0, .int .i64 a0_1, .slice A0_2 l0_2.length c0_2, .slice A0_3 l0_3.length c0_3, .int .i64 a0_4, .int .i64 a0_5, .slice A0_6 l0_6.length c0_6, .int .i64 a0_7, .slice A0_8 l0_8.length c0_8, .slice A0_9 l0_9.length c0_9]) ?_ 0 _ rfl; (with_reducible repeat (first | refine Zag ?_ _ | refine Zak ?_ | refine Zad ?_ _)); exact BK1052.out) hb); have n7_ := Zaa.mk (Zam hL_ hb); clear HO_3; clear HO_1053000; clear BK1052; clear HB; have HO_3 := n0_; have HO1068 := n2_; have HO1072 := n3_; have HO1075 := n4_; have HO1080 := n5_; have BK1052 := n6_; have HB := n7_; clear n0_ n2_ n3_ n4_ n5_ n6_ n7_; (try clear hb); (try clear hb2); (try clear hk); (try clear hi); (try clear ho0); (try clear ho1); (try clear ho2); (try clear ho3)) | ((with_reducible refine Zbq (N := 6) rfl ?_); refine Zb9 ?hg (N := 6) ?hd (cs := #[.int .i64 0, .slice none 0 0, .slice none 0 0, .int .i64 0, .int .i64 0, .slice none 0 0, .int .i64 0]) (t := 25) ?hr ?_; (case hd => rfl); (case hg => rfl); (case hr => first | (go_simp; done) | (go_simp; rfl)); intro gb1083 hg w29 hbox hb; have n0_ := Zaa.mk (Kd.Zdm (Kd.Zd6 (mvN HO_3.out) gb1083 (Nat.le_of_eq hg.symm)) hb); have n2_ := Zaa.mk (Kd.Zdm (Kd.Zd6 (mvN HO1068.out) gb1083 (Nat.le_of_eq hg.symm)) hb); have n3_ := Zaa.mk (Kd.Zca (mvR HO1072.out) hb); have n4_ := Zaa.mk (Kd.Zca (mvR HO1075.out) hb); have n5_ := Zaa.mk (Kd.Zdm (Kd.Zd6 (mvN HO1080.out) gb1083 (Nat.le_of_eq hg.symm)) hb); have n6_ := Zaa.mk (Zbe (g := gb1052) (o := .cells #[.slice Ao27 x3_1.length co27, .int .i64 a0_1, .slice A0_2 l0_2.length c0_2, .slice A0_3 l0_3.length c0_3, .int .i64 a0_4, .int .i64 a0_5, .slice A0_6 l0_6.length c0_6, .int .i64 a0_7, .slice A0_8 l0_8.length c0_8, .slice A0_9 l0_9.length c0_9] 27 (0, 0)) (mvK BK1052.out) hb); have n7_ := Zaa.mk (Zam (by repeat (first | (with_reducible first | exact HB.out | apply Zab | apply Za | apply Zac | refine Zaf ?_ GE1052.out) | exact HB.out)) hb); have n8_ := Zaa.mk (hbox); have n10_ := Zaa.mk ((by rw [hg]; exact (Zae (by repeat (first | (with_reducible first | exact HB.out | apply Zab | apply Za | apply Zac | refine Zaf ?_ GE1052.out) | exact HB.out))) : w.heap.size ≤ gb1083)); have n11_ := Zaa.mk ((by rw [hg]; exact Nat.ne_of_lt (Zdj (g := gb1052) (o := .cells #[.slice Ao27 x3_1.length co27, .int .i64 a0_1, .slice A0_2 l0_2.length c0_2, .slice A0_3 l0_3.length c0_3, .int .i64 a0_4, .int .i64 a0_5, .slice A0_6 l0_6.length c0_6, .int .i64 a0_7, .slice A0_8 l0_8.length c0_8, .slice A0_9 l0_9.length c0_9] 27 (0, 0)) (mvK BK1052.out)) : gb1052 ≠ gb1083)); have n12_ := Zaa.mk ((by rw [hg]; exact Nat.ne_of_gt (Zdj (g := gb1052) (o := .cells #[.slice Ao27 x3_1.length co27, .int .i64 a0_1, .slice A0_2 l0_2.length c0_2, .slice A0_3 l0_3.length c0_3, .int .i64 a0_4, .int .i64 a0_5, .slice A0_6 l0_6.length c0_6, .int .i64 a0_7, .slice A0_8 l0_8.length c0_8, .slice A0_9 l0_9.length c0_9] 27 (0, 0)) (mvK BK1052.out)) : gb1083 ≠ gb1052)); clear HO_3; clear HO1068; clear HO1072; clear HO1075; clear HO1080; clear BK1052; clear HB; have HO_3 := n0_; have HO1068 := n2_; have HO1072 := n3_; have HO1075 := n4_; have HO1080 := n5_; have BK1052 := n6_; have HB := n7_; have BK1083 := n8_; have GE1083 := n10_; have NB1052_1083 := n11_; have NB1083_1052 := n12_; clear n0_ n2_ n3_ n4_ n5_ n6_ n7_ n8_ n10_ n11_ n12_; clear hb hbox hg; have hnb30 := NB1083_1052.out; have hnc30 := NB1052_1083.out; obtain ⟨hcz31_0, hcz31_1, hcz31_2, hcz31_3, hcz31_4, hcz31_5, hcz31_6, hfz31_0, hfz31_1, hfz31_2, hfz31_3, hfz31_4, hfz31_5, hfz31_6⟩ := Zcg BK1083.out; obtain ⟨Ao32, co32, eo32⟩ := Kd.Zbn HO1072.out; subst eo32; obtain ⟨Ao33, co33, eo33⟩ := Kd.Zbn HO1075.out; subst eo33; obtain ⟨Ao34, co34, eo34⟩ := Kd.Zdr HO1080.out; subst eo34; obtain ⟨hcz35_0, hcz35_1, hcz35_2, hcz35_3, hcz35_4, hcz35_5, hcz35_6, hcz35_7, hcz35_8, hcz35_9, hfz35_0, hfz35_1, hfz35_2, hfz35_3, hfz35_4, hfz35_5, hfz35_6, hfz35_7, hfz35_8, hfz35_9⟩ := Zes BK1052.out; obtain ⟨Ao36, co36, eo36⟩ := Kd.Zdr HO1068.out; subst eo36) | ((with_reducible refine Zbo (f := 30) rfl ?_); refine Zcr (some 51) rfl rfl Try.func30 (by kernel_rfl) rfl #[.slice Ao36 t1066.length co36, .slice A0_8 l0_8.length c0_8] rfl (by (try simp only [List.map_toArray, List.map_cons, List.map_nil]); first | done | rfl | (simp only [List.length_drop, List.length_take]; rfl)) ?_; (refine withB (m := w.heap.size) (w0 := w) (by repeat (first | (with_reducible first | exact HB.out | apply Zab | apply Za | apply Zac | refine Zaf ?_ GE1052.out | refine Zaf ?_ GE1083.out) | exact HB.out)) ?_); intro hL_; (with_reducible refine (Zay.calls k1 _ _ t1066 _ _ l0_8 t1085 true _ ?side1 ?side2 ?side3 ?side4 A17.out).mono ?_); (case side1 => refine (Kd.Zb2 (e := 39) (base := w.heap.size) (ok := fun k_ => (((P0_0_ k_ ∨ w.heap.size ≤ k_) ∧ (some k_ ≠ (.slice Ao32 t1070.length co32 : Value).ownBlock ∧ (some k_ ≠ (.slice Ao33 t1073.length co33 : Value).ownBlock ∧ (some k_ ≠ (.slice Ao34 t1078.length co34 : Value).ownBlock ∧ (some k_ ≠ (.slice Ao27 x3_1.length co27 : Value).ownBlock ∧ k_ ≠ gb1052))))) ∧ k_ ≠ gb1083)) (n := t1066.length) (c := co36) ?_).2.2; exact (by (with_reducible repeat (first | apply Kd.Zb7 | apply Kd.Zb8 | apply Kd.Zce)); exact (Zfx HO1068.out fun _ hk => hk.2))); (case side2 => exact (Kd.Zb2 HO1068.out).2.1); (case side3 => exact Kd.Za8 HR0_8.out hL_); (case side4 => exact HC0_8.out); rintro e w37 ⟨v1087, rfl, ho0, hb⟩; refine ⟨_, rfl, ?_⟩; have n0_ := Zaa.mk (Kd.Zcj (by (with_reducible repeat (first | apply Kd.Zb7 | apply Kd.Zb8 | apply Kd.Zce)); exact (Zfx HO_3.out fun _ hk => hk.2)) (Kd.Zb6 ho0) hb); have n2_ := Zaa.mk (Kd.Zcj (by (with_reducible repeat (first | apply Kd.Zb7 | apply Kd.Zb8 | apply Kd.Zce)); exact (Zfx HO1068.out fun _ hk => hk.2)) (Kd.Zb6 ho0) hb); have n3_ := Zaa.mk (Kd.Zck (by (with_reducible repeat (first | apply Kd.Za6 | apply Kd.Za5 | apply Kd.Zbb)); exact (Zfg (Kd.Zc HO1072.out BK1083.out (by decide)))) (Kd.Zb6 ho0) hb); have n4_ := Zaa.mk (Kd.Zck (by (with_reducible repeat (first | apply Kd.Za6 | apply Kd.Za5 | apply Kd.Zbb)); exact (Zfg (Kd.Zc HO1075.out BK1083.out (by decide)))) (Kd.Zb6 ho0) hb); have n5_ := Zaa.mk (Kd.Zcj (by (with_reducible repeat (first | apply Kd.Zb7 | apply Kd.Zb8 | apply Kd.Zce)); exact (Zfx HO1080.out fun _ hk => hk.2)) (Kd.Zb6 ho0) hb); have n6_ := Zaa.mk (Kd.Zbs (Kd.Zc3 (Kd.Zc3 (Kd.Ze6 (M := fun k_ => (w.heap.size ≤ k_)) ho0 (Zae hL_) (fun k_ h_ => h_)) (Kd.R_lt (by (with_reducible repeat (first | apply Kd.Za6 | apply Kd.Za5 | apply Kd.Zbb)); exact (Zfg (Kd.Zc HO1072.out BK1083.out (by decide)))))) (Kd.R_lt (by (with_reducible repeat (first | apply Kd.Za6 | apply Kd.Za5 | apply Kd.Zbb)); exact (Zfg (Kd.Zc HO1075.out BK1083.out (by decide)))))) (Zae hL_)); have n7_ := Zaa.mk (Zbe (g := gb1052) (o := .cells #[.slice Ao27 x3_1.length co27, .int .i64 a0_1, .slice A0_2 l0_2.length c0_2, .slice A0_3 l0_3.length c0_3, .int .i64 a0_4, .int .i64 a0_5, .slice A0_6 l0_6.length c0_6, .int .i64 a0_7, .slice A0_8 l0_8.length c0_8, .slice A0_9 l0_9.length c0_9] 27 (0, 0)) (by (with_reducible repeat (first | refine Zag ?_ _ | refine Zak ?_ | refine Zad ?_ _)); refine Zcb ?_ NB1052_1083.out _; (with_reducible repeat (first | refine Zag ?_ _ | refine Zak ?_ | refine Zad ?_ _)); refine Zcb ?_ NB1052_1083.out _; (with_reducible repeat (first | refine Zag ?_ _ | refine Zak ?_ | refine Zad ?_ _)); refine Zcb ?_ NB1052_1083.out _; (with_reducible repeat (first | refine Zag ?_ _ | refine Zak ?_ | refine Zad ?_ _)); refine Zcb ?_ NB1052_1083.out _; (with_reducible repeat (first | refine Zag ?_ _ | refine Zak ?_ | refine Zad ?_ _)); refine Zcb ?_ NB1052_1083.out _; (with_reducible repeat (first | refine Zag ?_ _ | refine Zak ?_ | refine Zad ?_ _)); refine Zcb ?_ NB1052_1083.out _; (with_reducible repeat (first | refine Zag ?_ _ | refine Zak ?_ | refine Zad ?_ _)); refine Zcb ?_ NB1052_1083.out _; (with_reducible repeat (first | refine Zag ?_ _ | refine Zak ?_ | refine Zad ?_ _)); exact BK1052.out) hb); have n8_ := Zaa.mk (Zbe (g := gb1083) (o := .cells #[.int .i64 t1069, .slice Ao32 t1070.length co32, .slice Ao33 t1073.length co33, .int .i64 t1076, .int .i64 t1077, .slice Ao34 t1078.length co34, .int .i64 t1081] 25 (0, 0)) (by (with_reducible repeat (first | refine Zag ?_ _ | refine Zak ?_ | refine Zad ?_ _)); refine Zbl (cs := #[.int .i64 t1069, .slice Ao32 t1070.length co32, .slice Ao33 t1073.length co33, .int .i64 t1076, .int .i64 t1077, .slice Ao34 t1078.length co34, .int .i64 0]) ?_ 6 _ rfl; (with_reducible repeat (first | refine Zag ?_ _ | refine Zak ?_ | refine Zad ?_ _)); refine Zbl (cs := #[.int .i64 t1069, .slice Ao32 t1070.length co32, .slice Ao33 t1073.length co33, .int .i64 t1076, .int .i64 t1077, .slice none 0 0, .int .i64 0]) ?_ 5 _ rfl; (with_reducible repeat (first | refine Zag ?_ _ | refine Zak ?_ | refine Zad ?_ _)); refine Zbl (cs := #[.int .i64 t1069, .slice Ao32 t1070.length co32, .slice Ao33 t1073.length co33, .int .i64 t1076, .int .i64 0, .slice none 0 0, .int .i64 0]) ?_ 4 _ rfl; (with_reducible repeat (first | refine Zag ?_ _ | refine Zak ?_ | refine Zad ?_ _)); refine Zbl (cs := #[.int .i64 t1069, .slice Ao32 t1070.length co32, .slice Ao33 t1073.length co33, .int .i64 0, .int .i64 0, .slice none 0 0, .int .i64 0]) ?_ 3 _ rfl; (with_reducible repeat (first | refine Zag ?_ _ | refine Zak ?_ | refine Zad ?_ _)); refine Zbl (cs := #[.int .i64 t1069, .slice Ao32 t1070.length co32, .slice none 0 0, .int .i64 0, .int .i64 0, .slice none 0 0, .int .i64 0]) ?_ 2 _ rfl; (with_reducible repeat (first | refine Zag ?_ _ | refine Zak ?_ | refine Zad ?_ _)); refine Zbl (cs := #[.int .i64 t1069, .slice none 0 0, .slice none 0 0, .int .i64 0, .int .i64 0, .slice none 0 0, .int .i64 0]) ?_ 1 _ rfl; (with_reducible repeat (first | refine Zag ?_ _ | refine Zak ?_ | refine Zad ?_ _)); refine Zbl (cs := #[.int .i64 0, .slice none 0 0, .slice none 0 0, .int .i64 0, .int .i64 0, .slice none 0 0, .int .i64 0]) ?_ 0 _ rfl; (with_reducible repeat (first | refine Zag ?_ _ | refine Zak ?_ | refine Zad ?_ _)); exact BK1083.out) hb); have n9_ := Zaa.mk (Zam hL_ hb); clear HO_3; clear HO1068; clear HO1072; clear HO1075; clear HO1080; clear BK1052; clear BK1083; clear HB; have HO_3 := n0_; have HO1068 := n2_; have HO1072 := n3_; have HO1075 := n4_; have HO1080 := n5_; have HO1088 := n6_; have BK1052 := n7_; have BK1083 := n8_; have HB := n9_; clear n0_ n2_ n3_ n4_ n5_ n6_ n7_ n8_ n9_; (try clear hb); (try clear hb2); (try clear hk); (try clear hi); (try clear ho0); obtain ⟨hcz38_0, hcz38_1, hcz38_2, hcz38_3, hcz38_4, hcz38_5, hcz38_6, hfz38_0, hfz38_1, hfz38_2, hfz38_3, hfz38_4, hfz38_5, hfz38_6⟩ := Zcg BK1083.out) | ((with_reducible refine Zbo (f := 35) rfl ?_); refine Zcr (some 57) rfl rfl Try.func35 (by kernel_rfl) rfl #[.slice Ao36 t1066.length co36, .agg #[.int .i64 t1069, .slice Ao32 t1070.length co32, .slice Ao33 t1073.length co33, .int .i64 t1076, .int .i64 t1077, .slice Ao34 t1078.length co34, .int .i64 t1081]] rfl (by (try simp only [List.map_toArray, List.map_cons, List.map_nil]); first | done | rfl | (simp only [List.length_drop, List.length_take]; rfl)) ?_; (refine withB (m := w.heap.size) (w0 := w) (by repeat (first | (with_reducible first | exact HB.out | apply Zab | apply Za | apply Zac | refine Zaf ?_ GE1052.out | refine Zaf ?_ GE1083.out) | exact HB.out)) ?_); intro hL_; (with_reducible refine (Zai.calls k1 _ _ t1066 t1069 _ _ t1070 _ _ t1073 t1076 t1077 _ _ t1078 t1081 t1089 true _ ?side1 ?side2 ?side3 ?side4 ?side5 ?side6 ?side7 ?side8 A18.out).mono ?_); (case side1 => repeat (first | exact (Kd.Zb2 HO1068.out).2.2 | (with_reducible refine Kd.C_alloc ?_ _) | (with_reducible refine Kd.Za0 ?_ _) | (with_reducible refine Kd.C_drew ?_))); (case side2 => exact (Kd.Zb2 HO1068.out).2.1); (case side3 => repeat (first | exact (Kd.Zaz HO1072.out).2.2 | (with_reducible refine Kd.C_alloc ?_ _) | (with_reducible refine Kd.Za0 ?_ _) | (with_reducible refine Kd.C_drew ?_))); (case side4 => exact (Kd.Zaz HO1072.out).2.1); (case side5 => repeat (first | exact (Kd.Zaz HO1075.out).2.2 | (with_reducible refine Kd.C_alloc ?_ _) | (with_reducible refine Kd.Za0 ?_ _) | (with_reducible refine Kd.C_drew ?_))); (case side6 => exact (Kd.Zaz HO1075.out).2.1); (case side7 => repeat (first | exact (Kd.Zb2 HO1080.out).2.2 | (with_reducible refine Kd.C_alloc ?_ _) | (with_reducible refine Kd.Za0 ?_ _) | (with_reducible refine Kd.C_drew ?_))); (case side8 => exact (Kd.Zb2 HO1080.out).2.1); rintro e w39 ⟨v1090, rfl, ho0, hb⟩; refine ⟨_, rfl, ?_⟩; have n2_ := Zaa.mk (Kd.Zcj (mvN HO1068.out) (by first | exact Kd.Ze5 ho0 | exact Kd.Zfc ho0 | exact Kd.Zb6 ho0) hb); have n3_ := Zaa.mk (Kd.Zca (mvR HO1072.out) hb); have n4_ := Zaa.mk (Kd.Zca (mvR HO1075.out) hb); have n5_ := Zaa.mk (Kd.Zcj (mvN HO1080.out) (by first | exact Kd.Ze5 ho0 | exact Kd.Zfc ho0 | exact Kd.Zb6 ho0) hb); have n6_ := Zaa.mk (Kd.Zca (mvR HO1088.out) hb); have n7_ := Zaa.mk (Kd.Zdx (Kd.Zdc (ok' := fun k_ => (P0_0_ k_ ∨ w.heap.size ≤ k_) ∧ some k_ ≠ (.slice Ao27 x3_1.length co27 : Value).ownBlock ∧ some k_ ≠ (.slice Ao36 t1066.length co36 : Value).ownBlock ∧ some k_ ≠ (.slice Ao32 t1070.length co32 : Value).ownBlock ∧ some k_ ≠ (.slice Ao33 t1073.length co33 : Value).ownBlock ∧ some k_ ≠ (.slice Ao34 t1078.length co34 : Value).ownBlock ∧ some k_ ≠ (v1087 : Value).ownBlock ∧ k_ ≠ gb1052 ∧ k_ ≠ gb1083) (Kd.S_N (Kd.Zd8 ho0)) (fun k_ hk_ => ⟨(.inr (Nat.le_trans (Zae hL_) hk_.2.1)), (Kd.fresh' (Kd.N_lt (mvN HO_3.out)) k_ hk_.2.1), (Kd.fresh' (Kd.N_lt (mvN HO1068.out)) k_ hk_.2.1), (Kd.fresh' (Kd.R_lt (mvR HO1072.out)) k_ hk_.2.1), (Kd.fresh' (Kd.R_lt (mvR HO1075.out)) k_ hk_.2.1), (Kd.fresh' (Kd.N_lt (mvN HO1080.out)) k_ hk_.2.1), (Kd.fresh' (Kd.R_lt (mvR HO1088.out)) k_ hk_.2.1), (Kd.freshB (g := gb1052) (o := .cells #[.slice Ao27 x3_1.length co27, .int .i64 a0_1, .slice A0_2 l0_2.length c0_2, .slice A0_3 l0_3.length c0_3, .int .i64 a0_4, .int .i64 a0_5, .slice A0_6 l0_6.length c0_6, .int .i64 a0_7, .slice A0_8 l0_8.length c0_8, .slice A0_9 l0_9.length c0_9] 27 (0, 0)) (mvK BK1052.out) k_ hk_.2.1), (Kd.freshB (g := gb1083) (o := .cells #[.int .i64 t1069, .slice Ao32 t1070.length co32, .slice Ao33 t1073.length co33, .int .i64 t1076, .int .i64 t1077, .slice Ao34 t1078.length co34, .int .i64 t1081] 25 (0, 0)) (mvK BK1083.out) k_ hk_.2.1)⟩)) (Zae hL_)); have n9_ := Zaa.mk (Zbe (g := gb1083) (o := .cells #[.int .i64 t1069, .slice Ao32 t1070.length co32, .slice Ao33 t1073.length co33, .int .i64 t1076, .int .i64 t1077, .slice Ao34 t1078.length co34, .int .i64 t1081] 25 (0, 0)) (mvK BK1083.out) hb); have n10_ := Zaa.mk (Zam hL_ hb); clear HO_3; clear HO1068; clear HO1072; clear HO1075; clear HO1080; clear HO1088; clear BK1052; clear BK1083; clear HB; have HO1068 := n2_; have HO1072 := n3_; have HO1075 := n4_; have HO1080 := n5_; have HO1088 := n6_; have HO1091 := n7_; have BK1083 := n9_; have HB := n10_; clear n2_ n3_ n4_ n5_ n6_ n7_ n9_ n10_; (try clear hb); (try clear hb2); (try clear hk); (try clear hi); (try clear ho0); obtain ⟨hcz40_0, hcz40_1, hcz40_2, hcz40_3, hcz40_4, hcz40_5, hcz40_6, hfz40_0, hfz40_1, hfz40_2, hfz40_3, hfz40_4, hfz40_5, hfz40_6⟩ := Zcg BK1083.out; obtain ⟨Ao41, co41, eo41⟩ := Kd.Zbn HO1088.out; subst eo41) | (go_at_call 32; (with_reducible refine (Zbp.calls k1 t1069 _ _ t1070 _ _ t1073 t1076 t1077 _ _ t1078 t1081 _ _ t1085 t1093 _ ?side1 ?side2 ?side3 ?side4 ?side5 ?side6 ?side7 ?side8 A20.out).mono ?_); (case side1 => repeat (first | exact (Kd.Zaz HO1072.out).2.2 | (with_reducible refine Kd.C_alloc ?_ _) | (with_reducible refine Kd.Za0 ?_ _) | (with_reducible refine Kd.C_drew ?_))); (case side2 => exact (Kd.Zaz HO1072.out).2.1); (case side3 => repeat (first | exact (Kd.Zaz HO1075.out).2.2 | (with_reducible refine Kd.C_alloc ?_ _) | (with_reducible refine Kd.Za0 ?_ _) | (with_reducible refine Kd.C_drew ?_))); (case side4 => exact (Kd.Zaz HO1075.out).2.1); (case side5 => repeat (first | exact (Kd.Zb2 HO1080.out).2.2 | (with_reducible refine Kd.C_alloc ?_ _) | (with_reducible refine Kd.Za0 ?_ _) | (with_reducible refine Kd.C_drew ?_))); (case side6 => exact (Kd.Zb2 HO1080.out).2.1); (case side7 => repeat (first | exact (Kd.Zaz HO1088.out).2.2 | (with_reducible refine Kd.C_alloc ?_ _) | (with_reducible refine Kd.Za0 ?_ _) | (with_reducible refine Kd.C_drew ?_))); (case side8 => exact (Kd.Zaz HO1088.out).2.1); rintro e w42 ⟨rfl, hb⟩; have n2_ := Zaa.mk (Kd.Zdm (mvN HO1068.out) hb); have n7_ := Zaa.mk (Kd.Zdm (mvN HO1091.out) hb); have n10_ := Zaa.mk (Zam (by repeat (first | (with_reducible first | exact HB.out | apply Zab | apply Za | apply Zac | refine Zaf ?_ GE1052.out | refine Zaf ?_ GE1083.out) | exact HB.out)) hb); clear HO1068; clear HO1072; clear HO1075; clear HO1080; clear HO1088; clear HO1091; clear BK1083; clear HB; have HO1068 := n2_; have HO1091 := n7_; have HB := n10_; clear n2_ n7_ n10_; (try clear hb); (try clear hb2); (try clear hk); (try clear hi); obtain ⟨Ao43, co43, eo43⟩ := Kd.Zdr HO1091.out; subst eo43) | (go_at_call 21; (with_reducible refine (Zap.calls k1 _ _ t1089 _ _ t1066 true _ ?side1 ?side2 ?side3 ?side4 A23.out).mono ?_); (case side1 => repeat (first | exact (Kd.Zb2 HO1091.out).2.2 | (with_reducible refine Kd.C_alloc ?_ _) | (with_reducible refine Kd.Za0 ?_ _) | (with_reducible refine Kd.C_drew ?_))); (case side2 => exact (Kd.Zb2 HO1091.out).2.1); (case side3 => repeat (first | exact (Kd.Zb2 HO1068.out).2.2 | (with_reducible refine Kd.C_alloc ?_ _) | (with_reducible refine Kd.Za0 ?_ _) | (with_reducible refine Kd.C_drew ?_))); (case side4 => exact (Kd.Zb2 HO1068.out).2.1); rintro e w' ⟨rfl, ⟨nd, rfl⟩⟩) | (go_at_call 34; (with_reducible refine (Zav.calls k1  t1095 _ A25.out).mono ?_); rintro e w44 ⟨rfl, hb⟩; have n10_ := Zaa.mk (Zam (by repeat (first | (with_reducible first | exact HB.out | apply Zab | apply Za | apply Zac | refine Zaf ?_ GE1052.out | refine Zaf ?_ GE1083.out) | exact HB.out)) hb); clear HO1068; clear HO1091; clear HB; have HB := n10_; clear n10_; (try clear hb); (try clear hb2); (try clear hk); (try clear hi)))
   go_ret
   exact ⟨by first | rfl | (simp [Za1, Za2] <;> rfl) | (simp [*, Za1, Za2] <;> rfl), by repeat (first | (with_reducible first | exact HB.out | apply Zab | apply Za | apply Zac | refine Zaf ?_ GE1052.out | refine Zaf ?_ GE1083.out) | exact HB.out)⟩
end Go.Proofs.Ytpbcigilipdedaa.P
/- ElementDecides: where all are known all stays, if it holds, and none, if not. -/
namespace Go.Proofs.Ytpbcigilipdedaa.P
open Go.RowKit Go.Proofs.YtpbcigilipdedaaW.PrintWords Go.Proofs.YtpbcigilipdedaaW.PrintLast Go.Proofs.YtpbcigilipdedaaW.PrintMore
set_option linter.unusedVariables false
set_option linter.unusedSimpArgs false
theorem int_C_moved {W W' : World} {A : Option Addr} {n : Nat} {x : List Int} (hW : ∀ k, True → k < W.heap.size → W'.heap[k]? = W.heap[k]?) (hC : Kd.C (Kd.int .i64) W A n x) : Kd.C (Kd.int .i64) W' A n x := by
  refine ⟨hC.1, hC.2.1, fun hp => ?_⟩
  obtain ⟨ad, hA, hr⟩ := hC.2.2 hp
  refine ⟨ad, hA, fun j p hj => ?_⟩
  obtain ⟨c, hcl, hK, hcell⟩ := hr j p hj
  refine ⟨c, hcl, hK, fun i u hi => ?_⟩
  have h1 := hcell i u hi
  have h2 := World.block_lt_of_cell? W _ h1
  rw [← h1]
  exact World.cell?_of_block (hW _ trivial h2)
theorem F_of_C {W : World} {A : Option Addr} {n : Nat} {xs : List (List Int)} (hC : Kd.C (Kd.slice 3 (Kd.int .i64)) W A n xs) : Kd.F (Kd.slice 3 (Kd.int .i64)) W (fun _ => True) A n xs := fun W' hW => by
  refine ⟨hC.1, hC.2.1, fun hp => ?_⟩
  obtain ⟨ad, hA, hr⟩ := hC.2.2 hp
  refine ⟨ad, hA, fun j p hj => ?_⟩
  obtain ⟨c, hcl, ⟨A0, c0, e, hl, hK⟩, hcell⟩ := hr j p hj
  refine ⟨c, hcl, ⟨A0, c0, e, hl, int_C_moved hW hK⟩, fun i u hi => ?_⟩
  have h1 := hcell i u hi
  have h2 := World.block_lt_of_cell? W _ h1
  rw [← h1]
  exact World.cell?_of_block (hW _ trivial h2)
theorem ConOK.coefsE {n : Nat} {vars coefs : List Int} {op rhs : Int} {rows : List (List Int)} {b : Int} (h : ConOK 3 n vars coefs op rhs rows b) : coefs = [] := by
  have hB := h.right
  unfold rightB plainB manyB at hB
  rw [if_neg (by decide)] at hB
  simp only [Bool.and_eq_true, decide_eq_true_iff] at hB
  simp_all
structure Known (d : List (List Rg)) (a : List Int) : Prop where
  len : a.length = d.length
  va : ∀ (i : Nat) (h : i < d.length) (v : Int), Va d[i] v ↔ v = a.getD i 0
theorem known_of {d : List (List Rg)} {a : List Int} (hd : Doms d) (h1 : ∀ x ∈ d, (vals x).length ≤ 1) (hp : Picked d a) : Known d a := by
  refine ⟨hp.1, fun i h v => ?_⟩
  have hia : i < a.length := by have := hp.1; omega
  have hv := hp.2 i hia h
  have e : a.getD i 0 = a[i] := by rw [List.getD_eq_getElem?_getD, List.getElem?_eq_getElem hia]; rfl
  rw [e]
  constructor
  · intro hv'
    have m1 := (Zc8 v d[i]).2 hv'
    have m2 := (Zc8 a[i] d[i]).2 hv
    have hl := h1 _ (List.getElem_mem h)
    match hvs : vals d[i], hl, m1, m2 with
    | [], _, m1, _ => cases m1
    | [x], _, m1, m2 => exact (List.mem_singleton.1 m1).trans (List.mem_singleton.1 m2).symm
    | x :: y :: l, hl, _, _ => simp at hl
  rintro rfl
  exact hv
theorem Known.dv {d : List (List Rg)} {a : List Int} (hk : Known d a) {v : Int} (h0 : 0 ≤ v) (h1 : v < (d.length : Int)) (x : Int) : Va (dv d v) x ↔ x = at0 a v := by
  have hi : v.toNat < d.length := by omega
  have e : P.dv d v = d[v.toNat] := by unfold P.dv; rw [List.getD_eq_getElem?_getD, List.getElem?_eq_getElem hi]; rfl
  rw [e, hk.va v.toNat hi]
  unfold at0
  rw [if_neg (by omega)]
  rfl
section
variable {d : List (List Rg)} {a : List Int} {ix rs : Int} {list : List Int} (hd : Doms d) (hk : Known d a) (hm : ∀ v ∈ ix :: rs :: list, 0 ≤ v ∧ v < (d.length : Int)) (hir : ix ≠ rs) (hi : ix ∉ list) (hr : rs ∉ list)
include hk hm
theorem Zgt (i : Int) : isPlace d rs list i ↔ 0 ≤ i ∧ i < (list.length : Int) ∧ at0 a (list.getD i.toNat 0) = at0 a rs := by
  have h1 := hm rs (List.mem_cons_of_mem _ List.mem_cons_self)
  unfold isPlace
  constructor
  · rintro ⟨h0, h2, x, hx, hy⟩
    have hil : i.toNat < list.length := by omega
    have hmem : list.getD i.toNat 0 ∈ list := by rw [List.getD_eq_getElem?_getD, List.getElem?_eq_getElem hil]; exact List.getElem_mem _
    have h3 := hm _ (List.mem_cons_of_mem _ (List.mem_cons_of_mem _ hmem))
    exact ⟨h0, h2, ((hk.dv h3.1 h3.2 x).1 hx).symm.trans ((hk.dv h1.1 h1.2 x).1 hy)⟩
  rintro ⟨h0, h2, e⟩
  have hil : i.toNat < list.length := by omega
  have hmem : list.getD i.toNat 0 ∈ list := by rw [List.getD_eq_getElem?_getD, List.getElem?_eq_getElem hil]; exact List.getElem_mem _
  have h3 := hm _ (List.mem_cons_of_mem _ (List.mem_cons_of_mem _ hmem))
  exact ⟨h0, h2, at0 a rs, (hk.dv h3.1 h3.2 _).2 e.symm, (hk.dv h1.1 h1.2 _).2 rfl⟩
theorem Zg6 : elemB (at0 a ix) (at0 a rs) (list.map (at0 a)) = true ↔ isPlace d rs list (at0 a ix) := by
  rw [Zgt hk hm]
  unfold elemB
  simp only [Bool.and_eq_true, decide_eq_true_iff, List.length_map]
  constructor
  · rintro ⟨⟨h0, h1⟩, h2⟩
    refine ⟨h0, h1, ?_⟩
    rw [← h2, List.getD_eq_getElem?_getD, List.getD_eq_getElem?_getD, List.getElem?_map, List.getElem?_eq_getElem (show (at0 a ix).toNat < list.length by omega)]
    rfl
  rintro ⟨h0, h1, h2⟩
  refine ⟨⟨h0, h1⟩, ?_⟩
  rw [← h2, List.getD_eq_getElem?_getD, List.getD_eq_getElem?_getD, List.getElem?_map, List.getElem?_eq_getElem (show (at0 a ix).toNat < list.length by omega)]
  rfl
include hd hir hi hr
theorem last_known {places : List Int} (hss : SS places) (hmem : ∀ i, i ∈ places ↔ Va (dv d ix) i ∧ isPlace d rs list i) (hp0 : places ≠ []) {o may : List Rg} (hO : DomOf o (fun i => i ∈ places)) (hM : DomOf may (fun x => ∃ i ∈ places, Va (dv d (list.getD i.toNat 0)) x ∧ Va (dv d rs) x)) :
    isPlace d rs list (at0 a ix) ∧ Zai.last d ix rs list places o may = d := by
  have h0 := hm ix List.mem_cons_self
  have h1 := hm rs (List.mem_cons_of_mem _ List.mem_cons_self)
  have hone : ∀ i, i ∈ places ↔ i = at0 a ix := fun i => by
    constructor
    · intro h
      exact (hk.dv h0.1 h0.2 i).1 ((hmem i).1 h).1
    rintro rfl
    obtain ⟨p, hp⟩ := List.exists_mem_of_ne_nil _ hp0
    have e := (hk.dv h0.1 h0.2 p).1 ((hmem p).1 hp).1
    rw [← e]
    exact hp
  have hpl : isPlace d rs list (at0 a ix) := ((hmem _).1 ((hone _).2 rfl)).2
  have eps : places = [at0 a ix] := SS.ext hss (List.pairwise_singleton _ _) (fun v => (hone v).trans List.mem_singleton.symm)
  obtain ⟨p0, p1, pe⟩ := (Zgt hk hm _).1 hpl
  have hil : (at0 a ix).toNat < list.length := by omega
  have hwm : list.getD (at0 a ix).toNat 0 ∈ list := by rw [List.getD_eq_getElem?_getD, List.getElem?_eq_getElem hil]; exact List.getElem_mem _
  have h3 := hm _ (List.mem_cons_of_mem _ (List.mem_cons_of_mem _ hwm))
  have hp : ∀ i ∈ places, 0 ≤ i ∧ i < (list.length : Int) := fun i h => by rw [(hone i).1 h]; exact ⟨p0, p1⟩
  have gd : ∀ {v : Int}, 0 ≤ v → v < (d.length : Int) → Gd 1048576 (-1048576) (dv d v) := fun h h' => (hd.2 _ (Zgk h h')).1
  have eo : o = dv d ix := Gd.ext hO.1 (gd h0.1 h0.2) (fun v => (hO.2 v).trans ((hone v).trans (hk.dv h0.1 h0.2 v).symm))
  have hmv : ∀ x, Va may x ↔ x = at0 a rs := fun x => (hM.2 x).trans ⟨fun ⟨i, _, _, h⟩ => (hk.dv h1.1 h1.2 x).1 h, fun e => ⟨_, (hone _).2 rfl, by subst e; exact (hk.dv h3.1 h3.2 _).2 pe.symm, (hk.dv h1.1 h1.2 x).2 e⟩⟩
  have er : may = dv d rs := Gd.ext hM.1 (gd h1.1 h1.2) (fun v => (hmv v).trans (hk.dv h1.1 h1.2 v).symm)
  have ew : may = dv d (list.getD (at0 a ix).toNat 0) := Gd.ext hM.1 (gd h3.1 h3.2) (fun v => (hmv v).trans ((hk.dv h3.1 h3.2 v).trans (by rw [pe])).symm)
  refine ⟨hpl, dv_ext (Zgp ..) (fun j hj hjl => ?_)⟩
  rw [Zgp] at hjl
  by_cases j0 : j = ix
  · rw [j0, last_ix hm hir hi hr hp, eo]
  by_cases j1 : j = rs
  · rw [j1, last_rs hm hir hi hr hp, er]
  by_cases j2 : j = list.getD (at0 a ix).toNat 0
  rotate_left
  · exact last_other hm hir hi hr hp hj j0 j1 (fun _ => by rw [eps]; exact j2)
  have := last_w hm hir hi hr hp (o := o) (may := may) (by rw [eps]; rfl)
  rw [eps] at this ⊢
  rw [j2]
  exact this.trans ew
end
def cut1 (D : List (List Int)) : List (List Int) := D.map (·.take 1)
theorem cut1_vals (D : List (List Int)) : ∀ x ∈ domsC (cut1 D), (vals x).length ≤ 1 := by
  intro x hx
  unfold domsC cut1 at hx
  obtain ⟨y, hy, rfl⟩ := List.mem_map.1 hx
  obtain ⟨z, _, rfl⟩ := List.mem_map.1 (List.mem_of_mem_take hy)
  rw [dsm_vals]
  refine Nat.le_trans (Zee _) ?_
  unfold smallL
  simp
  omega
theorem decides_l0 (D : List (List Int)) (x1 : Int) (vars coefs : List Int) (op rhs : Int) (rows : List (List Int)) (b : Int) (A Tk : List Int) (hD : D.length ≤ 5864062014634) (hin : ∀ x ∈ D, x.length ≤ 4611686018427387)
    (h : Ev (fun k => (Zaq.f k (cut1 D) x1 vars coefs op rhs rows b A Tk 3).bind fun bt1068 => (if bt1068.2.2.2.2.2.2.2.2 = true then ((Zay.f k bt1068.1 A).bind fun bt1087 => ((Zai.f k bt1068.1 bt1068.2.1 bt1068.2.2.1 bt1068.2.2.2.1 bt1068.2.2.2.2.1 bt1068.2.2.2.2.2.1 bt1068.2.2.2.2.2.2.1 bt1068.2.2.2.2.2.2.2.1).bind fun bt1091 => (if bt1087.2 = true then ((Zbp.f k bt1068.2.1 bt1068.2.2.1 bt1068.2.2.2.1 bt1068.2.2.2.2.1 bt1068.2.2.2.2.2.1 bt1068.2.2.2.2.2.2.1 bt1068.2.2.2.2.2.2.2.1 bt1087.1).bind fun t1095 => (if (bt1091.2 == t1095) = true then (if bt1091.2 = true then ((Zap.f k bt1091.1 bt1068.1).bind fun t1096 => (if t1096 = true then ((Zav.f k).bind fun t1097 => (some t1097)) else (none))) else ((Zav.f k).bind fun t1098 => (some t1098))) else (none))) else (if bt1091.2 = true then (none) else ((Zav.f k).bind fun t1099 => (some t1099)))))) else ((Zav.f k).bind fun t1086 => (some t1086)))) true) :
    ∀ (m n : Nat), n + m = D.length → Ev (fun k => Zao.l0 k (cut1 (D.take n)) (n : Int) D x1 vars coefs op rhs rows b A Tk) true := by
  intro m
  induction m with
  | zero =>
    intro n hn
    rw [List.take_of_length_le (by omega)]
    exact Ev.step (fun k => by rw [Zao.l0, if_neg (by omega)]) h
  | succ m ih =>
    intro n hn
    have hlt : n < D.length := by omega
    have hl := hin _ (List.getElem_mem hlt)
    have em : mn (D[n].length : Int) 1 = ((min D[n].length 1 : Nat) : Int) := mn_len2 (m := 1)
    have next := ih (n + 1) (by omega)
    have e : cut1 (D.take (n + 1)) = cut1 (D.take n) ++ [D[n].take (min D[n].length 1)] := by
      unfold cut1
      rw [List.take_succ_eq_append_getElem hlt, List.map_append]
      simp [List.take_eq_take_iff, Nat.min_comm]
    rw [e] at next
    refine Ev.step (fun k => by rw [Zao.l0, if_pos (by omega), if_pos (by omega), Zfa D n hlt, em, if_pos (by omega), if_pos (by omega), if_pos (by unfold cut1; rw [List.length_map, List.length_take]; omega), w1 (by omega), Int.toNat_natCast]) next
theorem Zfk (A0 : Option Addr) (c0 : Nat) (x0 : List (List Int)) (x1 : Int) (A2 : Option Addr) (c2 : Nat) (x2 : List Int) (A3 : Option Addr) (c3 : Nat) (x3 : List Int) (x4 x5 : Int) (A6 : Option Addr) (c6 : Nat) (x6 : List (List Int)) (x7 : Int) (A8 : Option Addr) (c8 : Nat) (x8 : List Int) (A9 : Option Addr) (c9 : Nat) (x9 : List Int) (W : World)
    (hC0 : (Kd.slice 3 (Kd.int .i64)).C W A0 x0.length x0) (hc0 : x0.length ≤ c0) (ok0 : x0.length * 24 ≤ 140737488351232 ∧ ∀ x ∈ x0, x.length * 8 ≤ 140737488351232 ∧ ∀ y ∈ x, (Lit.int .i64 y).wf = true) (ok1 : (Lit.int .i64 x1).wf = true)
    (hC2 : (Kd.int .i64).C W A2 x2.length x2) (hc2 : x2.length ≤ c2) (ok2 : x2.length * 8 ≤ 140737488351232 ∧ ∀ y ∈ x2, (Lit.int .i64 y).wf = true)
    (hC3 : (Kd.int .i64).C W A3 x3.length x3) (hc3 : x3.length ≤ c3) (ok3 : x3.length * 8 ≤ 140737488351232 ∧ ∀ y ∈ x3, (Lit.int .i64 y).wf = true) (ok4 : (Lit.int .i64 x4).wf = true) (ok5 : (Lit.int .i64 x5).wf = true)
    (hC6 : (Kd.slice 3 (Kd.int .i64)).C W A6 x6.length x6) (hc6 : x6.length ≤ c6) (ok6 : x6.length * 24 ≤ 140737488351232 ∧ ∀ x ∈ x6, x.length * 8 ≤ 140737488351232 ∧ ∀ y ∈ x, (Lit.int .i64 y).wf = true) (ok7 : (Lit.int .i64 x7).wf = true)
    (hC8 : (Kd.int .i64).C W A8 x8.length x8) (hc8 : x8.length ≤ c8) (ok8 : x8.length * 8 ≤ 140737488351232 ∧ ∀ y ∈ x8, (Lit.int .i64 y).wf = true)
    (hC9 : (Kd.int .i64).C W A9 x9.length x9) (hc9 : x9.length ≤ c9) (ok9 : x9.length * 8 ≤ 140737488351232 ∧ ∀ y ∈ x9, (Lit.int .i64 y).wf = true) :
    Calls Try.prog 12 #[.agg #[.slice A0 x0.length c0, .int .i64 x1, .slice A2 x2.length c2, .slice A3 x3.length c3, .int .i64 x4, .int .i64 x5, .slice A6 x6.length c6, .int .i64 x7, .slice A8 x8.length c8, .slice A9 x9.length c9]] W fun e W' => e = .returned (.bool true) ∧ Below W.heap.size W W' := by
  have hb : ∀ x ∈ x6, x.length * 8 ≤ 140737488351232 := fun x hx => (ok6.2 x hx).1
  obtain ⟨ok, hL, hok⟩ := laid_ev (cut1 x0) x1 x2 x3 x4 x5 x6 x7 x8 x9 3 (.inr rfl) ok2.1 ok3.1 ok6.1 hb
  have hone := cut1_vals x0
  have hE : Ev (fun k => Zao.f k x0 x1 x2 x3 x4 x5 x6 x7 x8 x9) true := by
    unfold Zao.f
    refine decides_l0 x0 x1 x2 x3 x4 x5 x6 x7 x8 x9 (by omega) (fun x hx => by have := (ok0.2 x hx).1; omega) ?_ x0.length 0 (by omega)
    refine Ev.bind hL ?_
    cases ok with
    | false => exact Ev.Zc4 Bool.false_ne_true Zei
    | true =>
      have hT := (hok rfl).elem
      have hc := (hok rfl).coefsE
      have hd := domsC_doms (cut1 x0)
      have hdl := Zea (cut1 x0)
      obtain ⟨ix, rs, list, rfl, hne, hir, hi, hr, hll⟩ := hT.form
      subst hc
      generalize domsC (cut1 x0) = d at *
      refine Ev.Zcf rfl ?_
      obtain ⟨⟨a, some⟩, hP, hp1, hp2⟩ := pick_ev d x8 hd
      refine Ev.bind hP ?_
      rcases prune_ev d hd ix rs list hT.mem 3 [] x4 x5 (x6.take 20) x7 with ⟨⟨x, hx, hx0⟩, hQ⟩ | ⟨hne0, places, hss, hmem, hcase⟩
      · have hs : some = false := by
          cases some
          · rfl
          exfalso
          obtain ⟨i, hi2, e⟩ := List.mem_iff_getElem.1 hx
          have h9 := hp1 rfl
          have := h9.2 i (by have := h9.1; omega) hi2
          rw [e, hx0] at this
          simp at this
        subst hs
        exact Ev.bind hQ (Ev.Zc4 Bool.false_ne_true (Ev.Zc4 Bool.false_ne_true Zei))
      have hs : some = true := by
        cases some
        · exfalso
          obtain ⟨_, x, hx, hv⟩ := hp2 rfl
          obtain ⟨v, hv2⟩ := (hd.2 x hx).1.some (hne0 x hx)
          have := (Zc8 v x).2 hv2
          rw [hv] at this
          cases this
        rfl
      subst hs
      have hk := known_of hd hone (hp1 rfl)
      have hix := hT.mem ix List.mem_cons_self
      have hbd : at0 a ix ≤ 4611686018427387904 := by
        have h9 := (hk.dv hix.1 hix.2 (at0 a ix)).2 rfl
        have := (hd.2 _ (Zgk hix.1 hix.2)).1.le h9
        omega
      have hH := holdsE_ev ix rs list x4 x5 (x6.take 20) x7 a (by omega) hbd
      rcases hcase with ⟨hp0, hQ⟩ | ⟨hp0, o, may, hO, hM, hQ⟩
      · have eh : elemB (at0 a ix) (at0 a rs) (list.map (at0 a)) = false := by
          cases hh : elemB (at0 a ix) (at0 a rs) (list.map (at0 a))
          · rfl
          have h9 := (Zg6 hk hT.mem).1 hh
          have := (hmem _).2 ⟨(hk.dv hix.1 hix.2 _).2 rfl, h9⟩
          rw [hp0] at this
          cases this
        rw [eh] at hH
        exact Ev.bind hQ (Ev.Zcf rfl (Ev.bind hH (Ev.Zcf rfl (Ev.Zc4 Bool.false_ne_true Zei))))
      obtain ⟨h9, el⟩ := last_known hd hk hT.mem hir hi hr hss hmem hp0 hO hM
      rw [(Zg6 hk hT.mem).2 h9] at hH
      rw [el] at hQ
      have hS := same3_self d (by omega) (fun x hx => by have := hd.len hx; omega)
      exact Ev.bind hQ (Ev.Zcf rfl (Ev.bind hH (Ev.Zcf rfl (Ev.Zcf rfl (Ev.bind hS (Ev.Zcf rfl Zei))))))
  obtain ⟨k, hk⟩ := hE.out
  have hV : Kd.V (Kd.slice 3 (Kd.int .i64)) 23 W W.heap.size (fun _ => True) (.slice A0 x0.length c0) x0 := Kd.V_mk hc0 (F_of_C hC0)
  exact Zao.calls k (fun _ => True) A0 c0 x0 x1 A2 c2 x2 A3 c3 x3 x4 x5 A6 c6 x6 x7 A8 c8 x8 A9 c9 x9 true W hV hC2 hc2 hC3 hc3 hC6 hc6 hC8 hc8 hC9 hc9 hk
end Go.Proofs.Ytpbcigilipdedaa.P
/- What a datum of a statement's arguments holds: a number, a text, a row, a struct, whatever is nested: its cells read as a value of the kind; and how long its rows are at most (by the weight of the whole). -/
namespace Go.Proofs.Ytpbcigilipdedaa.P
open Go.RowKit Go.ChangeShapes Go.WideShapes Go.Proofs.YtpbcigilipdedaaW.PrintWords
set_option linter.unusedVariables false
structure OpensZ {α : Type} (P : Program) (d : Kd α) (ok : α → Prop) (t : TypeId) : Prop where
  out : ∀ {H : Type} (enc : TypeId × Value → H) (w : World) (base : Nat) (sp : Nat → Bool) (held : Bool) (fuel : Nat) (cs : List Value) (x : DataW H × List MemPlace),
    DataW.trod enc P w base sp held fuel t cs = some x → (∀ n ∈ x.1.weights P t, n ≤ reachBytes) → ∃ v : α, d.K w v cs ∧ ok v
theorem OpensZ.int {P : Program} {t : TypeId} {k : IntKind} (ht : P.underlying t = some (.int k)) : OpensZ P (Kd.int k) (fun n => (Lit.int k n).wf = true) t := by
  refine ⟨?_⟩
  intro H enc w base sp held fuel cs x h hz
  obtain ⟨n, rfl, rfl, hw⟩ := DataW.trod_int ht h
  exact ⟨n, rfl, hw⟩
theorem OpensZ.bool {P : Program} {t : TypeId} (ht : P.underlying t = some .bool) : OpensZ P Kd.bool (fun _ => True) t := by
  refine ⟨?_⟩
  intro H enc w base sp held fuel cs x h hz
  obtain ⟨b, rfl, rfl⟩ := DataW.trod_bool ht h
  exact ⟨b, rfl, trivial⟩
theorem OpensZ.string {P : Program} {t : TypeId} (ht : P.underlying t = some .string) : OpensZ P Kd.string (fun s => s.size ≤ maxLen) t := by
  refine ⟨?_⟩
  intro H enc w base sp held fuel cs x h hz
  obtain ⟨s, rfl, rfl, hs⟩ := DataW.trod_string ht h
  exact ⟨s, rfl, hs⟩
theorem OpensZ.iso {α β : Type} {P : Program} {d : Kd α} {ok : α → Prop} {t : TypeId} (h : OpensZ P d ok t) (f : β → α) (g : α → β) (hfg : ∀ a, f (g a) = a) : OpensZ P (Kd.iso d f) (fun b => ok (f b)) t := by
  refine ⟨?_⟩
  intro H enc w base sp held fuel cs x hx hz
  obtain ⟨v, hK, hok⟩ := h.out enc w base sp held fuel cs x hx hz
  exact ⟨g v, by show d.K w (f (g v)) cs; rw [hfg]; exact hK, by show ok (f (g v)); rw [hfg]; exact hok⟩
theorem Zfr {H : Type} {P : Program} {t e : TypeId} (ht : P.underlying t = some (.slice e)) {el sp : List (DataW H)} : (DataW.slice el sp : DataW H).weights P t = (el.length + sp.length) * P.bytesOf e :: (DataW.weightsAll P e el ++ DataW.weightsAll P e sp) := by simp [DataW.weights, ht]
theorem weights_agg {H : Type} {P : Program} {t : TypeId} {fs : Array Field} (ht : P.underlying t = some (.struct fs)) {ps : List (DataW H)} : (DataW.agg ps : DataW H).weights P t = DataW.weightsEach P (fs.toList.map (·.type)) ps := by simp [DataW.weights, ht]
theorem Ze7 {H : Type} {P : Program} {e : TypeId} {d : DataW H} : ∀ {l : List (DataW H)}, d ∈ l → ∀ {n : Nat}, n ∈ d.weights P e → n ∈ DataW.weightsAll P e l
  | x :: l, hd, n, hn => by
    simp only [DataW.weightsAll, List.mem_append]
    rcases List.mem_cons.1 hd with rfl | hd
    · exact .inl hn
    exact .inr (Ze7 hd hn)
theorem choose_list {α : Type} {n : Nat} {R : Nat → α → Prop} (h : ∀ i, i < n → ∃ a, R i a) : ∃ l : List α, l.length = n ∧ ∀ i (hi : i < l.length), R i l[i] := by
  induction n with
  | zero => exact ⟨[], rfl, fun i hi => absurd hi (by simp)⟩
  | succ n ih =>
    obtain ⟨l, hl, hR⟩ := ih (fun i hi => h i (by omega))
    obtain ⟨a, ha⟩ := h n (by omega)
    refine ⟨l ++ [a], by simp [hl], fun i hi => ?_⟩
    rcases Nat.lt_or_ge i l.length with hlt | hge
    · rw [List.getElem_append_left hlt]
      exact hR i hlt
    have : i = l.length := by simp at hi; omega
    subst this
    rw [List.getElem_append_right (by omega)]
    simpa [hl] using ha
theorem addr_add (a : Addr) (i j : Nat) : (a.add i).add j = a.add (i + j) := by
  by_cases h : i = 0
  · subst h; simp [Addr.add]
  by_cases h2 : j = 0
  · subst h2; simp [Addr.add]
  simp [Addr.add, h, h2, Nat.add_assoc]
theorem OpensZ.row {α : Type} {P : Program} {d : Kd α} {ok : α → Prop} {t e : TypeId} {B : Nat} (ht : P.underlying t = some (.slice e)) (hc : P.cellsOf e = d.sz) (hB : P.bytesOf e = B) (h : OpensZ P d ok e) :
    OpensZ P (Kd.slice e d) (fun l => l.length * B ≤ 140737488351232 ∧ ∀ x ∈ l, ok x) t := by
  refine ⟨?_⟩
  intro H enc w base sp held fuel cs x hx hz
  rcases Go.Deep.open_slice ht hx with ⟨rfl, rfl⟩ | ⟨a, len, cap, m, n, D, Pl, rfl, hb, hl, hm, hmm, rfl, he⟩
  · exact ⟨[], ⟨none, 0, rfl, Nat.le_refl _, rfl, by simp, fun h => absurd h (by simp)⟩, by simp, fun x hx => by simp at hx⟩
  have hlm : len ≤ m := by rw [hmm]; split <;> omega
  have each : ∀ i, i < len → ∃ v : α, ok v ∧ ∃ c, c.length = d.sz ∧ d.K w v c ∧ ∀ j u, c[j]? = some u → w.cell? (a.add (i * d.sz + j)) = some u := fun i hi => by
    obtain ⟨cs', h1, h2⟩ := he i (by omega)
    obtain ⟨v, hK, hok⟩ := h.out enc w base sp held n cs' _ h2 (fun q hq => hz q (by
      rw [Zfr ht]
      refine List.mem_cons_of_mem _ (List.mem_append_left _ (Ze7 (d := D i) (List.mem_map.2 ⟨i, List.mem_range.2 hi, rfl⟩) hq))))
    obtain ⟨_, hlen, hcell⟩ := World.cells?_some h1
    rw [hc] at hlen hcell
    refine ⟨v, hok, cs', hlen, hK, fun j u hu => ?_⟩
    have hj : j < d.sz := by rw [← hlen]; exact (List.getElem?_eq_some_iff.1 hu).1
    have := hcell j hj
    rw [hu] at this
    rw [← this, addr_add]
  obtain ⟨l, hll, hR⟩ := choose_list each
  have hmax : cap ≤ 9223372036854775807 := by unfold maxLen at hm; exact hm
  refine ⟨l, ⟨some a, cap, by rw [hll], by omega, rfl, by omega, fun _ => ⟨a, rfl, fun j p hp => ?_⟩⟩, ?_, fun x hx => ?_⟩
  · obtain ⟨hj, rfl⟩ := List.getElem?_eq_some_iff.1 hp
    obtain ⟨_, c, h1, h2, h3⟩ := hR j hj
    exact ⟨c, h1, h2, h3⟩
  · have h3 := hz ((len + (m - len)) * P.bytesOf e) (by rw [Zfr ht]; simp)
    rw [hB] at h3
    rw [hll]
    exact Nat.le_trans (Nat.mul_le_mul_right _ (by omega)) h3
  obtain ⟨i, hi, rfl⟩ := List.mem_iff_getElem.1 hx
  exact (hR i hi).1
structure OpensZF {α : Type} (P : Program) (d : Kd α) (ok : α → Prop) (fs : List Field) (off : Nat) : Prop where
  out : ∀ {H : Type} (enc : TypeId × Value → H) (w : World) (base : Nat) (sp : Nat → Bool) (held : Bool) (fuel : Nat) (cs : List Value), cs.length = off + d.sz →
    (∀ f ∈ fs, ∃ x, DataW.trod enc P w base sp held fuel f.type ((cs.drop f.offset).take (P.cellsOf f.type)) = some x ∧ ∀ n ∈ x.1.weights P f.type, n ≤ reachBytes) → ∃ v : α, d.K w v (cs.drop off) ∧ ok v
theorem OpensZF.last {α : Type} {P : Program} {d : Kd α} {ok : α → Prop} {f : Field} {off : Nat} (ho : f.offset = off) (hc : P.cellsOf f.type = d.sz) (h : OpensZ P d ok f.type) : OpensZF P d ok [f] off := by
  refine ⟨?_⟩
  intro H enc w base sp held fuel cs hl hf
  obtain ⟨x, hx, hz⟩ := hf f (by simp)
  rw [ho, hc, List.take_of_length_le (by simp; omega)] at hx
  exact h.out enc w base sp held fuel _ x hx hz
theorem OpensZF.cons {α β : Type} {P : Program} {d : Kd α} {ok : α → Prop} {d' : Kd β} {ok' : β → Prop} {f : Field} {fs : List Field} {off : Nat} (ho : f.offset = off) (hc : P.cellsOf f.type = d.sz) (h : OpensZ P d ok f.type) (h' : OpensZF P d' ok' fs (off + d.sz)) :
    OpensZF P (Kd.pair d d') (fun z => ok z.1 ∧ ok' z.2) (f :: fs) off := by
  refine ⟨?_⟩
  intro H enc w base sp held fuel cs hl hf
  have hl' : cs.length = off + (d.sz + d'.sz) := hl
  obtain ⟨x, hx, hz⟩ := hf f (by simp)
  obtain ⟨v, hK, hok⟩ := h.out enc w base sp held fuel _ x hx hz
  obtain ⟨v', hK', hok'⟩ := h'.out enc w base sp held fuel cs (by omega) (fun g hg => hf g (List.mem_cons_of_mem _ hg))
  rw [ho, hc] at hK
  refine ⟨(v, v'), ⟨(cs.drop off).take d.sz, cs.drop (off + d.sz), ?_, hK, hK'⟩, hok, hok'⟩
  rw [← List.drop_drop, List.take_append_drop]
theorem OpensZ.struct {α : Type} {P : Program} {d : Kd α} {ok : α → Prop} {t : TypeId} {fs : List Field} (ht : P.underlying t = some (.struct fs.toArray)) (hc : P.cellsOf t = d.sz) (h : OpensZF P d ok fs 0) : OpensZ P d ok t := by
  refine ⟨?_⟩
  intro H enc w base sp held fuel cs x hx hz
  obtain ⟨xs, n, rfl, rfl, hl, hxl, hf⟩ := DataW.trod_struct ht hx
  have := h.out enc w base sp held n cs (by omega) (fun f hf' => by
    obtain ⟨i, hi, rfl⟩ := List.mem_iff_getElem.1 hf'
    have := hf i fs[i] (by simp [hi])
    have hix : i < xs.length := by simp at hxl; omega
    rw [List.getElem?_eq_getElem hix] at this
    refine ⟨xs[i], by simpa using this, fun q hq => hz q ?_⟩
    rw [weights_agg ht]
    exact DataW.weights_mem_each (j := i) (t := fs[i].type) (d := xs[i].1) (by simp [hi]) (by simp [hix]) q hq)
  simpa using this
theorem OpensZ.arg {α H : Type} {P : Program} {d : Kd α} {ok : List α → Prop} {e t : TypeId} (h : OpensZ P (Kd.slice e d) ok t) {enc : TypeId × Value → H} {w : World} {base : Nat} {sp : Nat → Bool} {held : Bool} {A : Option Addr} {len cap : Nat} {dt : DataW H} {ps : List MemPlace}
    (hT : DataW.Trod enc P w base sp held t (.slice A len cap) dt ps) (hz : ∀ n ∈ dt.weights P t, n ≤ reachBytes) : ∃ l : List α, l.length = len ∧ l.length ≤ cap ∧ d.C w A l.length l ∧ ok l := by
  obtain ⟨fuel, hf⟩ := hT
  obtain ⟨l, ⟨A', c, hcs, hl, hC⟩, hok⟩ := h.out enc w base sp held fuel _ _ hf hz
  simp [Value.cells] at hcs
  obtain ⟨rfl, rfl, rfl⟩ := hcs
  exact ⟨l, rfl, hl, hC, hok⟩
theorem each_weights {H : Type} {P : Program} {ts : List TypeId} {ds : List (DataW H)} (h : (DataW.weightsEach P ts ds).all (· ≤ reachBytes) = true) {j : Nat} {t : TypeId} {d : DataW H} (ht : ts[j]? = some t) (hd : ds[j]? = some d) : ∀ n ∈ d.weights P t, n ≤ reachBytes := fun n hn => by
  have := List.all_eq_true.1 h n (DataW.weights_mem_each ht hd n hn)
  simpa using this
end Go.Proofs.Ytpbcigilipdedaa.P
