/- Proved: what each function of the program that the statements of this seat reach comes to, for whatever memory and arguments it is called with (on condition that its plain text tells a result). -/
import Derived.Test.YtpbcigilipdedaaZ1
import Derived.Test.YtpbcigilipdedaaZ2
import Derived.Test.YtpbcigilipdedaaZ4
import Derived.Laws.BitsLemmas

namespace Go.Proofs.Ytpbcigilipdedaa.P
open Go.RowKit Go.Proofs.YtpbcigilipdedaaW.PrintWords Go.Proofs.YtpbcigilipdedaaW.PrintLast Go.Proofs.YtpbcigilipdedaaW.PrintMore
attribute [local go_sem] Zcx Zcz Zc6 Zc7 Zcp Zcq Zcy Zc0
set_option linter.unusedVariables false
set_option linter.unusedSimpArgs false
/-! ### Zaw: function 30 -/
def Zaw.l0 : Nat → List (List (S41)) → List Int → List Int → Int → Option (List Int × Bool)
 | 0, _, _, _, _ => none
 | k + 1, x0, x1, x6, x7 => if x7 < (x0.length : Int) then (if 0 ≤ x7 then ((Zak.f k (Zcr x0 x7)).bind fun t707 => (if (t707.length : Int) = 0 then (some ((([] : List Int)), false)) else (if x7 < (x1.length : Int) then (if 0 ≤ (Int.tmod (Go.bits .and .i64 (rd x1 x7) 65535) (t707.length : Int)) then (if (Int.tmod (Go.bits .and .i64 (rd x1 x7) 65535) (t707.length : Int)) < (t707.length : Int) then (if x6.length < 17592186044416 then (Zaw.l0 k x0 x1 (x6 ++ [rd t707 (Int.tmod (Go.bits .and .i64 (rd x1 x7) 65535) (t707.length : Int))]) (wrap64 (x7 + 1))) else (none)) else (none)) else (none)) else (if 0 ≤ (Int.tmod x7 (t707.length : Int)) then (if (Int.tmod x7 (t707.length : Int)) < (t707.length : Int) then (if x6.length < 17592186044416 then (Zaw.l0 k x0 x1 (x6 ++ [rd t707 (Int.tmod x7 (t707.length : Int))]) (wrap64 (x7 + 1))) else (none)) else (none)) else (none))))) else (none)) else (some (x6, true))
def Zaw.f (k : Nat) (l0 : List (List (S41))) (l1 : List Int) : Option (List Int × Bool) := Zaw.l0 k l0 l1 (([] : List Int)) 0
theorem Zaw.Zb2 : ∀ k, (∀ y0 y1 y2 y3, LeO (Zaw.l0 k y0 y1 y2 y3) (Zaw.l0 (k + 1) y0 y1 y2 y3))
 | 0 => fun _ _ _ _ r h => by simp [Zaw.l0] at h
 | k + 1 => by
  have ih0 := Zaw.Zb2 k
  intro y0 y1 y2 y3
  unfold Zaw.l0
  repeat' first
  | (with_reducible exact ih0 _ _ _ _)
  | (with_reducible exact Zak.mono _ _)
  | (with_reducible exact LeO.refl _)
  | (with_reducible exact LeO.none _)
  | (with_reducible refine LeO.ite ?_ ?_)
  | (with_reducible refine LeO.bind ?_ (fun _ => ?_))
  | exact ih0 _ _ _ _
  | exact Zak.mono _ _
  | exact LeO.none _
  | refine LeO.ite ?_ ?_
  | refine LeO.bind ?_ (fun _ => ?_)
theorem Zaw.mono : ∀ a0 a1 k, LeO (Zaw.f k a0 a1) (Zaw.f (k + 1) a0 a1) := by
 intro a0 a1 k
 have ih0 := Zaw.Zb2 k
 unfold Zaw.f
 repeat' first
   | (with_reducible exact ih0 _ _ _ _)
   | (with_reducible exact Zak.mono _ _)
   | (with_reducible exact LeO.refl _)
   | (with_reducible exact LeO.none _)
   | (with_reducible refine LeO.ite ?_ ?_)
   | (with_reducible refine LeO.bind ?_ (fun _ => ?_))
   | exact ih0 _ _ _ _
   | exact Zak.mono _ _
   | exact LeO.none _
   | refine LeO.ite ?_ ?_
   | refine LeO.bind ?_ (fun _ => ?_)
set_option maxHeartbeats 8000000 in
set_option maxRecDepth 100000 in
theorem Zaw.calls (k : Nat) (A0 : Option Addr) (c0 : Nat) (l0 : List (List (S41))) (A1 : Option Addr) (c1 : Nat) (l1 : List Int) (r1 : List Int) (r2 : Bool) (w : World) (hr0 : Kd.C (Kd.slice 41 k41) w A0 l0.length l0) (hc0 : l0.length ≤ c0) (hr1 : Kd.C (Kd.int .i64) w A1 l1.length l1) (hc1 : l1.length ≤ c1) (h : Zaw.f k l0 l1 = some (r1, r2)) :
  Calls Try.prog 30 #[.slice A0 l0.length c0, .slice A1 l1.length c1] w fun e w' => ∃ v0_ : Value, e = .returned (.tuple #[v0_, .bool r2]) ∧ Kd.R (Kd.int .i64) 3 w' w.heap.size (fun _ => True) v0_ r1 ∧ Below w.heap.size w w' := by
 have HR0 := Zaa.mk hr0
 have HC0 := Zaa.mk hc0
 clear hr0 hc0
 have HR1 := Zaa.mk hr1
 have HC1 := Zaa.mk hc1
 clear hr1 hc1
 have HB := Zaa.mk (Below.refl w.heap.size w)
 have H : (Zaw.l0 k l0 l1 (([] : List Int)) 0) = some (r1, r2) := h
 clear h
 obtain ⟨y703, hy703⟩ : ∃ y_ : List Int, y_ = (([] : List Int)) := ⟨_, rfl⟩
 replace H : (Zaw.l0 k l0 l1 y703 0) = some (r1, r2) := by first | (rw [hy703]; with_reducible exact H) | (have H2_ := (Option.bind_some _ _).symm.trans H; rw [hy703]; with_reducible exact H2_) | (have H2_ := (Option.bind_some _ _).symm.trans H; with_reducible exact H2_) | with_reducible exact H | (rw [hy703]; exact H) | exact H
 have Ny703 := Zaa.mk hy703
 clear hy703
 have H' := Zaa.mk H
 clear H
 go_enter Try.func30, Try.ntmps30
 go_wp2_with (first | ((with_reducible refine Zb3 (N := 10) rfl ?_); refine Kd.Zdx (Kd.int .i64) _ 3 ?hg (N := 10) ?hd (xs := ([] : List Int)) (inner := []) (ok := fun _ => True) (okp := fun _ => True) ?hr ?hp (fun _ hk => hk) trivial (Below.refl _ _) (Nat.le_refl _) (by simp) ?_; (case hd => rfl); (case hg => rfl); (case hr => first | (go_simp; done) | (go_simp; rfl)); (case hp => exact (Reps.none _ _)); intro v704 w3 ho4 hb hg_ hnew_; clear hg_ hnew_; (first | rw [← Ny703.out] at ho4 | (simp only [Int.reduceToNat] at ho4; rw [← Ny703.out] at ho4)); have n0_ := Zaa.mk (Kd.Zb8 ho4 (Zal (by repeat (first | (with_reducible first | exact HB.out | apply Zac | apply Za | apply Zab) | exact HB.out)))); have n1_ := Zaa.mk (Za2 (by repeat (first | (with_reducible first | exact HB.out | apply Zac | apply Za | apply Zab) | exact HB.out)) hb); clear HB; have HO705 := n0_; have HB := n1_; clear n0_ n1_; clear hb ho4))
 go_loopg [6, 7] k (fun kq v6 v7 w' => ∃ (x6_1 : List Int) (x7_1 : Int), v7 = .int .i64 x7_1 ∧ Zaa (Zaw.l0 kq l0 l1 x6_1 x7_1 = some (r1, r2)) ∧ Zaa (kq ≤ k) ∧ Zaa (Kd.R (Kd.int .i64) 3 w' w.heap.size (fun _ => True) v6 x6_1) ∧ Zaa (Below w.heap.size w w'))
 case atStart => exact ⟨(y703), (0), (by first | rfl | (simp; done) | (simp [*]; done)), H', ⟨Nat.le_refl _⟩, ⟨by (with_reducible repeat (first | apply Kd.Zan | apply Kd.Zao | apply Kd.Zav)); exact HO705.out⟩, ⟨by repeat (first | (with_reducible first | exact HB.out | apply Zac | apply Za | apply Zab) | exact HB.out)⟩⟩
 case round =>
  clear H'
  try clear c1
  try clear p2
  try clear c3
  obtain ⟨x6_1, x7_1, rfl, HA, HK1, HO_6, HB⟩ := hrel
  cases gk with
  | zero => exact absurd HA.out (by simp [Zaw.l0])
  | succ k1 =>
   have H := HA.out
   clear HA
   simp only [Zaw.l0] at H
   by_cases c5 : x7_1 < (l0.length : Int)
   rotate_left
   ·rw [if_neg c5] at H
    have c5b0 : decide (x7_1 < (l0.length : Int)) = false := decide_eq_false c5
    clear c5
    simp only [Option.some.injEq, Prod.mk.injEq] at H
    obtain ⟨rfl, rfl⟩ := H
    go_wp2
    go_ret2
    exact ⟨_, by first | rfl | (simp [Za3, Za4] <;> rfl) | (simp [*, Za3, Za4] <;> rfl), by (with_reducible repeat (first | apply Kd.Zan | apply Kd.Zao | apply Kd.Zav)); exact HO_6.out, by repeat (first | (with_reducible first | exact HB.out | apply Zac | apply Za | apply Zab) | exact HB.out)⟩

   rw [if_pos c5] at H
   have c5b0 : decide (x7_1 < (l0.length : Int)) = true := decide_eq_true c5
   clear c5
   by_cases c6 : 0 ≤ x7_1
   rotate_left
   ·rw [if_neg c6] at H
    exact absurd H (by simp)
   rw [if_pos c6] at H
   have c6b0 : decide (0 ≤ x7_1) = true := decide_eq_true c6
   clear c6
   replace H := Option.bind_eq_some_iff.mp H
   obtain ⟨t707, A70, H⟩ := H
   replace H : (if (t707.length : Int) = 0 then (some ((([] : List Int)), false)) else (if x7_1 < (l1.length : Int) then (if 0 ≤ (Int.tmod (Go.bits .and .i64 (rd l1 x7_1) 65535) (t707.length : Int)) then (if (Int.tmod (Go.bits .and .i64 (rd l1 x7_1) 65535) (t707.length : Int)) < (t707.length : Int) then (if x6_1.length < 17592186044416 then (Zaw.l0 k1 l0 l1 (x6_1 ++ [rd t707 (Int.tmod (Go.bits .and .i64 (rd l1 x7_1) 65535) (t707.length : Int))]) (wrap64 (x7_1 + 1))) else (none)) else (none)) else (none)) else (if 0 ≤ (Int.tmod x7_1 (t707.length : Int)) then (if (Int.tmod x7_1 (t707.length : Int)) < (t707.length : Int) then (if x6_1.length < 17592186044416 then (Zaw.l0 k1 l0 l1 (x6_1 ++ [rd t707 (Int.tmod x7_1 (t707.length : Int))]) (wrap64 (x7_1 + 1))) else (none)) else (none)) else (none)))) = some (r1, r2) := H
   have A7 := Zaa.mk A70
   clear A70
   by_cases c8 : (t707.length : Int) = 0
   ·rw [if_pos c8] at H
    have c8b0 : ((t707.length : Int) == 0) = true := beq_iff_eq.mpr c8
    have c8b1 : ((t707.length : Int) != 0) = false := bne_eq_false_iff_eq.mpr c8
    clear c8
    obtain ⟨y710, hy710⟩ : ∃ y_ : List Int, y_ = (([] : List Int)) := ⟨_, rfl⟩
    replace H : (some (y710, false)) = some (r1, r2) := by first | (rw [hy710]; with_reducible exact H) | (have H2_ := (Option.bind_some _ _).symm.trans H; rw [hy710]; with_reducible exact H2_) | (have H2_ := (Option.bind_some _ _).symm.trans H; with_reducible exact H2_) | with_reducible exact H | (rw [hy710]; exact H) | exact H
    have Ny710 := Zaa.mk hy710
    clear hy710
    simp only [Option.some.injEq, Prod.mk.injEq] at H
    obtain ⟨rfl, rfl⟩ := H
    have p706 : 0 ≤ (x7_1 : Int) := of_decide_eq_true (by first | (with_reducible assumption) | assumption)
    have q706 : x7_1 < (l0.length : Int) := of_decide_eq_true (by first | (with_reducible assumption) | assumption)
    obtain ⟨ad706, A706_0, c706_0, e706, hx706_0, hl706_0, hi706_0⟩ := Zfc HR0.out x7_1 p706 q706
    cases e706
    replace hx706_0 := (HB.out.cell (World.block_lt_of_cell? w _ hx706_0)).trans hx706_0
    have HR706_0 := Zaa.mk hi706_0
    have HC706_0 := Zaa.mk hl706_0
    clear hi706_0 hl706_0
    replace p706 := eq_true p706
    replace q706 := eq_true q706
    go_wp2_with (first | ((with_reducible refine Zbr (f := 29) rfl ?_); refine Zci (some 21) rfl rfl Try.func29 (by kernel_rfl) rfl #[.slice A706_0 (Zcr l0 x7_1).length c706_0] rfl (by (try simp only [List.map_toArray, List.map_cons, List.map_nil]); first | done | rfl | (simp only [List.length_drop, List.length_take]; rfl)) ?_; (with_reducible refine (Zak.calls k1 _ _ (Zcr l0 x7_1) t707 _ ?side1 ?side2 A7.out).mono ?_); (case side1 => repeat (first | exact (Kd.Zbk HR706_0.out HB.out) | (with_reducible refine Kd.C_alloc ?_ _) | (with_reducible refine Kd.Za1 ?_ _) | (with_reducible refine Kd.Zbd ?_))); (case side2 => exact HC706_0.out); rintro e w9 ⟨v708, rfl, ho0, hb⟩; refine ⟨_, rfl, ?_⟩; have n0_ := Zaa.mk (Kd.Zct (by (with_reducible repeat (first | apply Kd.Zan | apply Kd.Zao | apply Kd.Zav)); exact HO_6.out) (Kd.Zcw ho0) hb); have n1_ := Zaa.mk (Kd.Zb8 (Kd.Zdg ho0 (Kd.R_lt (by (with_reducible repeat (first | apply Kd.Zan | apply Kd.Zao | apply Kd.Zav)); exact HO_6.out))) (Zal (by repeat (first | (with_reducible first | exact HB.out | apply Zac | apply Za | apply Zab) | exact HB.out)))); have n2_ := Zaa.mk (Za2 (by repeat (first | (with_reducible first | exact HB.out | apply Zac | apply Za | apply Zab) | exact HB.out)) hb); clear HO_6; clear HB; have HO_6 := n0_; have HO709 := n1_; have HB := n2_; clear n0_ n1_ n2_; (try clear hb); (try clear hb2); (try clear hk); (try clear hi); (try clear ho0); obtain ⟨Ao10, co10, eo10⟩ := Kd.Zc HO709.out; subst eo10) | ((with_reducible refine Zb3 (N := 25) rfl ?_); refine Kd.Zdx (Kd.int .i64) _ 3 ?hg (N := 25) ?hd (xs := ([] : List Int)) (inner := []) (ok := fun _ => True) (okp := fun _ => True) ?hr ?hp (fun _ hk => hk) trivial (Below.refl _ _) (Nat.le_refl _) (by simp) ?_; (case hd => rfl); (case hg => rfl); (case hr => first | (go_simp; done) | (go_simp; rfl)); (case hp => exact (Reps.none _ _)); intro v711 w11 ho12 hb hg_ hnew_; clear hg_ hnew_; (first | rw [← Ny710.out] at ho12 | (simp only [Int.reduceToNat] at ho12; rw [← Ny710.out] at ho12)); have n0_ := Zaa.mk (Kd.Zct (by (with_reducible repeat (first | apply Kd.Zan | apply Kd.Zao | apply Kd.Zav)); exact HO_6.out) (Kd.Zcw ho12) hb); have n1_ := Zaa.mk (Kd.Zct (by (with_reducible repeat (first | apply Kd.Zan | apply Kd.Zao | apply Kd.Zav)); exact HO709.out) (Kd.Zcw ho12) hb); have n2_ := Zaa.mk (Kd.Zb8 (Kd.Zdg (Kd.Zdg ho12 (Kd.R_lt (by (with_reducible repeat (first | apply Kd.Zan | apply Kd.Zao | apply Kd.Zav)); exact HO_6.out))) (Kd.R_lt (by (with_reducible repeat (first | apply Kd.Zan | apply Kd.Zao | apply Kd.Zav)); exact HO709.out))) (Zal (by repeat (first | (with_reducible first | exact HB.out | apply Zac | apply Za | apply Zab) | exact HB.out)))); have n3_ := Zaa.mk (Za2 (by repeat (first | (with_reducible first | exact HB.out | apply Zac | apply Za | apply Zab) | exact HB.out)) hb); clear HO_6; clear HO709; clear HB; have HO_6 := n0_; have HO709 := n1_; have HO712 := n2_; have HB := n3_; clear n0_ n1_ n2_ n3_; clear hb ho12))
    go_ret2
    exact ⟨_, by first | rfl | (simp [Za3, Za4] <;> rfl) | (simp [*, Za3, Za4] <;> rfl), by (with_reducible repeat (first | apply Kd.Zan | apply Kd.Zao | apply Kd.Zav)); exact Kd.Zbu HO712.out (fun _ hk => trivial), by repeat (first | (with_reducible first | exact HB.out | apply Zac | apply Za | apply Zab) | exact HB.out)⟩
   rw [if_neg c8] at H
   have c8b0 : ((t707.length : Int) == 0) = false := beq_eq_false_iff_ne.mpr c8
   have c8b1 : ((t707.length : Int) != 0) = true := bne_iff_ne.mpr c8
   have c8b2 : ¬ (t707 = []) := fun h_ => c8 (by rw [h_]; rfl)
   by_cases c13 : x7_1 < (l1.length : Int)
   rotate_left
   ·rw [if_neg c13] at H
    have c13b0 : decide (x7_1 < (l1.length : Int)) = false := decide_eq_false c13
    clear c13
    obtain ⟨ji21, hji21⟩ : ∃ j_ : Int, (Int.tmod x7_1 (t707.length : Int)) = j_ := ⟨_, rfl⟩
    replace H : (if 0 ≤ (ji21) then (if (ji21) < (t707.length : Int) then (if x6_1.length < 17592186044416 then (Zaw.l0 k1 l0 l1 (x6_1 ++ [rd t707 (ji21)]) (wrap64 (x7_1 + 1))) else (none)) else (none)) else (none)) = some (r1, r2) := by first | (rw [hji21] at H; exact H) | (simp only [hji21] at H ⊢; exact H)
    (try rw [hji21] at A7)
    by_cases c22 : 0 ≤ (ji21)
    rotate_left
    ·rw [if_neg c22] at H
     exact absurd H (by simp)
    rw [if_pos c22] at H
    have c22b0 : decide (0 ≤ (ji21)) = true := decide_eq_true c22
    clear c22
    by_cases c23 : (ji21) < (t707.length : Int)
    rotate_left
    ·rw [if_neg c23] at H
     exact absurd H (by simp)
    rw [if_pos c23] at H
    have c23b0 : decide ((ji21) < (t707.length : Int)) = true := decide_eq_true c23
    clear c23
    by_cases c24 : x6_1.length < 17592186044416
    rotate_left
    ·rw [if_neg c24] at H
     exact absurd H (by simp)
    rw [if_pos c24] at H
    have LMc24 := Zaa.mk c24
    clear c24
    obtain ⟨y719, hy719⟩ : ∃ y_ : List Int, y_ = (x6_1 ++ [rd t707 (ji21)]) := ⟨_, rfl⟩
    replace H : (Zaw.l0 k1 l0 l1 y719 (wrap64 (x7_1 + 1))) = some (r1, r2) := by first | (rw [hy719]; with_reducible exact H) | (have H2_ := (Option.bind_some _ _).symm.trans H; rw [hy719]; with_reducible exact H2_) | (have H2_ := (Option.bind_some _ _).symm.trans H; with_reducible exact H2_) | with_reducible exact H | (rw [hy719]; exact H) | exact H
    have Ny719 := Zaa.mk hy719
    clear hy719
    have H' := Zaa.mk H
    clear H
    have p706 : 0 ≤ (x7_1 : Int) := of_decide_eq_true (by first | (with_reducible assumption) | assumption)
    have q706 : x7_1 < (l0.length : Int) := of_decide_eq_true (by first | (with_reducible assumption) | assumption)
    obtain ⟨ad706, A706_0, c706_0, e706, hx706_0, hl706_0, hi706_0⟩ := Zfc HR0.out x7_1 p706 q706
    cases e706
    replace hx706_0 := (HB.out.cell (World.block_lt_of_cell? w _ hx706_0)).trans hx706_0
    have HR706_0 := Zaa.mk hi706_0
    have HC706_0 := Zaa.mk hl706_0
    clear hi706_0 hl706_0
    replace p706 := eq_true p706
    replace q706 := eq_true q706
    go_wp2_with (first | ((with_reducible refine Zbr (f := 29) rfl ?_); refine Zci (some 21) rfl rfl Try.func29 (by kernel_rfl) rfl #[.slice A706_0 (Zcr l0 x7_1).length c706_0] rfl (by (try simp only [List.map_toArray, List.map_cons, List.map_nil]); first | done | rfl | (simp only [List.length_drop, List.length_take]; rfl)) ?_; (with_reducible refine (Zak.calls k1 _ _ (Zcr l0 x7_1) t707 _ ?side1 ?side2 A7.out).mono ?_); (case side1 => repeat (first | exact (Kd.Zbk HR706_0.out HB.out) | (with_reducible refine Kd.C_alloc ?_ _) | (with_reducible refine Kd.Za1 ?_ _) | (with_reducible refine Kd.Zbd ?_))); (case side2 => exact HC706_0.out); rintro e w25 ⟨v708, rfl, ho0, hb⟩; refine ⟨_, rfl, ?_⟩; have n0_ := Zaa.mk (Kd.Zct (by (with_reducible repeat (first | apply Kd.Zan | apply Kd.Zao | apply Kd.Zav)); exact HO_6.out) (Kd.Zcw ho0) hb); have n1_ := Zaa.mk (Kd.Zb8 (Kd.Zdg ho0 (Kd.R_lt (by (with_reducible repeat (first | apply Kd.Zan | apply Kd.Zao | apply Kd.Zav)); exact HO_6.out))) (Zal (by repeat (first | (with_reducible first | exact HB.out | apply Zac | apply Za | apply Zab) | exact HB.out)))); have n2_ := Zaa.mk (Za2 (by repeat (first | (with_reducible first | exact HB.out | apply Zac | apply Za | apply Zab) | exact HB.out)) hb); clear HO_6; clear HB; have HO_6 := n0_; have HO709 := n1_; have HB := n2_; clear n0_ n1_ n2_; (try clear hb); (try clear hb2); (try clear hk); (try clear hi); (try clear ho0); obtain ⟨Ao26, co26, eo26⟩ := Kd.Zc HO709.out; subst eo26; have p718 : 0 ≤ ((ji21) : Int) := of_decide_eq_true (by first | (with_reducible assumption) | assumption); have q718 : (ji21) < (t707.length : Int) := of_decide_eq_true (by first | (with_reducible assumption) | assumption); obtain ⟨ad718, e718, hx718_0⟩ := Kd.Zb4 (Kd.Zbp HO709.out).2.2 (ji21) p718 q718; cases e718; replace p718 := eq_true p718; replace q718 := eq_true q718) | ((with_reducible refine Zbs (b := .append) (xs := #[.tmp 36, .tmp 44]) rfl ?_); at_builtin; refine Kd.Zcm (Kd.int .i64) (w0 := w) w.heap.size rfl (.tmp 36) (.tmp 44) 23 3 (.int .i64 0) 8 rfl Try.underlying23 info3 rfl (by decide) (by omega) u6 x6_1 (rd t707 (ji21)) [.int .i64 (rd t707 (ji21))] (fun k_ => some k_ ≠ (.slice (some ad718) t707.length co26 : Value).ownBlock) (fun _ => False) rfl rfl ?aP (fun _ hk => hk.elim) ?aF ?aO ?aB ?aS ?aL ?_; (case aP => exact rfl); (case aB => exact (by repeat (first | (with_reducible first | exact HB.out | apply Zac | apply Za | apply Zab) | exact HB.out))); (case aF => exact (fun k_ hk => Kd.fresh' (Kd.R_lt (by (with_reducible repeat (first | apply Kd.Zan | apply Kd.Zao | apply Kd.Zav)); exact HO709.out)) k_ hk)); (case aO => exact (by (with_reducible repeat (first | apply Kd.Zan | apply Kd.Zao | apply Kd.Zav)); exact Kd.Zbu HO_6.out (fun _ hk => hk.2))); (case aS => exact (Zal (by repeat (first | (with_reducible first | exact HB.out | apply Zac | apply Za | apply Zab) | exact HB.out)))); (case aL => have := LMc24.out; omega); intro v720 w27 ho hb hg hat; rw [← Ny719.out] at ho; have n0_ := Zaa.mk (Kd.Zc1 (ok := (fun _ => True)) (by (with_reducible repeat (first | apply Kd.Zan | apply Kd.Zao | apply Kd.Zav)); exact HO709.out) hg hat); have n1_ := Zaa.mk (hb); have n2_ := Zaa.mk (ho); clear HO709; clear HB; clear HO_6; have HO709 := n0_; have HB := n1_; have HO721 := n2_; clear n0_ n1_ n2_; clear ho hb hg hat))
    go_roundg k1
    case measure => have := HK1.out; omega
    case rel => exact ⟨(y719), (wrap64 (x7_1 + 1)), (by first | rfl | (simp; done) | (simp [*]; done)), H', ⟨by have := HK1.out; omega⟩, ⟨by (with_reducible repeat (first | apply Kd.Zan | apply Kd.Zao | apply Kd.Zav)); exact Kd.Zbu HO721.out (fun _ hk => trivial)⟩, ⟨by repeat (first | (with_reducible first | exact HB.out | apply Zac | apply Za | apply Zab) | exact HB.out)⟩⟩
   rw [if_pos c13] at H
   have c13b0 : decide (x7_1 < (l1.length : Int)) = true := decide_eq_true c13
   clear c13
   obtain ⟨ji14, hji14⟩ : ∃ j_ : Int, (Int.tmod (Go.bits .and .i64 (rd l1 x7_1) 65535) (t707.length : Int)) = j_ := ⟨_, rfl⟩
   replace H : (if 0 ≤ (ji14) then (if (ji14) < (t707.length : Int) then (if x6_1.length < 17592186044416 then (Zaw.l0 k1 l0 l1 (x6_1 ++ [rd t707 (ji14)]) (wrap64 (x7_1 + 1))) else (none)) else (none)) else (none)) = some (r1, r2) := by first | (rw [hji14] at H; exact H) | (simp only [hji14] at H ⊢; exact H)
   (try rw [hji14] at A7)
   by_cases c15 : 0 ≤ (ji14)
   rotate_left
   ·rw [if_neg c15] at H
    exact absurd H (by simp)
   rw [if_pos c15] at H
   have c15b0 : decide (0 ≤ (ji14)) = true := decide_eq_true c15
   clear c15
   by_cases c16 : (ji14) < (t707.length : Int)
   rotate_left
   ·rw [if_neg c16] at H
    exact absurd H (by simp)
   rw [if_pos c16] at H
   have c16b0 : decide ((ji14) < (t707.length : Int)) = true := decide_eq_true c16
   clear c16
   by_cases c17 : x6_1.length < 17592186044416
   rotate_left
   ·rw [if_neg c17] at H
    exact absurd H (by simp)
   rw [if_pos c17] at H
   have LMc17 := Zaa.mk c17
   clear c17
   obtain ⟨y715, hy715⟩ : ∃ y_ : List Int, y_ = (x6_1 ++ [rd t707 (ji14)]) := ⟨_, rfl⟩
   replace H : (Zaw.l0 k1 l0 l1 y715 (wrap64 (x7_1 + 1))) = some (r1, r2) := by first | (rw [hy715]; with_reducible exact H) | (have H2_ := (Option.bind_some _ _).symm.trans H; rw [hy715]; with_reducible exact H2_) | (have H2_ := (Option.bind_some _ _).symm.trans H; with_reducible exact H2_) | with_reducible exact H | (rw [hy715]; exact H) | exact H
   have Ny715 := Zaa.mk hy715
   clear hy715
   have H' := Zaa.mk H
   clear H
   have p706 : 0 ≤ (x7_1 : Int) := of_decide_eq_true (by first | (with_reducible assumption) | assumption)
   have q706 : x7_1 < (l0.length : Int) := of_decide_eq_true (by first | (with_reducible assumption) | assumption)
   obtain ⟨ad706, A706_0, c706_0, e706, hx706_0, hl706_0, hi706_0⟩ := Zfc HR0.out x7_1 p706 q706
   cases e706
   replace hx706_0 := (HB.out.cell (World.block_lt_of_cell? w _ hx706_0)).trans hx706_0
   have HR706_0 := Zaa.mk hi706_0
   have HC706_0 := Zaa.mk hl706_0
   clear hi706_0 hl706_0
   replace p706 := eq_true p706
   replace q706 := eq_true q706
   go_wp2_with (first | ((with_reducible refine Zbr (f := 29) rfl ?_); refine Zci (some 21) rfl rfl Try.func29 (by kernel_rfl) rfl #[.slice A706_0 (Zcr l0 x7_1).length c706_0] rfl (by (try simp only [List.map_toArray, List.map_cons, List.map_nil]); first | done | rfl | (simp only [List.length_drop, List.length_take]; rfl)) ?_; (with_reducible refine (Zak.calls k1 _ _ (Zcr l0 x7_1) t707 _ ?side1 ?side2 A7.out).mono ?_); (case side1 => repeat (first | exact (Kd.Zbk HR706_0.out HB.out) | (with_reducible refine Kd.C_alloc ?_ _) | (with_reducible refine Kd.Za1 ?_ _) | (with_reducible refine Kd.Zbd ?_))); (case side2 => exact HC706_0.out); rintro e w18 ⟨v708, rfl, ho0, hb⟩; refine ⟨_, rfl, ?_⟩; have n0_ := Zaa.mk (Kd.Zct (by (with_reducible repeat (first | apply Kd.Zan | apply Kd.Zao | apply Kd.Zav)); exact HO_6.out) (Kd.Zcw ho0) hb); have n1_ := Zaa.mk (Kd.Zb8 (Kd.Zdg ho0 (Kd.R_lt (by (with_reducible repeat (first | apply Kd.Zan | apply Kd.Zao | apply Kd.Zav)); exact HO_6.out))) (Zal (by repeat (first | (with_reducible first | exact HB.out | apply Zac | apply Za | apply Zab) | exact HB.out)))); have n2_ := Zaa.mk (Za2 (by repeat (first | (with_reducible first | exact HB.out | apply Zac | apply Za | apply Zab) | exact HB.out)) hb); clear HO_6; clear HB; have HO_6 := n0_; have HO709 := n1_; have HB := n2_; clear n0_ n1_ n2_; (try clear hb); (try clear hb2); (try clear hk); (try clear hi); (try clear ho0); obtain ⟨Ao19, co19, eo19⟩ := Kd.Zc HO709.out; subst eo19; have p713 : 0 ≤ (x7_1 : Int) := of_decide_eq_true (by first | (with_reducible assumption) | assumption); have q713 : x7_1 < (l1.length : Int) := of_decide_eq_true (by first | (with_reducible assumption) | assumption); obtain ⟨ad713, e713, hx713_0⟩ := Kd.Zb4 HR1.out x7_1 p713 q713; cases e713; replace hx713_0 := (HB.out.cell (World.block_lt_of_cell? w _ hx713_0)).trans hx713_0; replace p713 := eq_true p713; replace q713 := eq_true q713; have p714 : 0 ≤ ((ji14) : Int) := of_decide_eq_true (by first | (with_reducible assumption) | assumption); have q714 : (ji14) < (t707.length : Int) := of_decide_eq_true (by first | (with_reducible assumption) | assumption); obtain ⟨ad714, e714, hx714_0⟩ := Kd.Zb4 (Kd.Zbp HO709.out).2.2 (ji14) p714 q714; cases e714; replace p714 := eq_true p714; replace q714 := eq_true q714) | ((with_reducible refine Zbs (b := .append) (xs := #[.tmp 36, .tmp 44]) rfl ?_); at_builtin; refine Kd.Zcm (Kd.int .i64) (w0 := w) w.heap.size rfl (.tmp 36) (.tmp 44) 23 3 (.int .i64 0) 8 rfl Try.underlying23 info3 rfl (by decide) (by omega) u6 x6_1 (rd t707 (ji14)) [.int .i64 (rd t707 (ji14))] (fun k_ => some k_ ≠ (.slice (some ad714) t707.length co19 : Value).ownBlock) (fun _ => False) rfl rfl ?aP (fun _ hk => hk.elim) ?aF ?aO ?aB ?aS ?aL ?_; (case aP => exact rfl); (case aB => exact (by repeat (first | (with_reducible first | exact HB.out | apply Zac | apply Za | apply Zab) | exact HB.out))); (case aF => exact (fun k_ hk => Kd.fresh' (Kd.R_lt (by (with_reducible repeat (first | apply Kd.Zan | apply Kd.Zao | apply Kd.Zav)); exact HO709.out)) k_ hk)); (case aO => exact (by (with_reducible repeat (first | apply Kd.Zan | apply Kd.Zao | apply Kd.Zav)); exact Kd.Zbu HO_6.out (fun _ hk => hk.2))); (case aS => exact (Zal (by repeat (first | (with_reducible first | exact HB.out | apply Zac | apply Za | apply Zab) | exact HB.out)))); (case aL => have := LMc17.out; omega); intro v716 w20 ho hb hg hat; rw [← Ny715.out] at ho; have n0_ := Zaa.mk (Kd.Zc1 (ok := (fun _ => True)) (by (with_reducible repeat (first | apply Kd.Zan | apply Kd.Zao | apply Kd.Zav)); exact HO709.out) hg hat); have n1_ := Zaa.mk (hb); have n2_ := Zaa.mk (ho); clear HO709; clear HB; clear HO_6; have HO709 := n0_; have HB := n1_; have HO717 := n2_; clear n0_ n1_ n2_; clear ho hb hg hat))
   go_roundg k1
   case measure => have := HK1.out; omega
   case rel => exact ⟨(y715), (wrap64 (x7_1 + 1)), (by first | rfl | (simp; done) | (simp [*]; done)), H', ⟨by have := HK1.out; omega⟩, ⟨by (with_reducible repeat (first | apply Kd.Zan | apply Kd.Zao | apply Kd.Zav)); exact Kd.Zbu HO717.out (fun _ hk => trivial)⟩, ⟨by repeat (first | (with_reducible first | exact HB.out | apply Zac | apply Za | apply Zab) | exact HB.out)⟩⟩
end Go.Proofs.Ytpbcigilipdedaa.P
/- Plain: rows that may be; whether a table holds; values picked of domains. -/
namespace Go.Proofs.Ytpbcigilipdedaa.P
open Go.RowKit Go.Proofs.YtpbcigilipdedaaW.PrintWords Go.Proofs.YtpbcigilipdedaaW.PrintLast Go.Proofs.YtpbcigilipdedaaW.PrintMore
set_option linter.unusedVariables false
set_option linter.unusedSimpArgs false

/-! ### Values of variables -/
def at0 (a : List Int) (v : Int) : Int := if v < 0 then 0 else rd a v
theorem at_f (a : List Int) (v : Int) : Zcc.f a v = some (at0 a v) := by
  unfold Zcc.f at0
  by_cases h : v < 0
  · rw [if_pos h, if_pos h]
  rw [if_neg h, if_neg h]
  by_cases h2 : v ≥ (a.length : Int)
  rotate_left
  · rw [if_neg h2, if_pos (by omega), if_pos (by omega)]
  rw [if_pos h2]
  have : rd a v = 0 := by
    unfold rd
    rw [List.getD_eq_getElem?_getD, List.getElem?_eq_none (by omega)]
    rfl
  rw [this]
theorem picked_l0 (vars a : List Int) (hv : vars.length < 17592186044416) : ∀ (m n : Nat), n + m = vars.length → Ev (fun k => Za0.l0 k vars a ((vars.take n).map (at0 a)) (n : Int)) (vars.map (at0 a)) := by
  intro m
  induction m with
  | zero =>
    intro n h
    rw [List.take_of_length_le (by omega)]
    exact Ev.step (fun k => by rw [Za0.l0, if_neg (by omega)]) (Ev.pure _)
  | succ m ih =>
    intro n h
    have hn : n < vars.length := by omega
    have hstep := ih (n + 1) (by omega)
    rw [List.take_succ_eq_append_getElem hn, List.map_append] at hstep
    refine Ev.step (fun k => by rw [Za0.l0, if_pos (by omega), if_pos (by omega), Zck vars n hn, at_f, Option.bind_some, if_pos (by rw [List.length_map, List.length_take]; omega), w1 (by omega)]; rfl) hstep
theorem picked_ev (vars a : List Int) (hv : vars.length < 17592186044416) : Ev (fun k => Za0.f k vars a) (vars.map (at0 a)) := picked_l0 vars a hv vars.length 0 (by omega)
theorem sum_nil (vars a : List Int) : Ev (fun k => Zb.f k vars [] a) 0 := by
  unfold Zb.f
  by_cases h : (0 : Int) < (vars.length : Int)
  rotate_left
  · exact Ev.step (fun k => by rw [Zb.l0, if_neg h]) (Ev.pure _)
  exact Ev.step (fun k => by rw [Zb.l0, if_pos h, if_neg (show ¬ ((0 : Int) < (([] : List Int).length : Int)) from Int.lt_irrefl 0)]) (Ev.pure _)
theorem held_some (op s rhs : Int) : ∃ b, Zb9.f op s rhs = some b := by
  unfold Zb9.f
  split
  · exact ⟨_, rfl⟩
  exact ⟨_, rfl⟩
theorem holdsT_l0 (l : List Int) (kd : Int) (vars coefs : List Int) (op rhs : Int) (rows : List (List Int)) (b : Int) (hr : rows.length < 4611686018427387904) (hin : ∀ x ∈ rows, x.length < 4611686018427387904) : ∀ (m n : Nat), n + m = rows.length →
    Ev (fun k => Zay.l0 k l (n : Int) kd vars coefs op rhs rows b) (decide (l ∈ rows.drop n)) := by
  intro m
  induction m with
  | zero =>
    intro n h
    rw [List.drop_of_length_le (by omega)]
    exact Ev.step (G := fun _ => some false) (fun k => by rw [Zay.l0, if_neg (by omega)]) (Ev.const (by simp))
  | succ m ih =>
    intro n h
    have hn : n < rows.length := by omega
    rw [List.drop_eq_getElem_cons hn]
    refine Ev.step (fun k => by rw [Zay.l0, if_pos (by omega), if_pos (by omega), Zdm rows n hn, w1 (by omega)]) (Ev.bind (ref_Nums rows[n] l (hin _ (List.getElem_mem hn))) ?_)
    by_cases e : rows[n] = l
    · have e2 : decide (l ∈ rows[n] :: rows.drop (n + 1)) = true := by simp [e]
      rw [e2]
      simp only [e, decide_true, if_true]
      exact Ev.pure _
    have e2 : decide (l ∈ rows[n] :: rows.drop (n + 1)) = decide (l ∈ rows.drop (n + 1)) := decide_eq_decide.2 (by rw [List.mem_cons]; exact ⟨fun h => h.elim (fun h => absurd h.symm e) id, .inr⟩)
    rw [e2]
    simp only [e, decide_false, Bool.false_eq_true, if_false]
    exact ih (n + 1) (by omega)
theorem holdsT_ev (vars : List Int) (op rhs : Int) (rows : List (List Int)) (b : Int) (a : List Int) (hv : vars.length < 17592186044416) (hr : rows.length < 4611686018427387904) (hin : ∀ x ∈ rows, x.length < 4611686018427387904) :
    Ev (fun k => Zay.f k 2 vars [] op rhs rows b a) (decide (vars.map (at0 a) ∈ rows)) := by
  obtain ⟨hb, hh⟩ := held_some op 0 rhs
  unfold Zay.f
  refine Ev.bind (picked_ev vars a hv) (Ev.bind (sum_nil vars a) ?_)
  refine Ev.eq (fun k => by rw [hh, Option.bind_some]) ?_
  refine Ev.Zda (by omega) (Ev.Zda (by omega) (Ev.Zcs rfl ?_))
  exact holdsT_l0 _ 2 vars [] op rhs rows b hr hin rows.length 0 (by omega)

/-! ### Rows that may be -/
def dv (d : List (List Rg)) (v : Int) : List Rg := d.getD v.toNat []
def rowIn (d : List (List Rg)) (vars r : List Int) : Bool := (vars.zip r).all fun p => decide (Va (dv d p.1) p.2)
theorem rows_ev' (d : List (List Rg)) (kd : Int) (vars coefs : List Int) (op rhs : Int) (rows : List (List Int)) (b : Int) (hm : ∀ v ∈ vars, 0 ≤ v ∧ v < (d.length : Int)) (hv : vars.length < 4611686018427387904) (hr : rows.length < 1000000000) (hin : ∀ x ∈ rows, x.length = vars.length ∧ x.length < 17592186044416) : ∀ (m n : Nat) (out : List (List Int)), n + m = rows.length → out.length ≤ n →
    Ev (fun k => Za6.l0 k d out rows (rows.length : Int) (n : Int) kd vars coefs op rhs rows b) (out ++ (rows.drop n).filter (rowIn d vars)) := by
  intro m
  induction m with
  | zero =>
    intro n out h ho
    rw [List.drop_of_length_le (by omega)]
    exact Ev.step (fun k => by rw [Za6.l0, if_neg (by omega)]) (by simpa using Ev.pure _)
  | succ m ih =>
    intro n out h ho
    have hn : n < rows.length := by omega
    obtain ⟨hx1, hx2⟩ := hin _ (List.getElem_mem hn)
    rw [List.drop_eq_getElem_cons hn]
    have inner : ∀ (r q : Nat), q + r = vars.length → Ev (fun k => Za6.l1 k d out rows[n] rows (rows.length : Int) (n : Int) vars (vars.length : Int) (q : Int) kd vars coefs op rhs rows b)
        (if (((vars.drop q).zip (rows[n].drop q)).all fun p => decide (Va (dv d p.1) p.2)) = true then out ++ rows[n] :: (rows.drop (n + 1)).filter (rowIn d vars) else out ++ (rows.drop (n + 1)).filter (rowIn d vars)) := by
      intro r
      induction r with
      | zero =>
        intro q hq
        rw [List.drop_of_length_le (show vars.length ≤ q by omega), if_pos (by simp)]
        refine Ev.step (fun k => by rw [Za6.l1, if_neg (by omega), cloneI.f, if_pos hx2, Option.bind_some, if_pos (by omega), w1 (by omega)]) ?_
        have := ih (n + 1) (out ++ [rows[n]]) (by omega) (by simp; omega)
        simpa using this
      | succ r ihr =>
        intro q hq
        have hqv : q < vars.length := by omega
        have hqr : q < rows[n].length := by omega
        obtain ⟨m1, m2⟩ := hm _ (List.getElem_mem hqv)
        have hH : Zea.f (Zcr d vars[q]) rows[n][q] = some (decide (Va (dv d vars[q]) rows[n][q])) := Has_ev _ _
        refine Ev.step (fun k => by rw [Za6.l1, if_pos (by omega), if_pos (by omega), if_pos (by omega), Zck vars q hqv, if_pos m1, if_pos m2, if_pos (by omega), Zck _ q hqr, hH, Option.bind_some, w1 (by omega), w1 (by omega)]) ?_
        rw [List.drop_eq_getElem_cons hqv, List.drop_eq_getElem_cons hqr, List.zip_cons_cons, List.all_cons]
        cases hva : decide (Va (dv d vars[q]) rows[n][q]) with
        | true =>
          simp only [Bool.true_and, if_true]
          exact ihr (q + 1) (by omega)
        | false =>
          simp only [Bool.false_and, Bool.false_eq_true, if_false]
          exact ih (n + 1) out (by omega) (by omega)
    refine Ev.step (fun k => by rw [Za6.l0, if_pos (by omega), if_pos (by omega), if_pos (by omega), Zdm rows n hn]) ?_
    have := inner vars.length 0 (by omega)
    rw [List.filter_cons]
    unfold rowIn at this ⊢
    simp only [List.drop_zero] at this
    split at this
    · rename_i hp; rw [if_pos hp]; exact this
    rename_i hp; rw [if_neg hp]; exact this
theorem Rows_ev (d : List (List Rg)) (kd : Int) (vars coefs : List Int) (op rhs : Int) (rows : List (List Int)) (b : Int) (hm : ∀ v ∈ vars, 0 ≤ v ∧ v < (d.length : Int)) (hv : vars.length < 4611686018427387904) (hr : rows.length < 1000000000) (hin : ∀ x ∈ rows, x.length = vars.length ∧ x.length < 17592186044416) :
    Ev (fun k => Za6.f k d kd vars coefs op rhs rows b) (rows.filter (rowIn d vars)) := by
  have := rows_ev' d kd vars coefs op rhs rows b hm hv hr hin rows.length 0 [] (by omega) (by simp)
  rw [List.nil_append, List.drop_zero] at this
  exact this

/-! ### Pick -/
theorem and16 (x : Int) : 0 ≤ Go.bits .and .i64 x 65535 ∧ Go.bits .and .i64 x 65535 ≤ 65535 := by
  have h : ((BitVec.ofInt IntKind.i64.bits x &&& BitVec.ofInt IntKind.i64.bits 65535).toNat : Int) ≤ 65535 := by
    rw [BitVec.toNat_and]
    have h1 := Nat.and_le_right (n := (BitVec.ofInt IntKind.i64.bits x).toNat) (m := (BitVec.ofInt IntKind.i64.bits 65535).toNat)
    have h2 : (BitVec.ofInt IntKind.i64.bits 65535).toNat = 65535 := by decide
    omega
  have e : Go.bits .and .i64 x 65535 = IntKind.i64.wrap ((BitVec.ofInt IntKind.i64.bits x &&& BitVec.ofInt IntKind.i64.bits 65535).toNat : Int) := rfl
  rw [e, Zbg, w64 (by omega) (by omega)]
  omega
theorem tmod_in {n : Int} {m : Nat} (hn : 0 ≤ n) (hm : 0 < m) : 0 ≤ Int.tmod n (m : Int) ∧ Int.tmod n (m : Int) < (m : Int) := by
  rw [Int.tmod_eq_emod_of_nonneg hn]
  exact ⟨Int.emod_nonneg _ (by omega), Int.emod_lt_of_pos _ (by omega)⟩
/-- Domains as a case has them. -/
def Doms (d : List (List Rg)) : Prop := d.length ≤ 64 ∧ ∀ x ∈ d, Gd 1048576 (-1048576) x ∧ (vals x).length ≤ 4096
theorem domsC_doms (D : List (List Int)) : Doms (domsC D) := by
  refine ⟨Nat.le_trans (Zds D) (by omega), fun x hx => ?_⟩
  obtain ⟨y, _, rfl⟩ := List.mem_map.1 hx
  exact ⟨dsm_gd _, Nat.le_trans (dsm_vlen _) (by omega)⟩
/-- A value of each. -/
def Picked (d : List (List Rg)) (a : List Int) : Prop := a.length = d.length ∧ ∀ i (h : i < a.length) (h' : i < d.length), Va d[i] a[i]
theorem pick_l0 (d : List (List Rg)) (a : List Int) (hd : Doms d) : ∀ (m n : Nat) (out : List Int), n + m = d.length → Picked (d.take n) out →
    ∃ r : List Int × Bool, Ev (fun k => Zaw.l0 k d a out (n : Int)) r ∧ (r.2 = true → Picked d r.1) ∧ (r.2 = false → r.1 = [] ∧ ∃ x ∈ d, vals x = []) := by
  intro m
  induction m with
  | zero =>
    intro n out h hp
    rw [List.take_of_length_le (by omega)] at hp
    exact ⟨(out, true), Ev.step (fun k => by rw [Zaw.l0, if_neg (by omega)]) (Ev.pure _), fun _ => hp, fun h => by cases h⟩
  | succ m ih =>
    intro n out h hp
    have hn : n < d.length := by omega
    have h64 := hd.1
    obtain ⟨g, hvl⟩ := hd.2 _ (List.getElem_mem hn)
    have hV := Zga d[n] g (Int.le_refl _)
    have hol : out.length = n := by have := hp.1; rw [List.length_take] at this; omega
    by_cases h0 : vals d[n] = []
    · refine ⟨([], false), Ev.step (fun k => by rw [Zaw.l0, if_pos (by omega), if_pos (by omega), rdR_nat d n hn]) (Ev.bind hV ?_), (fun h => by cases h), fun _ => ⟨rfl, _, List.getElem_mem hn, h0⟩⟩
      refine Ev.Zcs (by rw [h0]; rfl) ?_
      exact Ev.pure _
    have hpos : 0 < (vals d[n]).length := List.length_pos_iff.2 h0
    have next : ∀ q : Int, 0 ≤ q → q < ((vals d[n]).length : Int) → ∃ r : List Int × Bool, Ev (fun k => Zaw.l0 k d a (out ++ [rd (vals d[n]) q]) ((n + 1 : Nat) : Int)) r ∧ (r.2 = true → Picked d r.1) ∧ (r.2 = false → r.1 = [] ∧ ∃ x ∈ d, vals x = []) := fun q hq0 hq1 => by
      obtain ⟨j, rfl⟩ := Int.eq_ofNat_of_zero_le hq0
      have hj : j < (vals d[n]).length := by omega
      rw [Zck _ j hj]
      refine ih (n + 1) _ (by omega) ⟨by simp; omega, fun i h1 h2 => ?_⟩
      by_cases hi : i < n
      · have := hp.2 i (by omega) (by rw [List.length_take]; omega)
        rw [List.getElem_append_left (by omega)]
        simpa using this
      have hin : i = n := by simp at h1; omega
      subst hin
      rw [List.getElem_append_right (by omega)]
      simp only [hol, Nat.sub_self, List.getElem_cons_zero, List.getElem_take]
      exact (Zdt _ _).1 (List.getElem_mem hj)
    by_cases hna : n < a.length
    rotate_left
    · obtain ⟨t0, t1⟩ := tmod_in (n := (n : Int)) (m := (vals d[n]).length) (by omega) hpos
      obtain ⟨r, hr, h1⟩ := next _ t0 t1
      refine ⟨r, Ev.step (fun k => by rw [Zaw.l0, if_pos (by omega), if_pos (by omega), rdR_nat d n hn]) (Ev.bind hV ?_), h1⟩
      refine Ev.Zda (by omega) ?_
      refine Ev.Zda (by omega) ?_
      refine Ev.Zcs t0 ?_
      refine Ev.Zcs t1 ?_
      refine Ev.Zcs (by omega) ?_
      simp only [w1 (show n < 4611686018427387904 by omega)]
      exact hr
    obtain ⟨b0, b1⟩ := and16 (rd a (n : Int))
    obtain ⟨t0, t1⟩ := tmod_in (m := (vals d[n]).length) b0 hpos
    obtain ⟨r, hr, h1⟩ := next _ t0 t1
    refine ⟨r, Ev.step (fun k => by rw [Zaw.l0, if_pos (by omega), if_pos (by omega), rdR_nat d n hn]) (Ev.bind hV ?_), h1⟩
    refine Ev.Zda (by omega) ?_
    refine Ev.Zcs (by omega) ?_
    refine Ev.Zcs t0 ?_
    refine Ev.Zcs t1 ?_
    refine Ev.Zcs (by omega) ?_
    simp only [w1 (show n < 4611686018427387904 by omega)]
    exact hr
theorem pick_ev (d : List (List Rg)) (a : List Int) (hd : Doms d) : ∃ r : List Int × Bool, Ev (fun k => Zaw.f k d a) r ∧ (r.2 = true → Picked d r.1) ∧ (r.2 = false → r.1 = [] ∧ ∃ x ∈ d, vals x = []) :=
  pick_l0 d a hd d.length 0 [] (by omega) ⟨by simp, fun i h => absurd h (by simp)⟩
end Go.Proofs.Ytpbcigilipdedaa.P
