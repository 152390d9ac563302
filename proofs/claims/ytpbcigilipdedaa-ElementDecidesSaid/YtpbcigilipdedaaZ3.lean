/- Proved: what each function of the program that the statements of this seat reach comes to, for whatever memory and arguments it is called with (on condition that its plain text tells a result). -/
import Derived.Test.YtpbcigilipdedaaZ1
import Derived.Test.YtpbcigilipdedaaZ2
import Derived.Lib.SliceRun
import Derived.Shelf.SlSortCmp.WholeK
import Derived.Shelf.SlSortCmp.NoneTotal
import Derived.Sort.OwnSortedInts
namespace Go.Proofs.Ytpbcigilipdedaa.P
open Go.RowKit Go.Proofs.YtpbcigilipdedaaW.PrintWords Go.Proofs.YtpbcigilipdedaaW.PrintLast Go.Proofs.YtpbcigilipdedaaW.PrintMore
attribute [local go_sem] Zcz Zc1 Zde Zdf Zct Zcu Zc0 Zc2
set_option linter.unusedVariables false
set_option linter.unusedSimpArgs false
mutual
def Zat.j0 : Nat → List (List (S41)) → Bool → Int → List Int → List Int → Int → Int → List (List Int) → Int → Option (Int)
 | 0, _, _, _, _, _, _, _, _, _ => none
 | k + 1, x0, x14, x243000, x243001, x243002, x243003, x243004, x243005, x243006 => if x14 = true then (some 44) else ((Zby.f k x243000 x243001 x243002 x243003 x243004 x243005 x243006).bind fun t243 => (Zat.l0 k x0 t243 0 x243000 x243001 x243002 x243003 x243004 x243005 x243006))
def Zat.l0 : Nat → List (List (S41)) → List Int → Int → Int → List Int → List Int → Int → Int → List (List Int) → Int → Option (Int)
 | 0, _, _, _, _, _, _, _, _, _, _ => none
 | k + 1, x0, x5, x6, x243000, x243001, x243002, x243003, x243004, x243005, x243006 => if x6 < (x5.length : Int) then (if 0 ≤ x6 then (if (rd x5 x6) < 0 then (some 43) else (if (rd x5 x6) ≥ (x0.length : Int) then (some 43) else (Zat.l0 k x0 x5 (wrap64 (x6 + 1)) x243000 x243001 x243002 x243003 x243004 x243005 x243006))) else (none)) else ((Zaj.f k x0 x243000 x243001 x243002 x243003 x243004 x243005 x243006).bind fun t248 => (if t248 = true then ((Zas.f k x243002 x243004).bind fun t249 => (if t249 = true then (some 45) else (some 0))) else (some 44)))
end
def Zat.f (k : Nat) (l0 : List (List (S41))) (a1_0 : Int) (l1_1 : List Int) (l1_2 : List Int) (a1_3 : Int) (a1_4 : Int) (l1_5 : List (List Int)) (a1_6 : Int) : Option (Int) := if a1_0 < 0 then (Zat.j0 k l0 true a1_0 l1_1 l1_2 a1_3 a1_4 l1_5 a1_6) else (Zat.j0 k l0 (decide (a1_0 > 6)) a1_0 l1_1 l1_2 a1_3 a1_4 l1_5 a1_6)
theorem Zat.Zb4 : ∀ k, (∀ y0 y1 y2 y3 y4 y5 y6 y7 y8, LeO (Zat.j0 k y0 y1 y2 y3 y4 y5 y6 y7 y8) (Zat.j0 (k + 1) y0 y1 y2 y3 y4 y5 y6 y7 y8)) ∧ (∀ y0 y1 y2 y3 y4 y5 y6 y7 y8 y9, LeO (Zat.l0 k y0 y1 y2 y3 y4 y5 y6 y7 y8 y9) (Zat.l0 (k + 1) y0 y1 y2 y3 y4 y5 y6 y7 y8 y9))
 | 0 => ⟨fun _ _ _ _ _ _ _ _ _ r h => by simp [Zat.j0] at h, fun _ _ _ _ _ _ _ _ _ _ r h => by simp [Zat.l0] at h⟩
 | k + 1 => by
  obtain ⟨ih0, ih1⟩ := Zat.Zb4 k
  refine ⟨?_, ?_⟩
  ·intro y0 y1 y2 y3 y4 y5 y6 y7 y8
   unfold Zat.j0
   repeat' first
   | (with_reducible exact ih0 _ _ _ _ _ _ _ _ _)
   | (with_reducible exact ih1 _ _ _ _ _ _ _ _ _ _)
   | (with_reducible exact Zby.mono _ _ _ _ _ _ _ _)
   | (with_reducible exact Zas.mono _ _ _)
   | (with_reducible exact Zaj.mono _ _ _ _ _ _ _ _ _)
   | (with_reducible exact LeO.refl _)
   | (with_reducible exact LeO.none _)
   | (with_reducible refine LeO.ite ?_ ?_)
   | (with_reducible refine LeO.bind ?_ (fun _ => ?_))
   | exact ih0 _ _ _ _ _ _ _ _ _
   | exact ih1 _ _ _ _ _ _ _ _ _ _
   | exact Zby.mono _ _ _ _ _ _ _ _
   | exact Zas.mono _ _ _
   | exact Zaj.mono _ _ _ _ _ _ _ _ _
   | exact LeO.none _
   | refine LeO.ite ?_ ?_
   | refine LeO.bind ?_ (fun _ => ?_)
  intro y0 y1 y2 y3 y4 y5 y6 y7 y8 y9
  unfold Zat.l0
  repeat' first
  | (with_reducible exact ih0 _ _ _ _ _ _ _ _ _)
  | (with_reducible exact ih1 _ _ _ _ _ _ _ _ _ _)
  | (with_reducible exact Zby.mono _ _ _ _ _ _ _ _)
  | (with_reducible exact Zas.mono _ _ _)
  | (with_reducible exact Zaj.mono _ _ _ _ _ _ _ _ _)
  | (with_reducible exact LeO.refl _)
  | (with_reducible exact LeO.none _)
  | (with_reducible refine LeO.ite ?_ ?_)
  | (with_reducible refine LeO.bind ?_ (fun _ => ?_))
  | exact ih0 _ _ _ _ _ _ _ _ _
  | exact ih1 _ _ _ _ _ _ _ _ _ _
  | exact Zby.mono _ _ _ _ _ _ _ _
  | exact Zas.mono _ _ _
  | exact Zaj.mono _ _ _ _ _ _ _ _ _
  | exact LeO.none _
  | refine LeO.ite ?_ ?_
  | refine LeO.bind ?_ (fun _ => ?_)
theorem Zat.mono : ∀ a0 a1 a2 a3 a4 a5 a6 a7 k, LeO (Zat.f k a0 a1 a2 a3 a4 a5 a6 a7) (Zat.f (k + 1) a0 a1 a2 a3 a4 a5 a6 a7) := by
 intro a0 a1 a2 a3 a4 a5 a6 a7 k
 obtain ⟨ih0, ih1⟩ := Zat.Zb4 k
 unfold Zat.f
 repeat' first
   | (with_reducible exact ih0 _ _ _ _ _ _ _ _ _)
   | (with_reducible exact ih1 _ _ _ _ _ _ _ _ _ _)
   | (with_reducible exact Zby.mono _ _ _ _ _ _ _ _)
   | (with_reducible exact Zas.mono _ _ _)
   | (with_reducible exact Zaj.mono _ _ _ _ _ _ _ _ _)
   | (with_reducible exact LeO.refl _)
   | (with_reducible exact LeO.none _)
   | (with_reducible refine LeO.ite ?_ ?_)
   | (with_reducible refine LeO.bind ?_ (fun _ => ?_))
   | exact ih0 _ _ _ _ _ _ _ _ _
   | exact ih1 _ _ _ _ _ _ _ _ _ _
   | exact Zby.mono _ _ _ _ _ _ _ _
   | exact Zas.mono _ _ _
   | exact Zaj.mono _ _ _ _ _ _ _ _ _
   | exact LeO.none _
   | refine LeO.ite ?_ ?_
   | refine LeO.bind ?_ (fun _ => ?_)
set_option maxHeartbeats 8000000 in
set_option maxRecDepth 100000 in
theorem Zat.calls (k : Nat) (A0 : Option Addr) (c0 : Nat) (l0 : List (List (S41))) (a1_0 : Int) (A1_1 : Option Addr) (c1_1 : Nat) (l1_1 : List Int) (A1_2 : Option Addr) (c1_2 : Nat) (l1_2 : List Int) (a1_3 : Int) (a1_4 : Int) (A1_5 : Option Addr) (c1_5 : Nat) (l1_5 : List (List Int)) (a1_6 : Int) (r : Int) (w : World) (hr0 : Kd.C (Kd.slice 41 k41) w A0 l0.length l0) (hc0 : l0.length ≤ c0) (hr1_1 : Kd.C (Kd.int .i64) w A1_1 l1_1.length l1_1) (hc1_1 : l1_1.length ≤ c1_1) (hr1_2 : Kd.C (Kd.int .i64) w A1_2 l1_2.length l1_2) (hc1_2 : l1_2.length ≤ c1_2) (hr1_5 : Kd.C (Kd.slice 3 (Kd.int .i64)) w A1_5 l1_5.length l1_5) (hc1_5 : l1_5.length ≤ c1_5) (h : Zat.f k l0 a1_0 l1_1 l1_2 a1_3 a1_4 l1_5 a1_6 = some r) :
  Calls Try.prog 41 #[.slice A0 l0.length c0, .agg #[.int .i64 a1_0, .slice A1_1 l1_1.length c1_1, .slice A1_2 l1_2.length c1_2, .int .i64 a1_3, .int .i64 a1_4, .slice A1_5 l1_5.length c1_5, .int .i64 a1_6]] w fun e w' => e = .returned (.int .i64 r) ∧ Below w.heap.size w w' := by
 have hu25 := Try.underlying25
 have HR0 := Zaa.mk hr0
 have HC0 := Zaa.mk hc0
 clear hr0 hc0
 have HR1_1 := Zaa.mk hr1_1
 have HC1_1 := Zaa.mk hc1_1
 clear hr1_1 hc1_1
 have HR1_2 := Zaa.mk hr1_2
 have HC1_2 := Zaa.mk hc1_2
 clear hr1_2 hc1_2
 have HR1_5 := Zaa.mk hr1_5
 have HC1_5 := Zaa.mk hc1_5
 clear hr1_5 hc1_5
 have HB := Zaa.mk (Below.refl w.heap.size w)
 have H : (if a1_0 < 0 then (Zat.j0 k l0 true a1_0 l1_1 l1_2 a1_3 a1_4 l1_5 a1_6) else (Zat.j0 k l0 (decide (a1_0 > 6)) a1_0 l1_1 l1_2 a1_3 a1_4 l1_5 a1_6)) = some r := h
 clear h
 have HC3 := Zaa.mk H
 clear H
 go_enter Try.func41, Try.ntmps41
 go_upto_region 1 with (first | ((with_reducible refine Zbq (N := 3) rfl ?_); (try (refine Zcm (by rfl) ?_; dsimp only)); refine Zb9 ?hg (N := 3) ?hd (cs := #[.int .i64 a1_0, .slice A1_1 l1_1.length c1_1, .slice A1_2 l1_2.length c1_2, .int .i64 a1_3, .int .i64 a1_4, .slice A1_5 l1_5.length c1_5, .int .i64 a1_6]) (t := 25) ?hr ?_; (case hd => rfl); (case hg => rfl); (case hr => first | (go_simp; done) | (go_simp; rfl)); intro gb242 hg w4 hbox hb; have n0_ := Zaa.mk (Zam (by repeat (first | (with_reducible first | exact HB.out | apply Zab | apply Za | apply Zac) | exact HB.out)) hb); have n1_ := Zaa.mk (hbox); have n3_ := Zaa.mk ((by rw [hg]; exact (Zae (by repeat (first | (with_reducible first | exact HB.out | apply Zab | apply Za | apply Zac) | exact HB.out))) : w.heap.size ≤ gb242)); clear HB; have HB := n0_; have BK242 := n1_; have GE242 := n3_; clear n0_ n1_ n3_; clear hb hbox hg))
 (try simp only [Act.put, List.setIfInBounds_toArray, List.set_cons_zero, List.set_cons_succ])
 go_cut [14] (fun v14 wc => ∃ (kq : Nat) (x14_2 : Bool), v14 = .bool x14_2 ∧ Zaa (Zat.j0 kq l0 x14_2 a1_0 l1_1 l1_2 a1_3 a1_4 l1_5 a1_6 = some r) ∧ Zaa (kq ≤ k) ∧ Zaa (wc.heap[gb242]? = some (.cells #[.int .i64 a1_0, (.slice A1_1 l1_1.length c1_1), (.slice A1_2 l1_2.length c1_2), .int .i64 a1_3, .int .i64 a1_4, (.slice A1_5 l1_5.length c1_5), .int .i64 a1_6] 25 (0, 0))) ∧ Zaa (Below w.heap.size w wc))
 case first =>
  have H := HC3.out
  clear HC3
  by_cases c5 : a1_0 < 0
  ·rw [if_pos c5] at H
   have c5b0 : decide (a1_0 < 0) = true := decide_eq_true c5
   clear c5
   (first | rw [c5b0] | (simp only [Zbh, Zbi]; rw [c5b0]) | skip)
   have H' := Zaa.mk H
   clear H
   obtain ⟨hcz6_0, hcz6_1, hcz6_2, hcz6_3, hcz6_4, hcz6_5, hcz6_6, hfz6_0, hfz6_1, hfz6_2, hfz6_3, hfz6_4, hfz6_5, hfz6_6⟩ := Zcg BK242.out
   go_wp2
   go_meet
   case rel => exact ⟨_, (true), (by first | rfl | (simp; done) | (simp [*]; done)), H', ⟨by first | omega | exact Nat.le_refl _⟩, ⟨by (with_reducible repeat (first | refine Zag ?_ _ | refine Zak ?_ | refine Zad ?_ _)); exact BK242.out⟩, ⟨by repeat (first | (with_reducible first | exact HB.out | apply Zab | apply Za | apply Zac | refine Zaf ?_ GE242.out) | exact HB.out)⟩⟩
  rw [if_neg c5] at H
  have c5b0 : decide (a1_0 < 0) = false := decide_eq_false c5
  clear c5
  (first | rw [c5b0] | (simp only [Zbh, Zbi]; rw [c5b0]) | skip)
  have H' := Zaa.mk H
  clear H
  obtain ⟨hcz7_0, hcz7_1, hcz7_2, hcz7_3, hcz7_4, hcz7_5, hcz7_6, hfz7_0, hfz7_1, hfz7_2, hfz7_3, hfz7_4, hfz7_5, hfz7_6⟩ := Zcg BK242.out
  go_wp2
  go_meet
  case rel => exact ⟨_, (decide (a1_0 > 6)), (by first | rfl | (simp; done) | (simp [*]; done)), H', ⟨by first | omega | exact Nat.le_refl _⟩, ⟨by (with_reducible repeat (first | refine Zag ?_ _ | refine Zak ?_ | refine Zad ?_ _)); exact BK242.out⟩, ⟨by repeat (first | (with_reducible first | exact HB.out | apply Zab | apply Za | apply Zac | refine Zaf ?_ GE242.out) | exact HB.out)⟩⟩
 case rest =>
  clear HC3
  try clear c1
  try clear p2
  try clear c4
  try clear c5
  try clear c5b0
  try clear hcz6_0
  try clear hcz6_1
  try clear hcz6_2
  try clear hcz6_3
  try clear hcz6_4
  try clear hcz6_5
  try clear hcz6_6
  try clear hcz7_0
  try clear hcz7_1
  try clear hcz7_2
  try clear hcz7_3
  try clear hcz7_4
  try clear hcz7_5
  try clear hcz7_6
  try clear hfz6_0
  try clear hfz6_1
  try clear hfz6_2
  try clear hfz6_3
  try clear hfz6_4
  try clear hfz6_5
  try clear hfz6_6
  try clear hfz7_0
  try clear hfz7_1
  try clear hfz7_2
  try clear hfz7_3
  try clear hfz7_4
  try clear hfz7_5
  try clear hfz7_6
  obtain ⟨kq, x14_2, rfl, HA, HJ2, BK242, HB⟩ := hcut
  cases kq with
  | zero => exact absurd HA.out (by simp [Zat.j0])
  | succ kj2 =>
   have H := HA.out
   clear HA
   simp only [Zat.j0] at H
   by_cases c8 : x14_2 = true
   ·subst c8
    have H1 : (some 44) = some r := by rw [if_pos rfl] at H; exact H
    clear H
    have H := H1
    clear H1
    obtain rfl := Option.some.inj H
    go_wp2
    go_ret
    exact ⟨by first | rfl | (simp [Za1, Za2] <;> rfl) | (simp [*, Za1, Za2] <;> rfl), by repeat (first | (with_reducible first | exact HB.out | apply Zab | apply Za | apply Zac | refine Zaf ?_ GE242.out) | exact HB.out)⟩
   replace c8 := Bool.eq_false_iff.mpr c8
   subst c8
   have H1 : ((Zby.f kj2 a1_0 l1_1 l1_2 a1_3 a1_4 l1_5 a1_6).bind fun t243 => (Zat.l0 kj2 l0 t243 0 a1_0 l1_1 l1_2 a1_3 a1_4 l1_5 a1_6)) = some r := by rw [if_neg (show ¬ (false = true) by decide)] at H; exact H
   clear H
   have H := H1
   clear H1
   replace H := Option.bind_eq_some_iff.mp H
   obtain ⟨t243, A90, H⟩ := H
   replace H : (Zat.l0 kj2 l0 t243 0 a1_0 l1_1 l1_2 a1_3 a1_4 l1_5 a1_6) = some r := H
   have A9 := Zaa.mk A90
   clear A90
   have H' := Zaa.mk H
   clear H
   obtain ⟨hcz10_0, hcz10_1, hcz10_2, hcz10_3, hcz10_4, hcz10_5, hcz10_6, hfz10_0, hfz10_1, hfz10_2, hfz10_3, hfz10_4, hfz10_5, hfz10_6⟩ := Zcg BK242.out
   go_wp2_with (first | ((with_reducible refine Zbo (f := 60) rfl ?_); refine Zcr (some 16) rfl rfl Try.func60 (by kernel_rfl) rfl #[.agg #[.int .i64 a1_0, .slice A1_1 l1_1.length c1_1, .slice A1_2 l1_2.length c1_2, .int .i64 a1_3, .int .i64 a1_4, .slice A1_5 l1_5.length c1_5, .int .i64 a1_6]] rfl (by (try simp only [List.map_toArray, List.map_cons, List.map_nil]); first | done | rfl | (simp only [List.length_drop, List.length_take]; rfl)) ?_; (refine withB (m := w.heap.size) (w0 := w) (by repeat (first | (with_reducible first | exact HB.out | apply Zab | apply Za | apply Zac | refine Zaf ?_ GE242.out) | exact HB.out)) ?_); intro hL_; (with_reducible refine (Zby.calls kj2 a1_0 _ _ l1_1 _ _ l1_2 a1_3 a1_4 _ _ l1_5 a1_6 t243 _ ?side1 ?side2 ?side3 ?side4 ?side5 ?side6 A9.out).mono ?_); (case side1 => repeat (first | exact (Kd.Za8 HR1_1.out HB.out) | (with_reducible refine Kd.C_alloc ?_ _) | (with_reducible refine Kd.Za0 ?_ _) | (with_reducible refine Kd.C_drew ?_))); (case side2 => exact HC1_1.out); (case side3 => repeat (first | exact (Kd.Za8 HR1_2.out HB.out) | (with_reducible refine Kd.C_alloc ?_ _) | (with_reducible refine Kd.Za0 ?_ _) | (with_reducible refine Kd.C_drew ?_))); (case side4 => exact HC1_2.out); (case side5 => repeat (first | exact (Kd.Za8 HR1_5.out HB.out) | (with_reducible refine Kd.C_alloc ?_ _) | (with_reducible refine Kd.Za0 ?_ _) | (with_reducible refine Kd.C_drew ?_))); (case side6 => exact HC1_5.out); rintro e w11 ⟨v244, rfl, ho0, hb⟩; refine ⟨_, rfl, ?_⟩; have n0_ := Zaa.mk (Kd.Zbs ho0 (Zae hL_)); have n1_ := Zaa.mk (Zbe (g := gb242) (o := .cells #[.int .i64 a1_0, .slice A1_1 l1_1.length c1_1, .slice A1_2 l1_2.length c1_2, .int .i64 a1_3, .int .i64 a1_4, .slice A1_5 l1_5.length c1_5, .int .i64 a1_6] 25 (0, 0)) (mvK BK242.out) hb); have n2_ := Zaa.mk (Zam hL_ hb); clear BK242; clear HB; have HO245 := n0_; have BK242 := n1_; have HB := n2_; clear n0_ n1_ n2_; (try clear hb); (try clear hb2); (try clear hk); (try clear hi); (try clear ho0)))
   go_loopg [6] kj2 (fun kq v6 w' => ∃ (x6_2 : Int), v6 = .int .i64 x6_2 ∧ Zaa (Zat.l0 kq l0 t243 x6_2 a1_0 l1_1 l1_2 a1_3 a1_4 l1_5 a1_6 = some r) ∧ Zaa (kq ≤ kj2) ∧ Zaa (Kd.R (Kd.int .i64) 3 w' w.heap.size (fun _ => True) v244 t243) ∧ Zaa (w'.heap[gb242]? = some (.cells #[.int .i64 a1_0, (.slice A1_1 l1_1.length c1_1), (.slice A1_2 l1_2.length c1_2), .int .i64 a1_3, .int .i64 a1_4, (.slice A1_5 l1_5.length c1_5), .int .i64 a1_6] 25 (0, 0))) ∧ Zaa (Below w.heap.size w w'))
   case atStart => exact ⟨(0), (by first | rfl | (simp; done) | (simp [*]; done)), H', ⟨Nat.le_refl _⟩, ⟨by (with_reducible repeat (first | apply Kd.Za6 | apply Kd.Za5 | apply Kd.Zbb)); exact HO245.out⟩, ⟨by (with_reducible repeat (first | refine Zag ?_ _ | refine Zak ?_ | refine Zad ?_ _)); exact BK242.out⟩, ⟨by repeat (first | (with_reducible first | exact HB.out | apply Zab | apply Za | apply Zac | refine Zaf ?_ GE242.out) | exact HB.out)⟩⟩
   case round =>
    clear H'
    try clear c1
    try clear p2
    try clear c4
    try clear c5
    try clear c5b0
    try clear c6
    try clear c8
    try clear hcz10_0
    try clear hcz10_1
    try clear hcz10_2
    try clear hcz10_3
    try clear hcz10_4
    try clear hcz10_5
    try clear hcz10_6
    try clear hcz6_0
    try clear hcz6_1
    try clear hcz6_2
    try clear hcz6_3
    try clear hcz6_4
    try clear hcz6_5
    try clear hcz6_6
    try clear hcz7_0
    try clear hcz7_1
    try clear hcz7_2
    try clear hcz7_3
    try clear hcz7_4
    try clear hcz7_5
    try clear hcz7_6
    try clear hfz10_0
    try clear hfz10_1
    try clear hfz10_2
    try clear hfz10_3
    try clear hfz10_4
    try clear hfz10_5
    try clear hfz10_6
    try clear hfz6_0
    try clear hfz6_1
    try clear hfz6_2
    try clear hfz6_3
    try clear hfz6_4
    try clear hfz6_5
    try clear hfz6_6
    try clear hfz7_0
    try clear hfz7_1
    try clear hfz7_2
    try clear hfz7_3
    try clear hfz7_4
    try clear hfz7_5
    try clear hfz7_6
    try clear p2
    obtain ⟨x6_2, rfl, HA, HK2, HO_5, BK242, HB⟩ := hrel
    cases gk with
    | zero => exact absurd HA.out (by simp [Zat.l0])
    | succ k2 =>
     have H := HA.out
     clear HA
     simp only [Zat.l0] at H
     by_cases c12 : x6_2 < (t243.length : Int)
     ·rw [if_pos c12] at H
      have c12b0 : decide (x6_2 < (t243.length : Int)) = true := decide_eq_true c12
      clear c12
      by_cases c13 : 0 ≤ x6_2
      rotate_left
      ·rw [if_neg c13] at H
       exact absurd H (by simp)
      rw [if_pos c13] at H
      have c13b0 : decide (0 ≤ x6_2) = true := decide_eq_true c13
      clear c13
      by_cases c14 : (rd t243 x6_2) < 0
      ·rw [if_pos c14] at H
       have c14b0 : decide ((rd t243 x6_2) < 0) = true := decide_eq_true c14
       clear c14
       obtain rfl := Option.some.inj H
       obtain ⟨Ao15, co15, eo15⟩ := Kd.Zbn HO_5.out
       subst eo15
       have p246 : 0 ≤ (x6_2 : Int) := of_decide_eq_true (by first | (with_reducible assumption) | assumption)
       have q246 : x6_2 < (t243.length : Int) := of_decide_eq_true (by first | (with_reducible assumption) | assumption)
       obtain ⟨ad246, e246, hx246_0⟩ := Kd.Zbx (Kd.Zaz HO_5.out).2.2 x6_2 p246 q246
       cases e246
       replace p246 := eq_true p246
       replace q246 := eq_true q246
       go_wp2
       go_ret
       exact ⟨by first | rfl | (simp [Za1, Za2] <;> rfl) | (simp [*, Za1, Za2] <;> rfl), by repeat (first | (with_reducible first | exact HB.out | apply Zab | apply Za | apply Zac | refine Zaf ?_ GE242.out) | exact HB.out)⟩
      rw [if_neg c14] at H
      have c14b0 : decide ((rd t243 x6_2) < 0) = false := decide_eq_false c14
      clear c14
      by_cases c16 : (rd t243 x6_2) ≥ (l0.length : Int)
      ·rw [if_pos c16] at H
       have c16b0 : decide ((l0.length : Int) ≤ (rd t243 x6_2)) = true := decide_eq_true c16
       clear c16
       obtain rfl := Option.some.inj H
       obtain ⟨Ao17, co17, eo17⟩ := Kd.Zbn HO_5.out
       subst eo17
       have p246 : 0 ≤ (x6_2 : Int) := of_decide_eq_true (by first | (with_reducible assumption) | assumption)
       have q246 : x6_2 < (t243.length : Int) := of_decide_eq_true (by first | (with_reducible assumption) | assumption)
       obtain ⟨ad246, e246, hx246_0⟩ := Kd.Zbx (Kd.Zaz HO_5.out).2.2 x6_2 p246 q246
       cases e246
       replace p246 := eq_true p246
       replace q246 := eq_true q246
       have p247 : 0 ≤ (x6_2 : Int) := of_decide_eq_true (by first | (with_reducible assumption) | assumption)
       have q247 : x6_2 < (t243.length : Int) := of_decide_eq_true (by first | (with_reducible assumption) | assumption)
       obtain ⟨ad247, e247, hx247_0⟩ := Kd.Zbx (Kd.Zaz HO_5.out).2.2 x6_2 p247 q247
       obtain rfl : ad246 = ad247 := (by injection e247)
       replace p247 := eq_true p247
       replace q247 := eq_true q247
       go_wp2
       go_ret
       exact ⟨by first | rfl | (simp [Za1, Za2] <;> rfl) | (simp [*, Za1, Za2] <;> rfl), by repeat (first | (with_reducible first | exact HB.out | apply Zab | apply Za | apply Zac | refine Zaf ?_ GE242.out) | exact HB.out)⟩
      rw [if_neg c16] at H
      have c16b0 : decide ((l0.length : Int) ≤ (rd t243 x6_2)) = false := decide_eq_false c16
      clear c16
      have H' := Zaa.mk H
      clear H
      obtain ⟨Ao18, co18, eo18⟩ := Kd.Zbn HO_5.out
      subst eo18
      have p246 : 0 ≤ (x6_2 : Int) := of_decide_eq_true (by first | (with_reducible assumption) | assumption)
      have q246 : x6_2 < (t243.length : Int) := of_decide_eq_true (by first | (with_reducible assumption) | assumption)
      obtain ⟨ad246, e246, hx246_0⟩ := Kd.Zbx (Kd.Zaz HO_5.out).2.2 x6_2 p246 q246
      cases e246
      replace p246 := eq_true p246
      replace q246 := eq_true q246
      have p247 : 0 ≤ (x6_2 : Int) := of_decide_eq_true (by first | (with_reducible assumption) | assumption)
      have q247 : x6_2 < (t243.length : Int) := of_decide_eq_true (by first | (with_reducible assumption) | assumption)
      obtain ⟨ad247, e247, hx247_0⟩ := Kd.Zbx (Kd.Zaz HO_5.out).2.2 x6_2 p247 q247
      obtain rfl : ad246 = ad247 := (by injection e247)
      replace p247 := eq_true p247
      replace q247 := eq_true q247
      go_wp2
      go_roundg k2
      case measure => have := HJ2.out; have := HK2.out; omega
      case rel => exact ⟨(wrap64 (x6_2 + 1)), (by first | rfl | (simp; done) | (simp [*]; done)), H', ⟨by have := HJ2.out; have := HK2.out; omega⟩, ⟨by (with_reducible repeat (first | apply Kd.Za6 | apply Kd.Za5 | apply Kd.Zbb)); exact HO_5.out⟩, ⟨by (with_reducible repeat (first | refine Zag ?_ _ | refine Zak ?_ | refine Zad ?_ _)); exact BK242.out⟩, ⟨by repeat (first | (with_reducible first | exact HB.out | apply Zab | apply Za | apply Zac | refine Zaf ?_ GE242.out) | exact HB.out)⟩⟩
     rw [if_neg c12] at H
     have c12b0 : decide (x6_2 < (t243.length : Int)) = false := decide_eq_false c12
     clear c12
     replace H := Option.bind_eq_some_iff.mp H
     obtain ⟨t248, A190, H⟩ := H
     replace H : (if t248 = true then ((Zas.f k2 l1_2 a1_4).bind fun t249 => (if t249 = true then (some 45) else (some 0))) else (some 44)) = some r := H
     have A19 := Zaa.mk A190
     clear A190
     by_cases c20 : t248 = true
     rotate_left
     ·replace c20 := Bool.eq_false_iff.mpr c20
      subst c20
      have H1 : (some 44) = some r := by rw [if_neg (show ¬ (false = true) by decide)] at H; exact H
      clear H
      have H := H1
      clear H1
      obtain rfl := Option.some.inj H
      obtain ⟨Ao33, co33, eo33⟩ := Kd.Zbn HO_5.out
      subst eo33
      obtain ⟨hcz34_0, hcz34_1, hcz34_2, hcz34_3, hcz34_4, hcz34_5, hcz34_6, hfz34_0, hfz34_1, hfz34_2, hfz34_3, hfz34_4, hfz34_5, hfz34_6⟩ := Zcg BK242.out
      go_wp2_with (first | ((with_reducible refine Zbo (f := 61) rfl ?_); refine Zcr (some 39) rfl rfl Try.func61 (by kernel_rfl) rfl #[.slice A0 l0.length c0, .agg #[.int .i64 a1_0, .slice A1_1 l1_1.length c1_1, .slice A1_2 l1_2.length c1_2, .int .i64 a1_3, .int .i64 a1_4, .slice A1_5 l1_5.length c1_5, .int .i64 a1_6]] rfl (by (try simp only [List.map_toArray, List.map_cons, List.map_nil]); first | done | rfl | (simp only [List.length_drop, List.length_take]; rfl)) ?_; (with_reducible refine (Zaj.calls k2 _ _ l0 a1_0 _ _ l1_1 _ _ l1_2 a1_3 a1_4 _ _ l1_5 a1_6 false _ ?side1 ?side2 ?side3 ?side4 ?side5 ?side6 ?side7 ?side8 A19.out).mono ?_); (case side1 => repeat (first | exact (Kd.Za8 HR0.out HB.out) | (with_reducible refine Kd.C_alloc ?_ _) | (with_reducible refine Kd.Za0 ?_ _) | (with_reducible refine Kd.C_drew ?_))); (case side2 => exact HC0.out); (case side3 => repeat (first | exact (Kd.Za8 HR1_1.out HB.out) | (with_reducible refine Kd.C_alloc ?_ _) | (with_reducible refine Kd.Za0 ?_ _) | (with_reducible refine Kd.C_drew ?_))); (case side4 => exact HC1_1.out); (case side5 => repeat (first | exact (Kd.Za8 HR1_2.out HB.out) | (with_reducible refine Kd.C_alloc ?_ _) | (with_reducible refine Kd.Za0 ?_ _) | (with_reducible refine Kd.C_drew ?_))); (case side6 => exact HC1_2.out); (case side7 => repeat (first | exact (Kd.Za8 HR1_5.out HB.out) | (with_reducible refine Kd.C_alloc ?_ _) | (with_reducible refine Kd.Za0 ?_ _) | (with_reducible refine Kd.C_drew ?_))); (case side8 => exact HC1_5.out); rintro e w35 ⟨rfl, hb⟩; refine ⟨_, rfl, ?_⟩; have n2_ := Zaa.mk (Zam (by repeat (first | (with_reducible first | exact HB.out | apply Zab | apply Za | apply Zac | refine Zaf ?_ GE242.out) | exact HB.out)) hb); clear HO_5; clear BK242; clear HB; have HB := n2_; clear n2_; (try clear hb); (try clear hb2); (try clear hk); (try clear hi)))
      go_ret
      exact ⟨by first | rfl | (simp [Za1, Za2] <;> rfl) | (simp [*, Za1, Za2] <;> rfl), by repeat (first | (with_reducible first | exact HB.out | apply Zab | apply Za | apply Zac | refine Zaf ?_ GE242.out) | exact HB.out)⟩
     subst c20
     have H1 : ((Zas.f k2 l1_2 a1_4).bind fun t249 => (if t249 = true then (some 45) else (some 0))) = some r := by rw [if_pos rfl] at H; exact H
     clear H
     have H := H1
     clear H1
     replace H := Option.bind_eq_some_iff.mp H
     obtain ⟨t249, A210, H⟩ := H
     replace H : (if t249 = true then (some 45) else (some 0)) = some r := H
     have A21 := Zaa.mk A210
     clear A210
     by_cases c22 : t249 = true
     ·subst c22
      have H1 : (some 45) = some r := by rw [if_pos rfl] at H; exact H
      clear H
      have H := H1
      clear H1
      obtain rfl := Option.some.inj H
      obtain ⟨Ao23, co23, eo23⟩ := Kd.Zbn HO_5.out
      subst eo23
      obtain ⟨hcz24_0, hcz24_1, hcz24_2, hcz24_3, hcz24_4, hcz24_5, hcz24_6, hfz24_0, hfz24_1, hfz24_2, hfz24_3, hfz24_4, hfz24_5, hfz24_6⟩ := Zcg BK242.out
      go_wp2_with (first | ((with_reducible refine Zbo (f := 61) rfl ?_); refine Zcr (some 39) rfl rfl Try.func61 (by kernel_rfl) rfl #[.slice A0 l0.length c0, .agg #[.int .i64 a1_0, .slice A1_1 l1_1.length c1_1, .slice A1_2 l1_2.length c1_2, .int .i64 a1_3, .int .i64 a1_4, .slice A1_5 l1_5.length c1_5, .int .i64 a1_6]] rfl (by (try simp only [List.map_toArray, List.map_cons, List.map_nil]); first | done | rfl | (simp only [List.length_drop, List.length_take]; rfl)) ?_; (with_reducible refine (Zaj.calls k2 _ _ l0 a1_0 _ _ l1_1 _ _ l1_2 a1_3 a1_4 _ _ l1_5 a1_6 true _ ?side1 ?side2 ?side3 ?side4 ?side5 ?side6 ?side7 ?side8 A19.out).mono ?_); (case side1 => repeat (first | exact (Kd.Za8 HR0.out HB.out) | (with_reducible refine Kd.C_alloc ?_ _) | (with_reducible refine Kd.Za0 ?_ _) | (with_reducible refine Kd.C_drew ?_))); (case side2 => exact HC0.out); (case side3 => repeat (first | exact (Kd.Za8 HR1_1.out HB.out) | (with_reducible refine Kd.C_alloc ?_ _) | (with_reducible refine Kd.Za0 ?_ _) | (with_reducible refine Kd.C_drew ?_))); (case side4 => exact HC1_1.out); (case side5 => repeat (first | exact (Kd.Za8 HR1_2.out HB.out) | (with_reducible refine Kd.C_alloc ?_ _) | (with_reducible refine Kd.Za0 ?_ _) | (with_reducible refine Kd.C_drew ?_))); (case side6 => exact HC1_2.out); (case side7 => repeat (first | exact (Kd.Za8 HR1_5.out HB.out) | (with_reducible refine Kd.C_alloc ?_ _) | (with_reducible refine Kd.Za0 ?_ _) | (with_reducible refine Kd.C_drew ?_))); (case side8 => exact HC1_5.out); rintro e w25 ⟨rfl, hb⟩; refine ⟨_, rfl, ?_⟩; have n1_ := Zaa.mk (Zbe (g := gb242) (o := .cells #[.int .i64 a1_0, .slice A1_1 l1_1.length c1_1, .slice A1_2 l1_2.length c1_2, .int .i64 a1_3, .int .i64 a1_4, .slice A1_5 l1_5.length c1_5, .int .i64 a1_6] 25 (0, 0)) (mvK BK242.out) hb); have n2_ := Zaa.mk (Zam (by repeat (first | (with_reducible first | exact HB.out | apply Zab | apply Za | apply Zac | refine Zaf ?_ GE242.out) | exact HB.out)) hb); clear HO_5; clear BK242; clear HB; have BK242 := n1_; have HB := n2_; clear n1_ n2_; (try clear hb); (try clear hb2); (try clear hk); (try clear hi); obtain ⟨hcz26_0, hcz26_1, hcz26_2, hcz26_3, hcz26_4, hcz26_5, hcz26_6, hfz26_0, hfz26_1, hfz26_2, hfz26_3, hfz26_4, hfz26_5, hfz26_6⟩ := Zcg BK242.out) | ((with_reducible refine Zbo (f := 62) rfl ?_); refine Zcr (some 45) rfl rfl Try.func62 (by kernel_rfl) rfl #[.slice A1_2 l1_2.length c1_2, .int .i64 a1_4] rfl (by (try simp only [List.map_toArray, List.map_cons, List.map_nil]); first | done | rfl | (simp only [List.length_drop, List.length_take]; rfl)) ?_; (with_reducible refine (Zas.calls k2 _ _ l1_2 a1_4 true _ ?side1 ?side2 A21.out).mono ?_); (case side1 => repeat (first | exact (Kd.Za8 HR1_2.out HB.out) | (with_reducible refine Kd.C_alloc ?_ _) | (with_reducible refine Kd.Za0 ?_ _) | (with_reducible refine Kd.C_drew ?_))); (case side2 => exact HC1_2.out); rintro e w27 ⟨rfl, hb⟩; refine ⟨_, rfl, ?_⟩; have n2_ := Zaa.mk (Zam (by repeat (first | (with_reducible first | exact HB.out | apply Zab | apply Za | apply Zac | refine Zaf ?_ GE242.out) | exact HB.out)) hb); clear BK242; clear HB; have HB := n2_; clear n2_; (try clear hb); (try clear hb2); (try clear hk); (try clear hi)))
      go_ret
      exact ⟨by first | rfl | (simp [Za1, Za2] <;> rfl) | (simp [*, Za1, Za2] <;> rfl), by repeat (first | (with_reducible first | exact HB.out | apply Zab | apply Za | apply Zac | refine Zaf ?_ GE242.out) | exact HB.out)⟩
     replace c22 := Bool.eq_false_iff.mpr c22
     subst c22
     have H1 : (some 0) = some r := by rw [if_neg (show ¬ (false = true) by decide)] at H; exact H
     clear H
     have H := H1
     clear H1
     obtain rfl := Option.some.inj H
     obtain ⟨Ao28, co28, eo28⟩ := Kd.Zbn HO_5.out
     subst eo28
     obtain ⟨hcz29_0, hcz29_1, hcz29_2, hcz29_3, hcz29_4, hcz29_5, hcz29_6, hfz29_0, hfz29_1, hfz29_2, hfz29_3, hfz29_4, hfz29_5, hfz29_6⟩ := Zcg BK242.out
     go_wp2_with (first | ((with_reducible refine Zbo (f := 61) rfl ?_); refine Zcr (some 39) rfl rfl Try.func61 (by kernel_rfl) rfl #[.slice A0 l0.length c0, .agg #[.int .i64 a1_0, .slice A1_1 l1_1.length c1_1, .slice A1_2 l1_2.length c1_2, .int .i64 a1_3, .int .i64 a1_4, .slice A1_5 l1_5.length c1_5, .int .i64 a1_6]] rfl (by (try simp only [List.map_toArray, List.map_cons, List.map_nil]); first | done | rfl | (simp only [List.length_drop, List.length_take]; rfl)) ?_; (with_reducible refine (Zaj.calls k2 _ _ l0 a1_0 _ _ l1_1 _ _ l1_2 a1_3 a1_4 _ _ l1_5 a1_6 true _ ?side1 ?side2 ?side3 ?side4 ?side5 ?side6 ?side7 ?side8 A19.out).mono ?_); (case side1 => repeat (first | exact (Kd.Za8 HR0.out HB.out) | (with_reducible refine Kd.C_alloc ?_ _) | (with_reducible refine Kd.Za0 ?_ _) | (with_reducible refine Kd.C_drew ?_))); (case side2 => exact HC0.out); (case side3 => repeat (first | exact (Kd.Za8 HR1_1.out HB.out) | (with_reducible refine Kd.C_alloc ?_ _) | (with_reducible refine Kd.Za0 ?_ _) | (with_reducible refine Kd.C_drew ?_))); (case side4 => exact HC1_1.out); (case side5 => repeat (first | exact (Kd.Za8 HR1_2.out HB.out) | (with_reducible refine Kd.C_alloc ?_ _) | (with_reducible refine Kd.Za0 ?_ _) | (with_reducible refine Kd.C_drew ?_))); (case side6 => exact HC1_2.out); (case side7 => repeat (first | exact (Kd.Za8 HR1_5.out HB.out) | (with_reducible refine Kd.C_alloc ?_ _) | (with_reducible refine Kd.Za0 ?_ _) | (with_reducible refine Kd.C_drew ?_))); (case side8 => exact HC1_5.out); rintro e w30 ⟨rfl, hb⟩; refine ⟨_, rfl, ?_⟩; have n1_ := Zaa.mk (Zbe (g := gb242) (o := .cells #[.int .i64 a1_0, .slice A1_1 l1_1.length c1_1, .slice A1_2 l1_2.length c1_2, .int .i64 a1_3, .int .i64 a1_4, .slice A1_5 l1_5.length c1_5, .int .i64 a1_6] 25 (0, 0)) (mvK BK242.out) hb); have n2_ := Zaa.mk (Zam (by repeat (first | (with_reducible first | exact HB.out | apply Zab | apply Za | apply Zac | refine Zaf ?_ GE242.out) | exact HB.out)) hb); clear HO_5; clear BK242; clear HB; have BK242 := n1_; have HB := n2_; clear n1_ n2_; (try clear hb); (try clear hb2); (try clear hk); (try clear hi); obtain ⟨hcz31_0, hcz31_1, hcz31_2, hcz31_3, hcz31_4, hcz31_5, hcz31_6, hfz31_0, hfz31_1, hfz31_2, hfz31_3, hfz31_4, hfz31_5, hfz31_6⟩ := Zcg BK242.out) | ((with_reducible refine Zbo (f := 62) rfl ?_); refine Zcr (some 45) rfl rfl Try.func62 (by kernel_rfl) rfl #[.slice A1_2 l1_2.length c1_2, .int .i64 a1_4] rfl (by (try simp only [List.map_toArray, List.map_cons, List.map_nil]); first | done | rfl | (simp only [List.length_drop, List.length_take]; rfl)) ?_; (with_reducible refine (Zas.calls k2 _ _ l1_2 a1_4 false _ ?side1 ?side2 A21.out).mono ?_); (case side1 => repeat (first | exact (Kd.Za8 HR1_2.out HB.out) | (with_reducible refine Kd.C_alloc ?_ _) | (with_reducible refine Kd.Za0 ?_ _) | (with_reducible refine Kd.C_drew ?_))); (case side2 => exact HC1_2.out); rintro e w32 ⟨rfl, hb⟩; refine ⟨_, rfl, ?_⟩; have n2_ := Zaa.mk (Zam (by repeat (first | (with_reducible first | exact HB.out | apply Zab | apply Za | apply Zac | refine Zaf ?_ GE242.out) | exact HB.out)) hb); clear BK242; clear HB; have HB := n2_; clear n2_; (try clear hb); (try clear hb2); (try clear hk); (try clear hi)))
     go_ret
     exact ⟨by first | rfl | (simp [Za1, Za2] <;> rfl) | (simp [*, Za1, Za2] <;> rfl), by repeat (first | (with_reducible first | exact HB.out | apply Zab | apply Za | apply Zac | refine Zaf ?_ GE242.out) | exact HB.out)⟩
def Zaq.l0 : Nat → Int → List (List (S41)) → Int → List (List Int) → Int → List Int → List Int → Int → Int → List (List Int) → Int → List Int → List Int → Option ((List (List (S41))) × Int × List Int × List Int × Int × Int × (List (List Int)) × Int × Bool)
 | 0, _, _, _, _, _, _, _, _, _, _, _, _, _ => none
 | k + 1, x1, x7, x8, x251000, x251001, x251002, x251003, x251004, x251005, x251006, x251007, x251008, x251009 => if x8 < (x251000.length : Int) then (if x8 < 4 then (if 0 ≤ x8 then (if 0 ≤ (mn ((Zci x251000 x8).length : Int) 6) then (if (mn ((Zci x251000 x8).length : Int) 6) ≤ ((Zci x251000 x8).length : Int) then ((Zba.f k ((Zci x251000 x8).take ((mn ((Zci x251000 x8).length : Int) 6) : Int).toNat)).bind fun t258 => (if x7.length < 5864062014805 then (Zaq.l0 k x1 (x7 ++ [t258]) (wrap64 (x8 + 1)) x251000 x251001 x251002 x251003 x251004 x251005 x251006 x251007 x251008 x251009) else (none))) else (none)) else (none)) else (none)) else ((Zb0.f k x251001 x251002 x251003 x251004 x251005 x251006 x251007).bind fun bt264 => (if 0 ≤ (mn (bt264.2.2.2.2.2.1.length : Int) 20) then (if (mn (bt264.2.2.2.2.2.1.length : Int) 20) ≤ (bt264.2.2.2.2.2.1.length : Int) then ((some (bt264.2.2.2.2.2.1.take ((mn (bt264.2.2.2.2.2.1.length : Int) 20) : Int).toNat : List (List Int))).bind fun y278 => ((Zat.f k x7 x1 bt264.2.1 bt264.2.2.1 bt264.2.2.2.1 bt264.2.2.2.2.1 y278 bt264.2.2.2.2.2.2).bind fun t281 => (some (x7, x1, bt264.2.1, bt264.2.2.1, bt264.2.2.2.1, bt264.2.2.2.2.1, y278, bt264.2.2.2.2.2.2, (t281 == 0))))) else (none)) else (none)))) else ((Zb0.f k x251001 x251002 x251003 x251004 x251005 x251006 x251007).bind fun bt282 => (if 0 ≤ (mn (bt282.2.2.2.2.2.1.length : Int) 20) then (if (mn (bt282.2.2.2.2.2.1.length : Int) 20) ≤ (bt282.2.2.2.2.2.1.length : Int) then ((some (bt282.2.2.2.2.2.1.take ((mn (bt282.2.2.2.2.2.1.length : Int) 20) : Int).toNat : List (List Int))).bind fun y296 => ((Zat.f k x7 x1 bt282.2.1 bt282.2.2.1 bt282.2.2.2.1 bt282.2.2.2.2.1 y296 bt282.2.2.2.2.2.2).bind fun t299 => (some (x7, x1, bt282.2.1, bt282.2.2.1, bt282.2.2.2.1, bt282.2.2.2.2.1, y296, bt282.2.2.2.2.2.2, (t299 == 0))))) else (none)) else (none)))
def Zaq.f (k : Nat) (l0_0 : List (List Int)) (a0_1 : Int) (l0_2 : List Int) (l0_3 : List Int) (a0_4 : Int) (a0_5 : Int) (l0_6 : List (List Int)) (a0_7 : Int) (l0_8 : List Int) (l0_9 : List Int) (a1 : Int) : Option ((List (List (S41))) × Int × List Int × List Int × Int × Int × (List (List Int)) × Int × Bool) := Zaq.l0 k a1 (([] : List (List (S41)))) 0 l0_0 a0_1 l0_2 l0_3 a0_4 a0_5 l0_6 a0_7 l0_8 l0_9
theorem Zaq.Zb4 : ∀ k, (∀ y0 y1 y2 y3 y4 y5 y6 y7 y8 y9 y10 y11 y12, LeO (Zaq.l0 k y0 y1 y2 y3 y4 y5 y6 y7 y8 y9 y10 y11 y12) (Zaq.l0 (k + 1) y0 y1 y2 y3 y4 y5 y6 y7 y8 y9 y10 y11 y12))
 | 0 => fun _ _ _ _ _ _ _ _ _ _ _ _ _ r h => by simp [Zaq.l0] at h
 | k + 1 => by
  have ih0 := Zaq.Zb4 k
  intro y0 y1 y2 y3 y4 y5 y6 y7 y8 y9 y10 y11 y12
  unfold Zaq.l0
  repeat' first
  | (with_reducible exact ih0 _ _ _ _ _ _ _ _ _ _ _ _ _)
  | (with_reducible exact Zba.mono _ _)
  | (with_reducible exact Zat.mono _ _ _ _ _ _ _ _ _)
  | (with_reducible exact Zb0.mono _ _ _ _ _ _ _ _)
  | (with_reducible exact LeO.refl _)
  | (with_reducible exact LeO.none _)
  | (with_reducible refine LeO.ite ?_ ?_)
  | (with_reducible refine LeO.bind ?_ (fun _ => ?_))
  | exact ih0 _ _ _ _ _ _ _ _ _ _ _ _ _
  | exact Zba.mono _ _
  | exact Zat.mono _ _ _ _ _ _ _ _ _
  | exact Zb0.mono _ _ _ _ _ _ _ _
  | exact LeO.none _
  | refine LeO.ite ?_ ?_
  | refine LeO.bind ?_ (fun _ => ?_)
theorem Zaq.mono : ∀ a0 a1 a2 a3 a4 a5 a6 a7 a8 a9 a10 k, LeO (Zaq.f k a0 a1 a2 a3 a4 a5 a6 a7 a8 a9 a10) (Zaq.f (k + 1) a0 a1 a2 a3 a4 a5 a6 a7 a8 a9 a10) := by
 intro a0 a1 a2 a3 a4 a5 a6 a7 a8 a9 a10 k
 have ih0 := Zaq.Zb4 k
 unfold Zaq.f
 repeat' first
   | (with_reducible exact ih0 _ _ _ _ _ _ _ _ _ _ _ _ _)
   | (with_reducible exact Zba.mono _ _)
   | (with_reducible exact Zat.mono _ _ _ _ _ _ _ _ _)
   | (with_reducible exact Zb0.mono _ _ _ _ _ _ _ _)
   | (with_reducible exact LeO.refl _)
   | (with_reducible exact LeO.none _)
   | (with_reducible refine LeO.ite ?_ ?_)
   | (with_reducible refine LeO.bind ?_ (fun _ => ?_))
   | exact ih0 _ _ _ _ _ _ _ _ _ _ _ _ _
   | exact Zba.mono _ _
   | exact Zat.mono _ _ _ _ _ _ _ _ _
   | exact Zb0.mono _ _ _ _ _ _ _ _
   | exact LeO.none _
   | refine LeO.ite ?_ ?_
   | refine LeO.bind ?_ (fun _ => ?_)
def Zaq.T5 : Bool × List (List Nat × List Nat) := (true, [([], []), ([], []), ([1], [1]), ([], []), ([2, 3], [2, 3]), ([4], [4]), ([], []), ([6], [6]), ([], []), ([7, 8], [7, 8]), ([9], [9]), ([10], [10]), ([11], [11]), ([5, 12], [5, 12]), ([13], [13]), ([14], [14]), ([0, 15, 14], [0, 15]), ([16, 16, 0, 1, 2, 3, 4, 5, 6, 7, 8, 9, 10, 11, 12, 13, 14, 15, 16], [0, 16])])
def Zaq.B5 : List Nat := [0, 0, 2, 0, 14, 30, 0, 64, 0, 448, 960, 1984, 4032, 8190, 16382, 32766, 65535, 131071]
theorem Zaq.tab5 : rtab .any (opsOf Try.f14 5) = Zaq.T5 := by kernel_rfl
theorem Zaq.bits5 : waitsOk Zaq.T5.2 Zaq.B5 = true := by kernel_rfl
def Zaq.T9 : Bool × List (List Nat × List Nat) := (true, [([], []), ([], []), ([], []), ([], []), ([2, 3], [2, 3]), ([4], [4]), ([0, 4, 0], [0]), ([1, 6, 0, 1, 6], [1]), ([5, 7, 0, 1, 2, 3, 4, 5, 6, 7], [5])])
def Zaq.B9 : List Nat := [0, 0, 0, 0, 12, 28, 29, 95, 255]
theorem Zaq.tab9 : rtab .any (opsOf Try.f14 9) = Zaq.T9 := by kernel_rfl
theorem Zaq.bits9 : waitsOk Zaq.T9.2 Zaq.B9 = true := by kernel_rfl
set_option maxHeartbeats 8000000 in
set_option maxRecDepth 100000 in
theorem Zaq.calls (k : Nat) (A0_0 : Option Addr) (c0_0 : Nat) (l0_0 : List (List Int)) (a0_1 : Int) (A0_2 : Option Addr) (c0_2 : Nat) (l0_2 : List Int) (A0_3 : Option Addr) (c0_3 : Nat) (l0_3 : List Int) (a0_4 : Int) (a0_5 : Int) (A0_6 : Option Addr) (c0_6 : Nat) (l0_6 : List (List Int)) (a0_7 : Int) (A0_8 : Option Addr) (c0_8 : Nat) (l0_8 : List Int) (A0_9 : Option Addr) (c0_9 : Nat) (l0_9 : List Int) (a1 : Int) (r1 : List (List (S41))) (r2 : Int) (r3 : List Int) (r4 : List Int) (r5 : Int) (r6 : Int) (r7 : List (List Int)) (r8 : Int) (r9 : Bool) (w : World) (hr0_0 : Kd.C (Kd.slice 3 (Kd.int .i64)) w A0_0 l0_0.length l0_0) (hc0_0 : l0_0.length ≤ c0_0) (hr0_2 : Kd.C (Kd.int .i64) w A0_2 l0_2.length l0_2) (hc0_2 : l0_2.length ≤ c0_2) (hr0_3 : Kd.C (Kd.int .i64) w A0_3 l0_3.length l0_3) (hc0_3 : l0_3.length ≤ c0_3) (hr0_6 : Kd.C (Kd.slice 3 (Kd.int .i64)) w A0_6 l0_6.length l0_6) (hc0_6 : l0_6.length ≤ c0_6) (hr0_8 : Kd.C (Kd.int .i64) w A0_8 l0_8.length l0_8) (hc0_8 : l0_8.length ≤ c0_8) (hr0_9 : Kd.C (Kd.int .i64) w A0_9 l0_9.length l0_9) (hc0_9 : l0_9.length ≤ c0_9) (h : Zaq.f k l0_0 a0_1 l0_2 l0_3 a0_4 a0_5 l0_6 a0_7 l0_8 l0_9 a1 = some (r1, r2, r3, r4, r5, r6, r7, r8, r9)) :
  Calls Try.prog 14 #[.agg #[.slice A0_0 l0_0.length c0_0, .int .i64 a0_1, .slice A0_2 l0_2.length c0_2, .slice A0_3 l0_3.length c0_3, .int .i64 a0_4, .int .i64 a0_5, .slice A0_6 l0_6.length c0_6, .int .i64 a0_7, .slice A0_8 l0_8.length c0_8, .slice A0_9 l0_9.length c0_9], .int .i64 a1] w fun e w' => ∃ v0_ v2_ v3_ v6_ : Value, e = .returned (.tuple #[v0_, .agg #[.int .i64 r2, v2_, v3_, .int .i64 r5, .int .i64 r6, v6_, .int .i64 r8], .bool r9]) ∧ Kd.S (Kd.slice 41 k41) 39 w' w.heap.size (fun _ => True) v0_ r1 ∧ Kd.R (Kd.int .i64) 3 w' w.heap.size (fun k_ => some k_ ≠ (v3_ : Value).ownBlock) v2_ r3 ∧ Kd.R (Kd.int .i64) 3 w' w.heap.size (fun k_ => some k_ ≠ (v2_ : Value).ownBlock) v3_ r4 ∧ Kd.S (Kd.slice 3 (Kd.int .i64)) 23 w' w.heap.size (fun k_ => some k_ ≠ (v2_ : Value).ownBlock ∧ some k_ ≠ (v3_ : Value).ownBlock) v6_ r7 ∧ Below w.heap.size w w' := by
 have hu27 := Try.underlying27
 have hu25 := Try.underlying25
 have HR0_0 := Zaa.mk hr0_0
 have HC0_0 := Zaa.mk hc0_0
 clear hr0_0 hc0_0
 have HR0_2 := Zaa.mk hr0_2
 have HC0_2 := Zaa.mk hc0_2
 clear hr0_2 hc0_2
 have HR0_3 := Zaa.mk hr0_3
 have HC0_3 := Zaa.mk hc0_3
 clear hr0_3 hc0_3
 have HR0_6 := Zaa.mk hr0_6
 have HC0_6 := Zaa.mk hc0_6
 clear hr0_6 hc0_6
 have HR0_8 := Zaa.mk hr0_8
 have HC0_8 := Zaa.mk hc0_8
 clear hr0_8 hc0_8
 have HR0_9 := Zaa.mk hr0_9
 have HC0_9 := Zaa.mk hc0_9
 clear hr0_9 hc0_9
 have HB := Zaa.mk (Below.refl w.heap.size w)
 have H : (Zaq.l0 k a1 (([] : List (List (S41)))) 0 l0_0 a0_1 l0_2 l0_3 a0_4 a0_5 l0_6 a0_7 l0_8 l0_9) = some (r1, r2, r3, r4, r5, r6, r7, r8, r9) := h
 clear h
 obtain ⟨y252, hy252⟩ : ∃ y_ : List (List (S41)), y_ = (([] : List (List (S41)))) := ⟨_, rfl⟩
 replace H : (Zaq.l0 k a1 y252 0 l0_0 a0_1 l0_2 l0_3 a0_4 a0_5 l0_6 a0_7 l0_8 l0_9) = some (r1, r2, r3, r4, r5, r6, r7, r8, r9) := by first | (rw [hy252]; with_reducible exact H) | (have H2_ := (Option.bind_some _ _).symm.trans H; rw [hy252]; with_reducible exact H2_) | (have H2_ := (Option.bind_some _ _).symm.trans H; with_reducible exact H2_) | with_reducible exact H | (rw [hy252]; exact H) | exact H
 have Ny252 := Zaa.mk hy252
 clear hy252
 have H' := Zaa.mk H
 clear H
 go_enter Try.func14, Try.ntmps14
 go_wp2_with (first | ((with_reducible refine Zbq (N := 2) rfl ?_); refine Zb9 ?hg (N := 2) ?hd (cs := #[.slice A0_0 l0_0.length c0_0, .int .i64 a0_1, .slice A0_2 l0_2.length c0_2, .slice A0_3 l0_3.length c0_3, .int .i64 a0_4, .int .i64 a0_5, .slice A0_6 l0_6.length c0_6, .int .i64 a0_7, .slice A0_8 l0_8.length c0_8, .slice A0_9 l0_9.length c0_9]) (t := 27) ?hr ?_; (case hd => rfl); (case hg => rfl); (case hr => first | (go_simp; done) | (go_simp; rfl)); intro gb250 hg w3 hbox hb; have n0_ := Zaa.mk (Zam (by repeat (first | (with_reducible first | exact HB.out | apply Zab | apply Za | apply Zac) | exact HB.out)) hb); have n1_ := Zaa.mk (hbox); have n3_ := Zaa.mk ((by rw [hg]; exact (Zae (by repeat (first | (with_reducible first | exact HB.out | apply Zab | apply Za | apply Zac) | exact HB.out))) : w.heap.size ≤ gb250)); clear HB; have HB := n0_; have BK250 := n1_; have GE250 := n3_; clear n0_ n1_ n3_; clear hb hbox hg) | ((with_reducible refine Zbq (N := 5) rfl ?_); refine Zb9 ?hg (N := 5) ?hd (cs := #[.int .i64 0, .slice none 0 0, .slice none 0 0, .int .i64 0, .int .i64 0, .slice none 0 0, .int .i64 0]) (t := 25) ?hr ?_; (case hd => rfl); (case hg => rfl); (case hr => first | (go_simp; done) | (go_simp; rfl)); intro gb251 hg w4 hbox hb; have n0_ := Zaa.mk (Zbe (g := gb250) (o := .cells #[.slice A0_0 l0_0.length c0_0, .int .i64 a0_1, .slice A0_2 l0_2.length c0_2, .slice A0_3 l0_3.length c0_3, .int .i64 a0_4, .int .i64 a0_5, .slice A0_6 l0_6.length c0_6, .int .i64 a0_7, .slice A0_8 l0_8.length c0_8, .slice A0_9 l0_9.length c0_9] 27 (0, 0)) (mvK BK250.out) hb); have n1_ := Zaa.mk (Zam (by repeat (first | (with_reducible first | exact HB.out | apply Zab | apply Za | apply Zac | refine Zaf ?_ GE250.out) | exact HB.out)) hb); have n2_ := Zaa.mk (hbox); have n4_ := Zaa.mk ((by rw [hg]; exact (Zae (by repeat (first | (with_reducible first | exact HB.out | apply Zab | apply Za | apply Zac | refine Zaf ?_ GE250.out) | exact HB.out))) : w.heap.size ≤ gb251)); have n5_ := Zaa.mk ((by rw [hg]; exact Nat.ne_of_lt (Zdj (g := gb250) (o := .cells #[.slice A0_0 l0_0.length c0_0, .int .i64 a0_1, .slice A0_2 l0_2.length c0_2, .slice A0_3 l0_3.length c0_3, .int .i64 a0_4, .int .i64 a0_5, .slice A0_6 l0_6.length c0_6, .int .i64 a0_7, .slice A0_8 l0_8.length c0_8, .slice A0_9 l0_9.length c0_9] 27 (0, 0)) (mvK BK250.out)) : gb250 ≠ gb251)); have n6_ := Zaa.mk ((by rw [hg]; exact Nat.ne_of_gt (Zdj (g := gb250) (o := .cells #[.slice A0_0 l0_0.length c0_0, .int .i64 a0_1, .slice A0_2 l0_2.length c0_2, .slice A0_3 l0_3.length c0_3, .int .i64 a0_4, .int .i64 a0_5, .slice A0_6 l0_6.length c0_6, .int .i64 a0_7, .slice A0_8 l0_8.length c0_8, .slice A0_9 l0_9.length c0_9] 27 (0, 0)) (mvK BK250.out)) : gb251 ≠ gb250)); clear BK250; clear HB; have BK250 := n0_; have HB := n1_; have BK251 := n2_; have GE251 := n4_; have NB250_251 := n5_; have NB251_250 := n6_; clear n0_ n1_ n2_ n4_ n5_ n6_; clear hb hbox hg) | ((with_reducible refine Zbq (N := 10) rfl ?_); refine Kd.S_lit (Kd.slice 41 k41) _ 39 ?hg (N := 10) ?hd (xs := ([] : List (List (S41)))) (inner := []) (ok := fun _ => True) (okp := fun _ => True) ?hr ?hp (fun _ hk => hk) trivial (Below.refl _ _) (Nat.le_refl _) (by simp) ?_; (case hd => rfl); (case hg => rfl); (case hr => first | (go_simp; done) | (go_simp; rfl)); (case hp => exact (Reps.none _ _)); intro v253 w5 ho6 hb hg_ hnew_; clear hg_ hnew_; (first | rw [← Ny252.out] at ho6 | (simp only [Int.reduceToNat] at ho6; rw [← Ny252.out] at ho6)); have n0_ := Zaa.mk (Kd.Zgi ho6 (Zae (by repeat (first | (with_reducible first | exact HB.out | apply Zab | apply Za | apply Zac | refine Zaf ?_ GE250.out | refine Zaf ?_ GE251.out) | exact HB.out)))); have n1_ := Zaa.mk (Zbe (g := gb250) (o := .cells #[.slice A0_0 l0_0.length c0_0, .int .i64 a0_1, .slice A0_2 l0_2.length c0_2, .slice A0_3 l0_3.length c0_3, .int .i64 a0_4, .int .i64 a0_5, .slice A0_6 l0_6.length c0_6, .int .i64 a0_7, .slice A0_8 l0_8.length c0_8, .slice A0_9 l0_9.length c0_9] 27 (0, 0)) (mvK BK250.out) hb); have n2_ := Zaa.mk (Zbe (g := gb251) (o := .cells #[.int .i64 0, .slice none 0 0, .slice none 0 0, .int .i64 0, .int .i64 0, .slice none 0 0, .int .i64 0] 25 (0, 0)) (mvK BK251.out) hb); have n3_ := Zaa.mk (Zam (by repeat (first | (with_reducible first | exact HB.out | apply Zab | apply Za | apply Zac | refine Zaf ?_ GE250.out | refine Zaf ?_ GE251.out) | exact HB.out)) hb); clear BK250; clear BK251; clear HB; have HO254 := n0_; have BK250 := n1_; have BK251 := n2_; have HB := n3_; clear n0_ n1_ n2_ n3_; clear hb ho6))
 go_loopg [7, 8] k (fun kq v7 v8 w' => ∃ (x7_1 : List (List (S41))) (x8_1 : Int), v8 = .int .i64 x8_1 ∧ Zaa (Zaq.l0 kq a1 x7_1 x8_1 l0_0 a0_1 l0_2 l0_3 a0_4 a0_5 l0_6 a0_7 l0_8 l0_9 = some (r1, r2, r3, r4, r5, r6, r7, r8, r9)) ∧ Zaa (kq ≤ k) ∧ Zaa (Kd.S (Kd.slice 41 k41) 39 w' w.heap.size (fun _ => True) v7 x7_1) ∧ Zaa (w'.heap[gb250]? = some (.cells #[(.slice A0_0 l0_0.length c0_0), .int .i64 a0_1, (.slice A0_2 l0_2.length c0_2), (.slice A0_3 l0_3.length c0_3), .int .i64 a0_4, .int .i64 a0_5, (.slice A0_6 l0_6.length c0_6), .int .i64 a0_7, (.slice A0_8 l0_8.length c0_8), (.slice A0_9 l0_9.length c0_9)] 27 (0, 0))) ∧ Zaa (w'.heap[gb251]? = some (.cells #[.int .i64 0, (.slice none 0 0), (.slice none 0 0), .int .i64 0, .int .i64 0, (.slice none 0 0), .int .i64 0] 25 (0, 0))) ∧ Zaa (Below w.heap.size w w'))
 case atStart => exact ⟨(y252), (0), (by first | rfl | (simp; done) | (simp [*]; done)), H', ⟨Nat.le_refl _⟩, ⟨by (with_reducible repeat (first | apply Kd.Zd | apply Kd.S_drewN | apply Kd.Zdh)); exact HO254.out⟩, ⟨by (with_reducible repeat (first | refine Zag ?_ _ | refine Zak ?_ | refine Zad ?_ _)); exact BK250.out⟩, ⟨by (with_reducible repeat (first | refine Zag ?_ _ | refine Zak ?_ | refine Zad ?_ _)); exact BK251.out⟩, ⟨by repeat (first | (with_reducible first | exact HB.out | apply Zab | apply Za | apply Zac | refine Zaf ?_ GE250.out | refine Zaf ?_ GE251.out) | exact HB.out)⟩⟩
 case round =>
  clear H'
  try clear c1
  try clear p2
  obtain ⟨x7_1, x8_1, rfl, HA, HK1, HO_7, BK250, BK251, HB⟩ := hrel
  cases gk with
  | zero => exact absurd HA.out (by simp [Zaq.l0])
  | succ k1 =>
   have H := HA.out
   clear HA
   simp only [Zaq.l0] at H
   by_cases c7 : x8_1 < (l0_0.length : Int)
   rotate_left
   ·rw [if_neg c7] at H
    have c7b0 : decide (x8_1 < (l0_0.length : Int)) = false := decide_eq_false c7
    clear c7
    replace H := Option.bind_eq_some_iff.mp H
    obtain ⟨⟨t282, t283, t286, t289, t290, t291, t294⟩, A530, H⟩ := H
    replace H : (if 0 ≤ (mn (t291.length : Int) 20) then (if (mn (t291.length : Int) 20) ≤ (t291.length : Int) then ((some (t291.take ((mn (t291.length : Int) 20) : Int).toNat : List (List Int))).bind fun y296 => ((Zat.f k1 x7_1 a1 t283 t286 t289 t290 y296 t294).bind fun t299 => (some (x7_1, a1, t283, t286, t289, t290, y296, t294, (t299 == 0))))) else (none)) else (none)) = some (r1, r2, r3, r4, r5, r6, r7, r8, r9) := H
    have A53 := Zaa.mk A530
    clear A530
    obtain ⟨ji54, hji54⟩ : ∃ j_ : Int, (mn (t291.length : Int) 20) = j_ := ⟨_, rfl⟩
    replace H : (if 0 ≤ (ji54) then (if (ji54) ≤ (t291.length : Int) then ((some (t291.take ((ji54) : Int).toNat : List (List Int))).bind fun y296 => ((Zat.f k1 x7_1 a1 t283 t286 t289 t290 y296 t294).bind fun t299 => (some (x7_1, a1, t283, t286, t289, t290, y296, t294, (t299 == 0))))) else (none)) else (none)) = some (r1, r2, r3, r4, r5, r6, r7, r8, r9) := by first | (rw [hji54] at H; exact H) | (simp only [hji54] at H ⊢; exact H)
    (try rw [hji54] at A53)
    (try (have hji54h : ji54 ≤ 20 := by (rw [← hji54]; unfold mn; (repeat' split) <;> omega)))
    (try (have hji54g : ji54 ≤ 64 := by omega))
    (try (have hji54l : 0 ≤ ji54 := by (rw [← hji54]; unfold mn; (repeat' split) <;> omega)))
    (try (have hji54m : 0 ≤ ji54 := by omega))
    have hji54_ : (if 20 < (t291.length : Int) then 20 else (t291.length : Int)) = ji54 := hji54
    by_cases c55 : 0 ≤ (ji54)
    rotate_left
    ·rw [if_neg c55] at H
     exact absurd H (by simp)
    rw [if_pos c55] at H
    have c55b0 := eq_true c55
    have c55b1 : decide (0 ≤ (ji54)) = true := decide_eq_true c55
    clear c55
    by_cases c56 : (ji54) ≤ (t291.length : Int)
    rotate_left
    ·rw [if_neg c56] at H
     exact absurd H (by simp)
    rw [if_pos c56] at H
    have c56b0 := eq_true c56
    have c56b1 : decide ((ji54) ≤ (t291.length : Int)) = true := decide_eq_true c56
    clear c56
    obtain ⟨y296, hy296⟩ : ∃ y_ : List (List Int), y_ = (t291.take ((ji54) : Int).toNat) := ⟨_, rfl⟩
    replace H : ((Zat.f k1 x7_1 a1 t283 t286 t289 t290 y296 t294).bind fun t299 => (some (x7_1, a1, t283, t286, t289, t290, y296, t294, (t299 == 0)))) = some (r1, r2, r3, r4, r5, r6, r7, r8, r9) := by first | (rw [hy296]; with_reducible exact H) | (have H2_ := (Option.bind_some _ _).symm.trans H; rw [hy296]; with_reducible exact H2_) | (have H2_ := (Option.bind_some _ _).symm.trans H; with_reducible exact H2_) | with_reducible exact H | (rw [hy296]; exact H) | exact H
    have Ny296 := Zaa.mk hy296
    clear hy296
    replace H := Option.bind_eq_some_iff.mp H
    obtain ⟨t299, A570, H⟩ := H
    replace H : (some (x7_1, a1, t283, t286, t289, t290, y296, t294, (t299 == 0))) = some (r1, r2, r3, r4, r5, r6, r7, r8, r9) := H
    have A57 := Zaa.mk A570
    clear A570
    simp only [Option.some.injEq, Prod.mk.injEq] at H
    obtain ⟨rfl, rfl, rfl, rfl, rfl, rfl, rfl, rfl, rfl⟩ := H
    have hnb58 := NB250_251.out
    have hnc58 := NB251_250.out
    obtain ⟨hcz59_0, hcz59_1, hcz59_2, hcz59_3, hcz59_4, hcz59_5, hcz59_6, hcz59_7, hcz59_8, hcz59_9, hfz59_0, hfz59_1, hfz59_2, hfz59_3, hfz59_4, hfz59_5, hfz59_6, hfz59_7, hfz59_8, hfz59_9⟩ := Zes BK250.out
    try go_wp2_with (first | ((with_reducible refine Zbo (f := 26) rfl ?_); refine Zcr (some 41) rfl rfl Try.func26 (by kernel_rfl) rfl #[.agg #[.int .i64 a0_1, .slice A0_2 l0_2.length c0_2, .slice A0_3 l0_3.length c0_3, .int .i64 a0_4, .int .i64 a0_5, .slice A0_6 l0_6.length c0_6, .int .i64 a0_7]] rfl (by (try simp only [List.map_toArray, List.map_cons, List.map_nil]); first | done | rfl | (simp only [List.length_drop, List.length_take]; rfl)) ?_; (refine withB (m := w.heap.size) (w0 := w) (by repeat (first | (with_reducible first | exact HB.out | apply Zab | apply Za | apply Zac | refine Zaf ?_ GE250.out | refine Zaf ?_ GE251.out) | exact HB.out)) ?_); intro hL_; (with_reducible refine (Zb0.calls k1 a0_1 _ _ l0_2 _ _ l0_3 a0_4 a0_5 _ _ l0_6 a0_7 t282 t283 t286 t289 t290 t291 t294 _ ?side1 ?side2 ?side3 ?side4 ?side5 ?side6 A53.out).mono ?_); (case side1 => repeat (first | exact (Kd.Za8 HR0_2.out HB.out) | (with_reducible refine Kd.C_alloc ?_ _) | (with_reducible refine Kd.Za0 ?_ _) | (with_reducible refine Kd.C_drew ?_))); (case side2 => exact HC0_2.out); (case side3 => repeat (first | exact (Kd.Za8 HR0_3.out HB.out) | (with_reducible refine Kd.C_alloc ?_ _) | (with_reducible refine Kd.Za0 ?_ _) | (with_reducible refine Kd.C_drew ?_))); (case side4 => exact HC0_3.out); (case side5 => repeat (first | exact (Kd.Za8 HR0_6.out HB.out) | (with_reducible refine Kd.C_alloc ?_ _) | (with_reducible refine Kd.Za0 ?_ _) | (with_reducible refine Kd.C_drew ?_))); (case side6 => exact HC0_6.out); rintro e w60 ⟨v284, v287, v292, rfl, ho0, ho1, ho2, hb⟩; refine ⟨_, rfl, ?_⟩; have n0_ := Zaa.mk (Kd.Zdv (mvS HO_7.out) hb); have n1_ := Zaa.mk (Kd.Zbs ho0 (Zae hL_)); have n2_ := Zaa.mk (Kd.Zbs ho1 (Zae hL_)); have n3_ := Zaa.mk (Kd.Zgi ho2 (Zae hL_)); have n4_ := Zaa.mk (Zbe (g := gb250) (o := .cells #[.slice A0_0 l0_0.length c0_0, .int .i64 a0_1, .slice A0_2 l0_2.length c0_2, .slice A0_3 l0_3.length c0_3, .int .i64 a0_4, .int .i64 a0_5, .slice A0_6 l0_6.length c0_6, .int .i64 a0_7, .slice A0_8 l0_8.length c0_8, .slice A0_9 l0_9.length c0_9] 27 (0, 0)) (mvK BK250.out) hb); have n5_ := Zaa.mk (Zbe (g := gb251) (o := .cells #[.int .i64 0, .slice none 0 0, .slice none 0 0, .int .i64 0, .int .i64 0, .slice none 0 0, .int .i64 0] 25 (0, 0)) (mvK BK251.out) hb); have n6_ := Zaa.mk (Zam hL_ hb); clear HO_7; clear BK250; clear BK251; clear HB; have HO_7 := n0_; have HO285 := n1_; have HO288 := n2_; have HO293 := n3_; have BK250 := n4_; have BK251 := n5_; have HB := n6_; clear n0_ n1_ n2_ n3_ n4_ n5_ n6_; (try clear hb); (try clear hb2); (try clear hk); (try clear hi); (try clear ho0); (try clear ho1); (try clear ho2)) | ((with_reducible refine Zbq (N := 9) rfl ?_); refine Zb9 ?hg (N := 9) ?hd (cs := #[.int .i64 0, .slice none 0 0, .slice none 0 0, .int .i64 0, .int .i64 0, .slice none 0 0, .int .i64 0]) (t := 25) ?hr ?_; (case hd => rfl); (case hg => rfl); (case hr => first | (go_simp; done) | (go_simp; rfl)); intro gb295 hg w61 hbox hb; have n0_ := Zaa.mk (Kd.Zdv (mvS HO_7.out) hb); have n1_ := Zaa.mk (Kd.Zca (mvR HO285.out) hb); have n2_ := Zaa.mk (Kd.Zca (mvR HO288.out) hb); have n3_ := Zaa.mk (Kd.Zdv (mvS HO293.out) hb); have n4_ := Zaa.mk (Zbe (g := gb250) (o := .cells #[.slice A0_0 l0_0.length c0_0, .int .i64 a0_1, .slice A0_2 l0_2.length c0_2, .slice A0_3 l0_3.length c0_3, .int .i64 a0_4, .int .i64 a0_5, .slice A0_6 l0_6.length c0_6, .int .i64 a0_7, .slice A0_8 l0_8.length c0_8, .slice A0_9 l0_9.length c0_9] 27 (0, 0)) (mvK BK250.out) hb); have n5_ := Zaa.mk (Zbe (g := gb251) (o := .cells #[.int .i64 0, .slice none 0 0, .slice none 0 0, .int .i64 0, .int .i64 0, .slice none 0 0, .int .i64 0] 25 (0, 0)) (mvK BK251.out) hb); have n6_ := Zaa.mk (Zam (by repeat (first | (with_reducible first | exact HB.out | apply Zab | apply Za | apply Zac | refine Zaf ?_ GE250.out | refine Zaf ?_ GE251.out) | exact HB.out)) hb); have n7_ := Zaa.mk (hbox); have n9_ := Zaa.mk ((by rw [hg]; exact (Zae (by repeat (first | (with_reducible first | exact HB.out | apply Zab | apply Za | apply Zac | refine Zaf ?_ GE250.out | refine Zaf ?_ GE251.out) | exact HB.out))) : w.heap.size ≤ gb295)); have n10_ := Zaa.mk ((by rw [hg]; exact Nat.ne_of_lt (Zdj (g := gb250) (o := .cells #[.slice A0_0 l0_0.length c0_0, .int .i64 a0_1, .slice A0_2 l0_2.length c0_2, .slice A0_3 l0_3.length c0_3, .int .i64 a0_4, .int .i64 a0_5, .slice A0_6 l0_6.length c0_6, .int .i64 a0_7, .slice A0_8 l0_8.length c0_8, .slice A0_9 l0_9.length c0_9] 27 (0, 0)) (mvK BK250.out)) : gb250 ≠ gb295)); have n11_ := Zaa.mk ((by rw [hg]; exact Nat.ne_of_gt (Zdj (g := gb250) (o := .cells #[.slice A0_0 l0_0.length c0_0, .int .i64 a0_1, .slice A0_2 l0_2.length c0_2, .slice A0_3 l0_3.length c0_3, .int .i64 a0_4, .int .i64 a0_5, .slice A0_6 l0_6.length c0_6, .int .i64 a0_7, .slice A0_8 l0_8.length c0_8, .slice A0_9 l0_9.length c0_9] 27 (0, 0)) (mvK BK250.out)) : gb295 ≠ gb250)); have n12_ := Zaa.mk ((by rw [hg]; exact Nat.ne_of_lt (Zdj (g := gb251) (o := .cells #[.int .i64 0, .slice none 0 0, .slice none 0 0, .int .i64 0, .int .i64 0, .slice none 0 0, .int .i64 0] 25 (0, 0)) (mvK BK251.out)) : gb251 ≠ gb295)); have n13_ := Zaa.mk ((by rw [hg]; exact Nat.ne_of_gt (Zdj (g := gb251) (o := .cells #[.int .i64 0, .slice none 0 0, .slice none 0 0, .int .i64 0, .int .i64 0, .slice none 0 0, .int .i64 0] 25 (0, 0)) (mvK BK251.out)) : gb295 ≠ gb251)); clear HO_7; clear HO285; clear HO288; clear HO293; clear BK250; clear BK251; clear HB; have HO_7 := n0_; have HO285 := n1_; have HO288 := n2_; have HO293 := n3_; have BK250 := n4_; have BK251 := n5_; have HB := n6_; have BK295 := n7_; have GE295 := n9_; have NB250_295 := n10_; have NB295_250 := n11_; have NB251_295 := n12_; have NB295_251 := n13_; clear n0_ n1_ n2_ n3_ n4_ n5_ n6_ n7_ n9_ n10_ n11_ n12_ n13_; clear hb hbox hg; have hnb62 := NB295_250.out; have hnc62 := NB250_295.out; have hnb63 := NB295_251.out; have hnc63 := NB251_295.out; obtain ⟨hcz64_0, hcz64_1, hcz64_2, hcz64_3, hcz64_4, hcz64_5, hcz64_6, hfz64_0, hfz64_1, hfz64_2, hfz64_3, hfz64_4, hfz64_5, hfz64_6⟩ := Zcg BK295.out; obtain ⟨Ao65, co65, eo65⟩ := Kd.Zbn HO285.out; subst eo65; obtain ⟨Ao66, co66, eo66⟩ := Kd.Zbn HO288.out; subst eo66; obtain ⟨Ao67, co67, eo67⟩ := Kd.Zgj HO293.out; subst eo67) | ((with_reducible refine Zdu (t := 25) (p := 9) rfl ?_); refine Zdo (t := 25) (p := 9) (v := ?vo_w68) (w1 := (((((((w61.setCell ⟨gb295, 0, none⟩ (.int .i64 t282)).setCell ⟨gb295, 1, none⟩ (.slice Ao65 t283.length co65)).setCell ⟨gb295, 2, none⟩ (.slice Ao66 t286.length co66)).setCell ⟨gb295, 3, none⟩ (.int .i64 t289)).setCell ⟨gb295, 4, none⟩ (.int .i64 t290)).setCell ⟨gb295, 5, none⟩ (.slice Ao67 t291.length co67)).setCell ⟨gb295, 6, none⟩ (.int .i64 t294))) ?hg ?ho ?hn ?hr ?_; (case ho => rfl); (case hg => rfl); (case hn => rfl); (case hr => first | (go_simp; done) | (go_simp; rfl)); intro w68 hw; have n0_ : Zaa (Kd.S (Kd.slice 41 k41) 39 w68 w.heap.size (fun _ => True) u7 x7_1) := ⟨(by rw [hw]; exact (mvS (Kd.Zc5 (Kd.Zcc (p := ⟨gb295, 6, none⟩) (Kd.Zcc (p := ⟨gb295, 5, none⟩) (Kd.Zcc (p := ⟨gb295, 4, none⟩) (Kd.Zcc (p := ⟨gb295, 3, none⟩) (Kd.Zcc (p := ⟨gb295, 2, none⟩) (Kd.Zcc (p := ⟨gb295, 1, none⟩) (Kd.Zcc (p := ⟨gb295, 0, none⟩) (Kd.Zdl HO_7.out BK295.out (by decide)) (fun _ hk => hk.2) (.int .i64 t282)) (fun _ hk => hk.2) (.slice Ao65 t283.length co65)) (fun _ hk => hk.2) (.slice Ao66 t286.length co66)) (fun _ hk => hk.2) (.int .i64 t289)) (fun _ hk => hk.2) (.int .i64 t290)) (fun _ hk => hk.2) (.slice Ao67 t291.length co67)) (fun _ hk => hk.2) (.int .i64 t294)) (fun _ hk => trivial))))⟩; have n1_ : Zaa (Kd.R (Kd.int .i64) 3 w68 w.heap.size (fun k_ => some k_ ≠ (.slice Ao66 t286.length co66 : Value).ownBlock) (.slice Ao65 t283.length co65) t283) := ⟨(by rw [hw]; exact (mvR (Kd.Zbm (Kd.Zb5 (p := ⟨gb295, 6, none⟩) (Kd.Zb5 (p := ⟨gb295, 5, none⟩) (Kd.Zb5 (p := ⟨gb295, 4, none⟩) (Kd.Zb5 (p := ⟨gb295, 3, none⟩) (Kd.Zb5 (p := ⟨gb295, 2, none⟩) (Kd.Zb5 (p := ⟨gb295, 1, none⟩) (Kd.Zb5 (p := ⟨gb295, 0, none⟩) (Kd.Zc HO285.out BK295.out (by decide)) (fun _ hk => hk.2) (.int .i64 t282)) (fun _ hk => hk.2) (.slice Ao65 t283.length co65)) (fun _ hk => hk.2) (.slice Ao66 t286.length co66)) (fun _ hk => hk.2) (.int .i64 t289)) (fun _ hk => hk.2) (.int .i64 t290)) (fun _ hk => hk.2) (.slice Ao67 t291.length co67)) (fun _ hk => hk.2) (.int .i64 t294)) (fun _ hk => hk.1))))⟩; have n2_ : Zaa (Kd.R (Kd.int .i64) 3 w68 w.heap.size (fun k_ => some k_ ≠ (.slice Ao65 t283.length co65 : Value).ownBlock) (.slice Ao66 t286.length co66) t286) := ⟨(by rw [hw]; exact (mvR (Kd.Zbm (Kd.Zb5 (p := ⟨gb295, 6, none⟩) (Kd.Zb5 (p := ⟨gb295, 5, none⟩) (Kd.Zb5 (p := ⟨gb295, 4, none⟩) (Kd.Zb5 (p := ⟨gb295, 3, none⟩) (Kd.Zb5 (p := ⟨gb295, 2, none⟩) (Kd.Zb5 (p := ⟨gb295, 1, none⟩) (Kd.Zb5 (p := ⟨gb295, 0, none⟩) (Kd.Zc HO288.out BK295.out (by decide)) (fun _ hk => hk.2) (.int .i64 t282)) (fun _ hk => hk.2) (.slice Ao65 t283.length co65)) (fun _ hk => hk.2) (.slice Ao66 t286.length co66)) (fun _ hk => hk.2) (.int .i64 t289)) (fun _ hk => hk.2) (.int .i64 t290)) (fun _ hk => hk.2) (.slice Ao67 t291.length co67)) (fun _ hk => hk.2) (.int .i64 t294)) (fun _ hk => hk.1))))⟩; have n3_ : Zaa (Kd.S (Kd.slice 3 (Kd.int .i64)) 23 w68 w.heap.size (fun k_ => some k_ ≠ (.slice Ao65 t283.length co65 : Value).ownBlock ∧ some k_ ≠ (.slice Ao66 t286.length co66 : Value).ownBlock) (.slice Ao67 t291.length co67) t291) := ⟨(by rw [hw]; exact (mvS (Kd.Zc5 (Kd.Zcc (p := ⟨gb295, 6, none⟩) (Kd.Zcc (p := ⟨gb295, 5, none⟩) (Kd.Zcc (p := ⟨gb295, 4, none⟩) (Kd.Zcc (p := ⟨gb295, 3, none⟩) (Kd.Zcc (p := ⟨gb295, 2, none⟩) (Kd.Zcc (p := ⟨gb295, 1, none⟩) (Kd.Zcc (p := ⟨gb295, 0, none⟩) (Kd.Zdl HO293.out BK295.out (by decide)) (fun _ hk => hk.2) (.int .i64 t282)) (fun _ hk => hk.2) (.slice Ao65 t283.length co65)) (fun _ hk => hk.2) (.slice Ao66 t286.length co66)) (fun _ hk => hk.2) (.int .i64 t289)) (fun _ hk => hk.2) (.int .i64 t290)) (fun _ hk => hk.2) (.slice Ao67 t291.length co67)) (fun _ hk => hk.2) (.int .i64 t294)) (fun _ hk => ⟨hk.1.1, hk.1.2⟩))))⟩; have n4_ : Zaa (w68.heap[gb250]? = some (.cells #[.slice A0_0 l0_0.length c0_0, .int .i64 a0_1, .slice A0_2 l0_2.length c0_2, .slice A0_3 l0_3.length c0_3, .int .i64 a0_4, .int .i64 a0_5, .slice A0_6 l0_6.length c0_6, .int .i64 a0_7, .slice A0_8 l0_8.length c0_8, .slice A0_9 l0_9.length c0_9] 27 (0, 0))) := ⟨(by rw [hw]; exact (by (with_reducible repeat (first | refine Zag ?_ _ | refine Zak ?_ | refine Zad ?_ _)); refine Zcb ?_ NB250_295.out _; (with_reducible repeat (first | refine Zag ?_ _ | refine Zak ?_ | refine Zad ?_ _)); refine Zcb ?_ NB250_295.out _; (with_reducible repeat (first | refine Zag ?_ _ | refine Zak ?_ | refine Zad ?_ _)); refine Zcb ?_ NB250_295.out _; (with_reducible repeat (first | refine Zag ?_ _ | refine Zak ?_ | refine Zad ?_ _)); refine Zcb ?_ NB250_295.out _; (with_reducible repeat (first | refine Zag ?_ _ | refine Zak ?_ | refine Zad ?_ _)); refine Zcb ?_ NB250_295.out _; (with_reducible repeat (first | refine Zag ?_ _ | refine Zak ?_ | refine Zad ?_ _)); refine Zcb ?_ NB250_295.out _; (with_reducible repeat (first | refine Zag ?_ _ | refine Zak ?_ | refine Zad ?_ _)); refine Zcb ?_ NB250_295.out _; (with_reducible repeat (first | refine Zag ?_ _ | refine Zak ?_ | refine Zad ?_ _)); exact BK250.out))⟩; have n5_ : Zaa (w68.heap[gb251]? = some (.cells #[.int .i64 0, .slice none 0 0, .slice none 0 0, .int .i64 0, .int .i64 0, .slice none 0 0, .int .i64 0] 25 (0, 0))) := ⟨(by rw [hw]; exact (by (with_reducible repeat (first | refine Zag ?_ _ | refine Zak ?_ | refine Zad ?_ _)); refine Zcb ?_ NB251_295.out _; (with_reducible repeat (first | refine Zag ?_ _ | refine Zak ?_ | refine Zad ?_ _)); refine Zcb ?_ NB251_295.out _; (with_reducible repeat (first | refine Zag ?_ _ | refine Zak ?_ | refine Zad ?_ _)); refine Zcb ?_ NB251_295.out _; (with_reducible repeat (first | refine Zag ?_ _ | refine Zak ?_ | refine Zad ?_ _)); refine Zcb ?_ NB251_295.out _; (with_reducible repeat (first | refine Zag ?_ _ | refine Zak ?_ | refine Zad ?_ _)); refine Zcb ?_ NB251_295.out _; (with_reducible repeat (first | refine Zag ?_ _ | refine Zak ?_ | refine Zad ?_ _)); refine Zcb ?_ NB251_295.out _; (with_reducible repeat (first | refine Zag ?_ _ | refine Zak ?_ | refine Zad ?_ _)); refine Zcb ?_ NB251_295.out _; (with_reducible repeat (first | refine Zag ?_ _ | refine Zak ?_ | refine Zad ?_ _)); exact BK251.out))⟩; have n6_ : Zaa (w68.heap[gb295]? = some (.cells #[.int .i64 t282, .slice Ao65 t283.length co65, .slice Ao66 t286.length co66, .int .i64 t289, .int .i64 t290, .slice Ao67 t291.length co67, .int .i64 t294] 25 (0, 0))) := ⟨(by rw [hw]; exact (by (with_reducible repeat (first | refine Zag ?_ _ | refine Zak ?_ | refine Zad ?_ _)); refine Zbl (cs := #[.int .i64 t282, .slice Ao65 t283.length co65, .slice Ao66 t286.length co66, .int .i64 t289, .int .i64 t290, .slice Ao67 t291.length co67, .int .i64 0]) ?_ 6 _ rfl; (with_reducible repeat (first | refine Zag ?_ _ | refine Zak ?_ | refine Zad ?_ _)); refine Zbl (cs := #[.int .i64 t282, .slice Ao65 t283.length co65, .slice Ao66 t286.length co66, .int .i64 t289, .int .i64 t290, .slice none 0 0, .int .i64 0]) ?_ 5 _ rfl; (with_reducible repeat (first | refine Zag ?_ _ | refine Zak ?_ | refine Zad ?_ _)); refine Zbl (cs := #[.int .i64 t282, .slice Ao65 t283.length co65, .slice Ao66 t286.length co66, .int .i64 t289, .int .i64 0, .slice none 0 0, .int .i64 0]) ?_ 4 _ rfl; (with_reducible repeat (first | refine Zag ?_ _ | refine Zak ?_ | refine Zad ?_ _)); refine Zbl (cs := #[.int .i64 t282, .slice Ao65 t283.length co65, .slice Ao66 t286.length co66, .int .i64 0, .int .i64 0, .slice none 0 0, .int .i64 0]) ?_ 3 _ rfl; (with_reducible repeat (first | refine Zag ?_ _ | refine Zak ?_ | refine Zad ?_ _)); refine Zbl (cs := #[.int .i64 t282, .slice Ao65 t283.length co65, .slice none 0 0, .int .i64 0, .int .i64 0, .slice none 0 0, .int .i64 0]) ?_ 2 _ rfl; (with_reducible repeat (first | refine Zag ?_ _ | refine Zak ?_ | refine Zad ?_ _)); refine Zbl (cs := #[.int .i64 t282, .slice none 0 0, .slice none 0 0, .int .i64 0, .int .i64 0, .slice none 0 0, .int .i64 0]) ?_ 1 _ rfl; (with_reducible repeat (first | refine Zag ?_ _ | refine Zak ?_ | refine Zad ?_ _)); refine Zbl (cs := #[.int .i64 0, .slice none 0 0, .slice none 0 0, .int .i64 0, .int .i64 0, .slice none 0 0, .int .i64 0]) ?_ 0 _ rfl; (with_reducible repeat (first | refine Zag ?_ _ | refine Zak ?_ | refine Zad ?_ _)); exact BK295.out))⟩; have n7_ : Zaa (Below w.heap.size w w68) := ⟨(by rw [hw]; exact (by repeat (first | (with_reducible first | exact HB.out | apply Zab | apply Za | apply Zac | refine Zaf ?_ GE250.out | refine Zaf ?_ GE251.out | refine Zaf ?_ GE295.out) | exact HB.out)))⟩; clear hw; clear HO_7; clear HO285; clear HO288; clear HO293; clear BK250; clear BK251; clear BK295; clear HB; have HO_7 := n0_; have HO285 := n1_; have HO288 := n2_; have HO293 := n3_; have BK250 := n4_; have BK251 := n5_; have BK295 := n6_; have HB := n7_; clear n0_ n1_ n2_ n3_ n4_ n5_ n6_ n7_; obtain ⟨hcz69_0, hcz69_1, hcz69_2, hcz69_3, hcz69_4, hcz69_5, hcz69_6, hfz69_0, hfz69_1, hfz69_2, hfz69_3, hfz69_4, hfz69_5, hfz69_6⟩ := Zcg BK295.out) | ((with_reducible refine Zdu (t := 3) (p := 43) rfl ?_); refine Zdo (t := 3) (p := 43) (v := ?vo_w70) (w1 := (w68.setCell ⟨gb295, 0, none⟩ (.int .i64 a1))) ?hg ?ho ?hn ?hr ?_; (case ho => rfl); (case hg => rfl); (case hn => rfl); (case hr => first | (go_simp; done) | (go_simp; rfl)); intro w70 hw; have n0_ : Zaa (Kd.S (Kd.slice 41 k41) 39 w70 w.heap.size (fun _ => True) u7 x7_1) := ⟨(by rw [hw]; exact (mvS (Kd.Zc5 (Kd.Zcc (p := ⟨gb295, 0, none⟩) (Kd.Zdl HO_7.out BK295.out (by decide)) (fun _ hk => hk.2) (.int .i64 a1)) (fun _ hk => trivial))))⟩; have n1_ : Zaa (Kd.R (Kd.int .i64) 3 w70 w.heap.size (fun k_ => some k_ ≠ (.slice Ao66 t286.length co66 : Value).ownBlock) (.slice Ao65 t283.length co65) t283) := ⟨(by rw [hw]; exact (mvR (Kd.Zbm (Kd.Zb5 (p := ⟨gb295, 0, none⟩) (Kd.Zc HO285.out BK295.out (by decide)) (fun _ hk => hk.2) (.int .i64 a1)) (fun _ hk => hk.1))))⟩; have n2_ : Zaa (Kd.R (Kd.int .i64) 3 w70 w.heap.size (fun k_ => some k_ ≠ (.slice Ao65 t283.length co65 : Value).ownBlock) (.slice Ao66 t286.length co66) t286) := ⟨(by rw [hw]; exact (mvR (Kd.Zbm (Kd.Zb5 (p := ⟨gb295, 0, none⟩) (Kd.Zc HO288.out BK295.out (by decide)) (fun _ hk => hk.2) (.int .i64 a1)) (fun _ hk => hk.1))))⟩; have n3_ : Zaa (Kd.S (Kd.slice 3 (Kd.int .i64)) 23 w70 w.heap.size (fun k_ => some k_ ≠ (.slice Ao65 t283.length co65 : Value).ownBlock ∧ some k_ ≠ (.slice Ao66 t286.length co66 : Value).ownBlock) (.slice Ao67 t291.length co67) t291) := ⟨(by rw [hw]; exact (mvS (Kd.Zc5 (Kd.Zcc (p := ⟨gb295, 0, none⟩) (Kd.Zdl HO293.out BK295.out (by decide)) (fun _ hk => hk.2) (.int .i64 a1)) (fun _ hk => ⟨hk.1.1, hk.1.2⟩))))⟩; have n4_ : Zaa (w70.heap[gb250]? = some (.cells #[.slice A0_0 l0_0.length c0_0, .int .i64 a0_1, .slice A0_2 l0_2.length c0_2, .slice A0_3 l0_3.length c0_3, .int .i64 a0_4, .int .i64 a0_5, .slice A0_6 l0_6.length c0_6, .int .i64 a0_7, .slice A0_8 l0_8.length c0_8, .slice A0_9 l0_9.length c0_9] 27 (0, 0))) := ⟨(by rw [hw]; exact (by (with_reducible repeat (first | refine Zag ?_ _ | refine Zak ?_ | refine Zad ?_ _)); refine Zcb ?_ NB250_295.out _; (with_reducible repeat (first | refine Zag ?_ _ | refine Zak ?_ | refine Zad ?_ _)); exact BK250.out))⟩; have n5_ : Zaa (w70.heap[gb251]? = some (.cells #[.int .i64 0, .slice none 0 0, .slice none 0 0, .int .i64 0, .int .i64 0, .slice none 0 0, .int .i64 0] 25 (0, 0))) := ⟨(by rw [hw]; exact (by (with_reducible repeat (first | refine Zag ?_ _ | refine Zak ?_ | refine Zad ?_ _)); refine Zcb ?_ NB251_295.out _; (with_reducible repeat (first | refine Zag ?_ _ | refine Zak ?_ | refine Zad ?_ _)); exact BK251.out))⟩; have n6_ : Zaa (w70.heap[gb295]? = some (.cells #[.int .i64 a1, .slice Ao65 t283.length co65, .slice Ao66 t286.length co66, .int .i64 t289, .int .i64 t290, .slice Ao67 t291.length co67, .int .i64 t294] 25 (0, 0))) := ⟨(by rw [hw]; exact (by (with_reducible repeat (first | refine Zag ?_ _ | refine Zak ?_ | refine Zad ?_ _)); refine Zbl (cs := #[.int .i64 t282, .slice Ao65 t283.length co65, .slice Ao66 t286.length co66, .int .i64 t289, .int .i64 t290, .slice Ao67 t291.length co67, .int .i64 t294]) ?_ 0 _ rfl; (with_reducible repeat (first | refine Zag ?_ _ | refine Zak ?_ | refine Zad ?_ _)); exact BK295.out))⟩; have n7_ : Zaa (Below w.heap.size w w70) := ⟨(by rw [hw]; exact (by repeat (first | (with_reducible first | exact HB.out | apply Zab | apply Za | apply Zac | refine Zaf ?_ GE250.out | refine Zaf ?_ GE251.out | refine Zaf ?_ GE295.out) | exact HB.out)))⟩; clear hw; clear HO_7; clear HO285; clear HO288; clear HO293; clear BK250; clear BK251; clear BK295; clear HB; have HO_7 := n0_; have HO285 := n1_; have HO288 := n2_; have HO293 := n3_; have BK250 := n4_; have BK251 := n5_; have BK295 := n6_; have HB := n7_; clear n0_ n1_ n2_ n3_ n4_ n5_ n6_ n7_; obtain ⟨hcz71_0, hcz71_1, hcz71_2, hcz71_3, hcz71_4, hcz71_5, hcz71_6, hfz71_0, hfz71_1, hfz71_2, hfz71_3, hfz71_4, hfz71_5, hfz71_6⟩ := Zcg BK295.out; have q72 : ((ji54) : Int) ≤ ((t291.length : Int) : Int) := of_decide_eq_true (by first | (with_reducible assumption) | assumption); obtain ⟨i072, hi072, _, hsz72, _⟩ := info_parts info23; have hcut72 := cut_to (P := Try.prog) 22 23 .i64 Try.underlying22 hi072 Ao67 t291.length co67 (ji54) (of_decide_eq_true (by first | (with_reducible assumption) | assumption)) q72 (Kd.Zd0 HO293.out).2.1; have hr72 := Kd.S_take (m := ((ji54) : Int).toNat) HO293.out (by omega); have hy72 : y296.length = ((ji54) : Int).toNat := (by rw [Ny296.out, List.length_take]; omega); rw [← Ny296.out] at hr72; rw [← hy72] at hr72 hcut72; clear hy72 hi072 hsz72 HO293; have HO298 := Zaa.mk hr72; clear hr72; replace q72 := eq_true q72))
    have n0_ : Zaa (Kd.S (Kd.slice 41 k41) 39 (w70.setCell ⟨gb295, 5, none⟩ (.slice Ao67 y296.length co67)) w.heap.size (fun _ => True) u7 x7_1) := ⟨by (with_reducible repeat (first | apply Kd.Zd | apply Kd.S_drewN | apply Kd.Zdh)); exact Kd.Zc5 (Kd.Zcc (p := ⟨gb295, 5, none⟩) (Kd.Zdl HO_7.out BK295.out (by decide)) (fun _ hk => hk.2) (.slice Ao67 y296.length co67)) (fun _ hk => trivial)⟩
    have n1_ : Zaa (Kd.R (Kd.int .i64) 3 (w70.setCell ⟨gb295, 5, none⟩ (.slice Ao67 y296.length co67)) w.heap.size (fun k_ => some k_ ≠ (.slice Ao66 t286.length co66 : Value).ownBlock) (.slice Ao65 t283.length co65) t283) := ⟨by (with_reducible repeat (first | apply Kd.Za6 | apply Kd.Za5 | apply Kd.Zbb)); exact Kd.Zbm (Kd.Zb5 (p := ⟨gb295, 5, none⟩) (Kd.Zc HO285.out BK295.out (by decide)) (fun _ hk => hk.2) (.slice Ao67 y296.length co67)) (fun _ hk => hk.1)⟩
    have n2_ : Zaa (Kd.R (Kd.int .i64) 3 (w70.setCell ⟨gb295, 5, none⟩ (.slice Ao67 y296.length co67)) w.heap.size (fun k_ => some k_ ≠ (.slice Ao65 t283.length co65 : Value).ownBlock) (.slice Ao66 t286.length co66) t286) := ⟨by (with_reducible repeat (first | apply Kd.Za6 | apply Kd.Za5 | apply Kd.Zbb)); exact Kd.Zbm (Kd.Zb5 (p := ⟨gb295, 5, none⟩) (Kd.Zc HO288.out BK295.out (by decide)) (fun _ hk => hk.2) (.slice Ao67 y296.length co67)) (fun _ hk => hk.1)⟩
    have n3_ : Zaa (Kd.S (Kd.slice 3 (Kd.int .i64)) 23 (w70.setCell ⟨gb295, 5, none⟩ (.slice Ao67 y296.length co67)) w.heap.size (fun k_ => some k_ ≠ (.slice Ao65 t283.length co65 : Value).ownBlock ∧ some k_ ≠ (.slice Ao66 t286.length co66 : Value).ownBlock) (.slice Ao67 y296.length co67) y296) := ⟨by (with_reducible repeat (first | apply Kd.Zd | apply Kd.S_drewN | apply Kd.Zdh)); exact Kd.Zc5 (Kd.Zcc (p := ⟨gb295, 5, none⟩) (Kd.Zdl HO298.out BK295.out (by decide)) (fun _ hk => hk.2) (.slice Ao67 y296.length co67)) (fun _ hk => ⟨hk.1.1, hk.1.2⟩)⟩
    have n4_ : Zaa ((w70.setCell ⟨gb295, 5, none⟩ (.slice Ao67 y296.length co67)).heap[gb250]? = some (.cells #[.slice A0_0 l0_0.length c0_0, .int .i64 a0_1, .slice A0_2 l0_2.length c0_2, .slice A0_3 l0_3.length c0_3, .int .i64 a0_4, .int .i64 a0_5, .slice A0_6 l0_6.length c0_6, .int .i64 a0_7, .slice A0_8 l0_8.length c0_8, .slice A0_9 l0_9.length c0_9] 27 (0, 0))) := ⟨by (with_reducible repeat (first | refine Zag ?_ _ | refine Zak ?_ | refine Zad ?_ _)); refine Zcb ?_ NB250_295.out _; (with_reducible repeat (first | refine Zag ?_ _ | refine Zak ?_ | refine Zad ?_ _)); exact BK250.out⟩
    have n5_ : Zaa ((w70.setCell ⟨gb295, 5, none⟩ (.slice Ao67 y296.length co67)).heap[gb251]? = some (.cells #[.int .i64 0, .slice none 0 0, .slice none 0 0, .int .i64 0, .int .i64 0, .slice none 0 0, .int .i64 0] 25 (0, 0))) := ⟨by (with_reducible repeat (first | refine Zag ?_ _ | refine Zak ?_ | refine Zad ?_ _)); refine Zcb ?_ NB251_295.out _; (with_reducible repeat (first | refine Zag ?_ _ | refine Zak ?_ | refine Zad ?_ _)); exact BK251.out⟩
    have n6_ : Zaa ((w70.setCell ⟨gb295, 5, none⟩ (.slice Ao67 y296.length co67)).heap[gb295]? = some (.cells #[.int .i64 a1, .slice Ao65 t283.length co65, .slice Ao66 t286.length co66, .int .i64 t289, .int .i64 t290, .slice Ao67 y296.length co67, .int .i64 t294] 25 (0, 0))) := ⟨by (with_reducible repeat (first | refine Zag ?_ _ | refine Zak ?_ | refine Zad ?_ _)); refine Zbl (cs := #[.int .i64 a1, .slice Ao65 t283.length co65, .slice Ao66 t286.length co66, .int .i64 t289, .int .i64 t290, .slice Ao67 t291.length co67, .int .i64 t294]) ?_ 5 _ rfl; (with_reducible repeat (first | refine Zag ?_ _ | refine Zak ?_ | refine Zad ?_ _)); exact BK295.out⟩
    have n7_ : Zaa (Below w.heap.size w (w70.setCell ⟨gb295, 5, none⟩ (.slice Ao67 y296.length co67))) := ⟨by repeat (first | (with_reducible first | exact HB.out | apply Zab | apply Za | apply Zac | refine Zaf ?_ GE250.out | refine Zaf ?_ GE251.out | refine Zaf ?_ GE295.out) | exact HB.out)⟩
    (try clear HO_7)
    (try clear HO285)
    (try clear HO288)
    (try clear HO298)
    (try clear BK250)
    (try clear BK251)
    (try clear BK295)
    (try clear HB)
    generalize (w70.setCell ⟨gb295, 5, none⟩ (.slice Ao67 y296.length co67)) = w73 at n0_ n1_ n2_ n3_ n4_ n5_ n6_ n7_ ⊢
    have HO_7 := n0_
    have HO285 := n1_
    have HO288 := n2_
    have HO298 := n3_
    have BK250 := n4_
    have BK251 := n5_
    have BK295 := n6_
    have HB := n7_
    clear n0_ n1_ n2_ n3_ n4_ n5_ n6_ n7_
    have n0_ := Zaa.mk (Kd.Zdh HO_7.out)
    have n1_ := Zaa.mk (Kd.Zbb HO285.out)
    have n2_ := Zaa.mk (Kd.Zbb HO288.out)
    have n3_ := Zaa.mk (Kd.Zdh HO298.out)
    have n4_ := Zaa.mk (Zak BK250.out)
    have n5_ := Zaa.mk (Zak BK251.out)
    have n6_ := Zaa.mk (Zak BK295.out)
    have n7_ := Zaa.mk (Zac HB.out)
    clear HO_7
    clear HO285
    clear HO288
    clear HO298
    clear BK250
    clear BK251
    clear BK295
    clear HB
    have HO_7 := n0_
    have HO285 := n1_
    have HO288 := n2_
    have HO298 := n3_
    have BK250 := n4_
    have BK251 := n5_
    have BK295 := n6_
    have HB := n7_
    clear n0_ n1_ n2_ n3_ n4_ n5_ n6_ n7_
    obtain ⟨Ao75, co75, eo75⟩ := Kd.Zgj HO_7.out
    (first | subst eo75 | (injection eo75 with f1_ f2_ f3_; have f4_ := f1_.symm; have f5_ := f3_.symm; clear f1_ f2_ f3_; subst f4_; subst f5_))
    refine Zeg (n := 9) (S := fun w' => w'.cell? ⟨gb295, 0, none⟩ = some (.int .i64 a1) ∧ w'.cell? ⟨gb295, 1, none⟩ = some (.slice Ao65 t283.length co65) ∧ w'.cell? ⟨gb295, 2, none⟩ = some (.slice Ao66 t286.length co66) ∧ w'.cell? ⟨gb295, 3, none⟩ = some (.int .i64 t289) ∧ w'.cell? ⟨gb295, 4, none⟩ = some (.int .i64 t290) ∧ w'.cell? ⟨gb295, 5, none⟩ = some (.slice Ao67 y296.length co67) ∧ w'.cell? ⟨gb295, 6, none⟩ = some (.int .i64 t294)) (ds := []) #[false, false, false, false, false, false, false, false, false] (by kernel_rfl) rfl rfl ⟨(Za3 BK295.out 0).trans rfl, (Za3 BK295.out 1).trans rfl, (Za3 BK295.out 2).trans rfl, (Za3 BK295.out 3).trans rfl, (Za3 BK295.out 4).trans rfl, (Za3 BK295.out 5).trans rfl, (Za3 BK295.out 6).trans rfl⟩ (fun hHeld => ?_); refine Zda Zaq.tab9 Zaq.bits9 (fun HT_ HW_ => ?_)
    generalize w73.drew = w74 at HO_7 HO285 HO288 HO298 BK250 BK251 BK295 HB hHeld ⊢
    refine Zbv (i := 0) (N := some 52) (v := ?_) (a' := ?_) #[true, false, false, false, false, false, false, false, false] rfl rfl (Zbf HT_.out (by kernel_rfl)) (fun _ _ _ h => h) (Or.inl ⟨by rfl, ?_⟩) ?_ ?_
    rotate_left
    ·intro w'
     go_simp
     with_reducible rfl
    rotate_left
    ·simp only [Act.put, List.setIfInBounds_toArray, List.set_cons_zero, List.set_cons_succ, Zbh, Zbi]
     rfl
    refine Zbv (i := 2) (N := some 54) (v := ?_) (a' := ?_) #[true, false, true, false, false, false, false, false, false] rfl rfl (Zbf HT_.out (by kernel_rfl)) (fun _ _ _ h => h) (Or.inl ⟨by rfl, ?_⟩) ?_ ?_
    rotate_left
    ·intro w'
     go_simp
     with_reducible rfl
    rotate_left
    ·simp only [Act.put, List.setIfInBounds_toArray, List.set_cons_zero, List.set_cons_succ, Zbh, Zbi]
     rfl
    refine Zdw (i := 1) (N := some 53) (v := ?_) (a' := ?_) #[true, true, true, false, false, false, false, false, false] rfl rfl (Zcq HT_.out HW_.out (by kernel_rfl)) (fun _ _ _ h => h) (Or.inl ⟨by rfl, ?_⟩) hHeld ?_ ?_
    rotate_left
    ·rintro w' ⟨s0, s1, s2, s3, s4, s5, s6⟩
     go_simp
     with_reducible rfl
    rotate_left
    ·simp only [Act.put, List.setIfInBounds_toArray, List.set_cons_zero, List.set_cons_succ, Zbh, Zbi]
     rfl
    refine Zdw (i := 3) (N := some 55) (v := ?_) (a' := ?_) #[true, true, true, true, false, false, false, false, false] rfl rfl (Zcq HT_.out HW_.out (by kernel_rfl)) (fun _ _ _ h => h) (Or.inl ⟨by rfl, ?_⟩) hHeld ?_ ?_
    rotate_left
    ·rintro w' ⟨s0, s1, s2, s3, s4, s5, s6⟩
     go_simp
     with_reducible rfl
    rotate_left
    ·simp only [Act.put, List.setIfInBounds_toArray, List.set_cons_zero, List.set_cons_succ, Zbh, Zbi]
     rfl
    refine one_ (i := 4) (N := some 56) #[true, true, true, true, true, false, false, false, false] rfl rfl (Zec HT_.out (by kernel_rfl)) (by decide) (fun K hK => ?_)
    refine goes_ Try.func41 (by kernel_rfl) rfl #[.slice Ao75 x7_1.length co75, .agg #[.int .i64 a1, .slice Ao65 t283.length co65, .slice Ao66 t286.length co66, .int .i64 t289, .int .i64 t290, .slice Ao67 y296.length co67, .int .i64 t294]] (by rfl) rfl rfl (by (try simp only [List.map_toArray, List.map_cons, List.map_nil]); first | done | rfl | (simp only [List.length_drop, List.length_take]; rfl)) ?_
    with_reducible refine (Zat.calls k1 _ _ x7_1 a1 _ _ t283 _ _ t286 t289 t290 _ _ y296 t294 t299 _ ?side1 ?side2 ?side3 ?side4 ?side5 ?side6 ?side7 ?side8 A57.out).mono ?_
    (case side1 => repeat (first | exact (Kd.Zd0 HO_7.out).2.2 | (with_reducible refine Kd.C_alloc ?_ _) | (with_reducible refine Kd.Za0 ?_ _) | (with_reducible refine Kd.C_drew ?_)))
    (case side2 => exact (Kd.Zd0 HO_7.out).2.1)
    (case side3 => repeat (first | exact (Kd.Zaz HO285.out).2.2 | (with_reducible refine Kd.C_alloc ?_ _) | (with_reducible refine Kd.Za0 ?_ _) | (with_reducible refine Kd.C_drew ?_)))
    (case side4 => exact (Kd.Zaz HO285.out).2.1)
    (case side5 => repeat (first | exact (Kd.Zaz HO288.out).2.2 | (with_reducible refine Kd.C_alloc ?_ _) | (with_reducible refine Kd.Za0 ?_ _) | (with_reducible refine Kd.C_drew ?_)))
    (case side6 => exact (Kd.Zaz HO288.out).2.1)
    (case side7 => repeat (first | exact (Kd.Zd0 HO298.out).2.2 | (with_reducible refine Kd.C_alloc ?_ _) | (with_reducible refine Kd.Za0 ?_ _) | (with_reducible refine Kd.C_drew ?_)))
    (case side8 => exact (Kd.Zd0 HO298.out).2.1)
    rintro e w76 ⟨rfl, hb⟩
    refine ⟨_, rfl, ?_⟩
    have n0_ := Zaa.mk (Kd.Zdv (mvS HO_7.out) hb)
    have n1_ := Zaa.mk (Kd.Zca (mvR HO285.out) hb)
    have n2_ := Zaa.mk (Kd.Zca (mvR HO288.out) hb)
    have n3_ := Zaa.mk (Kd.Zdv (mvS HO298.out) hb)
    have n4_ := Zaa.mk (Zbe (g := gb250) (o := .cells #[.slice A0_0 l0_0.length c0_0, .int .i64 a0_1, .slice A0_2 l0_2.length c0_2, .slice A0_3 l0_3.length c0_3, .int .i64 a0_4, .int .i64 a0_5, .slice A0_6 l0_6.length c0_6, .int .i64 a0_7, .slice A0_8 l0_8.length c0_8, .slice A0_9 l0_9.length c0_9] 27 (0, 0)) (mvK BK250.out) hb)
    have n5_ := Zaa.mk (Zbe (g := gb251) (o := .cells #[.int .i64 0, .slice none 0 0, .slice none 0 0, .int .i64 0, .int .i64 0, .slice none 0 0, .int .i64 0] 25 (0, 0)) (mvK BK251.out) hb)
    have n6_ := Zaa.mk (Zbe (g := gb295) (o := .cells #[.int .i64 a1, .slice Ao65 t283.length co65, .slice Ao66 t286.length co66, .int .i64 t289, .int .i64 t290, .slice Ao67 y296.length co67, .int .i64 t294] 25 (0, 0)) (mvK BK295.out) hb)
    have n7_ := Zaa.mk (Zam (mvB HB.out) hb)
    clear HO_7
    clear HO285
    clear HO288
    clear HO298
    clear BK250
    clear BK251
    clear BK295
    clear HB
    have HO_7 := n0_
    have HO285 := n1_
    have HO288 := n2_
    have HO298 := n3_
    have BK250 := n4_
    have BK251 := n5_
    have BK295 := n6_
    have HB := n7_
    clear n0_ n1_ n2_ n3_ n4_ n5_ n6_ n7_
    (try clear hb)
    (try clear hb2)
    (try clear hk)
    (try clear hi)
    refine hK.out _ _ ⟨(Za3 BK295.out 0).trans rfl, (Za3 BK295.out 1).trans rfl, (Za3 BK295.out 2).trans rfl, (Za3 BK295.out 3).trans rfl, (Za3 BK295.out 4).trans rfl, (Za3 BK295.out 5).trans rfl, (Za3 BK295.out 6).trans rfl⟩ (fun hHeld => ?_)
    clear hK K
    refine Zgs (a' := ?_) ?_ ?_
    rotate_left
    ·show Act.put _ (some 56) _ = _
     simp only [Act.put, List.setIfInBounds_toArray, List.set_cons_zero, List.set_cons_succ, Zbh, Zbi]
     rfl
    refine Zbv (i := 5) (N := some 57) (v := ?_) (a' := ?_) #[true, true, true, true, true, true, false, false, false] rfl rfl (Zbf HT_.out (by kernel_rfl)) (fun _ _ _ h => h) (Or.inl ⟨by rfl, ?_⟩) ?_ ?_
    rotate_left
    ·intro w'
     go_simp
     with_reducible rfl
    rotate_left
    ·simp only [Act.put, List.setIfInBounds_toArray, List.set_cons_zero, List.set_cons_succ, Zbh, Zbi]
     rfl
    refine Zbv (i := 6) (N := some 4) (v := ?_) (a' := ?_) #[true, true, true, true, true, true, true, false, false] rfl rfl (Zbf HT_.out (by kernel_rfl)) (fun _ _ _ h => h) (Or.inl ⟨by rfl, ?_⟩) ?_ ?_
    rotate_left
    ·intro w'
     go_simp
     with_reducible rfl
    rotate_left
    ·simp only [Act.put, List.setIfInBounds_toArray, List.set_cons_zero, List.set_cons_succ, Zbh, Zbi]
     rfl
    refine one_ (i := 7) (N := none) #[true, true, true, true, true, true, true, true, false] rfl rfl (Zec HT_.out (by kernel_rfl)) (by decide) (fun K hK => ?_)
    have hs77 : w76.cell? ⟨gb251, 0, none⟩ = some (.int .i64 0) := (Za3 BK251.out 0).trans rfl
    have hfs77 := Zbz BK251.out 0
    have hns77_0 := NB250_251.out
    have hns77_2 := NB295_251.out
    have hms77_0 := NB251_250.out
    have hms77_2 := NB251_295.out
    have hs78 : w76.cell? ⟨gb251, 1, none⟩ = some (.slice none 0 0) := (Za3 BK251.out 1).trans rfl
    have hfs78 := Zbz BK251.out 1
    have hns78_0 := NB250_251.out
    have hns78_2 := NB295_251.out
    have hms78_0 := NB251_250.out
    have hms78_2 := NB251_295.out
    have hs79 : w76.cell? ⟨gb251, 2, none⟩ = some (.slice none 0 0) := (Za3 BK251.out 2).trans rfl
    have hfs79 := Zbz BK251.out 2
    have hns79_0 := NB250_251.out
    have hns79_2 := NB295_251.out
    have hms79_0 := NB251_250.out
    have hms79_2 := NB251_295.out
    have hs80 : w76.cell? ⟨gb251, 3, none⟩ = some (.int .i64 0) := (Za3 BK251.out 3).trans rfl
    have hfs80 := Zbz BK251.out 3
    have hns80_0 := NB250_251.out
    have hns80_2 := NB295_251.out
    have hms80_0 := NB251_250.out
    have hms80_2 := NB251_295.out
    have hs81 : w76.cell? ⟨gb251, 4, none⟩ = some (.int .i64 0) := (Za3 BK251.out 4).trans rfl
    have hfs81 := Zbz BK251.out 4
    have hns81_0 := NB250_251.out
    have hns81_2 := NB295_251.out
    have hms81_0 := NB251_250.out
    have hms81_2 := NB251_295.out
    have hs82 : w76.cell? ⟨gb251, 5, none⟩ = some (.slice none 0 0) := (Za3 BK251.out 5).trans rfl
    have hfs82 := Zbz BK251.out 5
    have hns82_0 := NB250_251.out
    have hns82_2 := NB295_251.out
    have hms82_0 := NB251_250.out
    have hms82_2 := NB251_295.out
    have hs83 : w76.cell? ⟨gb251, 6, none⟩ = some (.int .i64 0) := (Za3 BK251.out 6).trans rfl
    have hfs83 := Zbz BK251.out 6
    have hns83_0 := NB250_251.out
    have hns83_2 := NB295_251.out
    have hms83_0 := NB251_250.out
    have hms83_2 := NB251_295.out
    refine skip_ (w1 := ?_) (by rfl) rfl ?_ ?_
    rotate_left
    ·go_simp
     rfl
    refine hK.out _ _ ⟨((cell_far (p := ⟨gb251, _, none⟩) NB295_251.out _).trans (((cell_far (p := ⟨gb251, _, none⟩) NB295_251.out _).trans (((cell_far (p := ⟨gb251, _, none⟩) NB295_251.out _).trans (((cell_far (p := ⟨gb251, _, none⟩) NB295_251.out _).trans (((cell_far (p := ⟨gb251, _, none⟩) NB295_251.out _).trans (((cell_far (p := ⟨gb251, _, none⟩) NB295_251.out _).trans (((cell_far (p := ⟨gb251, _, none⟩) NB295_251.out _).trans (hHeld.1)))))))))))))), ((cell_far (p := ⟨gb251, _, none⟩) NB295_251.out _).trans (((cell_far (p := ⟨gb251, _, none⟩) NB295_251.out _).trans (((cell_far (p := ⟨gb251, _, none⟩) NB295_251.out _).trans (((cell_far (p := ⟨gb251, _, none⟩) NB295_251.out _).trans (((cell_far (p := ⟨gb251, _, none⟩) NB295_251.out _).trans (((cell_far (p := ⟨gb251, _, none⟩) NB295_251.out _).trans (((cell_far (p := ⟨gb251, _, none⟩) NB295_251.out _).trans (hHeld.2.1)))))))))))))), ((cell_far (p := ⟨gb251, _, none⟩) NB295_251.out _).trans (((cell_far (p := ⟨gb251, _, none⟩) NB295_251.out _).trans (((cell_far (p := ⟨gb251, _, none⟩) NB295_251.out _).trans (((cell_far (p := ⟨gb251, _, none⟩) NB295_251.out _).trans (((cell_far (p := ⟨gb251, _, none⟩) NB295_251.out _).trans (((cell_far (p := ⟨gb251, _, none⟩) NB295_251.out _).trans (((cell_far (p := ⟨gb251, _, none⟩) NB295_251.out _).trans (hHeld.2.2.1)))))))))))))), ((cell_far (p := ⟨gb251, _, none⟩) NB295_251.out _).trans (((cell_far (p := ⟨gb251, _, none⟩) NB295_251.out _).trans (((cell_far (p := ⟨gb251, _, none⟩) NB295_251.out _).trans (((cell_far (p := ⟨gb251, _, none⟩) NB295_251.out _).trans (((cell_far (p := ⟨gb251, _, none⟩) NB295_251.out _).trans (((cell_far (p := ⟨gb251, _, none⟩) NB295_251.out _).trans (((cell_far (p := ⟨gb251, _, none⟩) NB295_251.out _).trans (hHeld.2.2.2.1)))))))))))))), ((cell_far (p := ⟨gb251, _, none⟩) NB295_251.out _).trans (((cell_far (p := ⟨gb251, _, none⟩) NB295_251.out _).trans (((cell_far (p := ⟨gb251, _, none⟩) NB295_251.out _).trans (((cell_far (p := ⟨gb251, _, none⟩) NB295_251.out _).trans (((cell_far (p := ⟨gb251, _, none⟩) NB295_251.out _).trans (((cell_far (p := ⟨gb251, _, none⟩) NB295_251.out _).trans (((cell_far (p := ⟨gb251, _, none⟩) NB295_251.out _).trans (hHeld.2.2.2.2.1)))))))))))))), ((cell_far (p := ⟨gb251, _, none⟩) NB295_251.out _).trans (((cell_far (p := ⟨gb251, _, none⟩) NB295_251.out _).trans (((cell_far (p := ⟨gb251, _, none⟩) NB295_251.out _).trans (((cell_far (p := ⟨gb251, _, none⟩) NB295_251.out _).trans (((cell_far (p := ⟨gb251, _, none⟩) NB295_251.out _).trans (((cell_far (p := ⟨gb251, _, none⟩) NB295_251.out _).trans (((cell_far (p := ⟨gb251, _, none⟩) NB295_251.out _).trans (hHeld.2.2.2.2.2.1)))))))))))))), ((cell_far (p := ⟨gb251, _, none⟩) NB295_251.out _).trans (((cell_far (p := ⟨gb251, _, none⟩) NB295_251.out _).trans (((cell_far (p := ⟨gb251, _, none⟩) NB295_251.out _).trans (((cell_far (p := ⟨gb251, _, none⟩) NB295_251.out _).trans (((cell_far (p := ⟨gb251, _, none⟩) NB295_251.out _).trans (((cell_far (p := ⟨gb251, _, none⟩) NB295_251.out _).trans (((cell_far (p := ⟨gb251, _, none⟩) NB295_251.out _).trans (hHeld.2.2.2.2.2.2))))))))))))))⟩ (fun hHeld => ?_)
    clear hK K
    refine Zbv (i := 8) (N := some 6) (v := ?_) (a' := ?_) #[true, true, true, true, true, true, true, true, true] rfl rfl (Zbf HT_.out (by kernel_rfl)) (fun _ _ _ h => h) (Or.inl ⟨by rfl, ?_⟩) ?_ ?_
    rotate_left
    ·intro w'
     go_simp
     with_reducible rfl
    rotate_left
    ·simp only [Act.put, List.setIfInBounds_toArray, List.set_cons_zero, List.set_cons_succ, Zbh, Zbi]
     rfl
    refine Zfw (Zdz HT_.out (by kernel_rfl)) ?_
    try go_wp2
    refine bodyPost_ret (Zf6 (rs := [.tmp 4, .cell 5 25, .tmp 6]) rfl (by simp) (.tmp (.cell gb251 25 #[.int .i64 a1, .slice Ao65 t283.length co65, .slice Ao66 t286.length co66, .int .i64 t289, .int .i64 t290, .slice Ao67 y296.length co67, .int .i64 t294] (0, 0) _ rfl (by (with_reducible repeat (first | refine Zag ?_ _ | refine Zak ?_ | refine Zad ?_ _)); refine Zbl (cs := #[.int .i64 a1, .slice Ao65 t283.length co65, .slice Ao66 t286.length co66, .int .i64 t289, .int .i64 t290, .slice Ao67 y296.length co67, .int .i64 0]) ?_ 6 _ rfl; (with_reducible repeat (first | refine Zag ?_ _ | refine Zak ?_ | refine Zad ?_ _)); refine Zbl (cs := #[.int .i64 a1, .slice Ao65 t283.length co65, .slice Ao66 t286.length co66, .int .i64 t289, .int .i64 t290, .slice none 0 0, .int .i64 0]) ?_ 5 _ rfl; (with_reducible repeat (first | refine Zag ?_ _ | refine Zak ?_ | refine Zad ?_ _)); refine Zbl (cs := #[.int .i64 a1, .slice Ao65 t283.length co65, .slice Ao66 t286.length co66, .int .i64 t289, .int .i64 0, .slice none 0 0, .int .i64 0]) ?_ 4 _ rfl; (with_reducible repeat (first | refine Zag ?_ _ | refine Zak ?_ | refine Zad ?_ _)); refine Zbl (cs := #[.int .i64 a1, .slice Ao65 t283.length co65, .slice Ao66 t286.length co66, .int .i64 0, .int .i64 0, .slice none 0 0, .int .i64 0]) ?_ 3 _ rfl; (with_reducible repeat (first | refine Zag ?_ _ | refine Zak ?_ | refine Zad ?_ _)); refine Zbl (cs := #[.int .i64 a1, .slice Ao65 t283.length co65, .slice none 0 0, .int .i64 0, .int .i64 0, .slice none 0 0, .int .i64 0]) ?_ 2 _ rfl; (with_reducible repeat (first | refine Zag ?_ _ | refine Zak ?_ | refine Zad ?_ _)); refine Zbl (cs := #[.int .i64 a1, .slice none 0 0, .slice none 0 0, .int .i64 0, .int .i64 0, .slice none 0 0, .int .i64 0]) ?_ 1 _ rfl; (with_reducible repeat (first | refine Zag ?_ _ | refine Zak ?_ | refine Zad ?_ _)); refine Zbl (cs := #[.int .i64 0, .slice none 0 0, .slice none 0 0, .int .i64 0, .int .i64 0, .slice none 0 0, .int .i64 0]) ?_ 0 _ rfl; (with_reducible repeat (first | refine Zag ?_ _ | refine Zak ?_ | refine Zad ?_ _)); exact BK251.out) Try.underlying25 rfl (by kernel_rfl) (.tmp .nil)))) rfl ?_
    exact ⟨_, _, _, _, by first | rfl | (simp [Za1, Za2] <;> rfl) | (simp only [← hji54]; first | rfl | (simp [Za1, Za2] <;> rfl)) | (simp [*, Za1, Za2] <;> rfl), by (with_reducible repeat (first | apply Kd.Zd | apply Kd.S_drewN | apply Kd.Zdh)); exact Kd.Zc5 (Kd.Zcc (p := ⟨gb251, 6, none⟩) (Kd.Zcc (p := ⟨gb251, 5, none⟩) (Kd.Zcc (p := ⟨gb251, 4, none⟩) (Kd.Zcc (p := ⟨gb251, 3, none⟩) (Kd.Zcc (p := ⟨gb251, 2, none⟩) (Kd.Zcc (p := ⟨gb251, 1, none⟩) (Kd.Zcc (p := ⟨gb251, 0, none⟩) (Kd.Zdl HO_7.out BK251.out (by decide)) (fun _ hk => hk.2) (.int .i64 a1)) (fun _ hk => hk.2) (.slice Ao65 t283.length co65)) (fun _ hk => hk.2) (.slice Ao66 t286.length co66)) (fun _ hk => hk.2) (.int .i64 t289)) (fun _ hk => hk.2) (.int .i64 t290)) (fun _ hk => hk.2) (.slice Ao67 y296.length co67)) (fun _ hk => hk.2) (.int .i64 t294)) (fun _ hk => trivial), by (with_reducible repeat (first | apply Kd.Za6 | apply Kd.Za5 | apply Kd.Zbb)); exact Kd.Zbm (Kd.Zb5 (p := ⟨gb251, 6, none⟩) (Kd.Zb5 (p := ⟨gb251, 5, none⟩) (Kd.Zb5 (p := ⟨gb251, 4, none⟩) (Kd.Zb5 (p := ⟨gb251, 3, none⟩) (Kd.Zb5 (p := ⟨gb251, 2, none⟩) (Kd.Zb5 (p := ⟨gb251, 1, none⟩) (Kd.Zb5 (p := ⟨gb251, 0, none⟩) (Kd.Zc HO285.out BK251.out (by decide)) (fun _ hk => hk.2) (.int .i64 a1)) (fun _ hk => hk.2) (.slice Ao65 t283.length co65)) (fun _ hk => hk.2) (.slice Ao66 t286.length co66)) (fun _ hk => hk.2) (.int .i64 t289)) (fun _ hk => hk.2) (.int .i64 t290)) (fun _ hk => hk.2) (.slice Ao67 y296.length co67)) (fun _ hk => hk.2) (.int .i64 t294)) (fun _ hk => hk.1), by (with_reducible repeat (first | apply Kd.Za6 | apply Kd.Za5 | apply Kd.Zbb)); exact Kd.Zbm (Kd.Zb5 (p := ⟨gb251, 6, none⟩) (Kd.Zb5 (p := ⟨gb251, 5, none⟩) (Kd.Zb5 (p := ⟨gb251, 4, none⟩) (Kd.Zb5 (p := ⟨gb251, 3, none⟩) (Kd.Zb5 (p := ⟨gb251, 2, none⟩) (Kd.Zb5 (p := ⟨gb251, 1, none⟩) (Kd.Zb5 (p := ⟨gb251, 0, none⟩) (Kd.Zc HO288.out BK251.out (by decide)) (fun _ hk => hk.2) (.int .i64 a1)) (fun _ hk => hk.2) (.slice Ao65 t283.length co65)) (fun _ hk => hk.2) (.slice Ao66 t286.length co66)) (fun _ hk => hk.2) (.int .i64 t289)) (fun _ hk => hk.2) (.int .i64 t290)) (fun _ hk => hk.2) (.slice Ao67 y296.length co67)) (fun _ hk => hk.2) (.int .i64 t294)) (fun _ hk => hk.1), by (with_reducible repeat (first | apply Kd.Zd | apply Kd.S_drewN | apply Kd.Zdh)); exact Kd.Zc5 (Kd.Zcc (p := ⟨gb251, 6, none⟩) (Kd.Zcc (p := ⟨gb251, 5, none⟩) (Kd.Zcc (p := ⟨gb251, 4, none⟩) (Kd.Zcc (p := ⟨gb251, 3, none⟩) (Kd.Zcc (p := ⟨gb251, 2, none⟩) (Kd.Zcc (p := ⟨gb251, 1, none⟩) (Kd.Zcc (p := ⟨gb251, 0, none⟩) (Kd.Zdl HO298.out BK251.out (by decide)) (fun _ hk => hk.2) (.int .i64 a1)) (fun _ hk => hk.2) (.slice Ao65 t283.length co65)) (fun _ hk => hk.2) (.slice Ao66 t286.length co66)) (fun _ hk => hk.2) (.int .i64 t289)) (fun _ hk => hk.2) (.int .i64 t290)) (fun _ hk => hk.2) (.slice Ao67 y296.length co67)) (fun _ hk => hk.2) (.int .i64 t294)) (fun _ hk => ⟨hk.1.1, hk.1.2⟩), by repeat (first | (with_reducible first | exact HB.out | apply Zab | apply Za | apply Zac | refine Zaf ?_ GE250.out | refine Zaf ?_ GE251.out | refine Zaf ?_ GE295.out) | exact HB.out)⟩
   rw [if_pos c7] at H
   have c7b0 : decide (x8_1 < (l0_0.length : Int)) = true := decide_eq_true c7
   clear c7
   by_cases c8 : x8_1 < 4
   ·rw [if_pos c8] at H
    have c8b0 : decide (x8_1 < 4) = true := decide_eq_true c8
    clear c8
    by_cases c9 : 0 ≤ x8_1
    rotate_left
    ·rw [if_neg c9] at H
     exact absurd H (by simp)
    rw [if_pos c9] at H
    have c9b0 : decide (0 ≤ x8_1) = true := decide_eq_true c9
    clear c9
    obtain ⟨ji10, hji10⟩ : ∃ j_ : Int, (mn ((Zci l0_0 x8_1).length : Int) 6) = j_ := ⟨_, rfl⟩
    replace H : (if 0 ≤ (ji10) then (if (ji10) ≤ ((Zci l0_0 x8_1).length : Int) then ((Zba.f k1 ((Zci l0_0 x8_1).take ((ji10) : Int).toNat)).bind fun t258 => (if x7_1.length < 5864062014805 then (Zaq.l0 k1 a1 (x7_1 ++ [t258]) (wrap64 (x8_1 + 1)) l0_0 a0_1 l0_2 l0_3 a0_4 a0_5 l0_6 a0_7 l0_8 l0_9) else (none))) else (none)) else (none)) = some (r1, r2, r3, r4, r5, r6, r7, r8, r9) := by first | (rw [hji10] at H; exact H) | (simp only [hji10] at H ⊢; exact H)
    have hji10_ : (if 6 < ((Zci l0_0 x8_1).length : Int) then 6 else ((Zci l0_0 x8_1).length : Int)) = ji10 := hji10
    by_cases c11 : 0 ≤ (ji10)
    rotate_left
    ·rw [if_neg c11] at H
     exact absurd H (by simp)
    rw [if_pos c11] at H
    have c11b0 := eq_true c11
    have c11b1 : decide (0 ≤ (ji10)) = true := decide_eq_true c11
    clear c11
    by_cases c12 : (ji10) ≤ ((Zci l0_0 x8_1).length : Int)
    rotate_left
    ·rw [if_neg c12] at H
     exact absurd H (by simp)
    rw [if_pos c12] at H
    have c12b0 := eq_true c12
    have c12b1 : decide ((ji10) ≤ ((Zci l0_0 x8_1).length : Int)) = true := decide_eq_true c12
    clear c12
    replace H := Option.bind_eq_some_iff.mp H
    obtain ⟨t258, A130, H⟩ := H
    replace H : (if x7_1.length < 5864062014805 then (Zaq.l0 k1 a1 (x7_1 ++ [t258]) (wrap64 (x8_1 + 1)) l0_0 a0_1 l0_2 l0_3 a0_4 a0_5 l0_6 a0_7 l0_8 l0_9) else (none)) = some (r1, r2, r3, r4, r5, r6, r7, r8, r9) := H
    have A13 := Zaa.mk A130
    clear A130
    by_cases c14 : x7_1.length < 5864062014805
    rotate_left
    ·rw [if_neg c14] at H
     exact absurd H (by simp)
    rw [if_pos c14] at H
    have LMc14 := Zaa.mk c14
    clear c14
    obtain ⟨y261, hy261⟩ : ∃ y_ : List (List (S41)), y_ = (x7_1 ++ [t258]) := ⟨_, rfl⟩
    replace H : (Zaq.l0 k1 a1 y261 (wrap64 (x8_1 + 1)) l0_0 a0_1 l0_2 l0_3 a0_4 a0_5 l0_6 a0_7 l0_8 l0_9) = some (r1, r2, r3, r4, r5, r6, r7, r8, r9) := by first | (rw [hy261]; with_reducible exact H) | (have H2_ := (Option.bind_some _ _).symm.trans H; rw [hy261]; with_reducible exact H2_) | (have H2_ := (Option.bind_some _ _).symm.trans H; with_reducible exact H2_) | with_reducible exact H | (rw [hy261]; exact H) | exact H
    have Ny261 := Zaa.mk hy261
    clear hy261
    have H' := Zaa.mk H
    clear H
    have hnb15 := NB250_251.out
    have hnc15 := NB251_250.out
    obtain ⟨hcz16_0, hcz16_1, hcz16_2, hcz16_3, hcz16_4, hcz16_5, hcz16_6, hcz16_7, hcz16_8, hcz16_9, hfz16_0, hfz16_1, hfz16_2, hfz16_3, hfz16_4, hfz16_5, hfz16_6, hfz16_7, hfz16_8, hfz16_9⟩ := Zes BK250.out
    try go_wp2
    have n0_ := Zaa.mk (Kd.Zdh HO_7.out)
    have n1_ := Zaa.mk (Zak BK250.out)
    have n2_ := Zaa.mk (Zak BK251.out)
    have n3_ := Zaa.mk (Zac HB.out)
    clear HO_7
    clear BK250
    clear BK251
    clear HB
    have HO_7 := n0_
    have BK250 := n1_
    have BK251 := n2_
    have HB := n3_
    clear n0_ n1_ n2_ n3_
    have p255 : 0 ≤ (x8_1 : Int) := of_decide_eq_true (by first | (with_reducible assumption) | assumption)
    have q255 : x8_1 < (l0_0.length : Int) := of_decide_eq_true (by first | (with_reducible assumption) | assumption)
    obtain ⟨ad255, A255_0, c255_0, e255, hx255_0, hl255_0, hi255_0⟩ := Zf9 HR0_0.out x8_1 p255 q255
    have hw255_0 := hx255_0
    cases e255
    replace hx255_0 := (HB.out.cell (World.block_lt_of_cell? w _ hx255_0)).trans hx255_0
    have HR255_0 := Zaa.mk hi255_0
    have HC255_0 := Zaa.mk hl255_0
    clear hi255_0 hl255_0
    replace p255 := eq_true p255
    replace q255 := eq_true q255
    have p256 : 0 ≤ (x8_1 : Int) := of_decide_eq_true (by first | (with_reducible assumption) | assumption)
    have q256 : x8_1 < (l0_0.length : Int) := of_decide_eq_true (by first | (with_reducible assumption) | assumption)
    obtain ⟨ad256, A256_0, c256_0, e256, hx256_0, hl256_0, hi256_0⟩ := Zf9 HR0_0.out x8_1 p256 q256
    have hw256_0 := hx256_0
    obtain rfl : ad255 = ad256 := (by injection e256)
    replace hx256_0 := (HB.out.cell (World.block_lt_of_cell? w _ hx256_0)).trans hx256_0
    have HR256_0 := Zaa.mk hi256_0
    have HC256_0 := Zaa.mk hl256_0
    clear hi256_0 hl256_0
    replace p256 := eq_true p256
    replace q256 := eq_true q256
    have ea_ := Option.some.inj (hx255_0.symm.trans hx256_0)
    injection ea_ with ea_ en_ ec_
    subst ea_
    subst ec_
    clear en_
    obtain ⟨i018, hi018, _, hsz18, _⟩ := info_parts info3
    obtain ⟨hcut18, hA18, hC18⟩ := print_take_of (P := Try.prog) (Value.int .i64) 0 23 3 .i64 Try.underlying23 hi018 hsz18 A255_0 c255_0 (Zci l0_0 x8_1) (ji10) (of_decide_eq_true (by first | (with_reducible assumption) | assumption)) (of_decide_eq_true (by first | (with_reducible assumption) | assumption)) HC255_0.out
    have HR257 := Zaa.mk (Kd.C_of_reads (h1 := fun _ => rfl) (hA18 _ (Kd.Zha HR255_0.out)))
    have HC257 := Zaa.mk hC18
    clear hA18 hC18 hi018 hsz18
    refine Zeg (n := 18) (S := fun w' => w'.cell? ⟨gb250, 0, none⟩ = some (.slice (some ad255) l0_0.length c0_0) ∧ w'.cell? ⟨gb250, 1, none⟩ = some (.int .i64 a0_1) ∧ w'.cell? ⟨gb250, 2, none⟩ = some (.slice A0_2 l0_2.length c0_2) ∧ w'.cell? ⟨gb250, 3, none⟩ = some (.slice A0_3 l0_3.length c0_3) ∧ w'.cell? ⟨gb250, 4, none⟩ = some (.int .i64 a0_4) ∧ w'.cell? ⟨gb250, 5, none⟩ = some (.int .i64 a0_5) ∧ w'.cell? ⟨gb250, 6, none⟩ = some (.slice A0_6 l0_6.length c0_6) ∧ w'.cell? ⟨gb250, 7, none⟩ = some (.int .i64 a0_7) ∧ w'.cell? ⟨gb250, 8, none⟩ = some (.slice A0_8 l0_8.length c0_8) ∧ w'.cell? ⟨gb250, 9, none⟩ = some (.slice A0_9 l0_9.length c0_9) ∧ w'.cell? (ad255.add (x8_1).toNat) = some (.slice A255_0 (Zci l0_0 x8_1).length c255_0) ∧ w'.cell? (ad255.add (x8_1).toNat) = some (.slice A255_0 (Zci l0_0 x8_1).length c255_0)) (ds := []) #[false, false, false, false, false, false, false, false, false, false, false, false, false, false, false, false, false, false] (by kernel_rfl) rfl rfl ⟨(Za3 BK250.out 0).trans rfl, (Za3 BK250.out 1).trans rfl, (Za3 BK250.out 2).trans rfl, (Za3 BK250.out 3).trans rfl, (Za3 BK250.out 4).trans rfl, (Za3 BK250.out 5).trans rfl, (Za3 BK250.out 6).trans rfl, (Za3 BK250.out 7).trans rfl, (Za3 BK250.out 8).trans rfl, (Za3 BK250.out 9).trans rfl, ((HB.out.cell (World.block_lt_of_cell? w _ hw255_0)).trans hw255_0), ((HB.out.cell (World.block_lt_of_cell? w _ hw256_0)).trans hw256_0)⟩ (fun hHeld => ?_); refine Zda Zaq.tab5 Zaq.bits5 (fun HT_ HW_ => ?_)
    generalize wr.drew = w17 at HO_7 BK250 BK251 HB HR255_0 HR256_0 HR257 hx255_0 hx256_0 hHeld ⊢
    refine Zbv (i := 0) (N := some 22) (v := ?_) (a' := ?_) #[true, false, false, false, false, false, false, false, false, false, false, false, false, false, false, false, false, false] rfl rfl (Zbf HT_.out (by kernel_rfl)) (fun _ _ _ h => h) (Or.inl ⟨by rfl, ?_⟩) ?_ ?_
    rotate_left
    ·intro w'
     go_simp
     with_reducible rfl
    rotate_left
    ·simp only [Act.put, List.setIfInBounds_toArray, List.set_cons_zero, List.set_cons_succ, Zbh, Zbi]
     rfl
    refine Zbv (i := 1) (N := some 23) (v := ?_) (a' := ?_) #[true, true, false, false, false, false, false, false, false, false, false, false, false, false, false, false, false, false] rfl rfl (Zbf HT_.out (by kernel_rfl)) (fun _ _ _ h => h) (Or.inl ⟨by rfl, ?_⟩) ?_ ?_
    rotate_left
    ·intro w'
     go_simp
     with_reducible rfl
    rotate_left
    ·simp only [Act.put, List.setIfInBounds_toArray, List.set_cons_zero, List.set_cons_succ, Zbh, Zbi]
     rfl
    refine Zbv (i := 3) (N := some 25) (v := ?_) (a' := ?_) #[true, true, false, true, false, false, false, false, false, false, false, false, false, false, false, false, false, false] rfl rfl (Zbf HT_.out (by kernel_rfl)) (fun _ _ _ h => h) (Or.inl ⟨by rfl, ?_⟩) ?_ ?_
    rotate_left
    ·intro w'
     go_simp
     with_reducible rfl
    rotate_left
    ·simp only [Act.put, List.setIfInBounds_toArray, List.set_cons_zero, List.set_cons_succ, Zbh, Zbi]
     rfl
    refine Zbv (i := 6) (N := some 28) (v := ?_) (a' := ?_) #[true, true, false, true, false, false, true, false, false, false, false, false, false, false, false, false, false, false] rfl rfl (Zbf HT_.out (by kernel_rfl)) (fun _ _ _ h => h) (Or.inl ⟨by rfl, ?_⟩) ?_ ?_
    rotate_left
    ·intro w'
     go_simp
     with_reducible rfl
    rotate_left
    ·simp only [Act.put, List.setIfInBounds_toArray, List.set_cons_zero, List.set_cons_succ, Zbh, Zbi]
     rfl
    refine Zbv (i := 8) (N := some 30) (v := ?_) (a' := ?_) #[true, true, false, true, false, false, true, false, true, false, false, false, false, false, false, false, false, false] rfl rfl (Zbf HT_.out (by kernel_rfl)) (fun _ _ _ h => h) (Or.inl ⟨by rfl, ?_⟩) ?_ ?_
    rotate_left
    ·intro w'
     go_simp
     with_reducible rfl
    rotate_left
    ·simp only [Act.put, List.setIfInBounds_toArray, List.set_cons_zero, List.set_cons_succ, Zbh, Zbi]
     rfl
    refine Zdw (i := 2) (N := some 24) (v := ?_) (a' := ?_) #[true, true, true, true, false, false, true, false, true, false, false, false, false, false, false, false, false, false] rfl rfl (Zcq HT_.out HW_.out (by kernel_rfl)) (fun _ _ _ h => h) (Or.inl ⟨by rfl, ?_⟩) hHeld ?_ ?_
    rotate_left
    ·rintro w' ⟨s0, s1, s2, s3, s4, s5, s6, s7, s8, s9, s10, s11⟩
     go_simp
     with_reducible rfl
    rotate_left
    ·simp only [Act.put, List.setIfInBounds_toArray, List.set_cons_zero, List.set_cons_succ, Zbh, Zbi]
     rfl
    refine Zbv (i := 4) (N := some 26) (v := ?_) (a' := ?_) #[true, true, true, true, true, false, true, false, true, false, false, false, false, false, false, false, false, false] rfl rfl (Zbf HT_.out (by kernel_rfl)) (fun _ _ _ h => h) (Or.inl ⟨by rfl, ?_⟩) ?_ ?_
    rotate_left
    ·intro w'
     go_simp
     with_reducible rfl
    rotate_left
    ·simp only [Act.put, List.setIfInBounds_toArray, List.set_cons_zero, List.set_cons_succ, Zbh, Zbi]
     rfl
    refine Zdw (i := 5) (N := some 27) (v := ?_) (a' := ?_) #[true, true, true, true, true, true, true, false, true, false, false, false, false, false, false, false, false, false] rfl rfl (Zcq HT_.out HW_.out (by kernel_rfl)) (fun _ _ _ h => h) (Or.inl ⟨by rfl, ?_⟩) hHeld ?_ ?_
    rotate_left
    ·rintro w' ⟨s0, s1, s2, s3, s4, s5, s6, s7, s8, s9, s10, s11⟩
     go_simp
     with_reducible rfl
    rotate_left
    ·simp only [Act.put, List.setIfInBounds_toArray, List.set_cons_zero, List.set_cons_succ, Zbh, Zbi]
     rfl
    refine Zdw (i := 7) (N := some 29) (v := ?_) (a' := ?_) #[true, true, true, true, true, true, true, true, true, false, false, false, false, false, false, false, false, false] rfl rfl (Zcq HT_.out HW_.out (by kernel_rfl)) (fun _ _ _ h => h) (Or.inl ⟨by rfl, ?_⟩) hHeld ?_ ?_
    rotate_left
    ·rintro w' ⟨s0, s1, s2, s3, s4, s5, s6, s7, s8, s9, s10, s11⟩
     go_simp
     with_reducible rfl
    rotate_left
    ·simp only [Act.put, List.setIfInBounds_toArray, List.set_cons_zero, List.set_cons_succ, Zbh, Zbi]
     rfl
    refine Zbv (i := 9) (N := some 31) (v := ?_) (a' := ?_) #[true, true, true, true, true, true, true, true, true, true, false, false, false, false, false, false, false, false] rfl rfl (Zbf HT_.out (by kernel_rfl)) (fun _ _ _ h => h) (Or.inl ⟨by rfl, ?_⟩) ?_ ?_
    rotate_left
    ·intro w'
     go_simp
     with_reducible rfl
    rotate_left
    ·simp only [Act.put, List.setIfInBounds_toArray, List.set_cons_zero, List.set_cons_succ, Zbh, Zbi]
     rfl
    refine Zdw (i := 10) (N := some 32) (v := ?_) (a' := ?_) #[true, true, true, true, true, true, true, true, true, true, true, false, false, false, false, false, false, false] rfl rfl (Zcq HT_.out HW_.out (by kernel_rfl)) (fun _ _ _ h => h) (Or.inl ⟨by rfl, ?_⟩) hHeld ?_ ?_
    rotate_left
    ·rintro w' ⟨s0, s1, s2, s3, s4, s5, s6, s7, s8, s9, s10, s11⟩
     go_simp
     with_reducible rfl
    rotate_left
    ·simp only [Act.put, List.setIfInBounds_toArray, List.set_cons_zero, List.set_cons_succ, Zbh, Zbi]
     rfl
    refine Zbv (i := 11) (N := some 33) (v := ?_) (a' := ?_) #[true, true, true, true, true, true, true, true, true, true, true, true, false, false, false, false, false, false] rfl rfl (Zbf HT_.out (by kernel_rfl)) (fun _ _ _ h => h) (Or.inl ⟨by rfl, ?_⟩) ?_ ?_
    rotate_left
    ·intro w'
     go_simp
     with_reducible rfl
    rotate_left
    ·simp only [Act.put, List.setIfInBounds_toArray, List.set_cons_zero, List.set_cons_succ, Zbh, Zbi]
     rfl
    refine Zbv (i := 12) (N := some 34) (v := ?_) (a' := ?_) #[true, true, true, true, true, true, true, true, true, true, true, true, true, false, false, false, false, false] rfl rfl (Zbf HT_.out (by kernel_rfl)) (fun _ _ _ h => h) (Or.inl ⟨by rfl, ?_⟩) ?_ ?_
    rotate_left
    ·intro w'
     go_simp
     with_reducible rfl
    rotate_left
    ·simp only [Act.put, List.setIfInBounds_toArray, List.set_cons_zero, List.set_cons_succ, Zbh, Zbi]
     rfl
    refine Zbv (i := 13) (N := some 35) (v := ?_) (a' := ?_) #[true, true, true, true, true, true, true, true, true, true, true, true, true, true, false, false, false, false] rfl rfl (Zbf HT_.out (by kernel_rfl)) (fun _ _ _ h => h) (Or.inl ⟨by rfl, ?_⟩) ?_ ?_
    rotate_left
    ·intro w'
     go_simp
     with_reducible rfl
    rotate_left
    ·simp only [Act.put, List.setIfInBounds_toArray, List.set_cons_zero, List.set_cons_succ, Zbh, Zbi]
     rfl
    refine one_ (i := 14) (N := some 36) #[true, true, true, true, true, true, true, true, true, true, true, true, true, true, true, false, false, false] rfl rfl (Zec HT_.out (by kernel_rfl)) (by decide) (fun K hK => ?_)
    refine goes_ Try.func40 (by kernel_rfl) rfl #[.slice A255_0 ((Zci l0_0 x8_1).take ((ji10) : Int).toNat).length c255_0] (by rfl) rfl rfl (by (try simp only [List.map_toArray, List.map_cons, List.map_nil]); first | done | (rw [show ((Zci l0_0 x8_1).take ((ji10) : Int).toNat).length = (ji10).toNat from (by rw [List.length_take]; have h_ : ((ji10) : Int) ≤ ((Zci l0_0 x8_1).length : Int) := of_decide_eq_true (by first | (with_reducible assumption) | assumption); omega)] <;> rfl) | (simp only [hji10]; rfl) | rfl | (simp only [List.length_drop, List.length_take]; rfl)) ?_
    with_reducible refine (Zba.calls k1 _ _ ((Zci l0_0 x8_1).take ((ji10) : Int).toNat) t258 _ ?side1 ?side2 A13.out).mono ?_
    (case side1 => repeat (first | exact (Kd.Za8 HR257.out HB.out) | (with_reducible refine Kd.C_alloc ?_ _) | (with_reducible refine Kd.Za0 ?_ _) | (with_reducible refine Kd.C_drew ?_)))
    (case side2 => exact HC257.out)
    rintro e w19 ⟨v259, rfl, ho0, hb⟩
    refine ⟨_, rfl, ?_⟩
    have n0_ := Zaa.mk (Kd.Zeh (mvS HO_7.out) (Kd.Zb6 ho0) hb)
    have n1_ := Zaa.mk (Kd.Zbs ho0 (Zae (mvB HB.out)))
    have n2_ := Zaa.mk (Zbe (g := gb250) (o := .cells #[.slice (some ad255) l0_0.length c0_0, .int .i64 a0_1, .slice A0_2 l0_2.length c0_2, .slice A0_3 l0_3.length c0_3, .int .i64 a0_4, .int .i64 a0_5, .slice A0_6 l0_6.length c0_6, .int .i64 a0_7, .slice A0_8 l0_8.length c0_8, .slice A0_9 l0_9.length c0_9] 27 (0, 0)) (mvK BK250.out) hb)
    have n3_ := Zaa.mk (Zbe (g := gb251) (o := .cells #[.int .i64 0, .slice none 0 0, .slice none 0 0, .int .i64 0, .int .i64 0, .slice none 0 0, .int .i64 0] 25 (0, 0)) (mvK BK251.out) hb)
    have n4_ := Zaa.mk (Zam (mvB HB.out) hb)
    clear HO_7
    clear BK250
    clear BK251
    clear HB
    have HO_7 := n0_
    have HO260 := n1_
    have BK250 := n2_
    have BK251 := n3_
    have HB := n4_
    clear n0_ n1_ n2_ n3_ n4_
    (try clear hb)
    (try clear hb2)
    (try clear hk)
    (try clear hi)
    (try clear ho0)
    obtain ⟨Ao21, co21, eo21⟩ := Kd.Zbn HO260.out
    (first | subst eo21 | (injection eo21 with f1_ f2_ f3_; have f4_ := f1_.symm; have f5_ := f3_.symm; clear f1_ f2_ f3_; subst f4_; subst f5_))
    refine hK.out _ _ ⟨(Za3 BK250.out 0).trans rfl, (Za3 BK250.out 1).trans rfl, (Za3 BK250.out 2).trans rfl, (Za3 BK250.out 3).trans rfl, (Za3 BK250.out 4).trans rfl, (Za3 BK250.out 5).trans rfl, (Za3 BK250.out 6).trans rfl, (Za3 BK250.out 7).trans rfl, (Za3 BK250.out 8).trans rfl, (Za3 BK250.out 9).trans rfl, ((HB.out.cell (World.block_lt_of_cell? w _ hw255_0)).trans hw255_0), ((HB.out.cell (World.block_lt_of_cell? w _ hw256_0)).trans hw256_0)⟩ (fun hHeld => ?_)
    clear hK K
    refine Zgs (a' := ?_) ?_ ?_
    rotate_left
    ·show Act.put _ (some 36) _ = _
     simp only [Act.put, List.setIfInBounds_toArray, List.set_cons_zero, List.set_cons_succ, Zbh, Zbi]
     rfl
    refine one_ (i := 15) (N := some 37) #[true, true, true, true, true, true, true, true, true, true, true, true, true, true, true, true, false, false] rfl rfl (Zec HT_.out (by kernel_rfl)) (by decide) (fun K hK => ?_)
    refine value_ (w1 := ?_) (v := ?_) (by rfl) rfl ?_ ?_
    rotate_left 2
    ·go_simp
     constructor
     ·rfl
     rfl
    refine hK.out _ _ ⟨(Za3 (Zad BK250.out _) 0).trans rfl, (Za3 (Zad BK250.out _) 1).trans rfl, (Za3 (Zad BK250.out _) 2).trans rfl, (Za3 (Zad BK250.out _) 3).trans rfl, (Za3 (Zad BK250.out _) 4).trans rfl, (Za3 (Zad BK250.out _) 5).trans rfl, (Za3 (Zad BK250.out _) 6).trans rfl, (Za3 (Zad BK250.out _) 7).trans rfl, (Za3 (Zad BK250.out _) 8).trans rfl, (Za3 (Zad BK250.out _) 9).trans rfl, (World.cell?_alloc_lt _ _ _ (World.block_lt_of_cell? _ _ (((HB.out.cell (World.block_lt_of_cell? w _ hw255_0)).trans hw255_0)))).trans (((HB.out.cell (World.block_lt_of_cell? w _ hw255_0)).trans hw255_0)), (World.cell?_alloc_lt _ _ _ (World.block_lt_of_cell? _ _ (((HB.out.cell (World.block_lt_of_cell? w _ hw256_0)).trans hw256_0)))).trans (((HB.out.cell (World.block_lt_of_cell? w _ hw256_0)).trans hw256_0))⟩ (fun hHeld => ?_)
    clear hK K
    refine Zgs (a' := ?_) ?_ ?_
    rotate_left
    ·show Act.put _ (some 37) _ = _
     simp only [Act.put, List.setIfInBounds_toArray, List.set_cons_zero, List.set_cons_succ, Zbh, Zbi]
     rfl
    refine one_ (i := 16) (N := some 38) #[true, true, true, true, true, true, true, true, true, true, true, true, true, true, true, true, true, false] rfl rfl (Zec HT_.out (by kernel_rfl)) (by decide) (fun K hK => ?_)
    refine Kd.S_append_step (Kd.slice 41 k41) (w0 := w) w.heap.size (by rfl) (.tmp 22) (.tmp 37) 28 39 (.slice none 0 0) 24 rfl Try.underlying28 info39 rfl (by decide) (by omega) u7 x7_1 t258 [.slice Ao21 t258.length co21] (fun _ => True) (fun k_ => some k_ = (.slice Ao21 t258.length co21 : Value).ownBlock) rfl rfl ?aP (fun k_ hk_ => ((Kd.Zbm (ok' := fun k_ => ((fun _ => True)) k_ ∧ some k_ ≠ (u7 : Value).ownBlock) (Kd.Zb3 (HO260.out) (Kd.Zdn HO_7.out) (by decide)) (fun k_ hk => ⟨trivial, hk.2⟩))).1 k_ hk_.symm) ?aF ?aO ?aB ?aS ?aL ?_
    (case aP => exact Kd.M_row (Kd.Zbm (Kd.Ze9 rfl (Kd.Zbm (ok' := fun k_ => ((fun _ => True)) k_ ∧ some k_ ≠ (u7 : Value).ownBlock) (Kd.Zb3 (HO260.out) (Kd.Zdn HO_7.out) (by decide)) (fun k_ hk => ⟨trivial, hk.2⟩))) (fun _ h_ => h_)))
    (case aB => exact (mvB HB.out))
    (case aF => exact (fun _ _ => trivial))
    (case aO => exact (mvS (Kd.Zc5 HO_7.out (fun k_ hk => ⟨trivial, fun e_ => hk.2 e_⟩))))
    (case aS => exact (Zae (mvB HB.out)))
    (case aL => have := LMc14.out; omega)
    intro v262 w20 ho hb hg hat
    rw [← Ny261.out] at ho
    have n0_ := Zaa.mk (Zcv (g := gb250) (o := .cells #[.slice (some ad255) l0_0.length c0_0, .int .i64 a0_1, .slice A0_2 l0_2.length c0_2, .slice A0_3 l0_3.length c0_3, .int .i64 a0_4, .int .i64 a0_5, .slice A0_6 l0_6.length c0_6, .int .i64 a0_7, .slice A0_8 l0_8.length c0_8, .slice A0_9 l0_9.length c0_9] 27 (0, 0)) (mvK BK250.out) hg (Kd.S_ne HO_7.out BK250.out (by decide)))
    have n1_ := Zaa.mk (Zcv (g := gb251) (o := .cells #[.int .i64 0, .slice none 0 0, .slice none 0 0, .int .i64 0, .int .i64 0, .slice none 0 0, .int .i64 0] 25 (0, 0)) (mvK BK251.out) hg (Kd.S_ne HO_7.out BK251.out (by decide)))
    have n2_ := Zaa.mk (hb)
    have n3_ := Zaa.mk (ho)
    clear BK250
    clear BK251
    clear HB
    clear HO_7
    clear HO260
    have BK250 := n0_
    have BK251 := n1_
    have HB := n2_
    have HO263 := n3_
    clear n0_ n1_ n2_ n3_
    clear ho hb hg hat
    refine hK.out _ _ ⟨(Za3 BK250.out 0).trans rfl, (Za3 BK250.out 1).trans rfl, (Za3 BK250.out 2).trans rfl, (Za3 BK250.out 3).trans rfl, (Za3 BK250.out 4).trans rfl, (Za3 BK250.out 5).trans rfl, (Za3 BK250.out 6).trans rfl, (Za3 BK250.out 7).trans rfl, (Za3 BK250.out 8).trans rfl, (Za3 BK250.out 9).trans rfl, ((HB.out.cell (World.block_lt_of_cell? w _ hw255_0)).trans hw255_0), ((HB.out.cell (World.block_lt_of_cell? w _ hw256_0)).trans hw256_0)⟩ (fun hHeld => ?_)
    clear hK K
    refine Zgs (a' := ?_) ?_ ?_
    rotate_left
    ·show Act.put _ (some 38) _ = _
     simp only [Act.put, List.setIfInBounds_toArray, List.set_cons_zero, List.set_cons_succ, Zbh, Zbi]
     rfl
    refine Zbv (i := 17) (N := some 7) (v := ?_) (a' := ?_) #[true, true, true, true, true, true, true, true, true, true, true, true, true, true, true, true, true, true] rfl rfl (Zbf HT_.out (by kernel_rfl)) (fun _ _ _ h => h) (Or.inl ⟨by rfl, ?_⟩) ?_ ?_
    rotate_left
    ·intro w'
     go_simp
     with_reducible rfl
    rotate_left
    ·simp only [Act.put, List.setIfInBounds_toArray, List.set_cons_zero, List.set_cons_succ, Zbh, Zbi]
     rfl
    refine Zfw (Zdz HT_.out (by kernel_rfl)) ?_
    try go_wp2
    go_roundg k1
    case measure => have := HK1.out; omega
    case rel => exact ⟨(y261), (wrap64 (x8_1 + 1)), (by first | rfl | (simp; done) | (simp [*]; done)), H', ⟨by have := HK1.out; omega⟩, ⟨by (with_reducible repeat (first | apply Kd.Zd | apply Kd.S_drewN | apply Kd.Zdh)); exact HO263.out⟩, ⟨by (with_reducible repeat (first | refine Zag ?_ _ | refine Zak ?_ | refine Zad ?_ _)); exact BK250.out⟩, ⟨by (with_reducible repeat (first | refine Zag ?_ _ | refine Zak ?_ | refine Zad ?_ _)); exact BK251.out⟩, ⟨by repeat (first | (with_reducible first | exact HB.out | apply Zab | apply Za | apply Zac | refine Zaf ?_ GE250.out | refine Zaf ?_ GE251.out) | exact HB.out)⟩⟩
   rw [if_neg c8] at H
   have c8b0 : decide (x8_1 < 4) = false := decide_eq_false c8
   clear c8
   replace H := Option.bind_eq_some_iff.mp H
   obtain ⟨⟨t264, t265, t268, t271, t272, t273, t276⟩, A220, H⟩ := H
   replace H : (if 0 ≤ (mn (t273.length : Int) 20) then (if (mn (t273.length : Int) 20) ≤ (t273.length : Int) then ((some (t273.take ((mn (t273.length : Int) 20) : Int).toNat : List (List Int))).bind fun y278 => ((Zat.f k1 x7_1 a1 t265 t268 t271 t272 y278 t276).bind fun t281 => (some (x7_1, a1, t265, t268, t271, t272, y278, t276, (t281 == 0))))) else (none)) else (none)) = some (r1, r2, r3, r4, r5, r6, r7, r8, r9) := H
   have A22 := Zaa.mk A220
   clear A220
   obtain ⟨ji23, hji23⟩ : ∃ j_ : Int, (mn (t273.length : Int) 20) = j_ := ⟨_, rfl⟩
   replace H : (if 0 ≤ (ji23) then (if (ji23) ≤ (t273.length : Int) then ((some (t273.take ((ji23) : Int).toNat : List (List Int))).bind fun y278 => ((Zat.f k1 x7_1 a1 t265 t268 t271 t272 y278 t276).bind fun t281 => (some (x7_1, a1, t265, t268, t271, t272, y278, t276, (t281 == 0))))) else (none)) else (none)) = some (r1, r2, r3, r4, r5, r6, r7, r8, r9) := by first | (rw [hji23] at H; exact H) | (simp only [hji23] at H ⊢; exact H)
   (try rw [hji23] at A22)
   (try (have hji23h : ji23 ≤ 20 := by (rw [← hji23]; unfold mn; (repeat' split) <;> omega)))
   (try (have hji23g : ji23 ≤ 64 := by omega))
   (try (have hji23l : 0 ≤ ji23 := by (rw [← hji23]; unfold mn; (repeat' split) <;> omega)))
   (try (have hji23m : 0 ≤ ji23 := by omega))
   have hji23_ : (if 20 < (t273.length : Int) then 20 else (t273.length : Int)) = ji23 := hji23
   by_cases c24 : 0 ≤ (ji23)
   rotate_left
   ·rw [if_neg c24] at H
    exact absurd H (by simp)
   rw [if_pos c24] at H
   have c24b0 := eq_true c24
   have c24b1 : decide (0 ≤ (ji23)) = true := decide_eq_true c24
   clear c24
   by_cases c25 : (ji23) ≤ (t273.length : Int)
   rotate_left
   ·rw [if_neg c25] at H
    exact absurd H (by simp)
   rw [if_pos c25] at H
   have c25b0 := eq_true c25
   have c25b1 : decide ((ji23) ≤ (t273.length : Int)) = true := decide_eq_true c25
   clear c25
   obtain ⟨y278, hy278⟩ : ∃ y_ : List (List Int), y_ = (t273.take ((ji23) : Int).toNat) := ⟨_, rfl⟩
   replace H : ((Zat.f k1 x7_1 a1 t265 t268 t271 t272 y278 t276).bind fun t281 => (some (x7_1, a1, t265, t268, t271, t272, y278, t276, (t281 == 0)))) = some (r1, r2, r3, r4, r5, r6, r7, r8, r9) := by first | (rw [hy278]; with_reducible exact H) | (have H2_ := (Option.bind_some _ _).symm.trans H; rw [hy278]; with_reducible exact H2_) | (have H2_ := (Option.bind_some _ _).symm.trans H; with_reducible exact H2_) | with_reducible exact H | (rw [hy278]; exact H) | exact H
   have Ny278 := Zaa.mk hy278
   clear hy278
   replace H := Option.bind_eq_some_iff.mp H
   obtain ⟨t281, A260, H⟩ := H
   replace H : (some (x7_1, a1, t265, t268, t271, t272, y278, t276, (t281 == 0))) = some (r1, r2, r3, r4, r5, r6, r7, r8, r9) := H
   have A26 := Zaa.mk A260
   clear A260
   simp only [Option.some.injEq, Prod.mk.injEq] at H
   obtain ⟨rfl, rfl, rfl, rfl, rfl, rfl, rfl, rfl, rfl⟩ := H
   have hnb27 := NB250_251.out
   have hnc27 := NB251_250.out
   obtain ⟨hcz28_0, hcz28_1, hcz28_2, hcz28_3, hcz28_4, hcz28_5, hcz28_6, hcz28_7, hcz28_8, hcz28_9, hfz28_0, hfz28_1, hfz28_2, hfz28_3, hfz28_4, hfz28_5, hfz28_6, hfz28_7, hfz28_8, hfz28_9⟩ := Zes BK250.out
   try go_wp2_with (first | ((with_reducible refine Zbo (f := 26) rfl ?_); refine Zcr (some 41) rfl rfl Try.func26 (by kernel_rfl) rfl #[.agg #[.int .i64 a0_1, .slice A0_2 l0_2.length c0_2, .slice A0_3 l0_3.length c0_3, .int .i64 a0_4, .int .i64 a0_5, .slice A0_6 l0_6.length c0_6, .int .i64 a0_7]] rfl (by (try simp only [List.map_toArray, List.map_cons, List.map_nil]); first | done | rfl | (simp only [List.length_drop, List.length_take]; rfl)) ?_; (refine withB (m := w.heap.size) (w0 := w) (by repeat (first | (with_reducible first | exact HB.out | apply Zab | apply Za | apply Zac | refine Zaf ?_ GE250.out | refine Zaf ?_ GE251.out) | exact HB.out)) ?_); intro hL_; (with_reducible refine (Zb0.calls k1 a0_1 _ _ l0_2 _ _ l0_3 a0_4 a0_5 _ _ l0_6 a0_7 t264 t265 t268 t271 t272 t273 t276 _ ?side1 ?side2 ?side3 ?side4 ?side5 ?side6 A22.out).mono ?_); (case side1 => repeat (first | exact (Kd.Za8 HR0_2.out HB.out) | (with_reducible refine Kd.C_alloc ?_ _) | (with_reducible refine Kd.Za0 ?_ _) | (with_reducible refine Kd.C_drew ?_))); (case side2 => exact HC0_2.out); (case side3 => repeat (first | exact (Kd.Za8 HR0_3.out HB.out) | (with_reducible refine Kd.C_alloc ?_ _) | (with_reducible refine Kd.Za0 ?_ _) | (with_reducible refine Kd.C_drew ?_))); (case side4 => exact HC0_3.out); (case side5 => repeat (first | exact (Kd.Za8 HR0_6.out HB.out) | (with_reducible refine Kd.C_alloc ?_ _) | (with_reducible refine Kd.Za0 ?_ _) | (with_reducible refine Kd.C_drew ?_))); (case side6 => exact HC0_6.out); rintro e w29 ⟨v266, v269, v274, rfl, ho0, ho1, ho2, hb⟩; refine ⟨_, rfl, ?_⟩; have n0_ := Zaa.mk (Kd.Zdv (mvS HO_7.out) hb); have n1_ := Zaa.mk (Kd.Zbs ho0 (Zae hL_)); have n2_ := Zaa.mk (Kd.Zbs ho1 (Zae hL_)); have n3_ := Zaa.mk (Kd.Zgi ho2 (Zae hL_)); have n4_ := Zaa.mk (Zbe (g := gb250) (o := .cells #[.slice A0_0 l0_0.length c0_0, .int .i64 a0_1, .slice A0_2 l0_2.length c0_2, .slice A0_3 l0_3.length c0_3, .int .i64 a0_4, .int .i64 a0_5, .slice A0_6 l0_6.length c0_6, .int .i64 a0_7, .slice A0_8 l0_8.length c0_8, .slice A0_9 l0_9.length c0_9] 27 (0, 0)) (mvK BK250.out) hb); have n5_ := Zaa.mk (Zbe (g := gb251) (o := .cells #[.int .i64 0, .slice none 0 0, .slice none 0 0, .int .i64 0, .int .i64 0, .slice none 0 0, .int .i64 0] 25 (0, 0)) (mvK BK251.out) hb); have n6_ := Zaa.mk (Zam hL_ hb); clear HO_7; clear BK250; clear BK251; clear HB; have HO_7 := n0_; have HO267 := n1_; have HO270 := n2_; have HO275 := n3_; have BK250 := n4_; have BK251 := n5_; have HB := n6_; clear n0_ n1_ n2_ n3_ n4_ n5_ n6_; (try clear hb); (try clear hb2); (try clear hk); (try clear hi); (try clear ho0); (try clear ho1); (try clear ho2)) | ((with_reducible refine Zbq (N := 9) rfl ?_); refine Zb9 ?hg (N := 9) ?hd (cs := #[.int .i64 0, .slice none 0 0, .slice none 0 0, .int .i64 0, .int .i64 0, .slice none 0 0, .int .i64 0]) (t := 25) ?hr ?_; (case hd => rfl); (case hg => rfl); (case hr => first | (go_simp; done) | (go_simp; rfl)); intro gb277 hg w30 hbox hb; have n0_ := Zaa.mk (Kd.Zdv (mvS HO_7.out) hb); have n1_ := Zaa.mk (Kd.Zca (mvR HO267.out) hb); have n2_ := Zaa.mk (Kd.Zca (mvR HO270.out) hb); have n3_ := Zaa.mk (Kd.Zdv (mvS HO275.out) hb); have n4_ := Zaa.mk (Zbe (g := gb250) (o := .cells #[.slice A0_0 l0_0.length c0_0, .int .i64 a0_1, .slice A0_2 l0_2.length c0_2, .slice A0_3 l0_3.length c0_3, .int .i64 a0_4, .int .i64 a0_5, .slice A0_6 l0_6.length c0_6, .int .i64 a0_7, .slice A0_8 l0_8.length c0_8, .slice A0_9 l0_9.length c0_9] 27 (0, 0)) (mvK BK250.out) hb); have n5_ := Zaa.mk (Zbe (g := gb251) (o := .cells #[.int .i64 0, .slice none 0 0, .slice none 0 0, .int .i64 0, .int .i64 0, .slice none 0 0, .int .i64 0] 25 (0, 0)) (mvK BK251.out) hb); have n6_ := Zaa.mk (Zam (by repeat (first | (with_reducible first | exact HB.out | apply Zab | apply Za | apply Zac | refine Zaf ?_ GE250.out | refine Zaf ?_ GE251.out) | exact HB.out)) hb); have n7_ := Zaa.mk (hbox); have n9_ := Zaa.mk ((by rw [hg]; exact (Zae (by repeat (first | (with_reducible first | exact HB.out | apply Zab | apply Za | apply Zac | refine Zaf ?_ GE250.out | refine Zaf ?_ GE251.out) | exact HB.out))) : w.heap.size ≤ gb277)); have n10_ := Zaa.mk ((by rw [hg]; exact Nat.ne_of_lt (Zdj (g := gb250) (o := .cells #[.slice A0_0 l0_0.length c0_0, .int .i64 a0_1, .slice A0_2 l0_2.length c0_2, .slice A0_3 l0_3.length c0_3, .int .i64 a0_4, .int .i64 a0_5, .slice A0_6 l0_6.length c0_6, .int .i64 a0_7, .slice A0_8 l0_8.length c0_8, .slice A0_9 l0_9.length c0_9] 27 (0, 0)) (mvK BK250.out)) : gb250 ≠ gb277)); have n11_ := Zaa.mk ((by rw [hg]; exact Nat.ne_of_gt (Zdj (g := gb250) (o := .cells #[.slice A0_0 l0_0.length c0_0, .int .i64 a0_1, .slice A0_2 l0_2.length c0_2, .slice A0_3 l0_3.length c0_3, .int .i64 a0_4, .int .i64 a0_5, .slice A0_6 l0_6.length c0_6, .int .i64 a0_7, .slice A0_8 l0_8.length c0_8, .slice A0_9 l0_9.length c0_9] 27 (0, 0)) (mvK BK250.out)) : gb277 ≠ gb250)); have n12_ := Zaa.mk ((by rw [hg]; exact Nat.ne_of_lt (Zdj (g := gb251) (o := .cells #[.int .i64 0, .slice none 0 0, .slice none 0 0, .int .i64 0, .int .i64 0, .slice none 0 0, .int .i64 0] 25 (0, 0)) (mvK BK251.out)) : gb251 ≠ gb277)); have n13_ := Zaa.mk ((by rw [hg]; exact Nat.ne_of_gt (Zdj (g := gb251) (o := .cells #[.int .i64 0, .slice none 0 0, .slice none 0 0, .int .i64 0, .int .i64 0, .slice none 0 0, .int .i64 0] 25 (0, 0)) (mvK BK251.out)) : gb277 ≠ gb251)); clear HO_7; clear HO267; clear HO270; clear HO275; clear BK250; clear BK251; clear HB; have HO_7 := n0_; have HO267 := n1_; have HO270 := n2_; have HO275 := n3_; have BK250 := n4_; have BK251 := n5_; have HB := n6_; have BK277 := n7_; have GE277 := n9_; have NB250_277 := n10_; have NB277_250 := n11_; have NB251_277 := n12_; have NB277_251 := n13_; clear n0_ n1_ n2_ n3_ n4_ n5_ n6_ n7_ n9_ n10_ n11_ n12_ n13_; clear hb hbox hg; have hnb31 := NB277_250.out; have hnc31 := NB250_277.out; have hnb32 := NB277_251.out; have hnc32 := NB251_277.out; obtain ⟨hcz33_0, hcz33_1, hcz33_2, hcz33_3, hcz33_4, hcz33_5, hcz33_6, hfz33_0, hfz33_1, hfz33_2, hfz33_3, hfz33_4, hfz33_5, hfz33_6⟩ := Zcg BK277.out; obtain ⟨Ao34, co34, eo34⟩ := Kd.Zbn HO267.out; subst eo34; obtain ⟨Ao35, co35, eo35⟩ := Kd.Zbn HO270.out; subst eo35; obtain ⟨Ao36, co36, eo36⟩ := Kd.Zgj HO275.out; subst eo36) | ((with_reducible refine Zdu (t := 25) (p := 9) rfl ?_); refine Zdo (t := 25) (p := 9) (v := ?vo_w37) (w1 := (((((((w30.setCell ⟨gb277, 0, none⟩ (.int .i64 t264)).setCell ⟨gb277, 1, none⟩ (.slice Ao34 t265.length co34)).setCell ⟨gb277, 2, none⟩ (.slice Ao35 t268.length co35)).setCell ⟨gb277, 3, none⟩ (.int .i64 t271)).setCell ⟨gb277, 4, none⟩ (.int .i64 t272)).setCell ⟨gb277, 5, none⟩ (.slice Ao36 t273.length co36)).setCell ⟨gb277, 6, none⟩ (.int .i64 t276))) ?hg ?ho ?hn ?hr ?_; (case ho => rfl); (case hg => rfl); (case hn => rfl); (case hr => first | (go_simp; done) | (go_simp; rfl)); intro w37 hw; have n0_ : Zaa (Kd.S (Kd.slice 41 k41) 39 w37 w.heap.size (fun _ => True) u7 x7_1) := ⟨(by rw [hw]; exact (mvS (Kd.Zc5 (Kd.Zcc (p := ⟨gb277, 6, none⟩) (Kd.Zcc (p := ⟨gb277, 5, none⟩) (Kd.Zcc (p := ⟨gb277, 4, none⟩) (Kd.Zcc (p := ⟨gb277, 3, none⟩) (Kd.Zcc (p := ⟨gb277, 2, none⟩) (Kd.Zcc (p := ⟨gb277, 1, none⟩) (Kd.Zcc (p := ⟨gb277, 0, none⟩) (Kd.Zdl HO_7.out BK277.out (by decide)) (fun _ hk => hk.2) (.int .i64 t264)) (fun _ hk => hk.2) (.slice Ao34 t265.length co34)) (fun _ hk => hk.2) (.slice Ao35 t268.length co35)) (fun _ hk => hk.2) (.int .i64 t271)) (fun _ hk => hk.2) (.int .i64 t272)) (fun _ hk => hk.2) (.slice Ao36 t273.length co36)) (fun _ hk => hk.2) (.int .i64 t276)) (fun _ hk => trivial))))⟩; have n1_ : Zaa (Kd.R (Kd.int .i64) 3 w37 w.heap.size (fun k_ => some k_ ≠ (.slice Ao35 t268.length co35 : Value).ownBlock) (.slice Ao34 t265.length co34) t265) := ⟨(by rw [hw]; exact (mvR (Kd.Zbm (Kd.Zb5 (p := ⟨gb277, 6, none⟩) (Kd.Zb5 (p := ⟨gb277, 5, none⟩) (Kd.Zb5 (p := ⟨gb277, 4, none⟩) (Kd.Zb5 (p := ⟨gb277, 3, none⟩) (Kd.Zb5 (p := ⟨gb277, 2, none⟩) (Kd.Zb5 (p := ⟨gb277, 1, none⟩) (Kd.Zb5 (p := ⟨gb277, 0, none⟩) (Kd.Zc HO267.out BK277.out (by decide)) (fun _ hk => hk.2) (.int .i64 t264)) (fun _ hk => hk.2) (.slice Ao34 t265.length co34)) (fun _ hk => hk.2) (.slice Ao35 t268.length co35)) (fun _ hk => hk.2) (.int .i64 t271)) (fun _ hk => hk.2) (.int .i64 t272)) (fun _ hk => hk.2) (.slice Ao36 t273.length co36)) (fun _ hk => hk.2) (.int .i64 t276)) (fun _ hk => hk.1))))⟩; have n2_ : Zaa (Kd.R (Kd.int .i64) 3 w37 w.heap.size (fun k_ => some k_ ≠ (.slice Ao34 t265.length co34 : Value).ownBlock) (.slice Ao35 t268.length co35) t268) := ⟨(by rw [hw]; exact (mvR (Kd.Zbm (Kd.Zb5 (p := ⟨gb277, 6, none⟩) (Kd.Zb5 (p := ⟨gb277, 5, none⟩) (Kd.Zb5 (p := ⟨gb277, 4, none⟩) (Kd.Zb5 (p := ⟨gb277, 3, none⟩) (Kd.Zb5 (p := ⟨gb277, 2, none⟩) (Kd.Zb5 (p := ⟨gb277, 1, none⟩) (Kd.Zb5 (p := ⟨gb277, 0, none⟩) (Kd.Zc HO270.out BK277.out (by decide)) (fun _ hk => hk.2) (.int .i64 t264)) (fun _ hk => hk.2) (.slice Ao34 t265.length co34)) (fun _ hk => hk.2) (.slice Ao35 t268.length co35)) (fun _ hk => hk.2) (.int .i64 t271)) (fun _ hk => hk.2) (.int .i64 t272)) (fun _ hk => hk.2) (.slice Ao36 t273.length co36)) (fun _ hk => hk.2) (.int .i64 t276)) (fun _ hk => hk.1))))⟩; have n3_ : Zaa (Kd.S (Kd.slice 3 (Kd.int .i64)) 23 w37 w.heap.size (fun k_ => some k_ ≠ (.slice Ao34 t265.length co34 : Value).ownBlock ∧ some k_ ≠ (.slice Ao35 t268.length co35 : Value).ownBlock) (.slice Ao36 t273.length co36) t273) := ⟨(by rw [hw]; exact (mvS (Kd.Zc5 (Kd.Zcc (p := ⟨gb277, 6, none⟩) (Kd.Zcc (p := ⟨gb277, 5, none⟩) (Kd.Zcc (p := ⟨gb277, 4, none⟩) (Kd.Zcc (p := ⟨gb277, 3, none⟩) (Kd.Zcc (p := ⟨gb277, 2, none⟩) (Kd.Zcc (p := ⟨gb277, 1, none⟩) (Kd.Zcc (p := ⟨gb277, 0, none⟩) (Kd.Zdl HO275.out BK277.out (by decide)) (fun _ hk => hk.2) (.int .i64 t264)) (fun _ hk => hk.2) (.slice Ao34 t265.length co34)) (fun _ hk => hk.2) (.slice Ao35 t268.length co35)) (fun _ hk => hk.2) (.int .i64 t271)) (fun _ hk => hk.2) (.int .i64 t272)) (fun _ hk => hk.2) (.slice Ao36 t273.length co36)) (fun _ hk => hk.2) (.int .i64 t276)) (fun _ hk => ⟨hk.1.1, hk.1.2⟩))))⟩; have n4_ : Zaa (w37.heap[gb250]? = some (.cells #[.slice A0_0 l0_0.length c0_0, .int .i64 a0_1, .slice A0_2 l0_2.length c0_2, .slice A0_3 l0_3.length c0_3, .int .i64 a0_4, .int .i64 a0_5, .slice A0_6 l0_6.length c0_6, .int .i64 a0_7, .slice A0_8 l0_8.length c0_8, .slice A0_9 l0_9.length c0_9] 27 (0, 0))) := ⟨(by rw [hw]; exact (by (with_reducible repeat (first | refine Zag ?_ _ | refine Zak ?_ | refine Zad ?_ _)); refine Zcb ?_ NB250_277.out _; (with_reducible repeat (first | refine Zag ?_ _ | refine Zak ?_ | refine Zad ?_ _)); refine Zcb ?_ NB250_277.out _; (with_reducible repeat (first | refine Zag ?_ _ | refine Zak ?_ | refine Zad ?_ _)); refine Zcb ?_ NB250_277.out _; (with_reducible repeat (first | refine Zag ?_ _ | refine Zak ?_ | refine Zad ?_ _)); refine Zcb ?_ NB250_277.out _; (with_reducible repeat (first | refine Zag ?_ _ | refine Zak ?_ | refine Zad ?_ _)); refine Zcb ?_ NB250_277.out _; (with_reducible repeat (first | refine Zag ?_ _ | refine Zak ?_ | refine Zad ?_ _)); refine Zcb ?_ NB250_277.out _; (with_reducible repeat (first | refine Zag ?_ _ | refine Zak ?_ | refine Zad ?_ _)); refine Zcb ?_ NB250_277.out _; (with_reducible repeat (first | refine Zag ?_ _ | refine Zak ?_ | refine Zad ?_ _)); exact BK250.out))⟩; have n5_ : Zaa (w37.heap[gb251]? = some (.cells #[.int .i64 0, .slice none 0 0, .slice none 0 0, .int .i64 0, .int .i64 0, .slice none 0 0, .int .i64 0] 25 (0, 0))) := ⟨(by rw [hw]; exact (by (with_reducible repeat (first | refine Zag ?_ _ | refine Zak ?_ | refine Zad ?_ _)); refine Zcb ?_ NB251_277.out _; (with_reducible repeat (first | refine Zag ?_ _ | refine Zak ?_ | refine Zad ?_ _)); refine Zcb ?_ NB251_277.out _; (with_reducible repeat (first | refine Zag ?_ _ | refine Zak ?_ | refine Zad ?_ _)); refine Zcb ?_ NB251_277.out _; (with_reducible repeat (first | refine Zag ?_ _ | refine Zak ?_ | refine Zad ?_ _)); refine Zcb ?_ NB251_277.out _; (with_reducible repeat (first | refine Zag ?_ _ | refine Zak ?_ | refine Zad ?_ _)); refine Zcb ?_ NB251_277.out _; (with_reducible repeat (first | refine Zag ?_ _ | refine Zak ?_ | refine Zad ?_ _)); refine Zcb ?_ NB251_277.out _; (with_reducible repeat (first | refine Zag ?_ _ | refine Zak ?_ | refine Zad ?_ _)); refine Zcb ?_ NB251_277.out _; (with_reducible repeat (first | refine Zag ?_ _ | refine Zak ?_ | refine Zad ?_ _)); exact BK251.out))⟩; have n6_ : Zaa (w37.heap[gb277]? = some (.cells #[.int .i64 t264, .slice Ao34 t265.length co34, .slice Ao35 t268.length co35, .int .i64 t271, .int .i64 t272, .slice Ao36 t273.length co36, .int .i64 t276] 25 (0, 0))) := ⟨(by rw [hw]; exact (by (with_reducible repeat (first | refine Zag ?_ _ | refine Zak ?_ | refine Zad ?_ _)); refine Zbl (cs := #[.int .i64 t264, .slice Ao34 t265.length co34, .slice Ao35 t268.length co35, .int .i64 t271, .int .i64 t272, .slice Ao36 t273.length co36, .int .i64 0]) ?_ 6 _ rfl; (with_reducible repeat (first | refine Zag ?_ _ | refine Zak ?_ | refine Zad ?_ _)); refine Zbl (cs := #[.int .i64 t264, .slice Ao34 t265.length co34, .slice Ao35 t268.length co35, .int .i64 t271, .int .i64 t272, .slice none 0 0, .int .i64 0]) ?_ 5 _ rfl; (with_reducible repeat (first | refine Zag ?_ _ | refine Zak ?_ | refine Zad ?_ _)); refine Zbl (cs := #[.int .i64 t264, .slice Ao34 t265.length co34, .slice Ao35 t268.length co35, .int .i64 t271, .int .i64 0, .slice none 0 0, .int .i64 0]) ?_ 4 _ rfl; (with_reducible repeat (first | refine Zag ?_ _ | refine Zak ?_ | refine Zad ?_ _)); refine Zbl (cs := #[.int .i64 t264, .slice Ao34 t265.length co34, .slice Ao35 t268.length co35, .int .i64 0, .int .i64 0, .slice none 0 0, .int .i64 0]) ?_ 3 _ rfl; (with_reducible repeat (first | refine Zag ?_ _ | refine Zak ?_ | refine Zad ?_ _)); refine Zbl (cs := #[.int .i64 t264, .slice Ao34 t265.length co34, .slice none 0 0, .int .i64 0, .int .i64 0, .slice none 0 0, .int .i64 0]) ?_ 2 _ rfl; (with_reducible repeat (first | refine Zag ?_ _ | refine Zak ?_ | refine Zad ?_ _)); refine Zbl (cs := #[.int .i64 t264, .slice none 0 0, .slice none 0 0, .int .i64 0, .int .i64 0, .slice none 0 0, .int .i64 0]) ?_ 1 _ rfl; (with_reducible repeat (first | refine Zag ?_ _ | refine Zak ?_ | refine Zad ?_ _)); refine Zbl (cs := #[.int .i64 0, .slice none 0 0, .slice none 0 0, .int .i64 0, .int .i64 0, .slice none 0 0, .int .i64 0]) ?_ 0 _ rfl; (with_reducible repeat (first | refine Zag ?_ _ | refine Zak ?_ | refine Zad ?_ _)); exact BK277.out))⟩; have n7_ : Zaa (Below w.heap.size w w37) := ⟨(by rw [hw]; exact (by repeat (first | (with_reducible first | exact HB.out | apply Zab | apply Za | apply Zac | refine Zaf ?_ GE250.out | refine Zaf ?_ GE251.out | refine Zaf ?_ GE277.out) | exact HB.out)))⟩; clear hw; clear HO_7; clear HO267; clear HO270; clear HO275; clear BK250; clear BK251; clear BK277; clear HB; have HO_7 := n0_; have HO267 := n1_; have HO270 := n2_; have HO275 := n3_; have BK250 := n4_; have BK251 := n5_; have BK277 := n6_; have HB := n7_; clear n0_ n1_ n2_ n3_ n4_ n5_ n6_ n7_; obtain ⟨hcz38_0, hcz38_1, hcz38_2, hcz38_3, hcz38_4, hcz38_5, hcz38_6, hfz38_0, hfz38_1, hfz38_2, hfz38_3, hfz38_4, hfz38_5, hfz38_6⟩ := Zcg BK277.out) | ((with_reducible refine Zdu (t := 3) (p := 43) rfl ?_); refine Zdo (t := 3) (p := 43) (v := ?vo_w39) (w1 := (w37.setCell ⟨gb277, 0, none⟩ (.int .i64 a1))) ?hg ?ho ?hn ?hr ?_; (case ho => rfl); (case hg => rfl); (case hn => rfl); (case hr => first | (go_simp; done) | (go_simp; rfl)); intro w39 hw; have n0_ : Zaa (Kd.S (Kd.slice 41 k41) 39 w39 w.heap.size (fun _ => True) u7 x7_1) := ⟨(by rw [hw]; exact (mvS (Kd.Zc5 (Kd.Zcc (p := ⟨gb277, 0, none⟩) (Kd.Zdl HO_7.out BK277.out (by decide)) (fun _ hk => hk.2) (.int .i64 a1)) (fun _ hk => trivial))))⟩; have n1_ : Zaa (Kd.R (Kd.int .i64) 3 w39 w.heap.size (fun k_ => some k_ ≠ (.slice Ao35 t268.length co35 : Value).ownBlock) (.slice Ao34 t265.length co34) t265) := ⟨(by rw [hw]; exact (mvR (Kd.Zbm (Kd.Zb5 (p := ⟨gb277, 0, none⟩) (Kd.Zc HO267.out BK277.out (by decide)) (fun _ hk => hk.2) (.int .i64 a1)) (fun _ hk => hk.1))))⟩; have n2_ : Zaa (Kd.R (Kd.int .i64) 3 w39 w.heap.size (fun k_ => some k_ ≠ (.slice Ao34 t265.length co34 : Value).ownBlock) (.slice Ao35 t268.length co35) t268) := ⟨(by rw [hw]; exact (mvR (Kd.Zbm (Kd.Zb5 (p := ⟨gb277, 0, none⟩) (Kd.Zc HO270.out BK277.out (by decide)) (fun _ hk => hk.2) (.int .i64 a1)) (fun _ hk => hk.1))))⟩; have n3_ : Zaa (Kd.S (Kd.slice 3 (Kd.int .i64)) 23 w39 w.heap.size (fun k_ => some k_ ≠ (.slice Ao34 t265.length co34 : Value).ownBlock ∧ some k_ ≠ (.slice Ao35 t268.length co35 : Value).ownBlock) (.slice Ao36 t273.length co36) t273) := ⟨(by rw [hw]; exact (mvS (Kd.Zc5 (Kd.Zcc (p := ⟨gb277, 0, none⟩) (Kd.Zdl HO275.out BK277.out (by decide)) (fun _ hk => hk.2) (.int .i64 a1)) (fun _ hk => ⟨hk.1.1, hk.1.2⟩))))⟩; have n4_ : Zaa (w39.heap[gb250]? = some (.cells #[.slice A0_0 l0_0.length c0_0, .int .i64 a0_1, .slice A0_2 l0_2.length c0_2, .slice A0_3 l0_3.length c0_3, .int .i64 a0_4, .int .i64 a0_5, .slice A0_6 l0_6.length c0_6, .int .i64 a0_7, .slice A0_8 l0_8.length c0_8, .slice A0_9 l0_9.length c0_9] 27 (0, 0))) := ⟨(by rw [hw]; exact (by (with_reducible repeat (first | refine Zag ?_ _ | refine Zak ?_ | refine Zad ?_ _)); refine Zcb ?_ NB250_277.out _; (with_reducible repeat (first | refine Zag ?_ _ | refine Zak ?_ | refine Zad ?_ _)); exact BK250.out))⟩; have n5_ : Zaa (w39.heap[gb251]? = some (.cells #[.int .i64 0, .slice none 0 0, .slice none 0 0, .int .i64 0, .int .i64 0, .slice none 0 0, .int .i64 0] 25 (0, 0))) := ⟨(by rw [hw]; exact (by (with_reducible repeat (first | refine Zag ?_ _ | refine Zak ?_ | refine Zad ?_ _)); refine Zcb ?_ NB251_277.out _; (with_reducible repeat (first | refine Zag ?_ _ | refine Zak ?_ | refine Zad ?_ _)); exact BK251.out))⟩; have n6_ : Zaa (w39.heap[gb277]? = some (.cells #[.int .i64 a1, .slice Ao34 t265.length co34, .slice Ao35 t268.length co35, .int .i64 t271, .int .i64 t272, .slice Ao36 t273.length co36, .int .i64 t276] 25 (0, 0))) := ⟨(by rw [hw]; exact (by (with_reducible repeat (first | refine Zag ?_ _ | refine Zak ?_ | refine Zad ?_ _)); refine Zbl (cs := #[.int .i64 t264, .slice Ao34 t265.length co34, .slice Ao35 t268.length co35, .int .i64 t271, .int .i64 t272, .slice Ao36 t273.length co36, .int .i64 t276]) ?_ 0 _ rfl; (with_reducible repeat (first | refine Zag ?_ _ | refine Zak ?_ | refine Zad ?_ _)); exact BK277.out))⟩; have n7_ : Zaa (Below w.heap.size w w39) := ⟨(by rw [hw]; exact (by repeat (first | (with_reducible first | exact HB.out | apply Zab | apply Za | apply Zac | refine Zaf ?_ GE250.out | refine Zaf ?_ GE251.out | refine Zaf ?_ GE277.out) | exact HB.out)))⟩; clear hw; clear HO_7; clear HO267; clear HO270; clear HO275; clear BK250; clear BK251; clear BK277; clear HB; have HO_7 := n0_; have HO267 := n1_; have HO270 := n2_; have HO275 := n3_; have BK250 := n4_; have BK251 := n5_; have BK277 := n6_; have HB := n7_; clear n0_ n1_ n2_ n3_ n4_ n5_ n6_ n7_; obtain ⟨hcz40_0, hcz40_1, hcz40_2, hcz40_3, hcz40_4, hcz40_5, hcz40_6, hfz40_0, hfz40_1, hfz40_2, hfz40_3, hfz40_4, hfz40_5, hfz40_6⟩ := Zcg BK277.out; have q41 : ((ji23) : Int) ≤ ((t273.length : Int) : Int) := of_decide_eq_true (by first | (with_reducible assumption) | assumption); obtain ⟨i041, hi041, _, hsz41, _⟩ := info_parts info23; have hcut41 := cut_to (P := Try.prog) 22 23 .i64 Try.underlying22 hi041 Ao36 t273.length co36 (ji23) (of_decide_eq_true (by first | (with_reducible assumption) | assumption)) q41 (Kd.Zd0 HO275.out).2.1; have hr41 := Kd.S_take (m := ((ji23) : Int).toNat) HO275.out (by omega); have hy41 : y278.length = ((ji23) : Int).toNat := (by rw [Ny278.out, List.length_take]; omega); rw [← Ny278.out] at hr41; rw [← hy41] at hr41 hcut41; clear hy41 hi041 hsz41 HO275; have HO280 := Zaa.mk hr41; clear hr41; replace q41 := eq_true q41))
   have n0_ : Zaa (Kd.S (Kd.slice 41 k41) 39 (w39.setCell ⟨gb277, 5, none⟩ (.slice Ao36 y278.length co36)) w.heap.size (fun _ => True) u7 x7_1) := ⟨by (with_reducible repeat (first | apply Kd.Zd | apply Kd.S_drewN | apply Kd.Zdh)); exact Kd.Zc5 (Kd.Zcc (p := ⟨gb277, 5, none⟩) (Kd.Zdl HO_7.out BK277.out (by decide)) (fun _ hk => hk.2) (.slice Ao36 y278.length co36)) (fun _ hk => trivial)⟩
   have n1_ : Zaa (Kd.R (Kd.int .i64) 3 (w39.setCell ⟨gb277, 5, none⟩ (.slice Ao36 y278.length co36)) w.heap.size (fun k_ => some k_ ≠ (.slice Ao35 t268.length co35 : Value).ownBlock) (.slice Ao34 t265.length co34) t265) := ⟨by (with_reducible repeat (first | apply Kd.Za6 | apply Kd.Za5 | apply Kd.Zbb)); exact Kd.Zbm (Kd.Zb5 (p := ⟨gb277, 5, none⟩) (Kd.Zc HO267.out BK277.out (by decide)) (fun _ hk => hk.2) (.slice Ao36 y278.length co36)) (fun _ hk => hk.1)⟩
   have n2_ : Zaa (Kd.R (Kd.int .i64) 3 (w39.setCell ⟨gb277, 5, none⟩ (.slice Ao36 y278.length co36)) w.heap.size (fun k_ => some k_ ≠ (.slice Ao34 t265.length co34 : Value).ownBlock) (.slice Ao35 t268.length co35) t268) := ⟨by (with_reducible repeat (first | apply Kd.Za6 | apply Kd.Za5 | apply Kd.Zbb)); exact Kd.Zbm (Kd.Zb5 (p := ⟨gb277, 5, none⟩) (Kd.Zc HO270.out BK277.out (by decide)) (fun _ hk => hk.2) (.slice Ao36 y278.length co36)) (fun _ hk => hk.1)⟩
   have n3_ : Zaa (Kd.S (Kd.slice 3 (Kd.int .i64)) 23 (w39.setCell ⟨gb277, 5, none⟩ (.slice Ao36 y278.length co36)) w.heap.size (fun k_ => some k_ ≠ (.slice Ao34 t265.length co34 : Value).ownBlock ∧ some k_ ≠ (.slice Ao35 t268.length co35 : Value).ownBlock) (.slice Ao36 y278.length co36) y278) := ⟨by (with_reducible repeat (first | apply Kd.Zd | apply Kd.S_drewN | apply Kd.Zdh)); exact Kd.Zc5 (Kd.Zcc (p := ⟨gb277, 5, none⟩) (Kd.Zdl HO280.out BK277.out (by decide)) (fun _ hk => hk.2) (.slice Ao36 y278.length co36)) (fun _ hk => ⟨hk.1.1, hk.1.2⟩)⟩
   have n4_ : Zaa ((w39.setCell ⟨gb277, 5, none⟩ (.slice Ao36 y278.length co36)).heap[gb250]? = some (.cells #[.slice A0_0 l0_0.length c0_0, .int .i64 a0_1, .slice A0_2 l0_2.length c0_2, .slice A0_3 l0_3.length c0_3, .int .i64 a0_4, .int .i64 a0_5, .slice A0_6 l0_6.length c0_6, .int .i64 a0_7, .slice A0_8 l0_8.length c0_8, .slice A0_9 l0_9.length c0_9] 27 (0, 0))) := ⟨by (with_reducible repeat (first | refine Zag ?_ _ | refine Zak ?_ | refine Zad ?_ _)); refine Zcb ?_ NB250_277.out _; (with_reducible repeat (first | refine Zag ?_ _ | refine Zak ?_ | refine Zad ?_ _)); exact BK250.out⟩
   have n5_ : Zaa ((w39.setCell ⟨gb277, 5, none⟩ (.slice Ao36 y278.length co36)).heap[gb251]? = some (.cells #[.int .i64 0, .slice none 0 0, .slice none 0 0, .int .i64 0, .int .i64 0, .slice none 0 0, .int .i64 0] 25 (0, 0))) := ⟨by (with_reducible repeat (first | refine Zag ?_ _ | refine Zak ?_ | refine Zad ?_ _)); refine Zcb ?_ NB251_277.out _; (with_reducible repeat (first | refine Zag ?_ _ | refine Zak ?_ | refine Zad ?_ _)); exact BK251.out⟩
   have n6_ : Zaa ((w39.setCell ⟨gb277, 5, none⟩ (.slice Ao36 y278.length co36)).heap[gb277]? = some (.cells #[.int .i64 a1, .slice Ao34 t265.length co34, .slice Ao35 t268.length co35, .int .i64 t271, .int .i64 t272, .slice Ao36 y278.length co36, .int .i64 t276] 25 (0, 0))) := ⟨by (with_reducible repeat (first | refine Zag ?_ _ | refine Zak ?_ | refine Zad ?_ _)); refine Zbl (cs := #[.int .i64 a1, .slice Ao34 t265.length co34, .slice Ao35 t268.length co35, .int .i64 t271, .int .i64 t272, .slice Ao36 t273.length co36, .int .i64 t276]) ?_ 5 _ rfl; (with_reducible repeat (first | refine Zag ?_ _ | refine Zak ?_ | refine Zad ?_ _)); exact BK277.out⟩
   have n7_ : Zaa (Below w.heap.size w (w39.setCell ⟨gb277, 5, none⟩ (.slice Ao36 y278.length co36))) := ⟨by repeat (first | (with_reducible first | exact HB.out | apply Zab | apply Za | apply Zac | refine Zaf ?_ GE250.out | refine Zaf ?_ GE251.out | refine Zaf ?_ GE277.out) | exact HB.out)⟩
   (try clear HO_7)
   (try clear HO267)
   (try clear HO270)
   (try clear HO280)
   (try clear BK250)
   (try clear BK251)
   (try clear BK277)
   (try clear HB)
   generalize (w39.setCell ⟨gb277, 5, none⟩ (.slice Ao36 y278.length co36)) = w42 at n0_ n1_ n2_ n3_ n4_ n5_ n6_ n7_ ⊢
   have HO_7 := n0_
   have HO267 := n1_
   have HO270 := n2_
   have HO280 := n3_
   have BK250 := n4_
   have BK251 := n5_
   have BK277 := n6_
   have HB := n7_
   clear n0_ n1_ n2_ n3_ n4_ n5_ n6_ n7_
   have n0_ := Zaa.mk (Kd.Zdh HO_7.out)
   have n1_ := Zaa.mk (Kd.Zbb HO267.out)
   have n2_ := Zaa.mk (Kd.Zbb HO270.out)
   have n3_ := Zaa.mk (Kd.Zdh HO280.out)
   have n4_ := Zaa.mk (Zak BK250.out)
   have n5_ := Zaa.mk (Zak BK251.out)
   have n6_ := Zaa.mk (Zak BK277.out)
   have n7_ := Zaa.mk (Zac HB.out)
   clear HO_7
   clear HO267
   clear HO270
   clear HO280
   clear BK250
   clear BK251
   clear BK277
   clear HB
   have HO_7 := n0_
   have HO267 := n1_
   have HO270 := n2_
   have HO280 := n3_
   have BK250 := n4_
   have BK251 := n5_
   have BK277 := n6_
   have HB := n7_
   clear n0_ n1_ n2_ n3_ n4_ n5_ n6_ n7_
   obtain ⟨Ao44, co44, eo44⟩ := Kd.Zgj HO_7.out
   (first | subst eo44 | (injection eo44 with f1_ f2_ f3_; have f4_ := f1_.symm; have f5_ := f3_.symm; clear f1_ f2_ f3_; subst f4_; subst f5_))
   refine Zeg (n := 9) (S := fun w' => w'.cell? ⟨gb277, 0, none⟩ = some (.int .i64 a1) ∧ w'.cell? ⟨gb277, 1, none⟩ = some (.slice Ao34 t265.length co34) ∧ w'.cell? ⟨gb277, 2, none⟩ = some (.slice Ao35 t268.length co35) ∧ w'.cell? ⟨gb277, 3, none⟩ = some (.int .i64 t271) ∧ w'.cell? ⟨gb277, 4, none⟩ = some (.int .i64 t272) ∧ w'.cell? ⟨gb277, 5, none⟩ = some (.slice Ao36 y278.length co36) ∧ w'.cell? ⟨gb277, 6, none⟩ = some (.int .i64 t276)) (ds := []) #[false, false, false, false, false, false, false, false, false] (by kernel_rfl) rfl rfl ⟨(Za3 BK277.out 0).trans rfl, (Za3 BK277.out 1).trans rfl, (Za3 BK277.out 2).trans rfl, (Za3 BK277.out 3).trans rfl, (Za3 BK277.out 4).trans rfl, (Za3 BK277.out 5).trans rfl, (Za3 BK277.out 6).trans rfl⟩ (fun hHeld => ?_); refine Zda Zaq.tab9 Zaq.bits9 (fun HT_ HW_ => ?_)
   generalize w42.drew = w43 at HO_7 HO267 HO270 HO280 BK250 BK251 BK277 HB hHeld ⊢
   refine Zbv (i := 0) (N := some 52) (v := ?_) (a' := ?_) #[true, false, false, false, false, false, false, false, false] rfl rfl (Zbf HT_.out (by kernel_rfl)) (fun _ _ _ h => h) (Or.inl ⟨by rfl, ?_⟩) ?_ ?_
   rotate_left
   ·intro w'
    go_simp
    with_reducible rfl
   rotate_left
   ·simp only [Act.put, List.setIfInBounds_toArray, List.set_cons_zero, List.set_cons_succ, Zbh, Zbi]
    rfl
   refine Zbv (i := 2) (N := some 54) (v := ?_) (a' := ?_) #[true, false, true, false, false, false, false, false, false] rfl rfl (Zbf HT_.out (by kernel_rfl)) (fun _ _ _ h => h) (Or.inl ⟨by rfl, ?_⟩) ?_ ?_
   rotate_left
   ·intro w'
    go_simp
    with_reducible rfl
   rotate_left
   ·simp only [Act.put, List.setIfInBounds_toArray, List.set_cons_zero, List.set_cons_succ, Zbh, Zbi]
    rfl
   refine Zdw (i := 1) (N := some 53) (v := ?_) (a' := ?_) #[true, true, true, false, false, false, false, false, false] rfl rfl (Zcq HT_.out HW_.out (by kernel_rfl)) (fun _ _ _ h => h) (Or.inl ⟨by rfl, ?_⟩) hHeld ?_ ?_
   rotate_left
   ·rintro w' ⟨s0, s1, s2, s3, s4, s5, s6⟩
    go_simp
    with_reducible rfl
   rotate_left
   ·simp only [Act.put, List.setIfInBounds_toArray, List.set_cons_zero, List.set_cons_succ, Zbh, Zbi]
    rfl
   refine Zdw (i := 3) (N := some 55) (v := ?_) (a' := ?_) #[true, true, true, true, false, false, false, false, false] rfl rfl (Zcq HT_.out HW_.out (by kernel_rfl)) (fun _ _ _ h => h) (Or.inl ⟨by rfl, ?_⟩) hHeld ?_ ?_
   rotate_left
   ·rintro w' ⟨s0, s1, s2, s3, s4, s5, s6⟩
    go_simp
    with_reducible rfl
   rotate_left
   ·simp only [Act.put, List.setIfInBounds_toArray, List.set_cons_zero, List.set_cons_succ, Zbh, Zbi]
    rfl
   refine one_ (i := 4) (N := some 56) #[true, true, true, true, true, false, false, false, false] rfl rfl (Zec HT_.out (by kernel_rfl)) (by decide) (fun K hK => ?_)
   refine goes_ Try.func41 (by kernel_rfl) rfl #[.slice Ao44 x7_1.length co44, .agg #[.int .i64 a1, .slice Ao34 t265.length co34, .slice Ao35 t268.length co35, .int .i64 t271, .int .i64 t272, .slice Ao36 y278.length co36, .int .i64 t276]] (by rfl) rfl rfl (by (try simp only [List.map_toArray, List.map_cons, List.map_nil]); first | done | rfl | (simp only [List.length_drop, List.length_take]; rfl)) ?_
   with_reducible refine (Zat.calls k1 _ _ x7_1 a1 _ _ t265 _ _ t268 t271 t272 _ _ y278 t276 t281 _ ?side1 ?side2 ?side3 ?side4 ?side5 ?side6 ?side7 ?side8 A26.out).mono ?_
   (case side1 => repeat (first | exact (Kd.Zd0 HO_7.out).2.2 | (with_reducible refine Kd.C_alloc ?_ _) | (with_reducible refine Kd.Za0 ?_ _) | (with_reducible refine Kd.C_drew ?_)))
   (case side2 => exact (Kd.Zd0 HO_7.out).2.1)
   (case side3 => repeat (first | exact (Kd.Zaz HO267.out).2.2 | (with_reducible refine Kd.C_alloc ?_ _) | (with_reducible refine Kd.Za0 ?_ _) | (with_reducible refine Kd.C_drew ?_)))
   (case side4 => exact (Kd.Zaz HO267.out).2.1)
   (case side5 => repeat (first | exact (Kd.Zaz HO270.out).2.2 | (with_reducible refine Kd.C_alloc ?_ _) | (with_reducible refine Kd.Za0 ?_ _) | (with_reducible refine Kd.C_drew ?_)))
   (case side6 => exact (Kd.Zaz HO270.out).2.1)
   (case side7 => repeat (first | exact (Kd.Zd0 HO280.out).2.2 | (with_reducible refine Kd.C_alloc ?_ _) | (with_reducible refine Kd.Za0 ?_ _) | (with_reducible refine Kd.C_drew ?_)))
   (case side8 => exact (Kd.Zd0 HO280.out).2.1)
   rintro e w45 ⟨rfl, hb⟩
   refine ⟨_, rfl, ?_⟩
   have n0_ := Zaa.mk (Kd.Zdv (mvS HO_7.out) hb)
   have n1_ := Zaa.mk (Kd.Zca (mvR HO267.out) hb)
   have n2_ := Zaa.mk (Kd.Zca (mvR HO270.out) hb)
   have n3_ := Zaa.mk (Kd.Zdv (mvS HO280.out) hb)
   have n4_ := Zaa.mk (Zbe (g := gb250) (o := .cells #[.slice A0_0 l0_0.length c0_0, .int .i64 a0_1, .slice A0_2 l0_2.length c0_2, .slice A0_3 l0_3.length c0_3, .int .i64 a0_4, .int .i64 a0_5, .slice A0_6 l0_6.length c0_6, .int .i64 a0_7, .slice A0_8 l0_8.length c0_8, .slice A0_9 l0_9.length c0_9] 27 (0, 0)) (mvK BK250.out) hb)
   have n5_ := Zaa.mk (Zbe (g := gb251) (o := .cells #[.int .i64 0, .slice none 0 0, .slice none 0 0, .int .i64 0, .int .i64 0, .slice none 0 0, .int .i64 0] 25 (0, 0)) (mvK BK251.out) hb)
   have n6_ := Zaa.mk (Zbe (g := gb277) (o := .cells #[.int .i64 a1, .slice Ao34 t265.length co34, .slice Ao35 t268.length co35, .int .i64 t271, .int .i64 t272, .slice Ao36 y278.length co36, .int .i64 t276] 25 (0, 0)) (mvK BK277.out) hb)
   have n7_ := Zaa.mk (Zam (mvB HB.out) hb)
   clear HO_7
   clear HO267
   clear HO270
   clear HO280
   clear BK250
   clear BK251
   clear BK277
   clear HB
   have HO_7 := n0_
   have HO267 := n1_
   have HO270 := n2_
   have HO280 := n3_
   have BK250 := n4_
   have BK251 := n5_
   have BK277 := n6_
   have HB := n7_
   clear n0_ n1_ n2_ n3_ n4_ n5_ n6_ n7_
   (try clear hb)
   (try clear hb2)
   (try clear hk)
   (try clear hi)
   refine hK.out _ _ ⟨(Za3 BK277.out 0).trans rfl, (Za3 BK277.out 1).trans rfl, (Za3 BK277.out 2).trans rfl, (Za3 BK277.out 3).trans rfl, (Za3 BK277.out 4).trans rfl, (Za3 BK277.out 5).trans rfl, (Za3 BK277.out 6).trans rfl⟩ (fun hHeld => ?_)
   clear hK K
   refine Zgs (a' := ?_) ?_ ?_
   rotate_left
   ·show Act.put _ (some 56) _ = _
    simp only [Act.put, List.setIfInBounds_toArray, List.set_cons_zero, List.set_cons_succ, Zbh, Zbi]
    rfl
   refine Zbv (i := 5) (N := some 57) (v := ?_) (a' := ?_) #[true, true, true, true, true, true, false, false, false] rfl rfl (Zbf HT_.out (by kernel_rfl)) (fun _ _ _ h => h) (Or.inl ⟨by rfl, ?_⟩) ?_ ?_
   rotate_left
   ·intro w'
    go_simp
    with_reducible rfl
   rotate_left
   ·simp only [Act.put, List.setIfInBounds_toArray, List.set_cons_zero, List.set_cons_succ, Zbh, Zbi]
    rfl
   refine Zbv (i := 6) (N := some 4) (v := ?_) (a' := ?_) #[true, true, true, true, true, true, true, false, false] rfl rfl (Zbf HT_.out (by kernel_rfl)) (fun _ _ _ h => h) (Or.inl ⟨by rfl, ?_⟩) ?_ ?_
   rotate_left
   ·intro w'
    go_simp
    with_reducible rfl
   rotate_left
   ·simp only [Act.put, List.setIfInBounds_toArray, List.set_cons_zero, List.set_cons_succ, Zbh, Zbi]
    rfl
   refine one_ (i := 7) (N := none) #[true, true, true, true, true, true, true, true, false] rfl rfl (Zec HT_.out (by kernel_rfl)) (by decide) (fun K hK => ?_)
   have hs46 : w45.cell? ⟨gb251, 0, none⟩ = some (.int .i64 0) := (Za3 BK251.out 0).trans rfl
   have hfs46 := Zbz BK251.out 0
   have hns46_0 := NB250_251.out
   have hns46_2 := NB277_251.out
   have hms46_0 := NB251_250.out
   have hms46_2 := NB251_277.out
   have hs47 : w45.cell? ⟨gb251, 1, none⟩ = some (.slice none 0 0) := (Za3 BK251.out 1).trans rfl
   have hfs47 := Zbz BK251.out 1
   have hns47_0 := NB250_251.out
   have hns47_2 := NB277_251.out
   have hms47_0 := NB251_250.out
   have hms47_2 := NB251_277.out
   have hs48 : w45.cell? ⟨gb251, 2, none⟩ = some (.slice none 0 0) := (Za3 BK251.out 2).trans rfl
   have hfs48 := Zbz BK251.out 2
   have hns48_0 := NB250_251.out
   have hns48_2 := NB277_251.out
   have hms48_0 := NB251_250.out
   have hms48_2 := NB251_277.out
   have hs49 : w45.cell? ⟨gb251, 3, none⟩ = some (.int .i64 0) := (Za3 BK251.out 3).trans rfl
   have hfs49 := Zbz BK251.out 3
   have hns49_0 := NB250_251.out
   have hns49_2 := NB277_251.out
   have hms49_0 := NB251_250.out
   have hms49_2 := NB251_277.out
   have hs50 : w45.cell? ⟨gb251, 4, none⟩ = some (.int .i64 0) := (Za3 BK251.out 4).trans rfl
   have hfs50 := Zbz BK251.out 4
   have hns50_0 := NB250_251.out
   have hns50_2 := NB277_251.out
   have hms50_0 := NB251_250.out
   have hms50_2 := NB251_277.out
   have hs51 : w45.cell? ⟨gb251, 5, none⟩ = some (.slice none 0 0) := (Za3 BK251.out 5).trans rfl
   have hfs51 := Zbz BK251.out 5
   have hns51_0 := NB250_251.out
   have hns51_2 := NB277_251.out
   have hms51_0 := NB251_250.out
   have hms51_2 := NB251_277.out
   have hs52 : w45.cell? ⟨gb251, 6, none⟩ = some (.int .i64 0) := (Za3 BK251.out 6).trans rfl
   have hfs52 := Zbz BK251.out 6
   have hns52_0 := NB250_251.out
   have hns52_2 := NB277_251.out
   have hms52_0 := NB251_250.out
   have hms52_2 := NB251_277.out
   refine skip_ (w1 := ?_) (by rfl) rfl ?_ ?_
   rotate_left
   ·go_simp
    rfl
   refine hK.out _ _ ⟨((cell_far (p := ⟨gb251, _, none⟩) NB277_251.out _).trans (((cell_far (p := ⟨gb251, _, none⟩) NB277_251.out _).trans (((cell_far (p := ⟨gb251, _, none⟩) NB277_251.out _).trans (((cell_far (p := ⟨gb251, _, none⟩) NB277_251.out _).trans (((cell_far (p := ⟨gb251, _, none⟩) NB277_251.out _).trans (((cell_far (p := ⟨gb251, _, none⟩) NB277_251.out _).trans (((cell_far (p := ⟨gb251, _, none⟩) NB277_251.out _).trans (hHeld.1)))))))))))))), ((cell_far (p := ⟨gb251, _, none⟩) NB277_251.out _).trans (((cell_far (p := ⟨gb251, _, none⟩) NB277_251.out _).trans (((cell_far (p := ⟨gb251, _, none⟩) NB277_251.out _).trans (((cell_far (p := ⟨gb251, _, none⟩) NB277_251.out _).trans (((cell_far (p := ⟨gb251, _, none⟩) NB277_251.out _).trans (((cell_far (p := ⟨gb251, _, none⟩) NB277_251.out _).trans (((cell_far (p := ⟨gb251, _, none⟩) NB277_251.out _).trans (hHeld.2.1)))))))))))))), ((cell_far (p := ⟨gb251, _, none⟩) NB277_251.out _).trans (((cell_far (p := ⟨gb251, _, none⟩) NB277_251.out _).trans (((cell_far (p := ⟨gb251, _, none⟩) NB277_251.out _).trans (((cell_far (p := ⟨gb251, _, none⟩) NB277_251.out _).trans (((cell_far (p := ⟨gb251, _, none⟩) NB277_251.out _).trans (((cell_far (p := ⟨gb251, _, none⟩) NB277_251.out _).trans (((cell_far (p := ⟨gb251, _, none⟩) NB277_251.out _).trans (hHeld.2.2.1)))))))))))))), ((cell_far (p := ⟨gb251, _, none⟩) NB277_251.out _).trans (((cell_far (p := ⟨gb251, _, none⟩) NB277_251.out _).trans (((cell_far (p := ⟨gb251, _, none⟩) NB277_251.out _).trans (((cell_far (p := ⟨gb251, _, none⟩) NB277_251.out _).trans (((cell_far (p := ⟨gb251, _, none⟩) NB277_251.out _).trans (((cell_far (p := ⟨gb251, _, none⟩) NB277_251.out _).trans (((cell_far (p := ⟨gb251, _, none⟩) NB277_251.out _).trans (hHeld.2.2.2.1)))))))))))))), ((cell_far (p := ⟨gb251, _, none⟩) NB277_251.out _).trans (((cell_far (p := ⟨gb251, _, none⟩) NB277_251.out _).trans (((cell_far (p := ⟨gb251, _, none⟩) NB277_251.out _).trans (((cell_far (p := ⟨gb251, _, none⟩) NB277_251.out _).trans (((cell_far (p := ⟨gb251, _, none⟩) NB277_251.out _).trans (((cell_far (p := ⟨gb251, _, none⟩) NB277_251.out _).trans (((cell_far (p := ⟨gb251, _, none⟩) NB277_251.out _).trans (hHeld.2.2.2.2.1)))))))))))))), ((cell_far (p := ⟨gb251, _, none⟩) NB277_251.out _).trans (((cell_far (p := ⟨gb251, _, none⟩) NB277_251.out _).trans (((cell_far (p := ⟨gb251, _, none⟩) NB277_251.out _).trans (((cell_far (p := ⟨gb251, _, none⟩) NB277_251.out _).trans (((cell_far (p := ⟨gb251, _, none⟩) NB277_251.out _).trans (((cell_far (p := ⟨gb251, _, none⟩) NB277_251.out _).trans (((cell_far (p := ⟨gb251, _, none⟩) NB277_251.out _).trans (hHeld.2.2.2.2.2.1)))))))))))))), ((cell_far (p := ⟨gb251, _, none⟩) NB277_251.out _).trans (((cell_far (p := ⟨gb251, _, none⟩) NB277_251.out _).trans (((cell_far (p := ⟨gb251, _, none⟩) NB277_251.out _).trans (((cell_far (p := ⟨gb251, _, none⟩) NB277_251.out _).trans (((cell_far (p := ⟨gb251, _, none⟩) NB277_251.out _).trans (((cell_far (p := ⟨gb251, _, none⟩) NB277_251.out _).trans (((cell_far (p := ⟨gb251, _, none⟩) NB277_251.out _).trans (hHeld.2.2.2.2.2.2))))))))))))))⟩ (fun hHeld => ?_)
   clear hK K
   refine Zbv (i := 8) (N := some 6) (v := ?_) (a' := ?_) #[true, true, true, true, true, true, true, true, true] rfl rfl (Zbf HT_.out (by kernel_rfl)) (fun _ _ _ h => h) (Or.inl ⟨by rfl, ?_⟩) ?_ ?_
   rotate_left
   ·intro w'
    go_simp
    with_reducible rfl
   rotate_left
   ·simp only [Act.put, List.setIfInBounds_toArray, List.set_cons_zero, List.set_cons_succ, Zbh, Zbi]
    rfl
   refine Zfw (Zdz HT_.out (by kernel_rfl)) ?_
   try go_wp2
   refine bodyPost_ret (Zf6 (rs := [.tmp 4, .cell 5 25, .tmp 6]) rfl (by simp) (.tmp (.cell gb251 25 #[.int .i64 a1, .slice Ao34 t265.length co34, .slice Ao35 t268.length co35, .int .i64 t271, .int .i64 t272, .slice Ao36 y278.length co36, .int .i64 t276] (0, 0) _ rfl (by (with_reducible repeat (first | refine Zag ?_ _ | refine Zak ?_ | refine Zad ?_ _)); refine Zbl (cs := #[.int .i64 a1, .slice Ao34 t265.length co34, .slice Ao35 t268.length co35, .int .i64 t271, .int .i64 t272, .slice Ao36 y278.length co36, .int .i64 0]) ?_ 6 _ rfl; (with_reducible repeat (first | refine Zag ?_ _ | refine Zak ?_ | refine Zad ?_ _)); refine Zbl (cs := #[.int .i64 a1, .slice Ao34 t265.length co34, .slice Ao35 t268.length co35, .int .i64 t271, .int .i64 t272, .slice none 0 0, .int .i64 0]) ?_ 5 _ rfl; (with_reducible repeat (first | refine Zag ?_ _ | refine Zak ?_ | refine Zad ?_ _)); refine Zbl (cs := #[.int .i64 a1, .slice Ao34 t265.length co34, .slice Ao35 t268.length co35, .int .i64 t271, .int .i64 0, .slice none 0 0, .int .i64 0]) ?_ 4 _ rfl; (with_reducible repeat (first | refine Zag ?_ _ | refine Zak ?_ | refine Zad ?_ _)); refine Zbl (cs := #[.int .i64 a1, .slice Ao34 t265.length co34, .slice Ao35 t268.length co35, .int .i64 0, .int .i64 0, .slice none 0 0, .int .i64 0]) ?_ 3 _ rfl; (with_reducible repeat (first | refine Zag ?_ _ | refine Zak ?_ | refine Zad ?_ _)); refine Zbl (cs := #[.int .i64 a1, .slice Ao34 t265.length co34, .slice none 0 0, .int .i64 0, .int .i64 0, .slice none 0 0, .int .i64 0]) ?_ 2 _ rfl; (with_reducible repeat (first | refine Zag ?_ _ | refine Zak ?_ | refine Zad ?_ _)); refine Zbl (cs := #[.int .i64 a1, .slice none 0 0, .slice none 0 0, .int .i64 0, .int .i64 0, .slice none 0 0, .int .i64 0]) ?_ 1 _ rfl; (with_reducible repeat (first | refine Zag ?_ _ | refine Zak ?_ | refine Zad ?_ _)); refine Zbl (cs := #[.int .i64 0, .slice none 0 0, .slice none 0 0, .int .i64 0, .int .i64 0, .slice none 0 0, .int .i64 0]) ?_ 0 _ rfl; (with_reducible repeat (first | refine Zag ?_ _ | refine Zak ?_ | refine Zad ?_ _)); exact BK251.out) Try.underlying25 rfl (by kernel_rfl) (.tmp .nil)))) rfl ?_
   exact ⟨_, _, _, _, by first | rfl | (simp [Za1, Za2] <;> rfl) | (simp only [← hji23]; first | rfl | (simp [Za1, Za2] <;> rfl)) | (simp [*, Za1, Za2] <;> rfl), by (with_reducible repeat (first | apply Kd.Zd | apply Kd.S_drewN | apply Kd.Zdh)); exact Kd.Zc5 (Kd.Zcc (p := ⟨gb251, 6, none⟩) (Kd.Zcc (p := ⟨gb251, 5, none⟩) (Kd.Zcc (p := ⟨gb251, 4, none⟩) (Kd.Zcc (p := ⟨gb251, 3, none⟩) (Kd.Zcc (p := ⟨gb251, 2, none⟩) (Kd.Zcc (p := ⟨gb251, 1, none⟩) (Kd.Zcc (p := ⟨gb251, 0, none⟩) (Kd.Zdl HO_7.out BK251.out (by decide)) (fun _ hk => hk.2) (.int .i64 a1)) (fun _ hk => hk.2) (.slice Ao34 t265.length co34)) (fun _ hk => hk.2) (.slice Ao35 t268.length co35)) (fun _ hk => hk.2) (.int .i64 t271)) (fun _ hk => hk.2) (.int .i64 t272)) (fun _ hk => hk.2) (.slice Ao36 y278.length co36)) (fun _ hk => hk.2) (.int .i64 t276)) (fun _ hk => trivial), by (with_reducible repeat (first | apply Kd.Za6 | apply Kd.Za5 | apply Kd.Zbb)); exact Kd.Zbm (Kd.Zb5 (p := ⟨gb251, 6, none⟩) (Kd.Zb5 (p := ⟨gb251, 5, none⟩) (Kd.Zb5 (p := ⟨gb251, 4, none⟩) (Kd.Zb5 (p := ⟨gb251, 3, none⟩) (Kd.Zb5 (p := ⟨gb251, 2, none⟩) (Kd.Zb5 (p := ⟨gb251, 1, none⟩) (Kd.Zb5 (p := ⟨gb251, 0, none⟩) (Kd.Zc HO267.out BK251.out (by decide)) (fun _ hk => hk.2) (.int .i64 a1)) (fun _ hk => hk.2) (.slice Ao34 t265.length co34)) (fun _ hk => hk.2) (.slice Ao35 t268.length co35)) (fun _ hk => hk.2) (.int .i64 t271)) (fun _ hk => hk.2) (.int .i64 t272)) (fun _ hk => hk.2) (.slice Ao36 y278.length co36)) (fun _ hk => hk.2) (.int .i64 t276)) (fun _ hk => hk.1), by (with_reducible repeat (first | apply Kd.Za6 | apply Kd.Za5 | apply Kd.Zbb)); exact Kd.Zbm (Kd.Zb5 (p := ⟨gb251, 6, none⟩) (Kd.Zb5 (p := ⟨gb251, 5, none⟩) (Kd.Zb5 (p := ⟨gb251, 4, none⟩) (Kd.Zb5 (p := ⟨gb251, 3, none⟩) (Kd.Zb5 (p := ⟨gb251, 2, none⟩) (Kd.Zb5 (p := ⟨gb251, 1, none⟩) (Kd.Zb5 (p := ⟨gb251, 0, none⟩) (Kd.Zc HO270.out BK251.out (by decide)) (fun _ hk => hk.2) (.int .i64 a1)) (fun _ hk => hk.2) (.slice Ao34 t265.length co34)) (fun _ hk => hk.2) (.slice Ao35 t268.length co35)) (fun _ hk => hk.2) (.int .i64 t271)) (fun _ hk => hk.2) (.int .i64 t272)) (fun _ hk => hk.2) (.slice Ao36 y278.length co36)) (fun _ hk => hk.2) (.int .i64 t276)) (fun _ hk => hk.1), by (with_reducible repeat (first | apply Kd.Zd | apply Kd.S_drewN | apply Kd.Zdh)); exact Kd.Zc5 (Kd.Zcc (p := ⟨gb251, 6, none⟩) (Kd.Zcc (p := ⟨gb251, 5, none⟩) (Kd.Zcc (p := ⟨gb251, 4, none⟩) (Kd.Zcc (p := ⟨gb251, 3, none⟩) (Kd.Zcc (p := ⟨gb251, 2, none⟩) (Kd.Zcc (p := ⟨gb251, 1, none⟩) (Kd.Zcc (p := ⟨gb251, 0, none⟩) (Kd.Zdl HO280.out BK251.out (by decide)) (fun _ hk => hk.2) (.int .i64 a1)) (fun _ hk => hk.2) (.slice Ao34 t265.length co34)) (fun _ hk => hk.2) (.slice Ao35 t268.length co35)) (fun _ hk => hk.2) (.int .i64 t271)) (fun _ hk => hk.2) (.int .i64 t272)) (fun _ hk => hk.2) (.slice Ao36 y278.length co36)) (fun _ hk => hk.2) (.int .i64 t276)) (fun _ hk => ⟨hk.1.1, hk.1.2⟩), by repeat (first | (with_reducible first | exact HB.out | apply Zab | apply Za | apply Zac | refine Zaf ?_ GE250.out | refine Zaf ?_ GE251.out | refine Zaf ?_ GE277.out) | exact HB.out)⟩
end Go.Proofs.Ytpbcigilipdedaa.P
/- Plain: whether a constraint may be, by the document (of a table, of an element); a case that is laid. -/
namespace Go.Proofs.Ytpbcigilipdedaa.P
open Go.RowKit Go.Proofs.YtpbcigilipdedaaW.PrintWords Go.Proofs.YtpbcigilipdedaaW.PrintLast Go.Proofs.YtpbcigilipdedaaW.PrintMore
set_option linter.unusedVariables false
set_option linter.unusedSimpArgs false
theorem mn_len2 {n m : Nat} : mn (n : Int) (m : Int) = ((min n m : Nat) : Int) := by unfold mn; omega
theorem nodup_snoc {l : List Int} {n : Nat} (hn : n < l.length) (h : (l.take n).Nodup) (hd : ∀ j (hj : j < n), l[n] ≠ l[j]'(by omega)) : (l.take (n + 1)).Nodup := by
  rw [List.take_succ_eq_append_getElem hn, List.nodup_append]
  refine ⟨h, by simp, fun a ha b hb => ?_⟩
  obtain rfl := List.mem_singleton.1 hb
  obtain ⟨j, hj, rfl⟩ := List.mem_take_iff_getElem.1 ha
  exact fun e => hd j (by omega) e.symm
theorem others_l0 (l : List Int) (hl : l.length < 4611686018427387904) : ∀ (m n : Nat), n + m = l.length → (l.take n).Nodup → Ev (fun k => Zar.l0 k l (n : Int)) (decide l.Nodup) := by
  intro m
  induction m with
  | zero =>
    intro n h hn
    rw [List.take_of_length_le (by omega)] at hn
    exact Ev.step (G := fun _ => some true) (fun k => by rw [Zar.l0, if_neg (by omega)]) (Ev.const (by simp [hn]))
  | succ m ih =>
    intro n h hn
    have hlt : n < l.length := by omega
    have inner : ∀ (r q : Nat) (hq : q + r = n), (∀ j (hj : j < q), l[n] ≠ l[j]'(by omega)) → Ev (fun k => Zar.l1 k l (n : Int) (q : Int)) (decide l.Nodup) := by
      intro r
      induction r with
      | zero =>
        intro q hq hd
        obtain rfl : q = n := by omega
        exact Ev.step (fun k => by rw [Zar.l1, if_neg (by omega), w1 (by omega)]) (ih (q + 1) (by omega) (nodup_snoc hlt hn hd))
      | succ r ihr =>
        intro q hq hd
        have hql : q < l.length := by omega
        by_cases e : l[n] = l[q]
        rotate_left
        · refine Ev.step (fun k => by rw [Zar.l1, if_pos (by omega), if_pos (by omega), if_pos (by omega), if_pos (by omega), if_pos (by omega), Zcw l n hlt, Zcw l q hql, if_neg e, w1 (by omega)]) (ihr (q + 1) (by omega) (fun j hj => ?_))
          by_cases hjq : j = q
          · subst hjq; exact e
          exact hd j (by omega)
        have hnn : ¬ l.Nodup := fun hN => by
          exact List.pairwise_iff_getElem.1 hN q n hql hlt (by omega) e.symm
        rw [decide_eq_false hnn]
        exact Ev.step (G := fun _ => some false) (fun k => by rw [Zar.l1, if_pos (by omega), if_pos (by omega), if_pos (by omega), if_pos (by omega), if_pos (by omega), Zcw l n hlt, Zcw l q hql, if_pos e]) (Ev.pure _)
    exact Ev.step (fun k => by rw [Zar.l0, if_pos (by omega)]; rfl) (inner n 0 (by omega) (fun j hj => absurd hj (Nat.not_lt_zero j)))
theorem others_ev (l : List Int) (hl : l.length < 4611686018427387904) : Ev (fun k => Zar.f k l) (decide l.Nodup) := others_l0 l hl l.length 0 (by omega) (by simp)
def rowsOK (vars : List Int) (rows : List (List Int)) : Bool := (rows.all fun r => decide (r.length = vars.length) && r.all isVal) && decide (rows.length ≤ 1024)
theorem rows_l0 (kd : Int) (vars coefs : List Int) (op rhs : Int) (rows : List (List Int)) (b : Int) (hr : rows.length < 4611686018427387904) (hin : ∀ x ∈ rows, x.length < 4611686018427387904) : ∀ (m n : Nat), n + m = rows.length →
    Ev (fun k => Zau.l0 k (n : Int) kd vars coefs op rhs rows b) (((rows.drop n).all fun r => decide (r.length = vars.length) && r.all isVal) && decide (rows.length ≤ 1024)) := by
  intro m
  induction m with
  | zero =>
    intro n h
    rw [List.drop_of_length_le (by omega)]
    exact Ev.step (G := fun _ => some (decide ((rows.length : Int) ≤ 1024))) (fun k => by rw [Zau.l0, if_neg (by omega)]) (Ev.const (by simp; omega))
  | succ m ih =>
    intro n h
    have hn : n < rows.length := by omega
    have hx := hin _ (List.getElem_mem hn)
    rw [List.drop_eq_getElem_cons hn, List.all_cons]
    have inner : ∀ (r q : Nat), q + r = rows[n].length → Ev (fun k => Zau.l1 k (n : Int) (q : Int) kd vars coefs op rhs rows b) (((rows[n].drop q).all isVal && (rows.drop (n + 1)).all fun r => decide (r.length = vars.length) && r.all isVal) && decide (rows.length ≤ 1024)) := by
      intro r
      induction r with
      | zero =>
        intro q hq
        rw [List.drop_of_length_le (show rows[n].length ≤ q by omega)]
        refine Ev.step (fun k => by rw [Zau.l1, if_pos (by omega), if_pos (by omega), Zfa rows n hn, if_neg (by omega), w1 (by omega)]) ?_
        simpa using ih (n + 1) (by omega)
      | succ r ihr =>
        intro q hq
        have hql : q < rows[n].length := by omega
        refine Ev.step (fun k => by rw [Zau.l1, if_pos (by omega), if_pos (by omega), Zfa rows n hn, if_pos (by omega), if_pos (by omega), Zcw _ q hql, Zfz, Option.bind_some, w1 (by omega)]) ?_
        rw [List.drop_eq_getElem_cons hql, List.all_cons]
        cases hv : isVal rows[n][q] with
        | true => simpa using ihr (q + 1) (by omega)
        | false => simpa using Ev.pure false
    by_cases e : rows[n].length = vars.length
    rotate_left
    · refine Ev.step (G := fun _ => some false) (fun k => by rw [Zau.l0, if_pos (by omega), if_pos (by omega), Zfa rows n hn, if_neg (by omega)]) ?_
      simpa [e] using Ev.pure false
    refine Ev.step (fun k => by rw [Zau.l0, if_pos (by omega), if_pos (by omega), Zfa rows n hn, if_pos (by omega)]) ?_
    have := inner rows[n].length 0 (by omega)
    simpa [e] using this
theorem rows_ev (kd : Int) (vars coefs : List Int) (op rhs : Int) (rows : List (List Int)) (b : Int) (hr : rows.length < 4611686018427387904) (hin : ∀ x ∈ rows, x.length < 4611686018427387904) :
    Ev (fun k => Zau.f k kd vars coefs op rhs rows b) (rowsOK vars rows) := rows_l0 kd vars coefs op rhs rows b hr hin rows.length 0 (by omega)
def plainB (coefs : List Int) (op rhs b : Int) : Bool := decide (op = 0) && decide (rhs = 0) && decide (b = 0) && decide (coefs = [])
def manyB (vars : List Int) : Bool := decide (vars ≠ []) && decide vars.Nodup
def rightB (kd : Int) (vars coefs : List Int) (op rhs : Int) (rows : List (List Int)) (b : Int) : Bool :=
  plainB coefs op rhs b && manyB vars && (if kd = 2 then rowsOK vars rows else decide (rows = []) && decide (3 ≤ vars.length))
section
variable (d : List (List Rg)) (kd : Int) (vars coefs : List Int) (op rhs : Int) (rows : List (List Int)) (b : Int) (hk : kd = 2 ∨ kd = 3)
  (hv : vars.length < 4611686018427387904) (hr : rows.length < 4611686018427387904) (hin : ∀ x ∈ rows, x.length < 4611686018427387904)
include hk hv hr hin
theorem right_j3 (x6 x8 : Bool) : Ev (fun k => Zaj.j3 k x6 x8 kd vars coefs op rhs rows b) (x6 && x8 && (if kd = 2 then rowsOK vars rows else decide (rows = []) && decide (3 ≤ vars.length))) := by
  rcases hk with rfl | rfl
  · refine Ev.step (fun k => by rw [Zaj.j3, if_neg (by omega), if_neg (by omega), if_pos rfl]) ?_
    cases x6 with
    | false => simpa using Ev.pure false
    | true =>
      cases x8 with
      | false => simpa using Ev.pure false
      | true => simpa using Ev.bind (rows_ev 2 vars coefs op rhs rows b hr hin) (Ev.pure _)
  refine Ev.step (fun k => by rw [Zaj.j3, if_neg (by omega), if_neg (by omega), if_neg (by omega), if_pos rfl]) ?_
  by_cases h0 : rows = []
  rotate_left
  · have hne : ¬ (rows.length : Int) = 0 := by
      intro e
      exact h0 (List.length_eq_zero_iff.1 (by omega))
    simp only [if_neg hne]
    simpa [h0] using Ev.pure false
  subst h0
  cases x6 with
  | false => simpa using Ev.pure false
  | true =>
    cases x8 with
    | false => simpa using Ev.pure false
    | true =>
      have e : (decide ((vars.length : Int) ≥ 3)) = decide (3 ≤ vars.length) := decide_eq_decide.2 (by omega)
      simpa [e] using Ev.pure (decide (3 ≤ vars.length))
theorem right_j2 (x6 : Bool) : Ev (fun k => Zaj.j2 k x6 kd vars coefs op rhs rows b) (x6 && manyB vars && (if kd = 2 then rowsOK vars rows else decide (rows = []) && decide (3 ≤ vars.length))) := by
  by_cases h0 : vars = []
  · subst h0
    refine Ev.step (fun k => by rw [Zaj.j2, if_neg (by simp)]) ?_
    have := right_j3 kd [] coefs op rhs rows b hk hv hr hin x6 false
    simpa [manyB] using this
  have hpos : (vars.length : Int) > 0 := by
    have : vars.length ≠ 0 := fun e => h0 (List.length_eq_zero_iff.1 e)
    omega
  refine Ev.step (fun k => by rw [Zaj.j2, if_pos hpos]) (Ev.bind (others_ev vars hv) ?_)
  have := right_j3 kd vars coefs op rhs rows b hk hv hr hin x6 (decide vars.Nodup)
  simpa [manyB, h0] using this
theorem right_j0 (x5 : Bool) : Ev (fun k => Zaj.j0 k x5 kd vars coefs op rhs rows b) (x5 && decide (coefs = []) && manyB vars && (if kd = 2 then rowsOK vars rows else decide (rows = []) && decide (3 ≤ vars.length))) := by
  have j1 : ∀ x6 : Bool, Ev (fun k => Zaj.j1 k x6 kd vars coefs op rhs rows b) (x6 && manyB vars && (if kd = 2 then rowsOK vars rows else decide (rows = []) && decide (3 ≤ vars.length))) := fun x6 => by
    by_cases h : op ≥ 0
    · exact Ev.step (fun k => by rw [Zaj.j1, if_pos h]) (right_j2 kd vars coefs op rhs rows b hk hv hr hin x6)
    exact Ev.step (fun k => by rw [Zaj.j1, if_neg h]) (right_j2 kd vars coefs op rhs rows b hk hv hr hin x6)
  cases x5 with
  | false => exact Ev.step (fun k => by rw [Zaj.j0, if_neg (by simp)]) (by simpa using j1 false)
  | true =>
    have e : ((coefs.length : Int) == 0) = decide (coefs = []) := by
      rw [Bool.eq_iff_iff, decide_eq_true_iff, beq_iff_eq]
      constructor
      · intro h; exact List.length_eq_zero_iff.1 (by omega)
      rintro rfl; rfl
    refine Ev.step (fun k => by rw [Zaj.j0, if_pos rfl, e]) ?_
    simpa using j1 (decide (coefs = []))
theorem right_ev : Ev (fun k => Zaj.f k d kd vars coefs op rhs rows b) (rightB kd vars coefs op rhs rows b) := by
  unfold Zaj.f rightB plainB
  by_cases h1 : op = 0
  rotate_left
  · have := right_j0 kd vars coefs op rhs rows b hk hv hr hin false
    simp only [if_neg h1]
    simpa [h1] using this
  by_cases h2 : rhs = 0
  rotate_left
  · have := right_j0 kd vars coefs op rhs rows b hk hv hr hin false
    simp only [if_pos h1, if_neg h2]
    simpa [h1, h2] using this
  have := right_j0 kd vars coefs op rhs rows b hk hv hr hin (b == 0)
  have e : (b == 0) = decide (b = 0) := by rw [Bool.eq_iff_iff, decide_eq_true_iff, beq_iff_eq]
  rw [e] at this
  simp only [if_pos h1, if_pos h2, e]
  simpa [h1, h2] using this
theorem con_ev (hv2 : vars.length < 17592186044000) (hd : d.length < 4611686018427387904) : ∃ e : Int, Ev (fun k => Zat.f k d kd vars coefs op rhs rows b) e ∧ (e = 0 → (∀ v ∈ vars, 0 ≤ v ∧ v < (d.length : Int)) ∧ rightB kd vars coefs op rhs rows b = true) := by
  have hsl := Zee vars
  have hR := right_ev d kd vars coefs op rhs rows b hk hv hr hin
  have loop : ∀ (m n : Nat), n + m = (sd vars).length → (∀ v ∈ (sd vars).take n, 0 ≤ v ∧ v < (d.length : Int)) →
      ∃ e : Int, Ev (fun k => Zat.l0 k d (sd vars) (n : Int) kd vars coefs op rhs rows b) e ∧ (e = 0 → (∀ v ∈ sd vars, 0 ≤ v ∧ v < (d.length : Int)) ∧ rightB kd vars coefs op rhs rows b = true) := by
    intro m
    induction m with
    | zero =>
      intro n h ha
      rw [List.take_of_length_le (by omega)] at ha
      cases hB : rightB kd vars coefs op rhs rows b with
      | false =>
        rw [hB] at hR
        refine ⟨44, Ev.step (fun k => by rw [Zat.l0, if_neg (by omega)]) (Ev.bind hR (Ev.Zc4 Bool.false_ne_true (Ev.pure _))), fun e => by omega⟩
      | true =>
        rw [hB] at hR
        have hp : coefs = [] ∧ rhs = 0 := by
          unfold rightB plainB at hB
          simp at hB
          exact ⟨hB.1.1.2, hB.1.1.1.1.2⟩
        obtain ⟨rfl, rfl⟩ := hp
        have hbig : Ev (fun k => Zas.f k [] 0) false := by
          unfold Zas.f
          refine Ev.Zc4 (by omega) ?_
          refine Ev.step (fun k => by rw [Zas.j0, if_neg (by simp)]) ?_
          exact Ev.step (fun k => by rw [Zas.l0, if_neg (show ¬ ((0 : Int) < (([] : List Int).length : Int)) from Int.lt_irrefl 0)]) (Ev.pure _)
        refine ⟨0, Ev.step (fun k => by rw [Zat.l0, if_neg (by omega)]) (Ev.bind hR ?_), fun _ => ⟨ha, rfl⟩⟩
        refine Ev.Zcf (c := true = true) rfl ?_
        refine Ev.bind hbig ?_
        exact Ev.Zc4 (c := false = true) Bool.false_ne_true (Ev.pure _)
    | succ m ih =>
      intro n h ha
      have hn : n < (sd vars).length := by omega
      by_cases h1 : (sd vars)[n] < 0
      · exact ⟨43, Ev.step (fun k => by rw [Zat.l0, if_pos (by omega), if_pos (by omega), Zcw _ n hn, if_pos h1]) (Ev.pure _), fun e => by omega⟩
      by_cases h2 : (sd vars)[n] ≥ (d.length : Int)
      · exact ⟨43, Ev.step (fun k => by rw [Zat.l0, if_pos (by omega), if_pos (by omega), Zcw _ n hn, if_neg h1, if_pos h2]) (Ev.pure _), fun e => by omega⟩
      obtain ⟨e, he, hg⟩ := ih (n + 1) (by omega) (fun v hv' => by
        rw [List.take_succ_eq_append_getElem hn, List.mem_append, List.mem_singleton] at hv'
        rcases hv' with hv' | rfl
        · exact ha v hv'
        omega)
      exact ⟨e, Ev.step (fun k => by rw [Zat.l0, if_pos (by omega), if_pos (by omega), Zcw _ n hn, if_neg h1, if_neg h2, w1 (by omega)]) he, hg⟩
  obtain ⟨e, he, hg⟩ := loop (sd vars).length 0 (by omega) (fun v hv' => by rw [List.take_zero] at hv'; cases hv')
  refine ⟨e, ?_, fun h0 => ⟨fun v hv' => (hg h0).1 v ((Zew v vars).2 hv'), (hg h0).2⟩⟩
  have hU : Ev (fun k => Zby.f k kd vars coefs op rhs rows b) (sd vars) := by
    unfold Zby.f
    refine Ev.bind (Ev.pure _) (Ev.Zcf (by simp; omega) (Ev.bind (Ev.pure _) (Ev.Zc4 (by omega) ?_)))
    rw [List.nil_append]
    exact Ev.bind (Zhb vars hv2) (Ev.pure _)
  unfold Zat.f
  refine Ev.Zc4 (by omega) ?_
  have e6 : decide (kd > 6) = false := decide_eq_false (by omega)
  rw [e6]
  exact Ev.step (fun k => by rw [Zat.j0, if_neg (by simp)]) (Ev.bind hU he)
end
def domsC (D : List (List Int)) : List (List Rg) := (D.take 4).map fun x => dsm (x.take 6)
theorem Zea (D : List (List Int)) : (domsC D).length ≤ 4 := by simp [domsC]; omega
theorem rdR_nat (xs : List (List Rg)) (n : Nat) (h : n < xs.length) : Zdb xs (n : Int) = xs[n] := by simp [Zdb, List.getD_eq_getElem?_getD, List.getElem?_eq_getElem h]
structure ConOK (kd : Int) (n : Nat) (vars coefs : List Int) (op rhs : Int) (rows : List (List Int)) (b : Int) : Prop where
  mem : ∀ v ∈ vars, 0 ≤ v ∧ v < (n : Int)
  right : rightB kd vars coefs op rhs rows b = true
section
variable (D : List (List Int)) (x1 : Int) (vars coefs : List Int) (op rhs : Int) (rows : List (List Int)) (b : Int) (A Tk : List Int) (kd : Int) (hk : kd = 2 ∨ kd = 3)
  (hv : vars.length * 8 ≤ 140737488351232) (hc : coefs.length * 8 ≤ 140737488351232) (hr : rows.length * 24 ≤ 140737488351232) (hin : ∀ x ∈ rows, x.length * 8 ≤ 140737488351232)
include hk hv hc hr hin
theorem laid_ev : ∃ ok : Bool, Ev (fun k => Zaq.f k D x1 vars coefs op rhs rows b A Tk kd) (domsC D, kd, vars, coefs, op, rhs, rows.take 20, b, ok) ∧ (ok = true → ConOK kd (domsC D).length vars coefs op rhs (rows.take 20) b) := by
  have hdl := Zea D
  obtain ⟨e, he, hg⟩ := con_ev (domsC D) kd vars coefs op rhs (rows.take 20) b hk (by omega) (by rw [List.length_take]; omega) (fun x hx => by have := hin x (List.mem_of_mem_take hx); omega) (by omega) (by omega)
  have hown : Ev (fun k => Zb0.f k x1 vars coefs op rhs rows b) (x1, vars, coefs, op, rhs, rows, b) := by
    unfold Zb0.f
    refine Ev.bind (Ev.pure _) (Ev.Zcf (by simp; omega) (Ev.bind (Ev.pure _) (Ev.Zcf (by simp; omega) ?_)))
    exact Ev.bind (ref_Copy rows (by omega) (fun x hx => by have := hin x hx; omega)) (by simpa using Ev.pure _)
  have e20 : mn (rows.length : Int) 20 = ((min rows.length 20 : Nat) : Int) := mn_len2 (m := 20)
  have loop : ∀ (m n : Nat), n + m = min D.length 4 → Ev (fun k => Zaq.l0 k kd (domsC (D.take n)) (n : Int) D x1 vars coefs op rhs rows b A Tk) (domsC D, kd, vars, coefs, op, rhs, rows.take 20, b, (e == 0)) := by
    have last : ∀ n, n = min D.length 4 → domsC (D.take n) = domsC D := fun n hn => by
      unfold domsC
      rw [List.take_take, hn]
      congr 1
      rcases Nat.le_total D.length 4 with h | h
      · rw [Nat.min_eq_left h, List.take_of_length_le h, List.take_of_length_le (by omega)]
      rw [Nat.min_eq_right h, Nat.min_self]
    intro m
    induction m with
    | zero =>
      intro n h
      rw [last n (by omega)]
      have fin : Ev (fun k => (Zb0.f k x1 vars coefs op rhs rows b).bind fun bt271 => (if 0 ≤ (mn (bt271.2.2.2.2.2.1.length : Int) 20) then (if (mn (bt271.2.2.2.2.2.1.length : Int) 20) ≤ (bt271.2.2.2.2.2.1.length : Int) then ((some (bt271.2.2.2.2.2.1.take ((mn (bt271.2.2.2.2.2.1.length : Int) 20) : Int).toNat : List (List Int))).bind fun y285 => ((Zat.f k (domsC D) kd bt271.2.1 bt271.2.2.1 bt271.2.2.2.1 bt271.2.2.2.2.1 y285 bt271.2.2.2.2.2.2).bind fun t288 => (some (domsC D, kd, bt271.2.1, bt271.2.2.1, bt271.2.2.2.1, bt271.2.2.2.2.1, y285, bt271.2.2.2.2.2.2, (t288 == 0))))) else (none)) else (none))) (domsC D, kd, vars, coefs, op, rhs, rows.take 20, b, (e == 0)) := by
        refine Ev.bind hown (Ev.Zcf (by show 0 ≤ mn (rows.length : Int) 20; rw [e20]; omega) (Ev.Zcf (by show mn (rows.length : Int) 20 ≤ (rows.length : Int); rw [e20]; omega) (Ev.bind (Ev.pure _) ?_)))
        have et : rows.take (mn (rows.length : Int) 20).toNat = rows.take 20 := by
          rw [e20, Int.toNat_natCast]
          rcases Nat.le_total rows.length 20 with h | h
          · rw [Nat.min_eq_left h, List.take_of_length_le (Nat.le_refl _), List.take_of_length_le h]
          rw [Nat.min_eq_right h]
        show Ev (fun k => (Zat.f k (domsC D) kd vars coefs op rhs (rows.take (mn (rows.length : Int) 20).toNat) b).bind fun t288 => some (domsC D, kd, vars, coefs, op, rhs, rows.take (mn (rows.length : Int) 20).toNat, b, (t288 == 0))) _
        rw [et]
        exact Ev.bind he (Ev.pure _)
      by_cases hlt : n < D.length
      rotate_left
      · exact Ev.step (fun k => by rw [Zaq.l0, if_neg (by omega)]) fin
      exact Ev.step (fun k => by rw [Zaq.l0, if_pos (by omega), if_neg (by omega)]) fin
    | succ m ih =>
      intro n h
      have hn : n < D.length := by omega
      have e6 : mn (D[n].length : Int) 6 = ((min D[n].length 6 : Nat) : Int) := mn_len2 (m := 6)
      have et : D[n].take (mn (D[n].length : Int) 6).toNat = D[n].take 6 := by
        rw [e6, Int.toNat_natCast]
        rcases Nat.le_total D[n].length 6 with h | h
        · rw [Nat.min_eq_left h, List.take_of_length_le (Nat.le_refl _), List.take_of_length_le h]
        rw [Nat.min_eq_right h]
      have hstep := ih (n + 1) (by omega)
      have hsn : domsC (D.take (n + 1)) = domsC (D.take n) ++ [dsm (D[n].take 6)] := by
        unfold domsC
        rw [List.take_take, List.take_take, Nat.min_eq_right (by omega), Nat.min_eq_right (by omega), List.take_succ_eq_append_getElem hn, List.map_append]
        rfl
      rw [hsn] at hstep
      have hl4 := Zea (D.take n)
      refine Ev.step (fun k => by rw [Zaq.l0, if_pos (by omega), if_pos (by omega), if_pos (by omega), Zfa D n hn, if_pos (by rw [e6]; omega), if_pos (by rw [e6]; omega), et]) (Ev.bind (Small_ev (D[n].take 6) (by rw [List.length_take]; omega)) ?_)
      refine Ev.Zcf (by omega) ?_
      simp only [w1 (show n < 4611686018427387904 by omega)]
      exact hstep
  refine ⟨e == 0, loop (min D.length 4) 0 (by omega), fun h => ?_⟩
  have := hg (by simpa using h)
  exact ⟨this.1, this.2⟩
end
end Go.Proofs.Ytpbcigilipdedaa.P
namespace Go.Proofs.Ytpbcigilipdedaa.P
open Go.RowKit Go.Proofs.YtpbcigilipdedaaW.PrintWords Go.Proofs.YtpbcigilipdedaaW.PrintLast Go.Proofs.YtpbcigilipdedaaW.PrintMore
attribute [local go_sem] Zcz Zc1 Zde Zdf Zct Zcu Zc0 Zc2
set_option linter.unusedVariables false
set_option linter.unusedSimpArgs false
mutual
def Zbr.l0 : Nat → List (S41) → List (S41) → List (S41) → Int → Int → Option ((List (S41)))
 | 0, _, _, _, _, _ => none
 | k + 1, x0, x1, x5, x6, x7 => if x6 < (x0.length : Int) then (Zbr.j1 k x0 x1 x5 x6 x7 (decide (x7 < (x1.length : Int)))) else (Zbr.j1 k x0 x1 x5 x6 x7 false)
def Zbr.j1 : Nat → List (S41) → List (S41) → List (S41) → Int → Int → Bool → Option ((List (S41)))
 | 0, _, _, _, _, _, _ => none
 | k + 1, x0, x1, x5, x6, x7, x19 => if x19 = true then (if 0 ≤ x6 then (if x6 < (x0.length : Int) then (if 0 ≤ x7 then (if x7 < (x1.length : Int) then (if (mx ((Zaw x0 x6).f0) ((Zaw x1 x7).f0)) ≤ (mn ((Zaw x0 x6).f1) ((Zaw x1 x7).f1)) then (if x5.length < 8796093022208 then ((some (x5 ++ [(⟨mx ((Zaw x0 x6).f0) ((Zaw x1 x7).f0), mn ((Zaw x0 x6).f1) ((Zaw x1 x7).f1)⟩ : S41)] : List (S41))).bind fun y829 => (if ((Zaw x0 x6).f1) < ((Zaw x1 x7).f1) then (Zbr.l0 k x0 x1 y829 (wrap64 (x6 + 1)) x7) else (Zbr.l0 k x0 x1 y829 x6 (wrap64 (x7 + 1))))) else (none)) else (if ((Zaw x0 x6).f1) < ((Zaw x1 x7).f1) then (Zbr.l0 k x0 x1 x5 (wrap64 (x6 + 1)) x7) else (Zbr.l0 k x0 x1 x5 x6 (wrap64 (x7 + 1))))) else (none)) else (none)) else (none)) else (none)) else (some x5)
end
def Zbr.f (k : Nat) (l0 : List (S41)) (l1 : List (S41)) : Option ((List (S41))) := Zbr.l0 k l0 l1 ([] : List (S41)) 0 0
theorem Zbr.Zb4 : ∀ k, (∀ y0 y1 y2 y3 y4, LeO (Zbr.l0 k y0 y1 y2 y3 y4) (Zbr.l0 (k + 1) y0 y1 y2 y3 y4)) ∧ (∀ y0 y1 y2 y3 y4 y5, LeO (Zbr.j1 k y0 y1 y2 y3 y4 y5) (Zbr.j1 (k + 1) y0 y1 y2 y3 y4 y5))
 | 0 => ⟨fun _ _ _ _ _ r h => by simp [Zbr.l0] at h, fun _ _ _ _ _ _ r h => by simp [Zbr.j1] at h⟩
 | k + 1 => by
  obtain ⟨ih0, ih1⟩ := Zbr.Zb4 k
  refine ⟨?_, ?_⟩
  ·intro y0 y1 y2 y3 y4
   unfold Zbr.l0
   repeat' first
   | (with_reducible exact ih0 _ _ _ _ _)
   | (with_reducible exact ih1 _ _ _ _ _ _)
   | (with_reducible exact LeO.refl _)
   | (with_reducible exact LeO.none _)
   | (with_reducible refine LeO.ite ?_ ?_)
   | (with_reducible refine LeO.bind ?_ (fun _ => ?_))
   | exact ih0 _ _ _ _ _
   | exact ih1 _ _ _ _ _ _
   | exact LeO.none _
   | refine LeO.ite ?_ ?_
   | refine LeO.bind ?_ (fun _ => ?_)
  intro y0 y1 y2 y3 y4 y5
  unfold Zbr.j1
  repeat' first
  | (with_reducible exact ih0 _ _ _ _ _)
  | (with_reducible exact ih1 _ _ _ _ _ _)
  | (with_reducible exact LeO.refl _)
  | (with_reducible exact LeO.none _)
  | (with_reducible refine LeO.ite ?_ ?_)
  | (with_reducible refine LeO.bind ?_ (fun _ => ?_))
  | exact ih0 _ _ _ _ _
  | exact ih1 _ _ _ _ _ _
  | exact LeO.none _
  | refine LeO.ite ?_ ?_
  | refine LeO.bind ?_ (fun _ => ?_)
theorem Zbr.mono : ∀ a0 a1 k, LeO (Zbr.f k a0 a1) (Zbr.f (k + 1) a0 a1) := by
 intro a0 a1 k
 obtain ⟨ih0, ih1⟩ := Zbr.Zb4 k
 unfold Zbr.f
 repeat' first
   | (with_reducible exact ih0 _ _ _ _ _)
   | (with_reducible exact ih1 _ _ _ _ _ _)
   | (with_reducible exact LeO.refl _)
   | (with_reducible exact LeO.none _)
   | (with_reducible refine LeO.ite ?_ ?_)
   | (with_reducible refine LeO.bind ?_ (fun _ => ?_))
   | exact ih0 _ _ _ _ _
   | exact ih1 _ _ _ _ _ _
   | exact LeO.none _
   | refine LeO.ite ?_ ?_
   | refine LeO.bind ?_ (fun _ => ?_)
set_option maxHeartbeats 8000000 in
set_option maxRecDepth 100000 in
theorem Zbr.calls (k : Nat) (A0 : Option Addr) (c0 : Nat) (l0 : List (S41)) (A1 : Option Addr) (c1 : Nat) (l1 : List (S41)) (r : List (S41)) (w : World) (hr0 : Kd.C k41 w A0 l0.length l0) (hc0 : l0.length ≤ c0) (hr1 : Kd.C k41 w A1 l1.length l1) (hc1 : l1.length ≤ c1) (h : Zbr.f k l0 l1 = some r) :
  Calls Try.prog 56 #[.slice A0 l0.length c0, .slice A1 l1.length c1] w fun e w' => ∃ v0_ : Value, e = .returned (v0_) ∧ Kd.R k41 41 w' w.heap.size (fun _ => True) v0_ r ∧ Below w.heap.size w w' := by
 have hu41 := Try.underlying41
 have HR0 := Zaa.mk hr0
 have HC0 := Zaa.mk hc0
 clear hr0 hc0
 have HR1 := Zaa.mk hr1
 have HC1 := Zaa.mk hc1
 clear hr1 hc1
 have HB := Zaa.mk (Below.refl w.heap.size w)
 have H : (Zbr.l0 k l0 l1 ([] : List (S41)) 0 0) = some r := h
 clear h
 have H' := Zaa.mk H
 clear H
 go_enter Try.func56, Try.ntmps56
 go_wp2
 repeat (go_quiet (fail); try go_wp2)
 go_loopg [5, 6, 7] k (fun kq v5 v6 v7 w' => ∃ (x5_1 : List (S41)) (x6_1 : Int) (x7_1 : Int), v6 = .int .i64 x6_1 ∧ v7 = .int .i64 x7_1 ∧ Zaa (Zbr.l0 kq l0 l1 x5_1 x6_1 x7_1 = some r) ∧ Zaa (kq ≤ k) ∧ Zaa (Kd.R k41 41 w' w.heap.size (fun _ => True) v5 x5_1) ∧ Zaa (Below w.heap.size w w'))
 case atStart => exact ⟨(([] : List (S41))), (0), (0), (by first | rfl | (simp; done) | (simp [*]; done)), (by first | rfl | (simp; done) | (simp [*]; done)), H', ⟨Nat.le_refl _⟩, ⟨by first | exact Kd.Zgh _ _ _ _ _ | exact Kd.N_nil _ _ _ _ _ | exact Kd.V_nil _ _ _ _ _ | exact Kd.Q_nil _ _ _ _ _ | exact Kd.S_nil _ _ _ _ _⟩, ⟨by repeat (first | (with_reducible first | exact HB.out | apply Zab | apply Za | apply Zac) | exact HB.out)⟩⟩
 case round =>
  clear H'
  try clear c1
  try clear p2
  obtain ⟨x5_1, x6_1, x7_1, rfl, rfl, HA, HK1, HO_5, HB⟩ := hrel
  cases gk with
  | zero => exact absurd HA.out (by simp [Zbr.l0])
  | succ k1 =>
   have H := HA.out
   clear HA
   simp only [Zbr.l0] at H
   have HC3 := Zaa.mk H
   clear H
   go_upto_region 3 with (fail)
   repeat (go_quiet (fail); go_upto_region 3 with (fail))
   go_cut [19] (fun v19 wc => ∃ (kq : Nat) (x19_2 : Bool), v19 = .bool x19_2 ∧ Zaa (Zbr.j1 kq l0 l1 x5_1 x6_1 x7_1 x19_2 = some r) ∧ Zaa (kq ≤ k1) ∧ Zaa (Kd.R k41 41 wc w.heap.size (fun _ => True) u5 x5_1) ∧ Zaa (Below w.heap.size w wc))
   case first =>
    have H := HC3.out
    clear HC3
    by_cases c4 : x6_1 < (l0.length : Int)
    rotate_left
    ·rw [if_neg c4] at H
     have c4b0 : decide (x6_1 < (l0.length : Int)) = false := decide_eq_false c4
     clear c4
     (first | rw [c4b0] | (simp only [Zbh, Zbi]; rw [c4b0]) | skip)
     have H' := Zaa.mk H
     clear H
     go_wp2
     repeat (go_quiet (fail); try go_wp2)
     go_meet
     case rel => exact ⟨_, (false), (by first | rfl | (simp; done) | (simp [*]; done)), H', ⟨by have := HK1.out; first | omega | exact Nat.le_refl _⟩, ⟨by (with_reducible repeat (first | apply Kd.Za6 | apply Kd.Za5 | apply Kd.Zbb)); exact HO_5.out⟩, ⟨by repeat (first | (with_reducible first | exact HB.out | apply Zab | apply Za | apply Zac) | exact HB.out)⟩⟩
    rw [if_pos c4] at H
    have c4b0 : decide (x6_1 < (l0.length : Int)) = true := decide_eq_true c4
    clear c4
    (first | rw [c4b0] | (simp only [Zbh, Zbi]; rw [c4b0]) | skip)
    have H' := Zaa.mk H
    clear H
    go_wp2
    repeat (go_quiet (fail); try go_wp2)
    go_meet
    case rel => exact ⟨_, (decide (x7_1 < (l1.length : Int))), (by first | rfl | (simp; done) | (simp [*]; done)), H', ⟨by have := HK1.out; first | omega | exact Nat.le_refl _⟩, ⟨by (with_reducible repeat (first | apply Kd.Za6 | apply Kd.Za5 | apply Kd.Zbb)); exact HO_5.out⟩, ⟨by repeat (first | (with_reducible first | exact HB.out | apply Zab | apply Za | apply Zac) | exact HB.out)⟩⟩
   case rest =>
    clear HC3
    try clear c1
    try clear p2
    try clear c4
    try clear c4b0
    try clear p2
    obtain ⟨kq, x19_2, rfl, HA, HJ2, HO_5, HB⟩ := hcut
    cases kq with
    | zero => exact absurd HA.out (by simp [Zbr.j1])
    | succ kj2 =>
     have H := HA.out
     clear HA
     simp only [Zbr.j1] at H
     by_cases c5 : x19_2 = true
     rotate_left
     ·replace c5 := Bool.eq_false_iff.mpr c5
      subst c5
      have H1 : (some x5_1) = some r := by rw [if_neg (show ¬ (false = true) by decide)] at H; exact H
      clear H
      have H := H1
      clear H1
      obtain rfl := Option.some.inj H
      go_wp2
      repeat (go_quiet (fail); try go_wp2)
      go_ret
      exact ⟨_, by first | rfl | (simp [Za1, Za2] <;> rfl) | (simp [*, Za1, Za2] <;> rfl), by (with_reducible repeat (first | apply Kd.Za6 | apply Kd.Za5 | apply Kd.Zbb)); exact HO_5.out, by repeat (first | (with_reducible first | exact HB.out | apply Zab | apply Za | apply Zac) | exact HB.out)⟩
     subst c5
     have H1 : (if 0 ≤ x6_1 then (if x6_1 < (l0.length : Int) then (if 0 ≤ x7_1 then (if x7_1 < (l1.length : Int) then (if (mx ((Zaw l0 x6_1).f0) ((Zaw l1 x7_1).f0)) ≤ (mn ((Zaw l0 x6_1).f1) ((Zaw l1 x7_1).f1)) then (if x5_1.length < 8796093022208 then ((some (x5_1 ++ [(⟨mx ((Zaw l0 x6_1).f0) ((Zaw l1 x7_1).f0), mn ((Zaw l0 x6_1).f1) ((Zaw l1 x7_1).f1)⟩ : S41)] : List (S41))).bind fun y829 => (if ((Zaw l0 x6_1).f1) < ((Zaw l1 x7_1).f1) then (Zbr.l0 kj2 l0 l1 y829 (wrap64 (x6_1 + 1)) x7_1) else (Zbr.l0 kj2 l0 l1 y829 x6_1 (wrap64 (x7_1 + 1))))) else (none)) else (if ((Zaw l0 x6_1).f1) < ((Zaw l1 x7_1).f1) then (Zbr.l0 kj2 l0 l1 x5_1 (wrap64 (x6_1 + 1)) x7_1) else (Zbr.l0 kj2 l0 l1 x5_1 x6_1 (wrap64 (x7_1 + 1))))) else (none)) else (none)) else (none)) else (none)) = some r := by rw [if_pos rfl] at H; exact H
     clear H
     have H := H1
     clear H1
     by_cases c6 : 0 ≤ x6_1
     rotate_left
     ·rw [if_neg c6] at H
      exact absurd H (by simp)
     rw [if_pos c6] at H
     have c6b0 : decide (0 ≤ x6_1) = true := decide_eq_true c6
     clear c6
     by_cases c7 : x6_1 < (l0.length : Int)
     rotate_left
     ·rw [if_neg c7] at H
      exact absurd H (by simp)
     rw [if_pos c7] at H
     have c7b0 : decide (x6_1 < (l0.length : Int)) = true := decide_eq_true c7
     clear c7
     by_cases c8 : 0 ≤ x7_1
     rotate_left
     ·rw [if_neg c8] at H
      exact absurd H (by simp)
     rw [if_pos c8] at H
     have c8b0 : decide (0 ≤ x7_1) = true := decide_eq_true c8
     clear c8
     by_cases c9 : x7_1 < (l1.length : Int)
     rotate_left
     ·rw [if_neg c9] at H
      exact absurd H (by simp)
     rw [if_pos c9] at H
     have c9b0 : decide (x7_1 < (l1.length : Int)) = true := decide_eq_true c9
     clear c9
     obtain ⟨ji10, hji10⟩ : ∃ j_ : Int, (mx ((Zaw l0 x6_1).f0) ((Zaw l1 x7_1).f0)) = j_ := ⟨_, rfl⟩
     replace H : (if (ji10) ≤ (mn ((Zaw l0 x6_1).f1) ((Zaw l1 x7_1).f1)) then (if x5_1.length < 8796093022208 then ((some (x5_1 ++ [(⟨ji10, mn ((Zaw l0 x6_1).f1) ((Zaw l1 x7_1).f1)⟩ : S41)] : List (S41))).bind fun y829 => (if ((Zaw l0 x6_1).f1) < ((Zaw l1 x7_1).f1) then (Zbr.l0 kj2 l0 l1 y829 (wrap64 (x6_1 + 1)) x7_1) else (Zbr.l0 kj2 l0 l1 y829 x6_1 (wrap64 (x7_1 + 1))))) else (none)) else (if ((Zaw l0 x6_1).f1) < ((Zaw l1 x7_1).f1) then (Zbr.l0 kj2 l0 l1 x5_1 (wrap64 (x6_1 + 1)) x7_1) else (Zbr.l0 kj2 l0 l1 x5_1 x6_1 (wrap64 (x7_1 + 1))))) = some r := by first | (rw [hji10] at H; exact H) | (simp only [hji10] at H ⊢; exact H)
     have hji10_ : (if ((Zaw l0 x6_1).f0) < ((Zaw l1 x7_1).f0) then ((Zaw l1 x7_1).f0) else ((Zaw l0 x6_1).f0)) = ji10 := hji10
     obtain ⟨ji11, hji11⟩ : ∃ j_ : Int, (mn ((Zaw l0 x6_1).f1) ((Zaw l1 x7_1).f1)) = j_ := ⟨_, rfl⟩
     replace H : (if (ji10) ≤ (ji11) then (if x5_1.length < 8796093022208 then ((some (x5_1 ++ [(⟨ji10, ji11⟩ : S41)] : List (S41))).bind fun y829 => (if ((Zaw l0 x6_1).f1) < ((Zaw l1 x7_1).f1) then (Zbr.l0 kj2 l0 l1 y829 (wrap64 (x6_1 + 1)) x7_1) else (Zbr.l0 kj2 l0 l1 y829 x6_1 (wrap64 (x7_1 + 1))))) else (none)) else (if ((Zaw l0 x6_1).f1) < ((Zaw l1 x7_1).f1) then (Zbr.l0 kj2 l0 l1 x5_1 (wrap64 (x6_1 + 1)) x7_1) else (Zbr.l0 kj2 l0 l1 x5_1 x6_1 (wrap64 (x7_1 + 1))))) = some r := by first | (rw [hji11] at H; exact H) | (simp only [hji11] at H ⊢; exact H)
     have hji11_ : (if ((Zaw l1 x7_1).f1) < ((Zaw l0 x6_1).f1) then ((Zaw l1 x7_1).f1) else ((Zaw l0 x6_1).f1)) = ji11 := hji11
     by_cases c12 : (ji10) ≤ (ji11)
     rotate_left
     ·rw [if_neg c12] at H
      have c12b0 : decide ((ji10) ≤ (ji11)) = false := decide_eq_false c12
      clear c12
      by_cases c17 : ((Zaw l0 x6_1).f1) < ((Zaw l1 x7_1).f1)
      ·rw [if_pos c17] at H
       have c17b0 : decide (((Zaw l0 x6_1).f1) < ((Zaw l1 x7_1).f1)) = true := decide_eq_true c17
       clear c17
       have H' := Zaa.mk H
       clear H
       have p825 : 0 ≤ (x6_1 : Int) := of_decide_eq_true (by first | (with_reducible assumption) | assumption)
       have q825 : x6_1 < (l0.length : Int) := of_decide_eq_true (by first | (with_reducible assumption) | assumption)
       obtain ⟨ad825, e825, hx825_0, hx825_1⟩ := Zch HR0.out x6_1 p825 q825
       cases e825
       replace hx825_0 := (HB.out.cell (World.block_lt_of_cell? w _ hx825_0)).trans hx825_0
       replace hx825_1 := (HB.out.cell (World.block_lt_of_cell? w _ hx825_1)).trans hx825_1
       replace p825 := eq_true p825
       replace q825 := eq_true q825
       have p826 : 0 ≤ (x7_1 : Int) := of_decide_eq_true (by first | (with_reducible assumption) | assumption)
       have q826 : x7_1 < (l1.length : Int) := of_decide_eq_true (by first | (with_reducible assumption) | assumption)
       obtain ⟨ad826, e826, hx826_0, hx826_1⟩ := Zch HR1.out x7_1 p826 q826
       cases e826
       replace hx826_0 := (HB.out.cell (World.block_lt_of_cell? w _ hx826_0)).trans hx826_0
       replace hx826_1 := (HB.out.cell (World.block_lt_of_cell? w _ hx826_1)).trans hx826_1
       replace p826 := eq_true p826
       replace q826 := eq_true q826
       have p827 : 0 ≤ (x6_1 : Int) := of_decide_eq_true (by first | (with_reducible assumption) | assumption)
       have q827 : x6_1 < (l0.length : Int) := of_decide_eq_true (by first | (with_reducible assumption) | assumption)
       obtain ⟨ad827, e827, hx827_0, hx827_1⟩ := Zch HR0.out x6_1 p827 q827
       obtain rfl : ad825 = ad827 := (by injection e827)
       replace hx827_0 := (HB.out.cell (World.block_lt_of_cell? w _ hx827_0)).trans hx827_0
       replace hx827_1 := (HB.out.cell (World.block_lt_of_cell? w _ hx827_1)).trans hx827_1
       replace p827 := eq_true p827
       replace q827 := eq_true q827
       have p828 : 0 ≤ (x7_1 : Int) := of_decide_eq_true (by first | (with_reducible assumption) | assumption)
       have q828 : x7_1 < (l1.length : Int) := of_decide_eq_true (by first | (with_reducible assumption) | assumption)
       obtain ⟨ad828, e828, hx828_0, hx828_1⟩ := Zch HR1.out x7_1 p828 q828
       obtain rfl : ad826 = ad828 := (by injection e828)
       replace hx828_0 := (HB.out.cell (World.block_lt_of_cell? w _ hx828_0)).trans hx828_0
       replace hx828_1 := (HB.out.cell (World.block_lt_of_cell? w _ hx828_1)).trans hx828_1
       replace p828 := eq_true p828
       replace q828 := eq_true q828
       have p834 : 0 ≤ (x6_1 : Int) := of_decide_eq_true (by first | (with_reducible assumption) | assumption)
       have q834 : x6_1 < (l0.length : Int) := of_decide_eq_true (by first | (with_reducible assumption) | assumption)
       obtain ⟨ad834, e834, hx834_0, hx834_1⟩ := Zch HR0.out x6_1 p834 q834
       obtain rfl : ad825 = ad834 := (by injection e834)
       replace hx834_0 := (HB.out.cell (World.block_lt_of_cell? w _ hx834_0)).trans hx834_0
       replace hx834_1 := (HB.out.cell (World.block_lt_of_cell? w _ hx834_1)).trans hx834_1
       replace p834 := eq_true p834
       replace q834 := eq_true q834
       have p835 : 0 ≤ (x7_1 : Int) := of_decide_eq_true (by first | (with_reducible assumption) | assumption)
       have q835 : x7_1 < (l1.length : Int) := of_decide_eq_true (by first | (with_reducible assumption) | assumption)
       obtain ⟨ad835, e835, hx835_0, hx835_1⟩ := Zch HR1.out x7_1 p835 q835
       obtain rfl : ad826 = ad835 := (by injection e835)
       replace hx835_0 := (HB.out.cell (World.block_lt_of_cell? w _ hx835_0)).trans hx835_0
       replace hx835_1 := (HB.out.cell (World.block_lt_of_cell? w _ hx835_1)).trans hx835_1
       replace p835 := eq_true p835
       replace q835 := eq_true q835
       go_wp2
       repeat (go_quiet (fail); try go_wp2)
       go_roundg kj2
       case measure => have := HK1.out; have := HJ2.out; omega
       case rel => exact ⟨(x5_1), (wrap64 (x6_1 + 1)), (x7_1), (by first | rfl | (simp; done) | (simp [*]; done)), (by first | rfl | (simp; done) | (simp [*]; done)), H', ⟨by have := HK1.out; have := HJ2.out; omega⟩, ⟨by (with_reducible repeat (first | apply Kd.Za6 | apply Kd.Za5 | apply Kd.Zbb)); exact HO_5.out⟩, ⟨by repeat (first | (with_reducible first | exact HB.out | apply Zab | apply Za | apply Zac) | exact HB.out)⟩⟩
      rw [if_neg c17] at H
      have c17b0 : decide (((Zaw l0 x6_1).f1) < ((Zaw l1 x7_1).f1)) = false := decide_eq_false c17
      clear c17
      have H' := Zaa.mk H
      clear H
      have p825 : 0 ≤ (x6_1 : Int) := of_decide_eq_true (by first | (with_reducible assumption) | assumption)
      have q825 : x6_1 < (l0.length : Int) := of_decide_eq_true (by first | (with_reducible assumption) | assumption)
      obtain ⟨ad825, e825, hx825_0, hx825_1⟩ := Zch HR0.out x6_1 p825 q825
      cases e825
      replace hx825_0 := (HB.out.cell (World.block_lt_of_cell? w _ hx825_0)).trans hx825_0
      replace hx825_1 := (HB.out.cell (World.block_lt_of_cell? w _ hx825_1)).trans hx825_1
      replace p825 := eq_true p825
      replace q825 := eq_true q825
      have p826 : 0 ≤ (x7_1 : Int) := of_decide_eq_true (by first | (with_reducible assumption) | assumption)
      have q826 : x7_1 < (l1.length : Int) := of_decide_eq_true (by first | (with_reducible assumption) | assumption)
      obtain ⟨ad826, e826, hx826_0, hx826_1⟩ := Zch HR1.out x7_1 p826 q826
      cases e826
      replace hx826_0 := (HB.out.cell (World.block_lt_of_cell? w _ hx826_0)).trans hx826_0
      replace hx826_1 := (HB.out.cell (World.block_lt_of_cell? w _ hx826_1)).trans hx826_1
      replace p826 := eq_true p826
      replace q826 := eq_true q826
      have p827 : 0 ≤ (x6_1 : Int) := of_decide_eq_true (by first | (with_reducible assumption) | assumption)
      have q827 : x6_1 < (l0.length : Int) := of_decide_eq_true (by first | (with_reducible assumption) | assumption)
      obtain ⟨ad827, e827, hx827_0, hx827_1⟩ := Zch HR0.out x6_1 p827 q827
      obtain rfl : ad825 = ad827 := (by injection e827)
      replace hx827_0 := (HB.out.cell (World.block_lt_of_cell? w _ hx827_0)).trans hx827_0
      replace hx827_1 := (HB.out.cell (World.block_lt_of_cell? w _ hx827_1)).trans hx827_1
      replace p827 := eq_true p827
      replace q827 := eq_true q827
      have p828 : 0 ≤ (x7_1 : Int) := of_decide_eq_true (by first | (with_reducible assumption) | assumption)
      have q828 : x7_1 < (l1.length : Int) := of_decide_eq_true (by first | (with_reducible assumption) | assumption)
      obtain ⟨ad828, e828, hx828_0, hx828_1⟩ := Zch HR1.out x7_1 p828 q828
      obtain rfl : ad826 = ad828 := (by injection e828)
      replace hx828_0 := (HB.out.cell (World.block_lt_of_cell? w _ hx828_0)).trans hx828_0
      replace hx828_1 := (HB.out.cell (World.block_lt_of_cell? w _ hx828_1)).trans hx828_1
      replace p828 := eq_true p828
      replace q828 := eq_true q828
      have p834 : 0 ≤ (x6_1 : Int) := of_decide_eq_true (by first | (with_reducible assumption) | assumption)
      have q834 : x6_1 < (l0.length : Int) := of_decide_eq_true (by first | (with_reducible assumption) | assumption)
      obtain ⟨ad834, e834, hx834_0, hx834_1⟩ := Zch HR0.out x6_1 p834 q834
      obtain rfl : ad825 = ad834 := (by injection e834)
      replace hx834_0 := (HB.out.cell (World.block_lt_of_cell? w _ hx834_0)).trans hx834_0
      replace hx834_1 := (HB.out.cell (World.block_lt_of_cell? w _ hx834_1)).trans hx834_1
      replace p834 := eq_true p834
      replace q834 := eq_true q834
      have p835 : 0 ≤ (x7_1 : Int) := of_decide_eq_true (by first | (with_reducible assumption) | assumption)
      have q835 : x7_1 < (l1.length : Int) := of_decide_eq_true (by first | (with_reducible assumption) | assumption)
      obtain ⟨ad835, e835, hx835_0, hx835_1⟩ := Zch HR1.out x7_1 p835 q835
      obtain rfl : ad826 = ad835 := (by injection e835)
      replace hx835_0 := (HB.out.cell (World.block_lt_of_cell? w _ hx835_0)).trans hx835_0
      replace hx835_1 := (HB.out.cell (World.block_lt_of_cell? w _ hx835_1)).trans hx835_1
      replace p835 := eq_true p835
      replace q835 := eq_true q835
      go_wp2
      repeat (go_quiet (fail); try go_wp2)
      go_roundg kj2
      case measure => have := HK1.out; have := HJ2.out; omega
      case rel => exact ⟨(x5_1), (x6_1), (wrap64 (x7_1 + 1)), (by first | rfl | (simp; done) | (simp [*]; done)), (by first | rfl | (simp; done) | (simp [*]; done)), H', ⟨by have := HK1.out; have := HJ2.out; omega⟩, ⟨by (with_reducible repeat (first | apply Kd.Za6 | apply Kd.Za5 | apply Kd.Zbb)); exact HO_5.out⟩, ⟨by repeat (first | (with_reducible first | exact HB.out | apply Zab | apply Za | apply Zac) | exact HB.out)⟩⟩
     rw [if_pos c12] at H
     have c12b0 : decide ((ji10) ≤ (ji11)) = true := decide_eq_true c12
     clear c12
     by_cases c13 : x5_1.length < 8796093022208
     rotate_left
     ·rw [if_neg c13] at H
      exact absurd H (by simp)
     rw [if_pos c13] at H
     have LMc13 := Zaa.mk c13
     clear c13
     obtain ⟨y829, hy829⟩ : ∃ y_ : List (S41), y_ = (x5_1 ++ [(⟨ji10, ji11⟩ : S41)]) := ⟨_, rfl⟩
     replace H : (if ((Zaw l0 x6_1).f1) < ((Zaw l1 x7_1).f1) then (Zbr.l0 kj2 l0 l1 y829 (wrap64 (x6_1 + 1)) x7_1) else (Zbr.l0 kj2 l0 l1 y829 x6_1 (wrap64 (x7_1 + 1)))) = some r := by first | (rw [hy829]; with_reducible exact H) | (have H2_ := (Option.bind_some _ _).symm.trans H; rw [hy829]; with_reducible exact H2_) | (have H2_ := (Option.bind_some _ _).symm.trans H; with_reducible exact H2_) | with_reducible exact H | (rw [hy829]; exact H) | exact H
     have Ny829 := Zaa.mk hy829
     clear hy829
     by_cases c14 : ((Zaw l0 x6_1).f1) < ((Zaw l1 x7_1).f1)
     ·rw [if_pos c14] at H
      have c14b0 : decide (((Zaw l0 x6_1).f1) < ((Zaw l1 x7_1).f1)) = true := decide_eq_true c14
      clear c14
      have H' := Zaa.mk H
      clear H
      have p825 : 0 ≤ (x6_1 : Int) := of_decide_eq_true (by first | (with_reducible assumption) | assumption)
      have q825 : x6_1 < (l0.length : Int) := of_decide_eq_true (by first | (with_reducible assumption) | assumption)
      obtain ⟨ad825, e825, hx825_0, hx825_1⟩ := Zch HR0.out x6_1 p825 q825
      cases e825
      replace hx825_0 := (HB.out.cell (World.block_lt_of_cell? w _ hx825_0)).trans hx825_0
      replace hx825_1 := (HB.out.cell (World.block_lt_of_cell? w _ hx825_1)).trans hx825_1
      replace p825 := eq_true p825
      replace q825 := eq_true q825
      have p826 : 0 ≤ (x7_1 : Int) := of_decide_eq_true (by first | (with_reducible assumption) | assumption)
      have q826 : x7_1 < (l1.length : Int) := of_decide_eq_true (by first | (with_reducible assumption) | assumption)
      obtain ⟨ad826, e826, hx826_0, hx826_1⟩ := Zch HR1.out x7_1 p826 q826
      cases e826
      replace hx826_0 := (HB.out.cell (World.block_lt_of_cell? w _ hx826_0)).trans hx826_0
      replace hx826_1 := (HB.out.cell (World.block_lt_of_cell? w _ hx826_1)).trans hx826_1
      replace p826 := eq_true p826
      replace q826 := eq_true q826
      have p827 : 0 ≤ (x6_1 : Int) := of_decide_eq_true (by first | (with_reducible assumption) | assumption)
      have q827 : x6_1 < (l0.length : Int) := of_decide_eq_true (by first | (with_reducible assumption) | assumption)
      obtain ⟨ad827, e827, hx827_0, hx827_1⟩ := Zch HR0.out x6_1 p827 q827
      obtain rfl : ad825 = ad827 := (by injection e827)
      replace hx827_0 := (HB.out.cell (World.block_lt_of_cell? w _ hx827_0)).trans hx827_0
      replace hx827_1 := (HB.out.cell (World.block_lt_of_cell? w _ hx827_1)).trans hx827_1
      replace p827 := eq_true p827
      replace q827 := eq_true q827
      have p828 : 0 ≤ (x7_1 : Int) := of_decide_eq_true (by first | (with_reducible assumption) | assumption)
      have q828 : x7_1 < (l1.length : Int) := of_decide_eq_true (by first | (with_reducible assumption) | assumption)
      obtain ⟨ad828, e828, hx828_0, hx828_1⟩ := Zch HR1.out x7_1 p828 q828
      obtain rfl : ad826 = ad828 := (by injection e828)
      replace hx828_0 := (HB.out.cell (World.block_lt_of_cell? w _ hx828_0)).trans hx828_0
      replace hx828_1 := (HB.out.cell (World.block_lt_of_cell? w _ hx828_1)).trans hx828_1
      replace p828 := eq_true p828
      replace q828 := eq_true q828
      go_wp2_with (first | ((with_reducible refine Zbk (b := .append) (xs := #[.tmp 45, .tmp 49]) rfl ?_); (try (refine Zcm (by rfl) ?_; dsimp only)); at_builtin; refine Kd.Zcd k41 (w0 := w) w.heap.size rfl (.tmp 45) (.tmp 49) 39 41 (.agg #[(.int .i64 0), (.int .i64 0)]) 16 rfl Try.underlying39 Zeb rfl (by decide) (by omega) u5 x5_1 (⟨ji10, ji11⟩ : S41) [.int .i64 ji10, .int .i64 ji11] (fun _ => True) (fun _ => False) rfl rfl ?aP (fun _ hk => hk.elim) ?aF ?aO ?aB ?aS ?aL ?_; (case aP => exact Zcy _ _ _ (⟨ji10, ji11⟩ : S41)); (case aB => exact (by repeat (first | (with_reducible first | exact HB.out | apply Zab | apply Za | apply Zac) | exact HB.out))); (case aF => exact (fun _ _ => trivial)); (case aO => exact (mvR HO_5.out)); (case aS => exact (Zae (by repeat (first | (with_reducible first | exact HB.out | apply Zab | apply Za | apply Zac) | exact HB.out)))); (case aL => have := LMc13.out; omega); intro v830 w15 ho hb hg hat; rw [← Ny829.out] at ho; have n0_ := Zaa.mk (hb); have n1_ := Zaa.mk (ho); clear HB; clear HO_5; have HB := n0_; have HO831 := n1_; clear n0_ n1_; clear ho hb hg hat; have p832 : 0 ≤ (x6_1 : Int) := of_decide_eq_true (by first | (with_reducible assumption) | assumption); have q832 : x6_1 < (l0.length : Int) := of_decide_eq_true (by first | (with_reducible assumption) | assumption); obtain ⟨ad832, e832, hx832_0, hx832_1⟩ := Zch HR0.out x6_1 p832 q832; obtain rfl : ad825 = ad832 := (by injection e832); replace hx832_0 := (HB.out.cell (World.block_lt_of_cell? w _ hx832_0)).trans hx832_0; replace hx832_1 := (HB.out.cell (World.block_lt_of_cell? w _ hx832_1)).trans hx832_1; replace p832 := eq_true p832; replace q832 := eq_true q832; have p833 : 0 ≤ (x7_1 : Int) := of_decide_eq_true (by first | (with_reducible assumption) | assumption); have q833 : x7_1 < (l1.length : Int) := of_decide_eq_true (by first | (with_reducible assumption) | assumption); obtain ⟨ad833, e833, hx833_0, hx833_1⟩ := Zch HR1.out x7_1 p833 q833; obtain rfl : ad826 = ad833 := (by injection e833); replace hx833_0 := (HB.out.cell (World.block_lt_of_cell? w _ hx833_0)).trans hx833_0; replace hx833_1 := (HB.out.cell (World.block_lt_of_cell? w _ hx833_1)).trans hx833_1; replace p833 := eq_true p833; replace q833 := eq_true q833))
      repeat (go_quiet (first | ((with_reducible refine Zbk (b := .append) (xs := #[.tmp 45, .tmp 49]) rfl ?_); (try (refine Zcm (by rfl) ?_; dsimp only)); at_builtin; refine Kd.Zcd k41 (w0 := w) w.heap.size rfl (.tmp 45) (.tmp 49) 39 41 (.agg #[(.int .i64 0), (.int .i64 0)]) 16 rfl Try.underlying39 Zeb rfl (by decide) (by omega) u5 x5_1 (⟨ji10, ji11⟩ : S41) [.int .i64 ji10, .int .i64 ji11] (fun _ => True) (fun _ => False) rfl rfl ?aP (fun _ hk => hk.elim) ?aF ?aO ?aB ?aS ?aL ?_; (case aP => exact Zcy _ _ _ (⟨ji10, ji11⟩ : S41)); (case aB => exact (by repeat (first | (with_reducible first | exact HB.out | apply Zab | apply Za | apply Zac) | exact HB.out))); (case aF => exact (fun _ _ => trivial)); (case aO => exact (mvR HO_5.out)); (case aS => exact (Zae (by repeat (first | (with_reducible first | exact HB.out | apply Zab | apply Za | apply Zac) | exact HB.out)))); (case aL => have := LMc13.out; omega); intro v830 w15 ho hb hg hat; rw [← Ny829.out] at ho; have n0_ := Zaa.mk (hb); have n1_ := Zaa.mk (ho); clear HB; clear HO_5; have HB := n0_; have HO831 := n1_; clear n0_ n1_; clear ho hb hg hat; have p832 : 0 ≤ (x6_1 : Int) := of_decide_eq_true (by first | (with_reducible assumption) | assumption); have q832 : x6_1 < (l0.length : Int) := of_decide_eq_true (by first | (with_reducible assumption) | assumption); obtain ⟨ad832, e832, hx832_0, hx832_1⟩ := Zch HR0.out x6_1 p832 q832; obtain rfl : ad825 = ad832 := (by injection e832); replace hx832_0 := (HB.out.cell (World.block_lt_of_cell? w _ hx832_0)).trans hx832_0; replace hx832_1 := (HB.out.cell (World.block_lt_of_cell? w _ hx832_1)).trans hx832_1; replace p832 := eq_true p832; replace q832 := eq_true q832; have p833 : 0 ≤ (x7_1 : Int) := of_decide_eq_true (by first | (with_reducible assumption) | assumption); have q833 : x7_1 < (l1.length : Int) := of_decide_eq_true (by first | (with_reducible assumption) | assumption); obtain ⟨ad833, e833, hx833_0, hx833_1⟩ := Zch HR1.out x7_1 p833 q833; obtain rfl : ad826 = ad833 := (by injection e833); replace hx833_0 := (HB.out.cell (World.block_lt_of_cell? w _ hx833_0)).trans hx833_0; replace hx833_1 := (HB.out.cell (World.block_lt_of_cell? w _ hx833_1)).trans hx833_1; replace p833 := eq_true p833; replace q833 := eq_true q833)); try go_wp2_with (first | ((with_reducible refine Zbk (b := .append) (xs := #[.tmp 45, .tmp 49]) rfl ?_); (try (refine Zcm (by rfl) ?_; dsimp only)); at_builtin; refine Kd.Zcd k41 (w0 := w) w.heap.size rfl (.tmp 45) (.tmp 49) 39 41 (.agg #[(.int .i64 0), (.int .i64 0)]) 16 rfl Try.underlying39 Zeb rfl (by decide) (by omega) u5 x5_1 (⟨ji10, ji11⟩ : S41) [.int .i64 ji10, .int .i64 ji11] (fun _ => True) (fun _ => False) rfl rfl ?aP (fun _ hk => hk.elim) ?aF ?aO ?aB ?aS ?aL ?_; (case aP => exact Zcy _ _ _ (⟨ji10, ji11⟩ : S41)); (case aB => exact (by repeat (first | (with_reducible first | exact HB.out | apply Zab | apply Za | apply Zac) | exact HB.out))); (case aF => exact (fun _ _ => trivial)); (case aO => exact (mvR HO_5.out)); (case aS => exact (Zae (by repeat (first | (with_reducible first | exact HB.out | apply Zab | apply Za | apply Zac) | exact HB.out)))); (case aL => have := LMc13.out; omega); intro v830 w15 ho hb hg hat; rw [← Ny829.out] at ho; have n0_ := Zaa.mk (hb); have n1_ := Zaa.mk (ho); clear HB; clear HO_5; have HB := n0_; have HO831 := n1_; clear n0_ n1_; clear ho hb hg hat; have p832 : 0 ≤ (x6_1 : Int) := of_decide_eq_true (by first | (with_reducible assumption) | assumption); have q832 : x6_1 < (l0.length : Int) := of_decide_eq_true (by first | (with_reducible assumption) | assumption); obtain ⟨ad832, e832, hx832_0, hx832_1⟩ := Zch HR0.out x6_1 p832 q832; obtain rfl : ad825 = ad832 := (by injection e832); replace hx832_0 := (HB.out.cell (World.block_lt_of_cell? w _ hx832_0)).trans hx832_0; replace hx832_1 := (HB.out.cell (World.block_lt_of_cell? w _ hx832_1)).trans hx832_1; replace p832 := eq_true p832; replace q832 := eq_true q832; have p833 : 0 ≤ (x7_1 : Int) := of_decide_eq_true (by first | (with_reducible assumption) | assumption); have q833 : x7_1 < (l1.length : Int) := of_decide_eq_true (by first | (with_reducible assumption) | assumption); obtain ⟨ad833, e833, hx833_0, hx833_1⟩ := Zch HR1.out x7_1 p833 q833; obtain rfl : ad826 = ad833 := (by injection e833); replace hx833_0 := (HB.out.cell (World.block_lt_of_cell? w _ hx833_0)).trans hx833_0; replace hx833_1 := (HB.out.cell (World.block_lt_of_cell? w _ hx833_1)).trans hx833_1; replace p833 := eq_true p833; replace q833 := eq_true q833)))
      go_roundg kj2
      case measure => have := HK1.out; have := HJ2.out; omega
      case rel => exact ⟨(y829), (wrap64 (x6_1 + 1)), (x7_1), (by first | rfl | (simp; done) | (simp [*]; done)), (by first | rfl | (simp; done) | (simp [*]; done)), H', ⟨by have := HK1.out; have := HJ2.out; omega⟩, ⟨by (with_reducible repeat (first | apply Kd.Za6 | apply Kd.Za5 | apply Kd.Zbb)); exact HO831.out⟩, ⟨by repeat (first | (with_reducible first | exact HB.out | apply Zab | apply Za | apply Zac) | exact HB.out)⟩⟩
     rw [if_neg c14] at H
     have c14b0 : decide (((Zaw l0 x6_1).f1) < ((Zaw l1 x7_1).f1)) = false := decide_eq_false c14
     clear c14
     have H' := Zaa.mk H
     clear H
     have p825 : 0 ≤ (x6_1 : Int) := of_decide_eq_true (by first | (with_reducible assumption) | assumption)
     have q825 : x6_1 < (l0.length : Int) := of_decide_eq_true (by first | (with_reducible assumption) | assumption)
     obtain ⟨ad825, e825, hx825_0, hx825_1⟩ := Zch HR0.out x6_1 p825 q825
     cases e825
     replace hx825_0 := (HB.out.cell (World.block_lt_of_cell? w _ hx825_0)).trans hx825_0
     replace hx825_1 := (HB.out.cell (World.block_lt_of_cell? w _ hx825_1)).trans hx825_1
     replace p825 := eq_true p825
     replace q825 := eq_true q825
     have p826 : 0 ≤ (x7_1 : Int) := of_decide_eq_true (by first | (with_reducible assumption) | assumption)
     have q826 : x7_1 < (l1.length : Int) := of_decide_eq_true (by first | (with_reducible assumption) | assumption)
     obtain ⟨ad826, e826, hx826_0, hx826_1⟩ := Zch HR1.out x7_1 p826 q826
     cases e826
     replace hx826_0 := (HB.out.cell (World.block_lt_of_cell? w _ hx826_0)).trans hx826_0
     replace hx826_1 := (HB.out.cell (World.block_lt_of_cell? w _ hx826_1)).trans hx826_1
     replace p826 := eq_true p826
     replace q826 := eq_true q826
     have p827 : 0 ≤ (x6_1 : Int) := of_decide_eq_true (by first | (with_reducible assumption) | assumption)
     have q827 : x6_1 < (l0.length : Int) := of_decide_eq_true (by first | (with_reducible assumption) | assumption)
     obtain ⟨ad827, e827, hx827_0, hx827_1⟩ := Zch HR0.out x6_1 p827 q827
     obtain rfl : ad825 = ad827 := (by injection e827)
     replace hx827_0 := (HB.out.cell (World.block_lt_of_cell? w _ hx827_0)).trans hx827_0
     replace hx827_1 := (HB.out.cell (World.block_lt_of_cell? w _ hx827_1)).trans hx827_1
     replace p827 := eq_true p827
     replace q827 := eq_true q827
     have p828 : 0 ≤ (x7_1 : Int) := of_decide_eq_true (by first | (with_reducible assumption) | assumption)
     have q828 : x7_1 < (l1.length : Int) := of_decide_eq_true (by first | (with_reducible assumption) | assumption)
     obtain ⟨ad828, e828, hx828_0, hx828_1⟩ := Zch HR1.out x7_1 p828 q828
     obtain rfl : ad826 = ad828 := (by injection e828)
     replace hx828_0 := (HB.out.cell (World.block_lt_of_cell? w _ hx828_0)).trans hx828_0
     replace hx828_1 := (HB.out.cell (World.block_lt_of_cell? w _ hx828_1)).trans hx828_1
     replace p828 := eq_true p828
     replace q828 := eq_true q828
     go_wp2_with (first | ((with_reducible refine Zbk (b := .append) (xs := #[.tmp 45, .tmp 49]) rfl ?_); (try (refine Zcm (by rfl) ?_; dsimp only)); at_builtin; refine Kd.Zcd k41 (w0 := w) w.heap.size rfl (.tmp 45) (.tmp 49) 39 41 (.agg #[(.int .i64 0), (.int .i64 0)]) 16 rfl Try.underlying39 Zeb rfl (by decide) (by omega) u5 x5_1 (⟨ji10, ji11⟩ : S41) [.int .i64 ji10, .int .i64 ji11] (fun _ => True) (fun _ => False) rfl rfl ?aP (fun _ hk => hk.elim) ?aF ?aO ?aB ?aS ?aL ?_; (case aP => exact Zcy _ _ _ (⟨ji10, ji11⟩ : S41)); (case aB => exact (by repeat (first | (with_reducible first | exact HB.out | apply Zab | apply Za | apply Zac) | exact HB.out))); (case aF => exact (fun _ _ => trivial)); (case aO => exact (mvR HO_5.out)); (case aS => exact (Zae (by repeat (first | (with_reducible first | exact HB.out | apply Zab | apply Za | apply Zac) | exact HB.out)))); (case aL => have := LMc13.out; omega); intro v830 w16 ho hb hg hat; rw [← Ny829.out] at ho; have n0_ := Zaa.mk (hb); have n1_ := Zaa.mk (ho); clear HB; clear HO_5; have HB := n0_; have HO831 := n1_; clear n0_ n1_; clear ho hb hg hat; have p832 : 0 ≤ (x6_1 : Int) := of_decide_eq_true (by first | (with_reducible assumption) | assumption); have q832 : x6_1 < (l0.length : Int) := of_decide_eq_true (by first | (with_reducible assumption) | assumption); obtain ⟨ad832, e832, hx832_0, hx832_1⟩ := Zch HR0.out x6_1 p832 q832; obtain rfl : ad825 = ad832 := (by injection e832); replace hx832_0 := (HB.out.cell (World.block_lt_of_cell? w _ hx832_0)).trans hx832_0; replace hx832_1 := (HB.out.cell (World.block_lt_of_cell? w _ hx832_1)).trans hx832_1; replace p832 := eq_true p832; replace q832 := eq_true q832; have p833 : 0 ≤ (x7_1 : Int) := of_decide_eq_true (by first | (with_reducible assumption) | assumption); have q833 : x7_1 < (l1.length : Int) := of_decide_eq_true (by first | (with_reducible assumption) | assumption); obtain ⟨ad833, e833, hx833_0, hx833_1⟩ := Zch HR1.out x7_1 p833 q833; obtain rfl : ad826 = ad833 := (by injection e833); replace hx833_0 := (HB.out.cell (World.block_lt_of_cell? w _ hx833_0)).trans hx833_0; replace hx833_1 := (HB.out.cell (World.block_lt_of_cell? w _ hx833_1)).trans hx833_1; replace p833 := eq_true p833; replace q833 := eq_true q833))
     repeat (go_quiet (first | ((with_reducible refine Zbk (b := .append) (xs := #[.tmp 45, .tmp 49]) rfl ?_); (try (refine Zcm (by rfl) ?_; dsimp only)); at_builtin; refine Kd.Zcd k41 (w0 := w) w.heap.size rfl (.tmp 45) (.tmp 49) 39 41 (.agg #[(.int .i64 0), (.int .i64 0)]) 16 rfl Try.underlying39 Zeb rfl (by decide) (by omega) u5 x5_1 (⟨ji10, ji11⟩ : S41) [.int .i64 ji10, .int .i64 ji11] (fun _ => True) (fun _ => False) rfl rfl ?aP (fun _ hk => hk.elim) ?aF ?aO ?aB ?aS ?aL ?_; (case aP => exact Zcy _ _ _ (⟨ji10, ji11⟩ : S41)); (case aB => exact (by repeat (first | (with_reducible first | exact HB.out | apply Zab | apply Za | apply Zac) | exact HB.out))); (case aF => exact (fun _ _ => trivial)); (case aO => exact (mvR HO_5.out)); (case aS => exact (Zae (by repeat (first | (with_reducible first | exact HB.out | apply Zab | apply Za | apply Zac) | exact HB.out)))); (case aL => have := LMc13.out; omega); intro v830 w16 ho hb hg hat; rw [← Ny829.out] at ho; have n0_ := Zaa.mk (hb); have n1_ := Zaa.mk (ho); clear HB; clear HO_5; have HB := n0_; have HO831 := n1_; clear n0_ n1_; clear ho hb hg hat; have p832 : 0 ≤ (x6_1 : Int) := of_decide_eq_true (by first | (with_reducible assumption) | assumption); have q832 : x6_1 < (l0.length : Int) := of_decide_eq_true (by first | (with_reducible assumption) | assumption); obtain ⟨ad832, e832, hx832_0, hx832_1⟩ := Zch HR0.out x6_1 p832 q832; obtain rfl : ad825 = ad832 := (by injection e832); replace hx832_0 := (HB.out.cell (World.block_lt_of_cell? w _ hx832_0)).trans hx832_0; replace hx832_1 := (HB.out.cell (World.block_lt_of_cell? w _ hx832_1)).trans hx832_1; replace p832 := eq_true p832; replace q832 := eq_true q832; have p833 : 0 ≤ (x7_1 : Int) := of_decide_eq_true (by first | (with_reducible assumption) | assumption); have q833 : x7_1 < (l1.length : Int) := of_decide_eq_true (by first | (with_reducible assumption) | assumption); obtain ⟨ad833, e833, hx833_0, hx833_1⟩ := Zch HR1.out x7_1 p833 q833; obtain rfl : ad826 = ad833 := (by injection e833); replace hx833_0 := (HB.out.cell (World.block_lt_of_cell? w _ hx833_0)).trans hx833_0; replace hx833_1 := (HB.out.cell (World.block_lt_of_cell? w _ hx833_1)).trans hx833_1; replace p833 := eq_true p833; replace q833 := eq_true q833)); try go_wp2_with (first | ((with_reducible refine Zbk (b := .append) (xs := #[.tmp 45, .tmp 49]) rfl ?_); (try (refine Zcm (by rfl) ?_; dsimp only)); at_builtin; refine Kd.Zcd k41 (w0 := w) w.heap.size rfl (.tmp 45) (.tmp 49) 39 41 (.agg #[(.int .i64 0), (.int .i64 0)]) 16 rfl Try.underlying39 Zeb rfl (by decide) (by omega) u5 x5_1 (⟨ji10, ji11⟩ : S41) [.int .i64 ji10, .int .i64 ji11] (fun _ => True) (fun _ => False) rfl rfl ?aP (fun _ hk => hk.elim) ?aF ?aO ?aB ?aS ?aL ?_; (case aP => exact Zcy _ _ _ (⟨ji10, ji11⟩ : S41)); (case aB => exact (by repeat (first | (with_reducible first | exact HB.out | apply Zab | apply Za | apply Zac) | exact HB.out))); (case aF => exact (fun _ _ => trivial)); (case aO => exact (mvR HO_5.out)); (case aS => exact (Zae (by repeat (first | (with_reducible first | exact HB.out | apply Zab | apply Za | apply Zac) | exact HB.out)))); (case aL => have := LMc13.out; omega); intro v830 w16 ho hb hg hat; rw [← Ny829.out] at ho; have n0_ := Zaa.mk (hb); have n1_ := Zaa.mk (ho); clear HB; clear HO_5; have HB := n0_; have HO831 := n1_; clear n0_ n1_; clear ho hb hg hat; have p832 : 0 ≤ (x6_1 : Int) := of_decide_eq_true (by first | (with_reducible assumption) | assumption); have q832 : x6_1 < (l0.length : Int) := of_decide_eq_true (by first | (with_reducible assumption) | assumption); obtain ⟨ad832, e832, hx832_0, hx832_1⟩ := Zch HR0.out x6_1 p832 q832; obtain rfl : ad825 = ad832 := (by injection e832); replace hx832_0 := (HB.out.cell (World.block_lt_of_cell? w _ hx832_0)).trans hx832_0; replace hx832_1 := (HB.out.cell (World.block_lt_of_cell? w _ hx832_1)).trans hx832_1; replace p832 := eq_true p832; replace q832 := eq_true q832; have p833 : 0 ≤ (x7_1 : Int) := of_decide_eq_true (by first | (with_reducible assumption) | assumption); have q833 : x7_1 < (l1.length : Int) := of_decide_eq_true (by first | (with_reducible assumption) | assumption); obtain ⟨ad833, e833, hx833_0, hx833_1⟩ := Zch HR1.out x7_1 p833 q833; obtain rfl : ad826 = ad833 := (by injection e833); replace hx833_0 := (HB.out.cell (World.block_lt_of_cell? w _ hx833_0)).trans hx833_0; replace hx833_1 := (HB.out.cell (World.block_lt_of_cell? w _ hx833_1)).trans hx833_1; replace p833 := eq_true p833; replace q833 := eq_true q833)))
     go_roundg kj2
     case measure => have := HK1.out; have := HJ2.out; omega
     case rel => exact ⟨(y829), (x6_1), (wrap64 (x7_1 + 1)), (by first | rfl | (simp; done) | (simp [*]; done)), (by first | rfl | (simp; done) | (simp [*]; done)), H', ⟨by have := HK1.out; have := HJ2.out; omega⟩, ⟨by (with_reducible repeat (first | apply Kd.Za6 | apply Kd.Za5 | apply Kd.Zbb)); exact HO831.out⟩, ⟨by repeat (first | (with_reducible first | exact HB.out | apply Zab | apply Za | apply Zac) | exact HB.out)⟩⟩
end Go.Proofs.Ytpbcigilipdedaa.P
/- slices.Clone of ranges. -/
namespace Go.Proofs.Ytpbcigilipdedaa.P
open Go.RowKit Go.Proofs.YtpbcigilipdedaaW.PrintWords Go.Proofs.YtpbcigilipdedaaW.PrintLast Go.Proofs.YtpbcigilipdedaaW.PrintMore
set_option linter.unusedVariables false
set_option linter.unusedSimpArgs false
def cloneR.f (l0 : List S41) : Option (List S41) := if l0.length < 8796093022208 then some l0 else none
set_option maxRecDepth 100000 in
set_option maxHeartbeats 2000000 in
theorem cloneR.calls (A0 : Option Addr) (c0 : Nat) (l0 : List S41) (r : List S41) (w : World) (hr0 : Kd.C k41 w A0 l0.length l0) (hc0 : l0.length ≤ c0) (h : cloneR.f l0 = some r) :
    Calls Try.prog 42 #[.slice A0 l0.length c0] w fun e w' => ∃ v0_ : Value, e = .returned (v0_) ∧ Kd.R k41 41 w' w.heap.size (fun _ => True) v0_ r ∧ Below w.heap.size w w' := by
  have hu := Try.underlying41
  have q22 : ∀ (w : World) (a : Option Addr) (n c n' c' : Nat), (binOp .eql 39 (.slice a n c) (.slice none n' c')).run Try.prog w = .ok (.bool a.isNone) w := fun w a n c n' c' => Lib.run_eql_slice_nil w _ _ a n c n' c' Try.underlying39
  unfold cloneR.f at h
  split at h
  case isFalse => cases h
  case isTrue hl =>
    obtain rfl := Option.some.inj h
    have HL := Zaa.mk hl
    clear h hl
    have HR := Zaa.mk hr0
    have hlen : l0.length ≤ 9223372036854775807 := hr0.2.1
    cases A0 with
    | none =>
      have h0 : l0 = [] := by
        rcases Nat.eq_zero_or_pos l0.length with h | h
        · exact List.length_eq_zero_iff.1 h
        obtain ⟨ad, e, _⟩ := hr0.2.2 h; cases e
      subst h0
      clear hr0
      go_enter Try.func42, Try.ntmps42
      go_wp2
      go_ret
      exact ⟨_, rfl, Kd.Zgh _ _ _ _ _, Below.refl _ _⟩
    | some ad =>
      clear hr0
      have HB := Zaa.mk (Below.refl w.heap.size w)
      go_enter Try.func42, Try.ntmps42
      go_wp2_with (first | ((with_reducible refine Zbq (N := 5) rfl ?_); refine Kd.Zds k41 _ 41 ?hg (N := 5) ?hd (xs := ([] : List S41)) (inner := []) (ok := fun _ => True) (okp := fun _ => True) ?hr ?hp (fun _ hk => hk) trivial (Below.refl w.heap.size w) (Nat.le_refl _) (by simp) ?_; (case hd => rfl); (case hg => rfl); (case hr => first | (go_simp; done) | (go_simp; rfl)); (case hp => exact (Reps.none _ _)); intro v1 w1 ho hb hg_ hnew_; have HO := Zaa.mk ho; have HB := Zaa.mk hb; clear ho hb hg_ hnew_) | ((with_reducible refine Zbk (b := .append) (xs := #[.tmp 5, .tmp 6]) rfl ?_); at_builtin; go_loud (refine Kd.Zdd k41 (Rr := k41.K w1) (w0 := w) w.heap.size rfl (.tmp 5) (.tmp 6) 39 41 (.agg #[(.int .i64 0), (.int .i64 0)]) 16 rfl Try.underlying39 Zeb rfl (by decide) (by omega) v1 ([] : List S41) l0 _ _ _ (fun _ => True) (fun _ => False) rfl rfl ?aO ?aR ?aK (fun _ h => h.elim) ?aF ?aB ?aS ?aL ?_; (case aR => exact Kd.Za8 HR.out HB.out); (case aK => intro x cs h; have e_ := k41_open h; subst e_; exact Zcy _ _ _ x); (case aB => exact HB.out); (case aF => exact (fun _ _ => trivial)); (case aO => exact HO.out); (case aS => exact HB.out.size); (case aL => have := HL.out; simp; omega); intro v2 w2 ho2 hb2 hg hat; have HO2 := Zaa.mk ho2; have HB2 := Zaa.mk hb2; clear ho2 hb2 hg hat)))
      go_ret
      exact ⟨_, rfl, by simpa using HO2.out, HB2.out⟩
end Go.Proofs.Ytpbcigilipdedaa.P
/- slices.SortFunc of ranges by their least values (dom.Join's closure). -/
namespace Go.Proofs.Ytpbcigilipdedaa.P
open Go.RowKit Go.Shelf Go.Proofs.YtpbcigilipdedaaW.PrintWords Go.Proofs.YtpbcigilipdedaaW.PrintLast Go.Proofs.YtpbcigilipdedaaW.PrintMore
set_option linter.unusedVariables false
set_option linter.unusedSimpArgs false
def okLo (x : S41) : Prop := -1152921504606846976 ≤ x.f0 ∧ x.f0 ≤ 1152921504606846976
instance (x : S41) : Decidable (okLo x) := inferInstanceAs (Decidable (_ ∧ _))
structure SubLo where
  r : S41
  ok : okLo r
instance : Inhabited SubLo := ⟨⟨⟨0, 0⟩, by constructor <;> decide⟩⟩
def encLo (x : SubLo) : List Value := [.int .i64 x.r.f0, .int .i64 x.r.f1]
def cfLo (x y : SubLo) : Int := x.r.f0 - y.r.f0
theorem ltLo (x y : SubLo) : ltOf cfLo x y = decide (x.r.f0 < y.r.f0) := by
  unfold ltOf cfLo
  exact decide_eq_decide.2 (by omega)
theorem swoLo : Go.Sort.SWO (ltOf cfLo) := by
  refine ⟨fun x => ?_, fun x y z h1 h2 => ?_, fun x y z h1 h2 => ?_⟩
  · rw [ltLo]; simp
  · rw [ltLo, decide_eq_true_iff] at *; omega
  rw [ltLo, decide_eq_false_iff_not] at *; omega
def toLo (x : S41) : SubLo := if h : okLo x then ⟨x, h⟩ else default
theorem toLo_val {x : S41} (h : okLo x) : (toLo x).r = x := by unfold toLo; rw [dif_pos h]
def sortedLo (l : List S41) : Array SubLo := Go.Sort.pdq (ltOf cfLo) (l.map toLo).toArray 0 (l.map toLo).toArray.size (Go.Lib.bitLen (l.map toLo).toArray.size) true true
def sortLo.f (l : List S41) : Option (List S41) :=
  if (l.all fun x => decide (okLo x)) = true then (if l.length < 1000000000000 then some ((sortedLo l).toList.map (·.r)) else none) else none
theorem Zem (l : List S41) : (sortedLo l).size = l.length := by
  have h := Go.Sort.pdq_sorts (ltOf cfLo) swoLo (l.map toLo).toArray 0 (l.map toLo).toArray.size (Go.Lib.bitLen (l.map toLo).toArray.size) true true (Nat.zero_le _) (Nat.le_refl _) (Or.inl rfl)
  have h1 := h.1.1
  unfold sortedLo
  rw [h1]
  simp
theorem loPred (x y : SubLo) (W : World) : Calls Try.prog 84 #[.agg #[.int .i64 x.r.f0, .int .i64 x.r.f1], .agg #[.int .i64 y.r.f0, .int .i64 y.r.f1]] W fun e w' => e = .returned (.int .i64 (cfLo x y)) ∧ ∃ q os', w' = Go.Sort.grow (W.drewN q) os' := by
  obtain ⟨x, hx1, hx2⟩ := x
  obtain ⟨y, hy1, hy2⟩ := y
  have hw : wrap64 (x.f0 - y.f0) = x.f0 - y.f0 := by unfold wrap64; omega
  have hw' : IntKind.i64.wrap (x.f0 - y.f0) = x.f0 - y.f0 := (Zbh _).trans hw
  show Calls Try.prog 84 #[.agg #[.int .i64 x.f0, .int .i64 x.f1], .agg #[.int .i64 y.f0, .int .i64 y.f1]] W fun e w' => e = .returned (.int .i64 (x.f0 - y.f0)) ∧ ∃ q os', w' = Go.Sort.grow (W.drewN q) os'
  clear hx1 hx2 hy1 hy2
  go_enter Try.func84, Try.ntmps84
  go_wp2
  go_ret
  refine ⟨by first | rfl | (simp [hw']; done) | (simp [hw]; done), 0, #[.cells #[.int .i64 x.f0, .int .i64 x.f1] 41, .cells #[.int .i64 y.f0, .int .i64 y.f1] 41], ?_⟩
  rw [Go.Sort.alloc_eq_grow, Go.Sort.alloc_eq_grow, Go.Sort.grow_grow]
  rfl
theorem flat_get (d : Array SubLo) (j : Nat) (h : j < d.size * 2) : (Go.Sort.flatK encLo 2 d)[j]! = (encLo d[j / 2]!)[j % 2]! := Go.Sort.get_flatK encLo 2 d j h
theorem rows_flat (w : World) (base : Nat) (ok : Nat → Prop) (l : List S41) (hok : ∀ x ∈ l, okLo x) (inner : List Value) (h : Reps (k41.M w base ok) 2 l inner) : inner = (Go.Sort.flatK encLo 2 (l.map toLo).toArray).toList := by
  have hl : inner.length = l.length * 2 := h.1
  refine List.ext_getElem (by simp [hl]) (fun j h1 h2 => ?_)
  have hj : j / 2 < l.length := by omega
  have hm := Zev (h.2 (j / 2) _ (List.getElem?_eq_getElem hj))
  have hj2 : j < (l.map toLo).toArray.size * 2 := by simp; omega
  have e1 : (Go.Sort.flatK encLo 2 (l.map toLo).toArray).toList[j] = (encLo (toLo l[j / 2]))[j % 2]! := by
    have := flat_get (l.map toLo).toArray j hj2
    rw [getElem!_pos _ j (by simp; omega)] at this
    rw [Array.getElem_toList, this, getElem!_pos _ (j / 2) (by simp; omega)]
    simp
  have e2 : inner[j] = ([Value.int .i64 l[j / 2].f0, .int .i64 l[j / 2].f1] : List Value)[j % 2]! := by
    rw [← hm]
    have : j = j / 2 * 2 + j % 2 := by omega
    rw [getElem!_pos _ (j % 2) (by simp; omega)]
    simp
    congr 1
  rw [e1, e2, encLo, toLo_val (hok _ (List.getElem_mem hj))]
theorem rows_flat' (w : World) (base : Nat) (ok : Nat → Prop) (d : Array SubLo) : Reps (k41.M w base ok) 2 (d.toList.map (·.r)) (Go.Sort.flatK encLo 2 d).toList := by
  refine ⟨by simp, fun j p hp => ?_⟩
  obtain ⟨hj, rfl⟩ := List.getElem?_eq_some_iff.1 hp
  have hj' : j < d.size := by simpa using hj
  have e : (((Go.Sort.flatK encLo 2 d).toList.drop (j * 2)).take 2) = encLo d[j] := by
    refine List.ext_getElem (by simp [encLo]; omega) (fun i h1 h2 => ?_)
    have hi : i < 2 := by simpa [encLo] using h2
    have := flat_get d (j * 2 + i) (by omega)
    rw [getElem!_pos _ (j * 2 + i) (by simp; omega), getElem!_pos _ ((j * 2 + i) / 2) (by omega), getElem!_pos _ ((j * 2 + i) % 2) (by simp [encLo]; omega)] at this
    simp only [List.getElem_take, List.getElem_drop, Array.getElem_toList]
    rw [this]
    have e3 : (j * 2 + i) / 2 = j := by omega
    have e4 : (j * 2 + i) % 2 = i := by omega
    simp only [e3, e4]
  have e5 : (d.toList.map (·.r))[j] = d[j].r := by simp
  show k41.M w base ok _ (((Go.Sort.flatK encLo 2 d).toList.drop (j * 2)).take 2)
  rw [e, e5]
  exact Zcy w base ok (d[j].r)
theorem heap_sortedV {w : World} {g n : Nat} {os : Array Obj} {cur : Array Value} {e : TypeId} {fr : Nat × Nat} (F : Array Value) (hb : w.heap[g]? = some (.cells cur e fr)) :
    (Go.Sort.grow (Go.Sort.putRow id (Go.Sort.ahead w n) g 0 F) os).heap[g]? = some (.cells (Go.Sort.putCells id 0 F cur) e fr) := by
  have hg : g < w.heap.size := (Array.getElem?_eq_some_iff.1 hb).1
  rw [Go.Sort.heap_grow_old _ _ (by simpa using hg)]
  simp [Go.Sort.putRow, Go.Sort.mapBlock, Go.Sort.ahead, Array.getElem?_modify, hb, Go.Sort.onCells]
theorem Zgm {w : World} {g n : Nat} {os : Array Obj} (F : Array Value) : w.grownBy (Go.Sort.grow (Go.Sort.putRow id (Go.Sort.ahead w n) g 0 F) os) (some g) := by
  refine ⟨rfl, rfl, rfl, by simp, fun k hk hne => ?_⟩
  rw [Go.Sort.heap_grow_old _ _ (by simpa using hk)]
  have : g ≠ k := fun e => hne (by rw [e])
  simp [Go.Sort.putRow, Go.Sort.mapBlock, Go.Sort.ahead, Array.getElem?_modify, this]
theorem Zg0 (cur F : Array Value) (h : F.size ≤ cur.size) : (Go.Sort.putCells id 0 F cur).toList.take F.size = F.toList := by
  apply List.ext_getElem?
  intro j
  by_cases hj : j < F.size
  rotate_left
  · rw [List.getElem?_take_eq_none (by omega), List.getElem?_eq_none (by simp; omega)]
  rw [List.getElem?_take_of_lt hj, Array.getElem?_toList]
  simp [Go.Sort.putCells, hj, show j < cur.size by omega]
set_option maxHeartbeats 2000000 in
theorem sortLo.calls (P0_ : Nat → Prop) (u9000_ : Value) (l0 : List S41) (r : List S41) (w0 w : World) (hB : Below w0.heap.size w0 w) (ho0 : Kd.R k41 41 w w0.heap.size P0_ u9000_ l0) (h : sortLo.f l0 = some r) :
    Calls Try.prog 83 #[u9000_, .func (.func 84) #[] #[]] w fun e w' => e = .returned (.tuple #[]) ∧ Kd.R k41 41 w' w0.heap.size P0_ u9000_ r ∧ Below w0.heap.size w0 w' ∧ Kept w w' (fun k_ => P0_ k_) := by
  unfold sortLo.f at h
  split at h
  case isFalse => cases h
  case isTrue hall =>
    split at h
    case isFalse => cases h
    case isTrue hlen =>
      obtain rfl := Option.some.inj h
      have hok : ∀ x ∈ l0, okLo x := fun x hx => by simpa using List.all_eq_true.1 hall x hx
      have hsz := Zem l0
      obtain ⟨hP, inner, hown, hreps⟩ := ho0
      have hin := rows_flat w w0.heap.size _ l0 hok inner hreps
      rcases hown.2 with ⟨rfl, h0⟩ | ⟨g, cap, cur, rfl, hg, hb, hn, hcap, hcs, htk⟩
      · have hl : l0 = [] := List.length_eq_zero_iff.1 h0
        subst hl
        refine (AnyF.slices_SortFunc_none lsortF none 0 _ w).mono ?_
        rintro e w' ⟨rfl, rfl⟩
        have hr : ((sortedLo []).toList.map (·.r)) = [] := by
          have : (sortedLo []).size = 0 := hsz
          apply List.length_eq_zero_iff.1
          simpa using this
        rw [hr]
        exact ⟨rfl, Kd.Zgh _ _ _ _ _, hB, Kept.refl _ _⟩
      have hgl : g < w.heap.size := (Array.getElem?_eq_some_iff.1 hb).1
      have hds : (l0.map toLo).toArray.size = l0.length := by simp
      have hil : inner.length = l0.length * 2 := hreps.1
      have hfs : (Go.Sort.flatK encLo 2 (l0.map toLo).toArray).size = l0.length * 2 := by rw [Go.Sort.size_flatK, hds]
      have hH : Go.Sort.HoldsK encLo 2 w g 0 (l0.map toLo).toArray := by
        intro j hj
        rw [hfs] at hj
        refine ⟨?_, by simp [World.frozen?, hb]⟩
        have h1 : (cur.toList.take (l0.length * 2))[j]? = inner[j]? := by rw [← htk]; rfl
        rw [List.getElem?_take_of_lt hj, hin, Array.getElem?_toList, Array.getElem?_toList] at h1
        have h2 := Array.getElem?_eq_getElem (xs := Go.Sort.flatK encLo 2 (l0.map toLo).toArray) (i := j) (by rw [hfs]; exact hj)
        rw [h2] at h1
        simp only [World.cell?, hb, Nat.zero_add]
        simp only [Option.isSome_none, Bool.false_eq_true, if_false]
        rw [h1, getElem!_pos _ j (by rw [hfs]; exact hj)]
        rfl
      have hc := AnyQ.slices_SortFunc_eq lsortF 2 Try.isAgg41 Try.sizeOf41 encLo (fun _ => rfl) (fun x v hv => by simp [encLo] at hv; rcases hv with rfl | rfl <;> rfl) cfLo swoLo 84 #[] g 0 cap (l0.map toLo).toArray w
        (enters_of Try.func84 (by kernel_rfl) rfl) (fun m os dk hs x y => loPred x y _) hH hgl (by rw [hds]; omega)
      rw [hds] at hc
      refine Calls.mono (P := Try.prog) (f := 83) hc ?_
      rintro e w' ⟨rfl, n, os, rfl⟩
      have hD : Go.Sort.pdq (ltOf cfLo) (l0.map toLo).toArray 0 l0.length (Go.Lib.bitLen l0.length) true true = sortedLo l0 := by unfold sortedLo; rw [hds]
      rw [hD]
      have hF : (Go.Sort.flatK encLo 2 (sortedLo l0)).size = l0.length * 2 := by rw [Go.Sort.size_flatK, hsz]
      have hgr := Zgm (w := w) (g := g) (n := n) (os := os) (Go.Sort.flatK encLo 2 (sortedLo l0))
      refine ⟨rfl, ⟨hP, (Go.Sort.flatK encLo 2 (sortedLo l0)).toList, ⟨by simp [hsz]; rfl, .inr ⟨g, cap, Go.Sort.putCells id 0 (Go.Sort.flatK encLo 2 (sortedLo l0)) cur, by simp [hsz], hg, heap_sortedV _ hb, by simp [hsz]; exact hn, hcap, by simp [Go.Sort.putCells]; exact hcs, ?_⟩⟩, rows_flat' _ _ _ _⟩, hB.grown hgr hB.size (fun k e => by cases e; exact hg), Kept.of_grown hgr (Kept.refl _ _) (fun k e => .inl (hP k (by simpa [Value.ownBlock] using e)))⟩
      have hsz2 : ((sortedLo l0).toList.map (·.r)).length * 2 = (Go.Sort.flatK encLo 2 (sortedLo l0)).size := by rw [hF]; simp [hsz]
      show (Go.Sort.putCells id 0 (Go.Sort.flatK encLo 2 (sortedLo l0)) cur).toList.take (((sortedLo l0).toList.map (·.r)).length * 2) = _
      rw [hsz2]
      exact Zg0 _ _ (by rw [hF, hcs]; show l0.length * 2 ≤ cap * 2; omega)
end Go.Proofs.Ytpbcigilipdedaa.P
