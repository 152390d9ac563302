/- Proved: what each function of the program that the statements of this seat reach comes to, for whatever memory and arguments it is called with (on condition that its plain text tells a result). -/
import Derived.Test.YtpbcigilipdedaaZ1
import Derived.Test.YtpbcigilipdedaaZ3
import Derived.Test.YtpbcigilipdedaaZ2

namespace Go.Proofs.Ytpbcigilipdedaa.P
open Go.RowKit Go.Proofs.YtpbcigilipdedaaW.PrintWords Go.Proofs.YtpbcigilipdedaaW.PrintLast Go.Proofs.YtpbcigilipdedaaW.PrintMore
attribute [local go_sem] Zcx Zcz Zc6 Zc7 Zcp Zcq Zcy Zc0
set_option linter.unusedVariables false
set_option linter.unusedSimpArgs false
/-! ### Zas: function 41 -/
mutual
def Zas.j0 : Nat → List (List (S41)) → Bool → Int → List Int → List Int → Int → Int → List (List Int) → Int → Option (Int)
 | 0, _, _, _, _, _, _, _, _, _ => none
 | k + 1, x0, x14, x250000, x250001, x250002, x250003, x250004, x250005, x250006 => if x14 = true then (some 44) else ((Zbw.f k x250000 x250001 x250002 x250003 x250004 x250005 x250006).bind fun t250 => (Zas.l0 k x0 t250 0 x250000 x250001 x250002 x250003 x250004 x250005 x250006))
def Zas.l0 : Nat → List (List (S41)) → List Int → Int → Int → List Int → List Int → Int → Int → List (List Int) → Int → Option (Int)
 | 0, _, _, _, _, _, _, _, _, _, _ => none
 | k + 1, x0, x5, x6, x250000, x250001, x250002, x250003, x250004, x250005, x250006 => if x6 < (x5.length : Int) then (if 0 ≤ x6 then (if (rd x5 x6) < 0 then (some 43) else (if (rd x5 x6) ≥ (x0.length : Int) then (some 43) else (Zas.l0 k x0 x5 (wrap64 (x6 + 1)) x250000 x250001 x250002 x250003 x250004 x250005 x250006))) else (none)) else ((Zaj.f k x0 x250000 x250001 x250002 x250003 x250004 x250005 x250006).bind fun t255 => (if t255 = true then ((Zar.f k x250002 x250004).bind fun t256 => (if t256 = true then (some 45) else (some 0))) else (some 44)))
end
def Zas.f (k : Nat) (l0 : List (List (S41))) (a1_0 : Int) (l1_1 : List Int) (l1_2 : List Int) (a1_3 : Int) (a1_4 : Int) (l1_5 : List (List Int)) (a1_6 : Int) : Option (Int) := if a1_0 < 0 then (Zas.j0 k l0 true a1_0 l1_1 l1_2 a1_3 a1_4 l1_5 a1_6) else (Zas.j0 k l0 (decide (a1_0 > 6)) a1_0 l1_1 l1_2 a1_3 a1_4 l1_5 a1_6)
theorem Zas.Zb2 : ∀ k, (∀ y0 y1 y2 y3 y4 y5 y6 y7 y8, LeO (Zas.j0 k y0 y1 y2 y3 y4 y5 y6 y7 y8) (Zas.j0 (k + 1) y0 y1 y2 y3 y4 y5 y6 y7 y8)) ∧ (∀ y0 y1 y2 y3 y4 y5 y6 y7 y8 y9, LeO (Zas.l0 k y0 y1 y2 y3 y4 y5 y6 y7 y8 y9) (Zas.l0 (k + 1) y0 y1 y2 y3 y4 y5 y6 y7 y8 y9))
 | 0 => ⟨fun _ _ _ _ _ _ _ _ _ r h => by simp [Zas.j0] at h, fun _ _ _ _ _ _ _ _ _ _ r h => by simp [Zas.l0] at h⟩
 | k + 1 => by
  obtain ⟨ih0, ih1⟩ := Zas.Zb2 k
  refine ⟨?_, ?_⟩
  ·intro y0 y1 y2 y3 y4 y5 y6 y7 y8
   unfold Zas.j0
   repeat' first
   | (with_reducible exact ih0 _ _ _ _ _ _ _ _ _)
   | (with_reducible exact ih1 _ _ _ _ _ _ _ _ _ _)
   | (with_reducible exact Zbw.mono _ _ _ _ _ _ _ _)
   | (with_reducible exact Zar.mono _ _ _)
   | (with_reducible exact Zaj.mono _ _ _ _ _ _ _ _ _)
   | (with_reducible exact LeO.refl _)
   | (with_reducible exact LeO.none _)
   | (with_reducible refine LeO.ite ?_ ?_)
   | (with_reducible refine LeO.bind ?_ (fun _ => ?_))
   | exact ih0 _ _ _ _ _ _ _ _ _
   | exact ih1 _ _ _ _ _ _ _ _ _ _
   | exact Zbw.mono _ _ _ _ _ _ _ _
   | exact Zar.mono _ _ _
   | exact Zaj.mono _ _ _ _ _ _ _ _ _
   | exact LeO.none _
   | refine LeO.ite ?_ ?_
   | refine LeO.bind ?_ (fun _ => ?_)
  intro y0 y1 y2 y3 y4 y5 y6 y7 y8 y9
  unfold Zas.l0
  repeat' first
  | (with_reducible exact ih0 _ _ _ _ _ _ _ _ _)
  | (with_reducible exact ih1 _ _ _ _ _ _ _ _ _ _)
  | (with_reducible exact Zbw.mono _ _ _ _ _ _ _ _)
  | (with_reducible exact Zar.mono _ _ _)
  | (with_reducible exact Zaj.mono _ _ _ _ _ _ _ _ _)
  | (with_reducible exact LeO.refl _)
  | (with_reducible exact LeO.none _)
  | (with_reducible refine LeO.ite ?_ ?_)
  | (with_reducible refine LeO.bind ?_ (fun _ => ?_))
  | exact ih0 _ _ _ _ _ _ _ _ _
  | exact ih1 _ _ _ _ _ _ _ _ _ _
  | exact Zbw.mono _ _ _ _ _ _ _ _
  | exact Zar.mono _ _ _
  | exact Zaj.mono _ _ _ _ _ _ _ _ _
  | exact LeO.none _
  | refine LeO.ite ?_ ?_
  | refine LeO.bind ?_ (fun _ => ?_)
theorem Zas.mono : ∀ a0 a1 a2 a3 a4 a5 a6 a7 k, LeO (Zas.f k a0 a1 a2 a3 a4 a5 a6 a7) (Zas.f (k + 1) a0 a1 a2 a3 a4 a5 a6 a7) := by
 intro a0 a1 a2 a3 a4 a5 a6 a7 k
 obtain ⟨ih0, ih1⟩ := Zas.Zb2 k
 unfold Zas.f
 repeat' first
   | (with_reducible exact ih0 _ _ _ _ _ _ _ _ _)
   | (with_reducible exact ih1 _ _ _ _ _ _ _ _ _ _)
   | (with_reducible exact Zbw.mono _ _ _ _ _ _ _ _)
   | (with_reducible exact Zar.mono _ _ _)
   | (with_reducible exact Zaj.mono _ _ _ _ _ _ _ _ _)
   | (with_reducible exact LeO.refl _)
   | (with_reducible exact LeO.none _)
   | (with_reducible refine LeO.ite ?_ ?_)
   | (with_reducible refine LeO.bind ?_ (fun _ => ?_))
   | exact ih0 _ _ _ _ _ _ _ _ _
   | exact ih1 _ _ _ _ _ _ _ _ _ _
   | exact Zbw.mono _ _ _ _ _ _ _ _
   | exact Zar.mono _ _ _
   | exact Zaj.mono _ _ _ _ _ _ _ _ _
   | exact LeO.none _
   | refine LeO.ite ?_ ?_
   | refine LeO.bind ?_ (fun _ => ?_)
set_option maxHeartbeats 8000000 in
set_option maxRecDepth 100000 in
theorem Zas.calls (k : Nat) (A0 : Option Addr) (c0 : Nat) (l0 : List (List (S41))) (a1_0 : Int) (A1_1 : Option Addr) (c1_1 : Nat) (l1_1 : List Int) (A1_2 : Option Addr) (c1_2 : Nat) (l1_2 : List Int) (a1_3 : Int) (a1_4 : Int) (A1_5 : Option Addr) (c1_5 : Nat) (l1_5 : List (List Int)) (a1_6 : Int) (r : Int) (w : World) (hr0 : Kd.C (Kd.slice 41 k41) w A0 l0.length l0) (hc0 : l0.length ≤ c0) (hr1_1 : Kd.C (Kd.int .i64) w A1_1 l1_1.length l1_1) (hc1_1 : l1_1.length ≤ c1_1) (hr1_2 : Kd.C (Kd.int .i64) w A1_2 l1_2.length l1_2) (hc1_2 : l1_2.length ≤ c1_2) (hr1_5 : Kd.C (Kd.slice 3 (Kd.int .i64)) w A1_5 l1_5.length l1_5) (hc1_5 : l1_5.length ≤ c1_5) (h : Zas.f k l0 a1_0 l1_1 l1_2 a1_3 a1_4 l1_5 a1_6 = some r) :
  Calls Try.prog 41 #[.slice A0 l0.length c0, .agg #[.int .i64 a1_0, .slice A1_1 l1_1.length c1_1, .slice A1_2 l1_2.length c1_2, .int .i64 a1_3, .int .i64 a1_4, .slice A1_5 l1_5.length c1_5, .int .i64 a1_6]] w fun e w' => e = .returned (.int .i64 r) ∧ Below w.heap.size w w' := by
 have hu25 := Try.underlying25
 have HR0 := Zaa.mk hr0
 have HC0 := Zaa.mk hc0
 clear hr0 hc0
 have HR1_1 := Zaa.mk hr1_1
 have HC1_1 := Zaa.mk hc1_1
 clear hr1_1 hc1_1
 have HR1_2 := Zaa.mk hr1_2
 have HC1_2 := Zaa.mk hc1_2
 clear hr1_2 hc1_2
 have HR1_5 := Zaa.mk hr1_5
 have HC1_5 := Zaa.mk hc1_5
 clear hr1_5 hc1_5
 have HB := Zaa.mk (Below.refl w.heap.size w)
 have H : (if a1_0 < 0 then (Zas.j0 k l0 true a1_0 l1_1 l1_2 a1_3 a1_4 l1_5 a1_6) else (Zas.j0 k l0 (decide (a1_0 > 6)) a1_0 l1_1 l1_2 a1_3 a1_4 l1_5 a1_6)) = some r := h
 clear h
 have HC3 := Zaa.mk H
 clear H
 go_enter Try.func41, Try.ntmps41
 go_upto_region 1 with (first | ((with_reducible refine Zb3 (N := 3) rfl ?_); (try (refine Zd4 (by rfl) ?_; dsimp only)); refine Zcf ?hg (N := 3) ?hd (cs := #[.int .i64 a1_0, .slice A1_1 l1_1.length c1_1, .slice A1_2 l1_2.length c1_2, .int .i64 a1_3, .int .i64 a1_4, .slice A1_5 l1_5.length c1_5, .int .i64 a1_6]) (t := 25) ?hr ?_; (case hd => rfl); (case hg => rfl); (case hr => first | (go_simp; done) | (go_simp; rfl)); intro gb249 hg w4 hbox hb; have n0_ := Zaa.mk (Za2 (by repeat (first | (with_reducible first | exact HB.out | apply Zac | apply Za | apply Zab) | exact HB.out)) hb); have n1_ := Zaa.mk (hbox); have n2_ := Zaa.mk ((by rw [hg]; exact (Zal (by repeat (first | (with_reducible first | exact HB.out | apply Zac | apply Za | apply Zab) | exact HB.out))) : w.heap.size ≤ gb249)); have n3_ := Zaa.mk ((by rw [hg]; exact (Zal (by repeat (first | (with_reducible first | exact HB.out | apply Zac | apply Za | apply Zab) | exact HB.out))) : w.heap.size ≤ gb249)); clear HB; have HB := n0_; have BK249 := n1_; have GW249 := n2_; have GE249 := n3_; clear n0_ n1_ n2_ n3_; clear hb hbox hg))
 (try simp only [Act.put, List.setIfInBounds_toArray, List.set_cons_zero, List.set_cons_succ])
 go_cut [14] (fun v14 wc => ∃ (kq : Nat) (x14_2 : Bool), v14 = .bool x14_2 ∧ Zaa (Zas.j0 kq l0 x14_2 a1_0 l1_1 l1_2 a1_3 a1_4 l1_5 a1_6 = some r) ∧ Zaa (kq ≤ k) ∧ Zaa (wc.heap[gb249]? = some (.cells #[.int .i64 a1_0, (.slice A1_1 l1_1.length c1_1), (.slice A1_2 l1_2.length c1_2), .int .i64 a1_3, .int .i64 a1_4, (.slice A1_5 l1_5.length c1_5), .int .i64 a1_6] 25 (0, 0))) ∧ Zaa (Below w.heap.size w wc))
 case first =>
  have H := HC3.out
  clear HC3
  by_cases c5 : a1_0 < 0
  ·rw [if_pos c5] at H
   have c5b0 : decide (a1_0 < 0) = true := decide_eq_true c5
   clear c5
   (first | rw [c5b0] | (simp only [Zbg, Zbj]; rw [c5b0]) | skip)
   have H' := Zaa.mk H
   clear H
   obtain ⟨hcz6_0, hcz6_1, hcz6_2, hcz6_3, hcz6_4, hcz6_5, hcz6_6, hfz6_0, hfz6_1, hfz6_2, hfz6_3, hfz6_4, hfz6_5, hfz6_6⟩ := Zcj BK249.out
   go_wp2
   go_meet
   case rel => exact ⟨_, (true), (by first | rfl | (simp; done) | (simp [*]; done)), H', ⟨by first | omega | exact Nat.le_refl _⟩, ⟨by (with_reducible repeat (first | refine Zaf ?_ _ | refine Zah ?_ | refine Zae ?_ _)); exact BK249.out⟩, ⟨by repeat (first | (with_reducible first | exact HB.out | apply Zac | apply Za | apply Zab | refine Zag ?_ GE249.out) | exact HB.out)⟩⟩
  rw [if_neg c5] at H
  have c5b0 : decide (a1_0 < 0) = false := decide_eq_false c5
  clear c5
  (first | rw [c5b0] | (simp only [Zbg, Zbj]; rw [c5b0]) | skip)
  have H' := Zaa.mk H
  clear H
  obtain ⟨hcz7_0, hcz7_1, hcz7_2, hcz7_3, hcz7_4, hcz7_5, hcz7_6, hfz7_0, hfz7_1, hfz7_2, hfz7_3, hfz7_4, hfz7_5, hfz7_6⟩ := Zcj BK249.out
  go_wp2
  go_meet
  case rel => exact ⟨_, (decide (a1_0 > 6)), (by first | rfl | (simp; done) | (simp [*]; done)), H', ⟨by first | omega | exact Nat.le_refl _⟩, ⟨by (with_reducible repeat (first | refine Zaf ?_ _ | refine Zah ?_ | refine Zae ?_ _)); exact BK249.out⟩, ⟨by repeat (first | (with_reducible first | exact HB.out | apply Zac | apply Za | apply Zab | refine Zag ?_ GE249.out) | exact HB.out)⟩⟩
 case rest =>
  clear HC3
  try clear c1
  try clear p2
  try clear c4
  try clear c5
  try clear c5b0
  try clear hcz6_0
  try clear hcz6_1
  try clear hcz6_2
  try clear hcz6_3
  try clear hcz6_4
  try clear hcz6_5
  try clear hcz6_6
  try clear hcz7_0
  try clear hcz7_1
  try clear hcz7_2
  try clear hcz7_3
  try clear hcz7_4
  try clear hcz7_5
  try clear hcz7_6
  try clear hfz6_0
  try clear hfz6_1
  try clear hfz6_2
  try clear hfz6_3
  try clear hfz6_4
  try clear hfz6_5
  try clear hfz6_6
  try clear hfz7_0
  try clear hfz7_1
  try clear hfz7_2
  try clear hfz7_3
  try clear hfz7_4
  try clear hfz7_5
  try clear hfz7_6
  obtain ⟨kq, x14_2, rfl, HA, HJ2, BK249, HB⟩ := hcut
  cases kq with
  | zero => exact absurd HA.out (by simp [Zas.j0])
  | succ kj2 =>
   have H := HA.out
   clear HA
   simp only [Zas.j0] at H
   by_cases c8 : x14_2 = true
   ·subst c8
    have H1 : (some 44) = some r := by rw [if_pos rfl] at H; exact H
    clear H
    have H := H1
    clear H1
    obtain rfl := Option.some.inj H
    go_wp2
    go_ret
    exact ⟨by first | rfl | (simp [Za3, Za4] <;> rfl) | (simp [*, Za3, Za4] <;> rfl), by repeat (first | (with_reducible first | exact HB.out | apply Zac | apply Za | apply Zab | refine Zag ?_ GE249.out) | exact HB.out)⟩
   replace c8 := Bool.eq_false_iff.mpr c8
   subst c8
   have H1 : ((Zbw.f kj2 a1_0 l1_1 l1_2 a1_3 a1_4 l1_5 a1_6).bind fun t250 => (Zas.l0 kj2 l0 t250 0 a1_0 l1_1 l1_2 a1_3 a1_4 l1_5 a1_6)) = some r := by rw [if_neg (show ¬ (false = true) by decide)] at H; exact H
   clear H
   have H := H1
   clear H1
   replace H := Option.bind_eq_some_iff.mp H
   obtain ⟨t250, A90, H⟩ := H
   replace H : (Zas.l0 kj2 l0 t250 0 a1_0 l1_1 l1_2 a1_3 a1_4 l1_5 a1_6) = some r := H
   have A9 := Zaa.mk A90
   clear A90
   have H' := Zaa.mk H
   clear H
   obtain ⟨hcz10_0, hcz10_1, hcz10_2, hcz10_3, hcz10_4, hcz10_5, hcz10_6, hfz10_0, hfz10_1, hfz10_2, hfz10_3, hfz10_4, hfz10_5, hfz10_6⟩ := Zcj BK249.out
   go_wp2_with (first | ((with_reducible refine Zbr (f := 60) rfl ?_); refine Zci (some 16) rfl rfl Try.func60 (by kernel_rfl) rfl #[.agg #[.int .i64 a1_0, .slice A1_1 l1_1.length c1_1, .slice A1_2 l1_2.length c1_2, .int .i64 a1_3, .int .i64 a1_4, .slice A1_5 l1_5.length c1_5, .int .i64 a1_6]] rfl (by (try simp only [List.map_toArray, List.map_cons, List.map_nil]); first | done | rfl | (simp only [List.length_drop, List.length_take]; rfl)) ?_; (with_reducible refine (Zbw.calls kj2 a1_0 _ _ l1_1 _ _ l1_2 a1_3 a1_4 _ _ l1_5 a1_6 t250 _ ?side1 ?side2 ?side3 ?side4 ?side5 ?side6 A9.out).mono ?_); (case side1 => repeat (first | exact (Kd.Zbk HR1_1.out HB.out) | (with_reducible refine Kd.C_alloc ?_ _) | (with_reducible refine Kd.Za1 ?_ _) | (with_reducible refine Kd.Zbd ?_))); (case side2 => exact HC1_1.out); (case side3 => repeat (first | exact (Kd.Zbk HR1_2.out HB.out) | (with_reducible refine Kd.C_alloc ?_ _) | (with_reducible refine Kd.Za1 ?_ _) | (with_reducible refine Kd.Zbd ?_))); (case side4 => exact HC1_2.out); (case side5 => repeat (first | exact (Kd.Zbk HR1_5.out HB.out) | (with_reducible refine Kd.C_alloc ?_ _) | (with_reducible refine Kd.Za1 ?_ _) | (with_reducible refine Kd.Zbd ?_))); (case side6 => exact HC1_5.out); rintro e w11 ⟨v251, rfl, ho0, hb⟩; refine ⟨_, rfl, ?_⟩; have n0_ := Zaa.mk (Kd.Zb8 ho0 (Zal (by repeat (first | (with_reducible first | exact HB.out | apply Zac | apply Za | apply Zab | refine Zag ?_ GE249.out) | exact HB.out)))); have n1_ := Zaa.mk (Zbh (g := gb249) (o := .cells #[.int .i64 a1_0, .slice A1_1 l1_1.length c1_1, .slice A1_2 l1_2.length c1_2, .int .i64 a1_3, .int .i64 a1_4, .slice A1_5 l1_5.length c1_5, .int .i64 a1_6] 25 (0, 0)) (by (with_reducible repeat (first | refine Zaf ?_ _ | refine Zah ?_ | refine Zae ?_ _)); exact BK249.out) hb); have n2_ := Zaa.mk (Za2 (by repeat (first | (with_reducible first | exact HB.out | apply Zac | apply Za | apply Zab | refine Zag ?_ GE249.out) | exact HB.out)) hb); clear BK249; clear HB; have HO252 := n0_; have BK249 := n1_; have HB := n2_; clear n0_ n1_ n2_; (try clear hb); (try clear hb2); (try clear hk); (try clear hi); (try clear ho0)))
   go_loopg [6] kj2 (fun kq v6 w' => ∃ (x6_2 : Int), v6 = .int .i64 x6_2 ∧ Zaa (Zas.l0 kq l0 t250 x6_2 a1_0 l1_1 l1_2 a1_3 a1_4 l1_5 a1_6 = some r) ∧ Zaa (kq ≤ kj2) ∧ Zaa (Kd.R (Kd.int .i64) 3 w' w.heap.size (fun _ => True) v251 t250) ∧ Zaa (w'.heap[gb249]? = some (.cells #[.int .i64 a1_0, (.slice A1_1 l1_1.length c1_1), (.slice A1_2 l1_2.length c1_2), .int .i64 a1_3, .int .i64 a1_4, (.slice A1_5 l1_5.length c1_5), .int .i64 a1_6] 25 (0, 0))) ∧ Zaa (Below w.heap.size w w'))
   case atStart => exact ⟨(0), (by first | rfl | (simp; done) | (simp [*]; done)), H', ⟨Nat.le_refl _⟩, ⟨by (with_reducible repeat (first | apply Kd.Zan | apply Kd.Zao | apply Kd.Zav)); exact HO252.out⟩, ⟨by (with_reducible repeat (first | refine Zaf ?_ _ | refine Zah ?_ | refine Zae ?_ _)); exact BK249.out⟩, ⟨by repeat (first | (with_reducible first | exact HB.out | apply Zac | apply Za | apply Zab | refine Zag ?_ GE249.out) | exact HB.out)⟩⟩
   case round =>
    clear H'
    try clear c1
    try clear p2
    try clear c4
    try clear c5
    try clear c5b0
    try clear c6
    try clear c8
    try clear hcz10_0
    try clear hcz10_1
    try clear hcz10_2
    try clear hcz10_3
    try clear hcz10_4
    try clear hcz10_5
    try clear hcz10_6
    try clear hcz6_0
    try clear hcz6_1
    try clear hcz6_2
    try clear hcz6_3
    try clear hcz6_4
    try clear hcz6_5
    try clear hcz6_6
    try clear hcz7_0
    try clear hcz7_1
    try clear hcz7_2
    try clear hcz7_3
    try clear hcz7_4
    try clear hcz7_5
    try clear hcz7_6
    try clear hfz10_0
    try clear hfz10_1
    try clear hfz10_2
    try clear hfz10_3
    try clear hfz10_4
    try clear hfz10_5
    try clear hfz10_6
    try clear hfz6_0
    try clear hfz6_1
    try clear hfz6_2
    try clear hfz6_3
    try clear hfz6_4
    try clear hfz6_5
    try clear hfz6_6
    try clear hfz7_0
    try clear hfz7_1
    try clear hfz7_2
    try clear hfz7_3
    try clear hfz7_4
    try clear hfz7_5
    try clear hfz7_6
    try clear p2
    obtain ⟨x6_2, rfl, HA, HK2, HO_5, BK249, HB⟩ := hrel
    cases gk with
    | zero => exact absurd HA.out (by simp [Zas.l0])
    | succ k2 =>
     have H := HA.out
     clear HA
     simp only [Zas.l0] at H
     by_cases c12 : x6_2 < (t250.length : Int)
     ·rw [if_pos c12] at H
      have c12b0 : decide (x6_2 < (t250.length : Int)) = true := decide_eq_true c12
      clear c12
      by_cases c13 : 0 ≤ x6_2
      rotate_left
      ·rw [if_neg c13] at H
       exact absurd H (by simp)
      rw [if_pos c13] at H
      have c13b0 : decide (0 ≤ x6_2) = true := decide_eq_true c13
      clear c13
      by_cases c14 : (rd t250 x6_2) < 0
      ·rw [if_pos c14] at H
       have c14b0 : decide ((rd t250 x6_2) < 0) = true := decide_eq_true c14
       clear c14
       obtain rfl := Option.some.inj H
       obtain ⟨Ao15, co15, eo15⟩ := Kd.Zc HO_5.out
       subst eo15
       have p253 : 0 ≤ (x6_2 : Int) := of_decide_eq_true (by first | (with_reducible assumption) | assumption)
       have q253 : x6_2 < (t250.length : Int) := of_decide_eq_true (by first | (with_reducible assumption) | assumption)
       obtain ⟨ad253, e253, hx253_0⟩ := Kd.Zb4 (Kd.Zbp HO_5.out).2.2 x6_2 p253 q253
       cases e253
       replace p253 := eq_true p253
       replace q253 := eq_true q253
       go_wp2
       go_ret
       exact ⟨by first | rfl | (simp [Za3, Za4] <;> rfl) | (simp [*, Za3, Za4] <;> rfl), by repeat (first | (with_reducible first | exact HB.out | apply Zac | apply Za | apply Zab | refine Zag ?_ GE249.out) | exact HB.out)⟩
      rw [if_neg c14] at H
      have c14b0 : decide ((rd t250 x6_2) < 0) = false := decide_eq_false c14
      clear c14
      by_cases c16 : (rd t250 x6_2) ≥ (l0.length : Int)
      ·rw [if_pos c16] at H
       have c16b0 : decide ((l0.length : Int) ≤ (rd t250 x6_2)) = true := decide_eq_true c16
       clear c16
       obtain rfl := Option.some.inj H
       obtain ⟨Ao17, co17, eo17⟩ := Kd.Zc HO_5.out
       subst eo17
       have p253 : 0 ≤ (x6_2 : Int) := of_decide_eq_true (by first | (with_reducible assumption) | assumption)
       have q253 : x6_2 < (t250.length : Int) := of_decide_eq_true (by first | (with_reducible assumption) | assumption)
       obtain ⟨ad253, e253, hx253_0⟩ := Kd.Zb4 (Kd.Zbp HO_5.out).2.2 x6_2 p253 q253
       cases e253
       replace p253 := eq_true p253
       replace q253 := eq_true q253
       have p254 : 0 ≤ (x6_2 : Int) := of_decide_eq_true (by first | (with_reducible assumption) | assumption)
       have q254 : x6_2 < (t250.length : Int) := of_decide_eq_true (by first | (with_reducible assumption) | assumption)
       obtain ⟨ad254, e254, hx254_0⟩ := Kd.Zb4 (Kd.Zbp HO_5.out).2.2 x6_2 p254 q254
       obtain rfl : ad253 = ad254 := (by injection e254)
       replace p254 := eq_true p254
       replace q254 := eq_true q254
       go_wp2
       go_ret
       exact ⟨by first | rfl | (simp [Za3, Za4] <;> rfl) | (simp [*, Za3, Za4] <;> rfl), by repeat (first | (with_reducible first | exact HB.out | apply Zac | apply Za | apply Zab | refine Zag ?_ GE249.out) | exact HB.out)⟩
      rw [if_neg c16] at H
      have c16b0 : decide ((l0.length : Int) ≤ (rd t250 x6_2)) = false := decide_eq_false c16
      clear c16
      have H' := Zaa.mk H
      clear H
      obtain ⟨Ao18, co18, eo18⟩ := Kd.Zc HO_5.out
      subst eo18
      have p253 : 0 ≤ (x6_2 : Int) := of_decide_eq_true (by first | (with_reducible assumption) | assumption)
      have q253 : x6_2 < (t250.length : Int) := of_decide_eq_true (by first | (with_reducible assumption) | assumption)
      obtain ⟨ad253, e253, hx253_0⟩ := Kd.Zb4 (Kd.Zbp HO_5.out).2.2 x6_2 p253 q253
      cases e253
      replace p253 := eq_true p253
      replace q253 := eq_true q253
      have p254 : 0 ≤ (x6_2 : Int) := of_decide_eq_true (by first | (with_reducible assumption) | assumption)
      have q254 : x6_2 < (t250.length : Int) := of_decide_eq_true (by first | (with_reducible assumption) | assumption)
      obtain ⟨ad254, e254, hx254_0⟩ := Kd.Zb4 (Kd.Zbp HO_5.out).2.2 x6_2 p254 q254
      obtain rfl : ad253 = ad254 := (by injection e254)
      replace p254 := eq_true p254
      replace q254 := eq_true q254
      go_wp2
      go_roundg k2
      case measure => have := HJ2.out; have := HK2.out; omega
      case rel => exact ⟨(wrap64 (x6_2 + 1)), (by first | rfl | (simp; done) | (simp [*]; done)), H', ⟨by have := HJ2.out; have := HK2.out; omega⟩, ⟨by (with_reducible repeat (first | apply Kd.Zan | apply Kd.Zao | apply Kd.Zav)); exact HO_5.out⟩, ⟨by (with_reducible repeat (first | refine Zaf ?_ _ | refine Zah ?_ | refine Zae ?_ _)); exact BK249.out⟩, ⟨by repeat (first | (with_reducible first | exact HB.out | apply Zac | apply Za | apply Zab | refine Zag ?_ GE249.out) | exact HB.out)⟩⟩
     rw [if_neg c12] at H
     have c12b0 : decide (x6_2 < (t250.length : Int)) = false := decide_eq_false c12
     clear c12
     replace H := Option.bind_eq_some_iff.mp H
     obtain ⟨t255, A190, H⟩ := H
     replace H : (if t255 = true then ((Zar.f k2 l1_2 a1_4).bind fun t256 => (if t256 = true then (some 45) else (some 0))) else (some 44)) = some r := H
     have A19 := Zaa.mk A190
     clear A190
     by_cases c20 : t255 = true
     rotate_left
     ·replace c20 := Bool.eq_false_iff.mpr c20
      subst c20
      have H1 : (some 44) = some r := by rw [if_neg (show ¬ (false = true) by decide)] at H; exact H
      clear H
      have H := H1
      clear H1
      obtain rfl := Option.some.inj H
      obtain ⟨Ao33, co33, eo33⟩ := Kd.Zc HO_5.out
      subst eo33
      obtain ⟨hcz34_0, hcz34_1, hcz34_2, hcz34_3, hcz34_4, hcz34_5, hcz34_6, hfz34_0, hfz34_1, hfz34_2, hfz34_3, hfz34_4, hfz34_5, hfz34_6⟩ := Zcj BK249.out
      go_wp2_with (first | ((with_reducible refine Zbr (f := 61) rfl ?_); refine Zci (some 39) rfl rfl Try.func61 (by kernel_rfl) rfl #[.slice A0 l0.length c0, .agg #[.int .i64 a1_0, .slice A1_1 l1_1.length c1_1, .slice A1_2 l1_2.length c1_2, .int .i64 a1_3, .int .i64 a1_4, .slice A1_5 l1_5.length c1_5, .int .i64 a1_6]] rfl (by (try simp only [List.map_toArray, List.map_cons, List.map_nil]); first | done | rfl | (simp only [List.length_drop, List.length_take]; rfl)) ?_; (with_reducible refine (Zaj.calls k2 _ _ l0 a1_0 _ _ l1_1 _ _ l1_2 a1_3 a1_4 _ _ l1_5 a1_6 false _ ?side1 ?side2 ?side3 ?side4 ?side5 ?side6 ?side7 ?side8 A19.out).mono ?_); (case side1 => repeat (first | exact (Kd.Zbk HR0.out HB.out) | (with_reducible refine Kd.C_alloc ?_ _) | (with_reducible refine Kd.Za1 ?_ _) | (with_reducible refine Kd.Zbd ?_))); (case side2 => exact HC0.out); (case side3 => repeat (first | exact (Kd.Zbk HR1_1.out HB.out) | (with_reducible refine Kd.C_alloc ?_ _) | (with_reducible refine Kd.Za1 ?_ _) | (with_reducible refine Kd.Zbd ?_))); (case side4 => exact HC1_1.out); (case side5 => repeat (first | exact (Kd.Zbk HR1_2.out HB.out) | (with_reducible refine Kd.C_alloc ?_ _) | (with_reducible refine Kd.Za1 ?_ _) | (with_reducible refine Kd.Zbd ?_))); (case side6 => exact HC1_2.out); (case side7 => repeat (first | exact (Kd.Zbk HR1_5.out HB.out) | (with_reducible refine Kd.C_alloc ?_ _) | (with_reducible refine Kd.Za1 ?_ _) | (with_reducible refine Kd.Zbd ?_))); (case side8 => exact HC1_5.out); rintro e w35 ⟨rfl, hb⟩; refine ⟨_, rfl, ?_⟩; have n0_ := Zaa.mk (Kd.Zca (by (with_reducible repeat (first | apply Kd.Zan | apply Kd.Zao | apply Kd.Zav)); exact HO_5.out) hb); have n1_ := Zaa.mk (Zbh (g := gb249) (o := .cells #[.int .i64 a1_0, .slice A1_1 l1_1.length c1_1, .slice A1_2 l1_2.length c1_2, .int .i64 a1_3, .int .i64 a1_4, .slice A1_5 l1_5.length c1_5, .int .i64 a1_6] 25 (0, 0)) (by (with_reducible repeat (first | refine Zaf ?_ _ | refine Zah ?_ | refine Zae ?_ _)); exact BK249.out) hb); have n2_ := Zaa.mk (Za2 (by repeat (first | (with_reducible first | exact HB.out | apply Zac | apply Za | apply Zab | refine Zag ?_ GE249.out) | exact HB.out)) hb); clear HO_5; clear BK249; clear HB; have HO_5 := n0_; have BK249 := n1_; have HB := n2_; clear n0_ n1_ n2_; (try clear hb); (try clear hb2); (try clear hk); (try clear hi)))
      go_ret
      exact ⟨by first | rfl | (simp [Za3, Za4] <;> rfl) | (simp [*, Za3, Za4] <;> rfl), by repeat (first | (with_reducible first | exact HB.out | apply Zac | apply Za | apply Zab | refine Zag ?_ GE249.out) | exact HB.out)⟩

     subst c20
     have H1 : ((Zar.f k2 l1_2 a1_4).bind fun t256 => (if t256 = true then (some 45) else (some 0))) = some r := by rw [if_pos rfl] at H; exact H
     clear H
     have H := H1
     clear H1
     replace H := Option.bind_eq_some_iff.mp H
     obtain ⟨t256, A210, H⟩ := H
     replace H : (if t256 = true then (some 45) else (some 0)) = some r := H
     have A21 := Zaa.mk A210
     clear A210
     by_cases c22 : t256 = true
     ·subst c22
      have H1 : (some 45) = some r := by rw [if_pos rfl] at H; exact H
      clear H
      have H := H1
      clear H1
      obtain rfl := Option.some.inj H
      obtain ⟨Ao23, co23, eo23⟩ := Kd.Zc HO_5.out
      subst eo23
      obtain ⟨hcz24_0, hcz24_1, hcz24_2, hcz24_3, hcz24_4, hcz24_5, hcz24_6, hfz24_0, hfz24_1, hfz24_2, hfz24_3, hfz24_4, hfz24_5, hfz24_6⟩ := Zcj BK249.out
      go_wp2_with (first | ((with_reducible refine Zbr (f := 61) rfl ?_); refine Zci (some 39) rfl rfl Try.func61 (by kernel_rfl) rfl #[.slice A0 l0.length c0, .agg #[.int .i64 a1_0, .slice A1_1 l1_1.length c1_1, .slice A1_2 l1_2.length c1_2, .int .i64 a1_3, .int .i64 a1_4, .slice A1_5 l1_5.length c1_5, .int .i64 a1_6]] rfl (by (try simp only [List.map_toArray, List.map_cons, List.map_nil]); first | done | rfl | (simp only [List.length_drop, List.length_take]; rfl)) ?_; (with_reducible refine (Zaj.calls k2 _ _ l0 a1_0 _ _ l1_1 _ _ l1_2 a1_3 a1_4 _ _ l1_5 a1_6 true _ ?side1 ?side2 ?side3 ?side4 ?side5 ?side6 ?side7 ?side8 A19.out).mono ?_); (case side1 => repeat (first | exact (Kd.Zbk HR0.out HB.out) | (with_reducible refine Kd.C_alloc ?_ _) | (with_reducible refine Kd.Za1 ?_ _) | (with_reducible refine Kd.Zbd ?_))); (case side2 => exact HC0.out); (case side3 => repeat (first | exact (Kd.Zbk HR1_1.out HB.out) | (with_reducible refine Kd.C_alloc ?_ _) | (with_reducible refine Kd.Za1 ?_ _) | (with_reducible refine Kd.Zbd ?_))); (case side4 => exact HC1_1.out); (case side5 => repeat (first | exact (Kd.Zbk HR1_2.out HB.out) | (with_reducible refine Kd.C_alloc ?_ _) | (with_reducible refine Kd.Za1 ?_ _) | (with_reducible refine Kd.Zbd ?_))); (case side6 => exact HC1_2.out); (case side7 => repeat (first | exact (Kd.Zbk HR1_5.out HB.out) | (with_reducible refine Kd.C_alloc ?_ _) | (with_reducible refine Kd.Za1 ?_ _) | (with_reducible refine Kd.Zbd ?_))); (case side8 => exact HC1_5.out); rintro e w25 ⟨rfl, hb⟩; refine ⟨_, rfl, ?_⟩; have n0_ := Zaa.mk (Kd.Zca (by (with_reducible repeat (first | apply Kd.Zan | apply Kd.Zao | apply Kd.Zav)); exact HO_5.out) hb); have n1_ := Zaa.mk (Zbh (g := gb249) (o := .cells #[.int .i64 a1_0, .slice A1_1 l1_1.length c1_1, .slice A1_2 l1_2.length c1_2, .int .i64 a1_3, .int .i64 a1_4, .slice A1_5 l1_5.length c1_5, .int .i64 a1_6] 25 (0, 0)) (by (with_reducible repeat (first | refine Zaf ?_ _ | refine Zah ?_ | refine Zae ?_ _)); exact BK249.out) hb); have n2_ := Zaa.mk (Za2 (by repeat (first | (with_reducible first | exact HB.out | apply Zac | apply Za | apply Zab | refine Zag ?_ GE249.out) | exact HB.out)) hb); clear HO_5; clear BK249; clear HB; have HO_5 := n0_; have BK249 := n1_; have HB := n2_; clear n0_ n1_ n2_; (try clear hb); (try clear hb2); (try clear hk); (try clear hi); obtain ⟨hcz26_0, hcz26_1, hcz26_2, hcz26_3, hcz26_4, hcz26_5, hcz26_6, hfz26_0, hfz26_1, hfz26_2, hfz26_3, hfz26_4, hfz26_5, hfz26_6⟩ := Zcj BK249.out) | ((with_reducible refine Zbr (f := 62) rfl ?_); refine Zci (some 45) rfl rfl Try.func62 (by kernel_rfl) rfl #[.slice A1_2 l1_2.length c1_2, .int .i64 a1_4] rfl (by (try simp only [List.map_toArray, List.map_cons, List.map_nil]); first | done | rfl | (simp only [List.length_drop, List.length_take]; rfl)) ?_; (with_reducible refine (Zar.calls k2 _ _ l1_2 a1_4 true _ ?side1 ?side2 A21.out).mono ?_); (case side1 => repeat (first | exact (Kd.Zbk HR1_2.out HB.out) | (with_reducible refine Kd.C_alloc ?_ _) | (with_reducible refine Kd.Za1 ?_ _) | (with_reducible refine Kd.Zbd ?_))); (case side2 => exact HC1_2.out); rintro e w27 ⟨rfl, hb⟩; refine ⟨_, rfl, ?_⟩; have n0_ := Zaa.mk (Kd.Zca (by (with_reducible repeat (first | apply Kd.Zan | apply Kd.Zao | apply Kd.Zav)); exact HO_5.out) hb); have n1_ := Zaa.mk (Zbh (g := gb249) (o := .cells #[.int .i64 a1_0, .slice A1_1 l1_1.length c1_1, .slice A1_2 l1_2.length c1_2, .int .i64 a1_3, .int .i64 a1_4, .slice A1_5 l1_5.length c1_5, .int .i64 a1_6] 25 (0, 0)) (by (with_reducible repeat (first | refine Zaf ?_ _ | refine Zah ?_ | refine Zae ?_ _)); exact BK249.out) hb); have n2_ := Zaa.mk (Za2 (by repeat (first | (with_reducible first | exact HB.out | apply Zac | apply Za | apply Zab | refine Zag ?_ GE249.out) | exact HB.out)) hb); clear HO_5; clear BK249; clear HB; have HO_5 := n0_; have BK249 := n1_; have HB := n2_; clear n0_ n1_ n2_; (try clear hb); (try clear hb2); (try clear hk); (try clear hi)))
      go_ret
      exact ⟨by first | rfl | (simp [Za3, Za4] <;> rfl) | (simp [*, Za3, Za4] <;> rfl), by repeat (first | (with_reducible first | exact HB.out | apply Zac | apply Za | apply Zab | refine Zag ?_ GE249.out) | exact HB.out)⟩
     replace c22 := Bool.eq_false_iff.mpr c22
     subst c22
     have H1 : (some 0) = some r := by rw [if_neg (show ¬ (false = true) by decide)] at H; exact H
     clear H
     have H := H1
     clear H1
     obtain rfl := Option.some.inj H
     obtain ⟨Ao28, co28, eo28⟩ := Kd.Zc HO_5.out
     subst eo28
     obtain ⟨hcz29_0, hcz29_1, hcz29_2, hcz29_3, hcz29_4, hcz29_5, hcz29_6, hfz29_0, hfz29_1, hfz29_2, hfz29_3, hfz29_4, hfz29_5, hfz29_6⟩ := Zcj BK249.out
     go_wp2_with (first | ((with_reducible refine Zbr (f := 61) rfl ?_); refine Zci (some 39) rfl rfl Try.func61 (by kernel_rfl) rfl #[.slice A0 l0.length c0, .agg #[.int .i64 a1_0, .slice A1_1 l1_1.length c1_1, .slice A1_2 l1_2.length c1_2, .int .i64 a1_3, .int .i64 a1_4, .slice A1_5 l1_5.length c1_5, .int .i64 a1_6]] rfl (by (try simp only [List.map_toArray, List.map_cons, List.map_nil]); first | done | rfl | (simp only [List.length_drop, List.length_take]; rfl)) ?_; (with_reducible refine (Zaj.calls k2 _ _ l0 a1_0 _ _ l1_1 _ _ l1_2 a1_3 a1_4 _ _ l1_5 a1_6 true _ ?side1 ?side2 ?side3 ?side4 ?side5 ?side6 ?side7 ?side8 A19.out).mono ?_); (case side1 => repeat (first | exact (Kd.Zbk HR0.out HB.out) | (with_reducible refine Kd.C_alloc ?_ _) | (with_reducible refine Kd.Za1 ?_ _) | (with_reducible refine Kd.Zbd ?_))); (case side2 => exact HC0.out); (case side3 => repeat (first | exact (Kd.Zbk HR1_1.out HB.out) | (with_reducible refine Kd.C_alloc ?_ _) | (with_reducible refine Kd.Za1 ?_ _) | (with_reducible refine Kd.Zbd ?_))); (case side4 => exact HC1_1.out); (case side5 => repeat (first | exact (Kd.Zbk HR1_2.out HB.out) | (with_reducible refine Kd.C_alloc ?_ _) | (with_reducible refine Kd.Za1 ?_ _) | (with_reducible refine Kd.Zbd ?_))); (case side6 => exact HC1_2.out); (case side7 => repeat (first | exact (Kd.Zbk HR1_5.out HB.out) | (with_reducible refine Kd.C_alloc ?_ _) | (with_reducible refine Kd.Za1 ?_ _) | (with_reducible refine Kd.Zbd ?_))); (case side8 => exact HC1_5.out); rintro e w30 ⟨rfl, hb⟩; refine ⟨_, rfl, ?_⟩; have n0_ := Zaa.mk (Kd.Zca (by (with_reducible repeat (first | apply Kd.Zan | apply Kd.Zao | apply Kd.Zav)); exact HO_5.out) hb); have n1_ := Zaa.mk (Zbh (g := gb249) (o := .cells #[.int .i64 a1_0, .slice A1_1 l1_1.length c1_1, .slice A1_2 l1_2.length c1_2, .int .i64 a1_3, .int .i64 a1_4, .slice A1_5 l1_5.length c1_5, .int .i64 a1_6] 25 (0, 0)) (by (with_reducible repeat (first | refine Zaf ?_ _ | refine Zah ?_ | refine Zae ?_ _)); exact BK249.out) hb); have n2_ := Zaa.mk (Za2 (by repeat (first | (with_reducible first | exact HB.out | apply Zac | apply Za | apply Zab | refine Zag ?_ GE249.out) | exact HB.out)) hb); clear HO_5; clear BK249; clear HB; have HO_5 := n0_; have BK249 := n1_; have HB := n2_; clear n0_ n1_ n2_; (try clear hb); (try clear hb2); (try clear hk); (try clear hi); obtain ⟨hcz31_0, hcz31_1, hcz31_2, hcz31_3, hcz31_4, hcz31_5, hcz31_6, hfz31_0, hfz31_1, hfz31_2, hfz31_3, hfz31_4, hfz31_5, hfz31_6⟩ := Zcj BK249.out) | ((with_reducible refine Zbr (f := 62) rfl ?_); refine Zci (some 45) rfl rfl Try.func62 (by kernel_rfl) rfl #[.slice A1_2 l1_2.length c1_2, .int .i64 a1_4] rfl (by (try simp only [List.map_toArray, List.map_cons, List.map_nil]); first | done | rfl | (simp only [List.length_drop, List.length_take]; rfl)) ?_; (with_reducible refine (Zar.calls k2 _ _ l1_2 a1_4 false _ ?side1 ?side2 A21.out).mono ?_); (case side1 => repeat (first | exact (Kd.Zbk HR1_2.out HB.out) | (with_reducible refine Kd.C_alloc ?_ _) | (with_reducible refine Kd.Za1 ?_ _) | (with_reducible refine Kd.Zbd ?_))); (case side2 => exact HC1_2.out); rintro e w32 ⟨rfl, hb⟩; refine ⟨_, rfl, ?_⟩; have n0_ := Zaa.mk (Kd.Zca (by (with_reducible repeat (first | apply Kd.Zan | apply Kd.Zao | apply Kd.Zav)); exact HO_5.out) hb); have n1_ := Zaa.mk (Zbh (g := gb249) (o := .cells #[.int .i64 a1_0, .slice A1_1 l1_1.length c1_1, .slice A1_2 l1_2.length c1_2, .int .i64 a1_3, .int .i64 a1_4, .slice A1_5 l1_5.length c1_5, .int .i64 a1_6] 25 (0, 0)) (by (with_reducible repeat (first | refine Zaf ?_ _ | refine Zah ?_ | refine Zae ?_ _)); exact BK249.out) hb); have n2_ := Zaa.mk (Za2 (by repeat (first | (with_reducible first | exact HB.out | apply Zac | apply Za | apply Zab | refine Zag ?_ GE249.out) | exact HB.out)) hb); clear HO_5; clear BK249; clear HB; have HO_5 := n0_; have BK249 := n1_; have HB := n2_; clear n0_ n1_ n2_; (try clear hb); (try clear hb2); (try clear hk); (try clear hi)))
     go_ret
     exact ⟨by first | rfl | (simp [Za3, Za4] <;> rfl) | (simp [*, Za3, Za4] <;> rfl), by repeat (first | (with_reducible first | exact HB.out | apply Zac | apply Za | apply Zab | refine Zag ?_ GE249.out) | exact HB.out)⟩
/-! ### Zap: function 14 -/
def Zap.l0 : Nat → Int → List (List (S41)) → Int → List (List Int) → Int → List Int → List Int → Int → Int → List (List Int) → Int → List Int → List Int → Option ((List (List (S41))) × Int × List Int × List Int × Int × Int × (List (List Int)) × Int × Bool)
 | 0, _, _, _, _, _, _, _, _, _, _, _, _, _ => none
 | k + 1, x1, x7, x8, x258000, x258001, x258002, x258003, x258004, x258005, x258006, x258007, x258008, x258009 => if x8 < (x258000.length : Int) then (if x8 < 4 then (if 0 ≤ x8 then (if 0 ≤ (mn ((Zbx x258000 x8).length : Int) 6) then (if (mn ((Zbx x258000 x8).length : Int) 6) ≤ ((Zbx x258000 x8).length : Int) then ((Za7.f k ((Zbx x258000 x8).take ((mn ((Zbx x258000 x8).length : Int) 6) : Int).toNat)).bind fun t265 => (if x7.length < 5864062014805 then (Zap.l0 k x1 (x7 ++ [t265]) (wrap64 (x8 + 1)) x258000 x258001 x258002 x258003 x258004 x258005 x258006 x258007 x258008 x258009) else (none))) else (none)) else (none)) else (none)) else ((Zby.f k x258001 x258002 x258003 x258004 x258005 x258006 x258007).bind fun bt271 => (if 0 ≤ (mn (bt271.2.2.2.2.2.1.length : Int) 20) then (if (mn (bt271.2.2.2.2.2.1.length : Int) 20) ≤ (bt271.2.2.2.2.2.1.length : Int) then ((some (bt271.2.2.2.2.2.1.take ((mn (bt271.2.2.2.2.2.1.length : Int) 20) : Int).toNat : List (List Int))).bind fun y285 => ((Zas.f k x7 x1 bt271.2.1 bt271.2.2.1 bt271.2.2.2.1 bt271.2.2.2.2.1 y285 bt271.2.2.2.2.2.2).bind fun t288 => (some (x7, x1, bt271.2.1, bt271.2.2.1, bt271.2.2.2.1, bt271.2.2.2.2.1, y285, bt271.2.2.2.2.2.2, (t288 == 0))))) else (none)) else (none)))) else ((Zby.f k x258001 x258002 x258003 x258004 x258005 x258006 x258007).bind fun bt289 => (if 0 ≤ (mn (bt289.2.2.2.2.2.1.length : Int) 20) then (if (mn (bt289.2.2.2.2.2.1.length : Int) 20) ≤ (bt289.2.2.2.2.2.1.length : Int) then ((some (bt289.2.2.2.2.2.1.take ((mn (bt289.2.2.2.2.2.1.length : Int) 20) : Int).toNat : List (List Int))).bind fun y303 => ((Zas.f k x7 x1 bt289.2.1 bt289.2.2.1 bt289.2.2.2.1 bt289.2.2.2.2.1 y303 bt289.2.2.2.2.2.2).bind fun t306 => (some (x7, x1, bt289.2.1, bt289.2.2.1, bt289.2.2.2.1, bt289.2.2.2.2.1, y303, bt289.2.2.2.2.2.2, (t306 == 0))))) else (none)) else (none)))
def Zap.f (k : Nat) (l0_0 : List (List Int)) (a0_1 : Int) (l0_2 : List Int) (l0_3 : List Int) (a0_4 : Int) (a0_5 : Int) (l0_6 : List (List Int)) (a0_7 : Int) (l0_8 : List Int) (l0_9 : List Int) (a1 : Int) : Option ((List (List (S41))) × Int × List Int × List Int × Int × Int × (List (List Int)) × Int × Bool) := Zap.l0 k a1 (([] : List (List (S41)))) 0 l0_0 a0_1 l0_2 l0_3 a0_4 a0_5 l0_6 a0_7 l0_8 l0_9
theorem Zap.Zb2 : ∀ k, (∀ y0 y1 y2 y3 y4 y5 y6 y7 y8 y9 y10 y11 y12, LeO (Zap.l0 k y0 y1 y2 y3 y4 y5 y6 y7 y8 y9 y10 y11 y12) (Zap.l0 (k + 1) y0 y1 y2 y3 y4 y5 y6 y7 y8 y9 y10 y11 y12))
 | 0 => fun _ _ _ _ _ _ _ _ _ _ _ _ _ r h => by simp [Zap.l0] at h
 | k + 1 => by
  have ih0 := Zap.Zb2 k
  intro y0 y1 y2 y3 y4 y5 y6 y7 y8 y9 y10 y11 y12
  unfold Zap.l0
  repeat' first
  | (with_reducible exact ih0 _ _ _ _ _ _ _ _ _ _ _ _ _)
  | (with_reducible exact Za7.mono _ _)
  | (with_reducible exact Zas.mono _ _ _ _ _ _ _ _ _)
  | (with_reducible exact Zby.mono _ _ _ _ _ _ _ _)
  | (with_reducible exact LeO.refl _)
  | (with_reducible exact LeO.none _)
  | (with_reducible refine LeO.ite ?_ ?_)
  | (with_reducible refine LeO.bind ?_ (fun _ => ?_))
  | exact ih0 _ _ _ _ _ _ _ _ _ _ _ _ _
  | exact Za7.mono _ _
  | exact Zas.mono _ _ _ _ _ _ _ _ _
  | exact Zby.mono _ _ _ _ _ _ _ _
  | exact LeO.none _
  | refine LeO.ite ?_ ?_
  | refine LeO.bind ?_ (fun _ => ?_)
theorem Zap.mono : ∀ a0 a1 a2 a3 a4 a5 a6 a7 a8 a9 a10 k, LeO (Zap.f k a0 a1 a2 a3 a4 a5 a6 a7 a8 a9 a10) (Zap.f (k + 1) a0 a1 a2 a3 a4 a5 a6 a7 a8 a9 a10) := by
 intro a0 a1 a2 a3 a4 a5 a6 a7 a8 a9 a10 k
 have ih0 := Zap.Zb2 k
 unfold Zap.f
 repeat' first
   | (with_reducible exact ih0 _ _ _ _ _ _ _ _ _ _ _ _ _)
   | (with_reducible exact Za7.mono _ _)
   | (with_reducible exact Zas.mono _ _ _ _ _ _ _ _ _)
   | (with_reducible exact Zby.mono _ _ _ _ _ _ _ _)
   | (with_reducible exact LeO.refl _)
   | (with_reducible exact LeO.none _)
   | (with_reducible refine LeO.ite ?_ ?_)
   | (with_reducible refine LeO.bind ?_ (fun _ => ?_))
   | exact ih0 _ _ _ _ _ _ _ _ _ _ _ _ _
   | exact Za7.mono _ _
   | exact Zas.mono _ _ _ _ _ _ _ _ _
   | exact Zby.mono _ _ _ _ _ _ _ _
   | exact LeO.none _
   | refine LeO.ite ?_ ?_
   | refine LeO.bind ?_ (fun _ => ?_)
def Zap.T5 : Bool × List (List Nat × List Nat) := (true, [([], []), ([], []), ([1], [1]), ([], []), ([2, 3], [2, 3]), ([4], [4]), ([], []), ([6], [6]), ([], []), ([7, 8], [7, 8]), ([9], [9]), ([10], [10]), ([11], [11]), ([5, 12], [5, 12]), ([13], [13]), ([14], [14]), ([0, 15, 14], [0, 15]), ([16, 16, 0, 1, 2, 3, 4, 5, 6, 7, 8, 9, 10, 11, 12, 13, 14, 15, 16], [0, 16])])
def Zap.B5 : List Nat := [0, 0, 2, 0, 14, 30, 0, 64, 0, 448, 960, 1984, 4032, 8190, 16382, 32766, 65535, 131071]
theorem Zap.tab5 : rtab .any (opsOf Try.f14 5) = Zap.T5 := by kernel_rfl
theorem Zap.bits5 : waitsOk Zap.T5.2 Zap.B5 = true := by kernel_rfl
def Zap.T9 : Bool × List (List Nat × List Nat) := (true, [([], []), ([], []), ([], []), ([], []), ([2, 3], [2, 3]), ([4], [4]), ([0, 4, 0], [0]), ([1, 6, 0, 1, 6], [1]), ([5, 7, 0, 1, 2, 3, 4, 5, 6, 7], [5])])
def Zap.B9 : List Nat := [0, 0, 0, 0, 12, 28, 29, 95, 255]
theorem Zap.tab9 : rtab .any (opsOf Try.f14 9) = Zap.T9 := by kernel_rfl
theorem Zap.bits9 : waitsOk Zap.T9.2 Zap.B9 = true := by kernel_rfl
set_option maxHeartbeats 8000000 in
set_option maxRecDepth 100000 in
theorem Zap.calls (k : Nat) (A0_0 : Option Addr) (c0_0 : Nat) (l0_0 : List (List Int)) (a0_1 : Int) (A0_2 : Option Addr) (c0_2 : Nat) (l0_2 : List Int) (A0_3 : Option Addr) (c0_3 : Nat) (l0_3 : List Int) (a0_4 : Int) (a0_5 : Int) (A0_6 : Option Addr) (c0_6 : Nat) (l0_6 : List (List Int)) (a0_7 : Int) (A0_8 : Option Addr) (c0_8 : Nat) (l0_8 : List Int) (A0_9 : Option Addr) (c0_9 : Nat) (l0_9 : List Int) (a1 : Int) (r1 : List (List (S41))) (r2 : Int) (r3 : List Int) (r4 : List Int) (r5 : Int) (r6 : Int) (r7 : List (List Int)) (r8 : Int) (r9 : Bool) (w : World) (hr0_0 : Kd.C (Kd.slice 3 (Kd.int .i64)) w A0_0 l0_0.length l0_0) (hc0_0 : l0_0.length ≤ c0_0) (hr0_2 : Kd.C (Kd.int .i64) w A0_2 l0_2.length l0_2) (hc0_2 : l0_2.length ≤ c0_2) (hr0_3 : Kd.C (Kd.int .i64) w A0_3 l0_3.length l0_3) (hc0_3 : l0_3.length ≤ c0_3) (hr0_6 : Kd.C (Kd.slice 3 (Kd.int .i64)) w A0_6 l0_6.length l0_6) (hc0_6 : l0_6.length ≤ c0_6) (hr0_8 : Kd.C (Kd.int .i64) w A0_8 l0_8.length l0_8) (hc0_8 : l0_8.length ≤ c0_8) (hr0_9 : Kd.C (Kd.int .i64) w A0_9 l0_9.length l0_9) (hc0_9 : l0_9.length ≤ c0_9) (h : Zap.f k l0_0 a0_1 l0_2 l0_3 a0_4 a0_5 l0_6 a0_7 l0_8 l0_9 a1 = some (r1, r2, r3, r4, r5, r6, r7, r8, r9)) :
  Calls Try.prog 14 #[.agg #[.slice A0_0 l0_0.length c0_0, .int .i64 a0_1, .slice A0_2 l0_2.length c0_2, .slice A0_3 l0_3.length c0_3, .int .i64 a0_4, .int .i64 a0_5, .slice A0_6 l0_6.length c0_6, .int .i64 a0_7, .slice A0_8 l0_8.length c0_8, .slice A0_9 l0_9.length c0_9], .int .i64 a1] w fun e w' => ∃ v0_ v2_ v3_ v6_ : Value, e = .returned (.tuple #[v0_, .agg #[.int .i64 r2, v2_, v3_, .int .i64 r5, .int .i64 r6, v6_, .int .i64 r8], .bool r9]) ∧ Kd.S (Kd.slice 41 k41) 39 w' w.heap.size (fun _ => True) v0_ r1 ∧ Kd.R (Kd.int .i64) 3 w' w.heap.size (fun k_ => some k_ ≠ (v3_ : Value).ownBlock) v2_ r3 ∧ Kd.R (Kd.int .i64) 3 w' w.heap.size (fun k_ => some k_ ≠ (v2_ : Value).ownBlock) v3_ r4 ∧ Kd.S (Kd.slice 3 (Kd.int .i64)) 23 w' w.heap.size (fun k_ => some k_ ≠ (v2_ : Value).ownBlock ∧ some k_ ≠ (v3_ : Value).ownBlock) v6_ r7 ∧ Below w.heap.size w w' := by
 have hu27 := Try.underlying27
 have hu25 := Try.underlying25
 have HR0_0 := Zaa.mk hr0_0
 have HC0_0 := Zaa.mk hc0_0
 clear hr0_0 hc0_0
 have HR0_2 := Zaa.mk hr0_2
 have HC0_2 := Zaa.mk hc0_2
 clear hr0_2 hc0_2
 have HR0_3 := Zaa.mk hr0_3
 have HC0_3 := Zaa.mk hc0_3
 clear hr0_3 hc0_3
 have HR0_6 := Zaa.mk hr0_6
 have HC0_6 := Zaa.mk hc0_6
 clear hr0_6 hc0_6
 have HR0_8 := Zaa.mk hr0_8
 have HC0_8 := Zaa.mk hc0_8
 clear hr0_8 hc0_8
 have HR0_9 := Zaa.mk hr0_9
 have HC0_9 := Zaa.mk hc0_9
 clear hr0_9 hc0_9
 have HB := Zaa.mk (Below.refl w.heap.size w)
 have H : (Zap.l0 k a1 (([] : List (List (S41)))) 0 l0_0 a0_1 l0_2 l0_3 a0_4 a0_5 l0_6 a0_7 l0_8 l0_9) = some (r1, r2, r3, r4, r5, r6, r7, r8, r9) := h
 clear h
 obtain ⟨y259, hy259⟩ : ∃ y_ : List (List (S41)), y_ = (([] : List (List (S41)))) := ⟨_, rfl⟩
 replace H : (Zap.l0 k a1 y259 0 l0_0 a0_1 l0_2 l0_3 a0_4 a0_5 l0_6 a0_7 l0_8 l0_9) = some (r1, r2, r3, r4, r5, r6, r7, r8, r9) := by first | (rw [hy259]; with_reducible exact H) | (have H2_ := (Option.bind_some _ _).symm.trans H; rw [hy259]; with_reducible exact H2_) | (have H2_ := (Option.bind_some _ _).symm.trans H; with_reducible exact H2_) | with_reducible exact H | (rw [hy259]; exact H) | exact H
 have Ny259 := Zaa.mk hy259
 clear hy259
 have H' := Zaa.mk H
 clear H
 go_enter Try.func14, Try.ntmps14
 go_wp2_with (first | ((with_reducible refine Zb3 (N := 2) rfl ?_); refine Zcf ?hg (N := 2) ?hd (cs := #[.slice A0_0 l0_0.length c0_0, .int .i64 a0_1, .slice A0_2 l0_2.length c0_2, .slice A0_3 l0_3.length c0_3, .int .i64 a0_4, .int .i64 a0_5, .slice A0_6 l0_6.length c0_6, .int .i64 a0_7, .slice A0_8 l0_8.length c0_8, .slice A0_9 l0_9.length c0_9]) (t := 27) ?hr ?_; (case hd => rfl); (case hg => rfl); (case hr => first | (go_simp; done) | (go_simp; rfl)); intro gb257 hg w3 hbox hb; have n0_ := Zaa.mk (Za2 (by repeat (first | (with_reducible first | exact HB.out | apply Zac | apply Za | apply Zab) | exact HB.out)) hb); have n1_ := Zaa.mk (hbox); have n2_ := Zaa.mk ((by rw [hg]; exact (Zal (by repeat (first | (with_reducible first | exact HB.out | apply Zac | apply Za | apply Zab) | exact HB.out))) : w.heap.size ≤ gb257)); have n3_ := Zaa.mk ((by rw [hg]; exact (Zal (by repeat (first | (with_reducible first | exact HB.out | apply Zac | apply Za | apply Zab) | exact HB.out))) : w.heap.size ≤ gb257)); clear HB; have HB := n0_; have BK257 := n1_; have GW257 := n2_; have GE257 := n3_; clear n0_ n1_ n2_ n3_; clear hb hbox hg) | ((with_reducible refine Zb3 (N := 5) rfl ?_); refine Zcf ?hg (N := 5) ?hd (cs := #[.int .i64 0, .slice none 0 0, .slice none 0 0, .int .i64 0, .int .i64 0, .slice none 0 0, .int .i64 0]) (t := 25) ?hr ?_; (case hd => rfl); (case hg => rfl); (case hr => first | (go_simp; done) | (go_simp; rfl)); intro gb258 hg w4 hbox hb; have n0_ := Zaa.mk (Zbh (g := gb257) (o := .cells #[.slice A0_0 l0_0.length c0_0, .int .i64 a0_1, .slice A0_2 l0_2.length c0_2, .slice A0_3 l0_3.length c0_3, .int .i64 a0_4, .int .i64 a0_5, .slice A0_6 l0_6.length c0_6, .int .i64 a0_7, .slice A0_8 l0_8.length c0_8, .slice A0_9 l0_9.length c0_9] 27 (0, 0)) (by (with_reducible repeat (first | refine Zaf ?_ _ | refine Zah ?_ | refine Zae ?_ _)); exact BK257.out) hb); have n1_ := Zaa.mk (Za2 (by repeat (first | (with_reducible first | exact HB.out | apply Zac | apply Za | apply Zab | refine Zag ?_ GE257.out) | exact HB.out)) hb); have n2_ := Zaa.mk (hbox); have n3_ := Zaa.mk ((by rw [hg]; exact (Zal (by repeat (first | (with_reducible first | exact HB.out | apply Zac | apply Za | apply Zab | refine Zag ?_ GE257.out) | exact HB.out))) : w.heap.size ≤ gb258)); have n4_ := Zaa.mk ((by rw [hg]; exact (Zal (by repeat (first | (with_reducible first | exact HB.out | apply Zac | apply Za | apply Zab | refine Zag ?_ GE257.out) | exact HB.out))) : w.heap.size ≤ gb258)); have n5_ := Zaa.mk ((by rw [hg]; exact Nat.ne_of_lt (Zdc (g := gb257) (o := .cells #[.slice A0_0 l0_0.length c0_0, .int .i64 a0_1, .slice A0_2 l0_2.length c0_2, .slice A0_3 l0_3.length c0_3, .int .i64 a0_4, .int .i64 a0_5, .slice A0_6 l0_6.length c0_6, .int .i64 a0_7, .slice A0_8 l0_8.length c0_8, .slice A0_9 l0_9.length c0_9] 27 (0, 0)) (by (with_reducible repeat (first | refine Zaf ?_ _ | refine Zah ?_ | refine Zae ?_ _)); exact BK257.out)) : gb257 ≠ gb258)); have n6_ := Zaa.mk ((by rw [hg]; exact Nat.ne_of_gt (Zdc (g := gb257) (o := .cells #[.slice A0_0 l0_0.length c0_0, .int .i64 a0_1, .slice A0_2 l0_2.length c0_2, .slice A0_3 l0_3.length c0_3, .int .i64 a0_4, .int .i64 a0_5, .slice A0_6 l0_6.length c0_6, .int .i64 a0_7, .slice A0_8 l0_8.length c0_8, .slice A0_9 l0_9.length c0_9] 27 (0, 0)) (by (with_reducible repeat (first | refine Zaf ?_ _ | refine Zah ?_ | refine Zae ?_ _)); exact BK257.out)) : gb258 ≠ gb257)); clear BK257; clear HB; have BK257 := n0_; have HB := n1_; have BK258 := n2_; have GW258 := n3_; have GE258 := n4_; have NB257_258 := n5_; have NB258_257 := n6_; clear n0_ n1_ n2_ n3_ n4_ n5_ n6_; clear hb hbox hg) | ((with_reducible refine Zb3 (N := 10) rfl ?_); refine Kd.S_lit (Kd.slice 41 k41) _ 39 ?hg (N := 10) ?hd (xs := ([] : List (List (S41)))) (inner := []) (ok := fun _ => True) (okp := fun _ => True) ?hr ?hp (fun _ hk => hk) trivial (Below.refl _ _) (Nat.le_refl _) (by simp) ?_; (case hd => rfl); (case hg => rfl); (case hr => first | (go_simp; done) | (go_simp; rfl)); (case hp => exact (Reps.none _ _)); intro v260 w5 ho6 hb hg_ hnew_; clear hg_ hnew_; (first | rw [← Ny259.out] at ho6 | (simp only [Int.reduceToNat] at ho6; rw [← Ny259.out] at ho6)); have n0_ := Zaa.mk (Kd.Zdh ho6 (Zal (by repeat (first | (with_reducible first | exact HB.out | apply Zac | apply Za | apply Zab | refine Zag ?_ GE257.out | refine Zag ?_ GE258.out) | exact HB.out)))); have n1_ := Zaa.mk (Zbh (g := gb257) (o := .cells #[.slice A0_0 l0_0.length c0_0, .int .i64 a0_1, .slice A0_2 l0_2.length c0_2, .slice A0_3 l0_3.length c0_3, .int .i64 a0_4, .int .i64 a0_5, .slice A0_6 l0_6.length c0_6, .int .i64 a0_7, .slice A0_8 l0_8.length c0_8, .slice A0_9 l0_9.length c0_9] 27 (0, 0)) (by (with_reducible repeat (first | refine Zaf ?_ _ | refine Zah ?_ | refine Zae ?_ _)); exact BK257.out) hb); have n2_ := Zaa.mk (Zbh (g := gb258) (o := .cells #[.int .i64 0, .slice none 0 0, .slice none 0 0, .int .i64 0, .int .i64 0, .slice none 0 0, .int .i64 0] 25 (0, 0)) (by (with_reducible repeat (first | refine Zaf ?_ _ | refine Zah ?_ | refine Zae ?_ _)); exact BK258.out) hb); have n3_ := Zaa.mk (Za2 (by repeat (first | (with_reducible first | exact HB.out | apply Zac | apply Za | apply Zab | refine Zag ?_ GE257.out | refine Zag ?_ GE258.out) | exact HB.out)) hb); clear BK257; clear BK258; clear HB; have HO261 := n0_; have BK257 := n1_; have BK258 := n2_; have HB := n3_; clear n0_ n1_ n2_ n3_; clear hb ho6))
 go_loopg [7, 8] k (fun kq v7 v8 w' => ∃ (x7_1 : List (List (S41))) (x8_1 : Int), v8 = .int .i64 x8_1 ∧ Zaa (Zap.l0 kq a1 x7_1 x8_1 l0_0 a0_1 l0_2 l0_3 a0_4 a0_5 l0_6 a0_7 l0_8 l0_9 = some (r1, r2, r3, r4, r5, r6, r7, r8, r9)) ∧ Zaa (kq ≤ k) ∧ Zaa (Kd.S (Kd.slice 41 k41) 39 w' w.heap.size (fun _ => True) v7 x7_1) ∧ Zaa (w'.heap[gb257]? = some (.cells #[(.slice A0_0 l0_0.length c0_0), .int .i64 a0_1, (.slice A0_2 l0_2.length c0_2), (.slice A0_3 l0_3.length c0_3), .int .i64 a0_4, .int .i64 a0_5, (.slice A0_6 l0_6.length c0_6), .int .i64 a0_7, (.slice A0_8 l0_8.length c0_8), (.slice A0_9 l0_9.length c0_9)] 27 (0, 0))) ∧ Zaa (w'.heap[gb258]? = some (.cells #[.int .i64 0, (.slice none 0 0), (.slice none 0 0), .int .i64 0, .int .i64 0, (.slice none 0 0), .int .i64 0] 25 (0, 0))) ∧ Zaa (Below w.heap.size w w'))
 case atStart => exact ⟨(y259), (0), (by first | rfl | (simp; done) | (simp [*]; done)), H', ⟨Nat.le_refl _⟩, ⟨by (with_reducible repeat (first | apply Kd.Zbb | apply Kd.Zbc | apply Kd.Zbl)); exact HO261.out⟩, ⟨by (with_reducible repeat (first | refine Zaf ?_ _ | refine Zah ?_ | refine Zae ?_ _)); exact BK257.out⟩, ⟨by (with_reducible repeat (first | refine Zaf ?_ _ | refine Zah ?_ | refine Zae ?_ _)); exact BK258.out⟩, ⟨by repeat (first | (with_reducible first | exact HB.out | apply Zac | apply Za | apply Zab | refine Zag ?_ GE257.out | refine Zag ?_ GE258.out) | exact HB.out)⟩⟩
 case round =>
  clear H'
  try clear c1
  try clear p2
  obtain ⟨x7_1, x8_1, rfl, HA, HK1, HO_7, BK257, BK258, HB⟩ := hrel
  cases gk with
  | zero => exact absurd HA.out (by simp [Zap.l0])
  | succ k1 =>
   have H := HA.out
   clear HA
   simp only [Zap.l0] at H
   by_cases c7 : x8_1 < (l0_0.length : Int)
   rotate_left
   ·rw [if_neg c7] at H
    have c7b0 : decide (x8_1 < (l0_0.length : Int)) = false := decide_eq_false c7
    clear c7
    replace H := Option.bind_eq_some_iff.mp H
    obtain ⟨⟨t289, t290, t293, t296, t297, t298, t301⟩, A530, H⟩ := H
    replace H : (if 0 ≤ (mn (t298.length : Int) 20) then (if (mn (t298.length : Int) 20) ≤ (t298.length : Int) then ((some (t298.take ((mn (t298.length : Int) 20) : Int).toNat : List (List Int))).bind fun y303 => ((Zas.f k1 x7_1 a1 t290 t293 t296 t297 y303 t301).bind fun t306 => (some (x7_1, a1, t290, t293, t296, t297, y303, t301, (t306 == 0))))) else (none)) else (none)) = some (r1, r2, r3, r4, r5, r6, r7, r8, r9) := H
    have A53 := Zaa.mk A530
    clear A530
    obtain ⟨ji54, hji54⟩ : ∃ j_ : Int, (mn (t298.length : Int) 20) = j_ := ⟨_, rfl⟩
    replace H : (if 0 ≤ (ji54) then (if (ji54) ≤ (t298.length : Int) then ((some (t298.take ((ji54) : Int).toNat : List (List Int))).bind fun y303 => ((Zas.f k1 x7_1 a1 t290 t293 t296 t297 y303 t301).bind fun t306 => (some (x7_1, a1, t290, t293, t296, t297, y303, t301, (t306 == 0))))) else (none)) else (none)) = some (r1, r2, r3, r4, r5, r6, r7, r8, r9) := by first | (rw [hji54] at H; exact H) | (simp only [hji54] at H ⊢; exact H)
    (try rw [hji54] at A53)
    (try (have hji54h : ji54 ≤ 20 := by (rw [← hji54]; unfold mn; (repeat' split) <;> omega)))
    (try (have hji54g : ji54 ≤ 64 := by omega))
    (try (have hji54l : 0 ≤ ji54 := by (rw [← hji54]; unfold mn; (repeat' split) <;> omega)))
    (try (have hji54m : 0 ≤ ji54 := by omega))
    have hji54_ : (if 20 < (t298.length : Int) then 20 else (t298.length : Int)) = ji54 := hji54
    by_cases c55 : 0 ≤ (ji54)
    rotate_left
    ·rw [if_neg c55] at H
     exact absurd H (by simp)

    rw [if_pos c55] at H
    have c55b0 := eq_true c55
    have c55b1 : decide (0 ≤ (ji54)) = true := decide_eq_true c55
    clear c55
    by_cases c56 : (ji54) ≤ (t298.length : Int)
    rotate_left
    ·rw [if_neg c56] at H
     exact absurd H (by simp)
    rw [if_pos c56] at H
    have c56b0 := eq_true c56
    have c56b1 : decide ((ji54) ≤ (t298.length : Int)) = true := decide_eq_true c56
    clear c56
    obtain ⟨y303, hy303⟩ : ∃ y_ : List (List Int), y_ = (t298.take ((ji54) : Int).toNat) := ⟨_, rfl⟩
    replace H : ((Zas.f k1 x7_1 a1 t290 t293 t296 t297 y303 t301).bind fun t306 => (some (x7_1, a1, t290, t293, t296, t297, y303, t301, (t306 == 0)))) = some (r1, r2, r3, r4, r5, r6, r7, r8, r9) := by first | (rw [hy303]; with_reducible exact H) | (have H2_ := (Option.bind_some _ _).symm.trans H; rw [hy303]; with_reducible exact H2_) | (have H2_ := (Option.bind_some _ _).symm.trans H; with_reducible exact H2_) | with_reducible exact H | (rw [hy303]; exact H) | exact H
    have Ny303 := Zaa.mk hy303
    clear hy303
    replace H := Option.bind_eq_some_iff.mp H
    obtain ⟨t306, A570, H⟩ := H
    replace H : (some (x7_1, a1, t290, t293, t296, t297, y303, t301, (t306 == 0))) = some (r1, r2, r3, r4, r5, r6, r7, r8, r9) := H
    have A57 := Zaa.mk A570
    clear A570
    simp only [Option.some.injEq, Prod.mk.injEq] at H
    obtain ⟨rfl, rfl, rfl, rfl, rfl, rfl, rfl, rfl, rfl⟩ := H
    have hnb58 := NB257_258.out
    have hnc58 := NB258_257.out
    obtain ⟨hcz59_0, hcz59_1, hcz59_2, hcz59_3, hcz59_4, hcz59_5, hcz59_6, hcz59_7, hcz59_8, hcz59_9, hfz59_0, hfz59_1, hfz59_2, hfz59_3, hfz59_4, hfz59_5, hfz59_6, hfz59_7, hfz59_8, hfz59_9⟩ := Zf5 BK257.out
    try go_wp2_with (first | ((with_reducible refine Zbr (f := 26) rfl ?_); refine Zci (some 41) rfl rfl Try.func26 (by kernel_rfl) rfl #[.agg #[.int .i64 a0_1, .slice A0_2 l0_2.length c0_2, .slice A0_3 l0_3.length c0_3, .int .i64 a0_4, .int .i64 a0_5, .slice A0_6 l0_6.length c0_6, .int .i64 a0_7]] rfl (by (try simp only [List.map_toArray, List.map_cons, List.map_nil]); first | done | rfl | (simp only [List.length_drop, List.length_take]; rfl)) ?_; (with_reducible refine (Zby.calls k1 a0_1 _ _ l0_2 _ _ l0_3 a0_4 a0_5 _ _ l0_6 a0_7 t289 t290 t293 t296 t297 t298 t301 _ ?side1 ?side2 ?side3 ?side4 ?side5 ?side6 A53.out).mono ?_); (case side1 => repeat (first | exact (Kd.Zbk HR0_2.out HB.out) | (with_reducible refine Kd.C_alloc ?_ _) | (with_reducible refine Kd.Za1 ?_ _) | (with_reducible refine Kd.Zbd ?_))); (case side2 => exact HC0_2.out); (case side3 => repeat (first | exact (Kd.Zbk HR0_3.out HB.out) | (with_reducible refine Kd.C_alloc ?_ _) | (with_reducible refine Kd.Za1 ?_ _) | (with_reducible refine Kd.Zbd ?_))); (case side4 => exact HC0_3.out); (case side5 => repeat (first | exact (Kd.Zbk HR0_6.out HB.out) | (with_reducible refine Kd.C_alloc ?_ _) | (with_reducible refine Kd.Za1 ?_ _) | (with_reducible refine Kd.Zbd ?_))); (case side6 => exact HC0_6.out); rintro e w60 ⟨v291, v294, v299, rfl, ho0, ho1, ho2, hb⟩; refine ⟨_, rfl, ?_⟩; have n0_ := Zaa.mk (Kd.Zce (by (with_reducible repeat (first | apply Kd.Zbb | apply Kd.Zbc | apply Kd.Zbl)); exact HO_7.out) hb); have n1_ := Zaa.mk (Kd.Zb8 ho0 (Zal (by repeat (first | (with_reducible first | exact HB.out | apply Zac | apply Za | apply Zab | refine Zag ?_ GE257.out | refine Zag ?_ GE258.out) | exact HB.out)))); have n2_ := Zaa.mk (Kd.Zb8 ho1 (Zal (by repeat (first | (with_reducible first | exact HB.out | apply Zac | apply Za | apply Zab | refine Zag ?_ GE257.out | refine Zag ?_ GE258.out) | exact HB.out)))); have n3_ := Zaa.mk (Kd.Zdh ho2 (Zal (by repeat (first | (with_reducible first | exact HB.out | apply Zac | apply Za | apply Zab | refine Zag ?_ GE257.out | refine Zag ?_ GE258.out) | exact HB.out)))); have n4_ := Zaa.mk (Zbh (g := gb257) (o := .cells #[.slice A0_0 l0_0.length c0_0, .int .i64 a0_1, .slice A0_2 l0_2.length c0_2, .slice A0_3 l0_3.length c0_3, .int .i64 a0_4, .int .i64 a0_5, .slice A0_6 l0_6.length c0_6, .int .i64 a0_7, .slice A0_8 l0_8.length c0_8, .slice A0_9 l0_9.length c0_9] 27 (0, 0)) (by (with_reducible repeat (first | refine Zaf ?_ _ | refine Zah ?_ | refine Zae ?_ _)); exact BK257.out) hb); have n5_ := Zaa.mk (Zbh (g := gb258) (o := .cells #[.int .i64 0, .slice none 0 0, .slice none 0 0, .int .i64 0, .int .i64 0, .slice none 0 0, .int .i64 0] 25 (0, 0)) (by (with_reducible repeat (first | refine Zaf ?_ _ | refine Zah ?_ | refine Zae ?_ _)); exact BK258.out) hb); have n6_ := Zaa.mk (Za2 (by repeat (first | (with_reducible first | exact HB.out | apply Zac | apply Za | apply Zab | refine Zag ?_ GE257.out | refine Zag ?_ GE258.out) | exact HB.out)) hb); clear HO_7; clear BK257; clear BK258; clear HB; have HO_7 := n0_; have HO292 := n1_; have HO295 := n2_; have HO300 := n3_; have BK257 := n4_; have BK258 := n5_; have HB := n6_; clear n0_ n1_ n2_ n3_ n4_ n5_ n6_; (try clear hb); (try clear hb2); (try clear hk); (try clear hi); (try clear ho0); (try clear ho1); (try clear ho2)) | ((with_reducible refine Zb3 (N := 9) rfl ?_); refine Zcf ?hg (N := 9) ?hd (cs := #[.int .i64 0, .slice none 0 0, .slice none 0 0, .int .i64 0, .int .i64 0, .slice none 0 0, .int .i64 0]) (t := 25) ?hr ?_; (case hd => rfl); (case hg => rfl); (case hr => first | (go_simp; done) | (go_simp; rfl)); intro gb302 hg w61 hbox hb; have n0_ := Zaa.mk (Kd.Zce (by (with_reducible repeat (first | apply Kd.Zbb | apply Kd.Zbc | apply Kd.Zbl)); exact HO_7.out) hb); have n1_ := Zaa.mk (Kd.Zca (by (with_reducible repeat (first | apply Kd.Zan | apply Kd.Zao | apply Kd.Zav)); exact HO292.out) hb); have n2_ := Zaa.mk (Kd.Zca (by (with_reducible repeat (first | apply Kd.Zan | apply Kd.Zao | apply Kd.Zav)); exact HO295.out) hb); have n3_ := Zaa.mk (Kd.Zce (by (with_reducible repeat (first | apply Kd.Zbb | apply Kd.Zbc | apply Kd.Zbl)); exact HO300.out) hb); have n4_ := Zaa.mk (Zbh (g := gb257) (o := .cells #[.slice A0_0 l0_0.length c0_0, .int .i64 a0_1, .slice A0_2 l0_2.length c0_2, .slice A0_3 l0_3.length c0_3, .int .i64 a0_4, .int .i64 a0_5, .slice A0_6 l0_6.length c0_6, .int .i64 a0_7, .slice A0_8 l0_8.length c0_8, .slice A0_9 l0_9.length c0_9] 27 (0, 0)) (by (with_reducible repeat (first | refine Zaf ?_ _ | refine Zah ?_ | refine Zae ?_ _)); exact BK257.out) hb); have n5_ := Zaa.mk (Zbh (g := gb258) (o := .cells #[.int .i64 0, .slice none 0 0, .slice none 0 0, .int .i64 0, .int .i64 0, .slice none 0 0, .int .i64 0] 25 (0, 0)) (by (with_reducible repeat (first | refine Zaf ?_ _ | refine Zah ?_ | refine Zae ?_ _)); exact BK258.out) hb); have n6_ := Zaa.mk (Za2 (by repeat (first | (with_reducible first | exact HB.out | apply Zac | apply Za | apply Zab | refine Zag ?_ GE257.out | refine Zag ?_ GE258.out) | exact HB.out)) hb); have n7_ := Zaa.mk (hbox); have n8_ := Zaa.mk ((by rw [hg]; exact (Zal (by repeat (first | (with_reducible first | exact HB.out | apply Zac | apply Za | apply Zab | refine Zag ?_ GE257.out | refine Zag ?_ GE258.out) | exact HB.out))) : w.heap.size ≤ gb302)); have n9_ := Zaa.mk ((by rw [hg]; exact (Zal (by repeat (first | (with_reducible first | exact HB.out | apply Zac | apply Za | apply Zab | refine Zag ?_ GE257.out | refine Zag ?_ GE258.out) | exact HB.out))) : w.heap.size ≤ gb302)); have n10_ := Zaa.mk ((by rw [hg]; exact Nat.ne_of_lt (Zdc (g := gb257) (o := .cells #[.slice A0_0 l0_0.length c0_0, .int .i64 a0_1, .slice A0_2 l0_2.length c0_2, .slice A0_3 l0_3.length c0_3, .int .i64 a0_4, .int .i64 a0_5, .slice A0_6 l0_6.length c0_6, .int .i64 a0_7, .slice A0_8 l0_8.length c0_8, .slice A0_9 l0_9.length c0_9] 27 (0, 0)) (by (with_reducible repeat (first | refine Zaf ?_ _ | refine Zah ?_ | refine Zae ?_ _)); exact BK257.out)) : gb257 ≠ gb302)); have n11_ := Zaa.mk ((by rw [hg]; exact Nat.ne_of_gt (Zdc (g := gb257) (o := .cells #[.slice A0_0 l0_0.length c0_0, .int .i64 a0_1, .slice A0_2 l0_2.length c0_2, .slice A0_3 l0_3.length c0_3, .int .i64 a0_4, .int .i64 a0_5, .slice A0_6 l0_6.length c0_6, .int .i64 a0_7, .slice A0_8 l0_8.length c0_8, .slice A0_9 l0_9.length c0_9] 27 (0, 0)) (by (with_reducible repeat (first | refine Zaf ?_ _ | refine Zah ?_ | refine Zae ?_ _)); exact BK257.out)) : gb302 ≠ gb257)); have n12_ := Zaa.mk ((by rw [hg]; exact Nat.ne_of_lt (Zdc (g := gb258) (o := .cells #[.int .i64 0, .slice none 0 0, .slice none 0 0, .int .i64 0, .int .i64 0, .slice none 0 0, .int .i64 0] 25 (0, 0)) (by (with_reducible repeat (first | refine Zaf ?_ _ | refine Zah ?_ | refine Zae ?_ _)); exact BK258.out)) : gb258 ≠ gb302)); have n13_ := Zaa.mk ((by rw [hg]; exact Nat.ne_of_gt (Zdc (g := gb258) (o := .cells #[.int .i64 0, .slice none 0 0, .slice none 0 0, .int .i64 0, .int .i64 0, .slice none 0 0, .int .i64 0] 25 (0, 0)) (by (with_reducible repeat (first | refine Zaf ?_ _ | refine Zah ?_ | refine Zae ?_ _)); exact BK258.out)) : gb302 ≠ gb258)); clear HO_7; clear HO292; clear HO295; clear HO300; clear BK257; clear BK258; clear HB; have HO_7 := n0_; have HO292 := n1_; have HO295 := n2_; have HO300 := n3_; have BK257 := n4_; have BK258 := n5_; have HB := n6_; have BK302 := n7_; have GW302 := n8_; have GE302 := n9_; have NB257_302 := n10_; have NB302_257 := n11_; have NB258_302 := n12_; have NB302_258 := n13_; clear n0_ n1_ n2_ n3_ n4_ n5_ n6_ n7_ n8_ n9_ n10_ n11_ n12_ n13_; clear hb hbox hg; have hnb62 := NB302_257.out; have hnc62 := NB257_302.out; have hnb63 := NB302_258.out; have hnc63 := NB258_302.out; obtain ⟨hcz64_0, hcz64_1, hcz64_2, hcz64_3, hcz64_4, hcz64_5, hcz64_6, hfz64_0, hfz64_1, hfz64_2, hfz64_3, hfz64_4, hfz64_5, hfz64_6⟩ := Zcj BK302.out; obtain ⟨Ao65, co65, eo65⟩ := Kd.Zc HO292.out; subst eo65; obtain ⟨Ao66, co66, eo66⟩ := Kd.Zc HO295.out; subst eo66; obtain ⟨Ao67, co67, eo67⟩ := Kd.Zdi HO300.out; subst eo67) | ((with_reducible refine Zdo (t := 25) (p := 9) rfl ?_); refine Zdj (t := 25) (p := 9) (v := ?vo_w68) (w1 := (((((((w61.setCell ⟨gb302, 0, none⟩ (.int .i64 t289)).setCell ⟨gb302, 1, none⟩ (.slice Ao65 t290.length co65)).setCell ⟨gb302, 2, none⟩ (.slice Ao66 t293.length co66)).setCell ⟨gb302, 3, none⟩ (.int .i64 t296)).setCell ⟨gb302, 4, none⟩ (.int .i64 t297)).setCell ⟨gb302, 5, none⟩ (.slice Ao67 t298.length co67)).setCell ⟨gb302, 6, none⟩ (.int .i64 t301))) ?hg ?ho ?hn ?hr ?_; (case ho => rfl); (case hg => rfl); (case hn => rfl); (case hr => first | (go_simp; done) | (go_simp; rfl)); intro w68 hw; have n0_ : Zaa (Kd.S (Kd.slice 41 k41) 39 w68 w.heap.size (fun _ => True) u7 x7_1) := ⟨(by rw [hw]; exact (by (with_reducible repeat (first | apply Kd.Zbb | apply Kd.Zbc | apply Kd.Zbl)); exact Kd.Zcl (Kd.Zb1 (p := ⟨gb302, 6, none⟩) (Kd.Zb1 (p := ⟨gb302, 5, none⟩) (Kd.Zb1 (p := ⟨gb302, 4, none⟩) (Kd.Zb1 (p := ⟨gb302, 3, none⟩) (Kd.Zb1 (p := ⟨gb302, 2, none⟩) (Kd.Zb1 (p := ⟨gb302, 1, none⟩) (Kd.Zb1 (p := ⟨gb302, 0, none⟩) (Kd.Zco HO_7.out BK302.out (by decide)) (fun _ hk => hk.2) (.int .i64 t289)) (fun _ hk => hk.2) (.slice Ao65 t290.length co65)) (fun _ hk => hk.2) (.slice Ao66 t293.length co66)) (fun _ hk => hk.2) (.int .i64 t296)) (fun _ hk => hk.2) (.int .i64 t297)) (fun _ hk => hk.2) (.slice Ao67 t298.length co67)) (fun _ hk => hk.2) (.int .i64 t301)) (fun _ hk => trivial)))⟩; have n1_ : Zaa (Kd.R (Kd.int .i64) 3 w68 w.heap.size (fun k_ => some k_ ≠ (.slice Ao66 t293.length co66 : Value).ownBlock) (.slice Ao65 t290.length co65) t290) := ⟨(by rw [hw]; exact (by (with_reducible repeat (first | apply Kd.Zan | apply Kd.Zao | apply Kd.Zav)); exact Kd.Zbu (Kd.Zbv (p := ⟨gb302, 6, none⟩) (Kd.Zbv (p := ⟨gb302, 5, none⟩) (Kd.Zbv (p := ⟨gb302, 4, none⟩) (Kd.Zbv (p := ⟨gb302, 3, none⟩) (Kd.Zbv (p := ⟨gb302, 2, none⟩) (Kd.Zbv (p := ⟨gb302, 1, none⟩) (Kd.Zbv (p := ⟨gb302, 0, none⟩) (Kd.Zch HO292.out BK302.out (by decide)) (fun _ hk => hk.2) (.int .i64 t289)) (fun _ hk => hk.2) (.slice Ao65 t290.length co65)) (fun _ hk => hk.2) (.slice Ao66 t293.length co66)) (fun _ hk => hk.2) (.int .i64 t296)) (fun _ hk => hk.2) (.int .i64 t297)) (fun _ hk => hk.2) (.slice Ao67 t298.length co67)) (fun _ hk => hk.2) (.int .i64 t301)) (fun _ hk => hk.1)))⟩; have n2_ : Zaa (Kd.R (Kd.int .i64) 3 w68 w.heap.size (fun k_ => some k_ ≠ (.slice Ao65 t290.length co65 : Value).ownBlock) (.slice Ao66 t293.length co66) t293) := ⟨(by rw [hw]; exact (by (with_reducible repeat (first | apply Kd.Zan | apply Kd.Zao | apply Kd.Zav)); exact Kd.Zbu (Kd.Zbv (p := ⟨gb302, 6, none⟩) (Kd.Zbv (p := ⟨gb302, 5, none⟩) (Kd.Zbv (p := ⟨gb302, 4, none⟩) (Kd.Zbv (p := ⟨gb302, 3, none⟩) (Kd.Zbv (p := ⟨gb302, 2, none⟩) (Kd.Zbv (p := ⟨gb302, 1, none⟩) (Kd.Zbv (p := ⟨gb302, 0, none⟩) (Kd.Zch HO295.out BK302.out (by decide)) (fun _ hk => hk.2) (.int .i64 t289)) (fun _ hk => hk.2) (.slice Ao65 t290.length co65)) (fun _ hk => hk.2) (.slice Ao66 t293.length co66)) (fun _ hk => hk.2) (.int .i64 t296)) (fun _ hk => hk.2) (.int .i64 t297)) (fun _ hk => hk.2) (.slice Ao67 t298.length co67)) (fun _ hk => hk.2) (.int .i64 t301)) (fun _ hk => hk.1)))⟩; have n3_ : Zaa (Kd.S (Kd.slice 3 (Kd.int .i64)) 23 w68 w.heap.size (fun k_ => some k_ ≠ (.slice Ao65 t290.length co65 : Value).ownBlock ∧ some k_ ≠ (.slice Ao66 t293.length co66 : Value).ownBlock) (.slice Ao67 t298.length co67) t298) := ⟨(by rw [hw]; exact (by (with_reducible repeat (first | apply Kd.Zbb | apply Kd.Zbc | apply Kd.Zbl)); exact Kd.Zcl (Kd.Zb1 (p := ⟨gb302, 6, none⟩) (Kd.Zb1 (p := ⟨gb302, 5, none⟩) (Kd.Zb1 (p := ⟨gb302, 4, none⟩) (Kd.Zb1 (p := ⟨gb302, 3, none⟩) (Kd.Zb1 (p := ⟨gb302, 2, none⟩) (Kd.Zb1 (p := ⟨gb302, 1, none⟩) (Kd.Zb1 (p := ⟨gb302, 0, none⟩) (Kd.Zco HO300.out BK302.out (by decide)) (fun _ hk => hk.2) (.int .i64 t289)) (fun _ hk => hk.2) (.slice Ao65 t290.length co65)) (fun _ hk => hk.2) (.slice Ao66 t293.length co66)) (fun _ hk => hk.2) (.int .i64 t296)) (fun _ hk => hk.2) (.int .i64 t297)) (fun _ hk => hk.2) (.slice Ao67 t298.length co67)) (fun _ hk => hk.2) (.int .i64 t301)) (fun _ hk => ⟨hk.1.1, hk.1.2⟩)))⟩; have n4_ : Zaa (w68.heap[gb257]? = some (.cells #[.slice A0_0 l0_0.length c0_0, .int .i64 a0_1, .slice A0_2 l0_2.length c0_2, .slice A0_3 l0_3.length c0_3, .int .i64 a0_4, .int .i64 a0_5, .slice A0_6 l0_6.length c0_6, .int .i64 a0_7, .slice A0_8 l0_8.length c0_8, .slice A0_9 l0_9.length c0_9] 27 (0, 0))) := ⟨(by rw [hw]; exact (by (with_reducible repeat (first | refine Zaf ?_ _ | refine Zah ?_ | refine Zae ?_ _)); refine Zb6 ?_ NB257_302.out _; (with_reducible repeat (first | refine Zaf ?_ _ | refine Zah ?_ | refine Zae ?_ _)); refine Zb6 ?_ NB257_302.out _; (with_reducible repeat (first | refine Zaf ?_ _ | refine Zah ?_ | refine Zae ?_ _)); refine Zb6 ?_ NB257_302.out _; (with_reducible repeat (first | refine Zaf ?_ _ | refine Zah ?_ | refine Zae ?_ _)); refine Zb6 ?_ NB257_302.out _; (with_reducible repeat (first | refine Zaf ?_ _ | refine Zah ?_ | refine Zae ?_ _)); refine Zb6 ?_ NB257_302.out _; (with_reducible repeat (first | refine Zaf ?_ _ | refine Zah ?_ | refine Zae ?_ _)); refine Zb6 ?_ NB257_302.out _; (with_reducible repeat (first | refine Zaf ?_ _ | refine Zah ?_ | refine Zae ?_ _)); refine Zb6 ?_ NB257_302.out _; (with_reducible repeat (first | refine Zaf ?_ _ | refine Zah ?_ | refine Zae ?_ _)); exact BK257.out))⟩; have n5_ : Zaa (w68.heap[gb258]? = some (.cells #[.int .i64 0, .slice none 0 0, .slice none 0 0, .int .i64 0, .int .i64 0, .slice none 0 0, .int .i64 0] 25 (0, 0))) := ⟨(by rw [hw]; exact (by (with_reducible repeat (first | refine Zaf ?_ _ | refine Zah ?_ | refine Zae ?_ _)); refine Zb6 ?_ NB258_302.out _; (with_reducible repeat (first | refine Zaf ?_ _ | refine Zah ?_ | refine Zae ?_ _)); refine Zb6 ?_ NB258_302.out _; (with_reducible repeat (first | refine Zaf ?_ _ | refine Zah ?_ | refine Zae ?_ _)); refine Zb6 ?_ NB258_302.out _; (with_reducible repeat (first | refine Zaf ?_ _ | refine Zah ?_ | refine Zae ?_ _)); refine Zb6 ?_ NB258_302.out _; (with_reducible repeat (first | refine Zaf ?_ _ | refine Zah ?_ | refine Zae ?_ _)); refine Zb6 ?_ NB258_302.out _; (with_reducible repeat (first | refine Zaf ?_ _ | refine Zah ?_ | refine Zae ?_ _)); refine Zb6 ?_ NB258_302.out _; (with_reducible repeat (first | refine Zaf ?_ _ | refine Zah ?_ | refine Zae ?_ _)); refine Zb6 ?_ NB258_302.out _; (with_reducible repeat (first | refine Zaf ?_ _ | refine Zah ?_ | refine Zae ?_ _)); exact BK258.out))⟩; have n6_ : Zaa (w68.heap[gb302]? = some (.cells #[.int .i64 t289, .slice Ao65 t290.length co65, .slice Ao66 t293.length co66, .int .i64 t296, .int .i64 t297, .slice Ao67 t298.length co67, .int .i64 t301] 25 (0, 0))) := ⟨(by rw [hw]; exact (by (with_reducible repeat (first | refine Zaf ?_ _ | refine Zah ?_ | refine Zae ?_ _)); refine Zb5 (cs := #[.int .i64 t289, .slice Ao65 t290.length co65, .slice Ao66 t293.length co66, .int .i64 t296, .int .i64 t297, .slice Ao67 t298.length co67, .int .i64 0]) ?_ 6 _ rfl; (with_reducible repeat (first | refine Zaf ?_ _ | refine Zah ?_ | refine Zae ?_ _)); refine Zb5 (cs := #[.int .i64 t289, .slice Ao65 t290.length co65, .slice Ao66 t293.length co66, .int .i64 t296, .int .i64 t297, .slice none 0 0, .int .i64 0]) ?_ 5 _ rfl; (with_reducible repeat (first | refine Zaf ?_ _ | refine Zah ?_ | refine Zae ?_ _)); refine Zb5 (cs := #[.int .i64 t289, .slice Ao65 t290.length co65, .slice Ao66 t293.length co66, .int .i64 t296, .int .i64 0, .slice none 0 0, .int .i64 0]) ?_ 4 _ rfl; (with_reducible repeat (first | refine Zaf ?_ _ | refine Zah ?_ | refine Zae ?_ _)); refine Zb5 (cs := #[.int .i64 t289, .slice Ao65 t290.length co65, .slice Ao66 t293.length co66, .int .i64 0, .int .i64 0, .slice none 0 0, .int .i64 0]) ?_ 3 _ rfl; (with_reducible repeat (first | refine Zaf ?_ _ | refine Zah ?_ | refine Zae ?_ _)); refine Zb5 (cs := #[.int .i64 t289, .slice Ao65 t290.length co65, .slice none 0 0, .int .i64 0, .int .i64 0, .slice none 0 0, .int .i64 0]) ?_ 2 _ rfl; (with_reducible repeat (first | refine Zaf ?_ _ | refine Zah ?_ | refine Zae ?_ _)); refine Zb5 (cs := #[.int .i64 t289, .slice none 0 0, .slice none 0 0, .int .i64 0, .int .i64 0, .slice none 0 0, .int .i64 0]) ?_ 1 _ rfl; (with_reducible repeat (first | refine Zaf ?_ _ | refine Zah ?_ | refine Zae ?_ _)); refine Zb5 (cs := #[.int .i64 0, .slice none 0 0, .slice none 0 0, .int .i64 0, .int .i64 0, .slice none 0 0, .int .i64 0]) ?_ 0 _ rfl; (with_reducible repeat (first | refine Zaf ?_ _ | refine Zah ?_ | refine Zae ?_ _)); exact BK302.out))⟩; have n7_ : Zaa (Below w.heap.size w w68) := ⟨(by rw [hw]; exact (by repeat (first | (with_reducible first | exact HB.out | apply Zac | apply Za | apply Zab | refine Zag ?_ GE257.out | refine Zag ?_ GE258.out | refine Zag ?_ GE302.out) | exact HB.out)))⟩; clear hw; clear HO_7; clear HO292; clear HO295; clear HO300; clear BK257; clear BK258; clear BK302; clear HB; have HO_7 := n0_; have HO292 := n1_; have HO295 := n2_; have HO300 := n3_; have BK257 := n4_; have BK258 := n5_; have BK302 := n6_; have HB := n7_; clear n0_ n1_ n2_ n3_ n4_ n5_ n6_ n7_; obtain ⟨hcz69_0, hcz69_1, hcz69_2, hcz69_3, hcz69_4, hcz69_5, hcz69_6, hfz69_0, hfz69_1, hfz69_2, hfz69_3, hfz69_4, hfz69_5, hfz69_6⟩ := Zcj BK302.out) | ((with_reducible refine Zdo (t := 3) (p := 43) rfl ?_); refine Zdj (t := 3) (p := 43) (v := ?vo_w70) (w1 := (w68.setCell ⟨gb302, 0, none⟩ (.int .i64 a1))) ?hg ?ho ?hn ?hr ?_; (case ho => rfl); (case hg => rfl); (case hn => rfl); (case hr => first | (go_simp; done) | (go_simp; rfl)); intro w70 hw; have n0_ : Zaa (Kd.S (Kd.slice 41 k41) 39 w70 w.heap.size (fun _ => True) u7 x7_1) := ⟨(by rw [hw]; exact (by (with_reducible repeat (first | apply Kd.Zbb | apply Kd.Zbc | apply Kd.Zbl)); exact Kd.Zcl (Kd.Zb1 (p := ⟨gb302, 0, none⟩) (Kd.Zco HO_7.out BK302.out (by decide)) (fun _ hk => hk.2) (.int .i64 a1)) (fun _ hk => trivial)))⟩; have n1_ : Zaa (Kd.R (Kd.int .i64) 3 w70 w.heap.size (fun k_ => some k_ ≠ (.slice Ao66 t293.length co66 : Value).ownBlock) (.slice Ao65 t290.length co65) t290) := ⟨(by rw [hw]; exact (by (with_reducible repeat (first | apply Kd.Zan | apply Kd.Zao | apply Kd.Zav)); exact Kd.Zbu (Kd.Zbv (p := ⟨gb302, 0, none⟩) (Kd.Zch HO292.out BK302.out (by decide)) (fun _ hk => hk.2) (.int .i64 a1)) (fun _ hk => hk.1)))⟩; have n2_ : Zaa (Kd.R (Kd.int .i64) 3 w70 w.heap.size (fun k_ => some k_ ≠ (.slice Ao65 t290.length co65 : Value).ownBlock) (.slice Ao66 t293.length co66) t293) := ⟨(by rw [hw]; exact (by (with_reducible repeat (first | apply Kd.Zan | apply Kd.Zao | apply Kd.Zav)); exact Kd.Zbu (Kd.Zbv (p := ⟨gb302, 0, none⟩) (Kd.Zch HO295.out BK302.out (by decide)) (fun _ hk => hk.2) (.int .i64 a1)) (fun _ hk => hk.1)))⟩; have n3_ : Zaa (Kd.S (Kd.slice 3 (Kd.int .i64)) 23 w70 w.heap.size (fun k_ => some k_ ≠ (.slice Ao65 t290.length co65 : Value).ownBlock ∧ some k_ ≠ (.slice Ao66 t293.length co66 : Value).ownBlock) (.slice Ao67 t298.length co67) t298) := ⟨(by rw [hw]; exact (by (with_reducible repeat (first | apply Kd.Zbb | apply Kd.Zbc | apply Kd.Zbl)); exact Kd.Zcl (Kd.Zb1 (p := ⟨gb302, 0, none⟩) (Kd.Zco HO300.out BK302.out (by decide)) (fun _ hk => hk.2) (.int .i64 a1)) (fun _ hk => ⟨hk.1.1, hk.1.2⟩)))⟩; have n4_ : Zaa (w70.heap[gb257]? = some (.cells #[.slice A0_0 l0_0.length c0_0, .int .i64 a0_1, .slice A0_2 l0_2.length c0_2, .slice A0_3 l0_3.length c0_3, .int .i64 a0_4, .int .i64 a0_5, .slice A0_6 l0_6.length c0_6, .int .i64 a0_7, .slice A0_8 l0_8.length c0_8, .slice A0_9 l0_9.length c0_9] 27 (0, 0))) := ⟨(by rw [hw]; exact (by (with_reducible repeat (first | refine Zaf ?_ _ | refine Zah ?_ | refine Zae ?_ _)); refine Zb6 ?_ NB257_302.out _; (with_reducible repeat (first | refine Zaf ?_ _ | refine Zah ?_ | refine Zae ?_ _)); exact BK257.out))⟩; have n5_ : Zaa (w70.heap[gb258]? = some (.cells #[.int .i64 0, .slice none 0 0, .slice none 0 0, .int .i64 0, .int .i64 0, .slice none 0 0, .int .i64 0] 25 (0, 0))) := ⟨(by rw [hw]; exact (by (with_reducible repeat (first | refine Zaf ?_ _ | refine Zah ?_ | refine Zae ?_ _)); refine Zb6 ?_ NB258_302.out _; (with_reducible repeat (first | refine Zaf ?_ _ | refine Zah ?_ | refine Zae ?_ _)); exact BK258.out))⟩; have n6_ : Zaa (w70.heap[gb302]? = some (.cells #[.int .i64 a1, .slice Ao65 t290.length co65, .slice Ao66 t293.length co66, .int .i64 t296, .int .i64 t297, .slice Ao67 t298.length co67, .int .i64 t301] 25 (0, 0))) := ⟨(by rw [hw]; exact (by (with_reducible repeat (first | refine Zaf ?_ _ | refine Zah ?_ | refine Zae ?_ _)); refine Zb5 (cs := #[.int .i64 t289, .slice Ao65 t290.length co65, .slice Ao66 t293.length co66, .int .i64 t296, .int .i64 t297, .slice Ao67 t298.length co67, .int .i64 t301]) ?_ 0 _ rfl; (with_reducible repeat (first | refine Zaf ?_ _ | refine Zah ?_ | refine Zae ?_ _)); exact BK302.out))⟩; have n7_ : Zaa (Below w.heap.size w w70) := ⟨(by rw [hw]; exact (by repeat (first | (with_reducible first | exact HB.out | apply Zac | apply Za | apply Zab | refine Zag ?_ GE257.out | refine Zag ?_ GE258.out | refine Zag ?_ GE302.out) | exact HB.out)))⟩; clear hw; clear HO_7; clear HO292; clear HO295; clear HO300; clear BK257; clear BK258; clear BK302; clear HB; have HO_7 := n0_; have HO292 := n1_; have HO295 := n2_; have HO300 := n3_; have BK257 := n4_; have BK258 := n5_; have BK302 := n6_; have HB := n7_; clear n0_ n1_ n2_ n3_ n4_ n5_ n6_ n7_; obtain ⟨hcz71_0, hcz71_1, hcz71_2, hcz71_3, hcz71_4, hcz71_5, hcz71_6, hfz71_0, hfz71_1, hfz71_2, hfz71_3, hfz71_4, hfz71_5, hfz71_6⟩ := Zcj BK302.out; have q72 : ((ji54) : Int) ≤ ((t298.length : Int) : Int) := of_decide_eq_true (by first | (with_reducible assumption) | assumption); obtain ⟨i072, hi072, _, hsz72, _⟩ := info_parts Zf7; have hcut72 := cut_to (P := Try.prog) 22 23 .i64 Try.underlying22 hi072 Ao67 t298.length co67 (ji54) (of_decide_eq_true (by first | (with_reducible assumption) | assumption)) q72 (Kd.Zcd HO300.out).2.1; have hr72 := Kd.S_take (m := ((ji54) : Int).toNat) HO300.out (by omega); have hy72 : y303.length = ((ji54) : Int).toNat := (by rw [Ny303.out, List.length_take]; omega); rw [← Ny303.out] at hr72; rw [← hy72] at hr72 hcut72; clear hy72 hi072 hsz72 HO300; have HO305 := Zaa.mk hr72; clear hr72; replace q72 := eq_true q72))
    have n0_ : Zaa (Kd.S (Kd.slice 41 k41) 39 (w70.setCell ⟨gb302, 5, none⟩ (.slice Ao67 y303.length co67)) w.heap.size (fun _ => True) u7 x7_1) := ⟨by (with_reducible repeat (first | apply Kd.Zbb | apply Kd.Zbc | apply Kd.Zbl)); exact Kd.Zcl (Kd.Zb1 (p := ⟨gb302, 5, none⟩) (Kd.Zco HO_7.out BK302.out (by decide)) (fun _ hk => hk.2) (.slice Ao67 y303.length co67)) (fun _ hk => trivial)⟩
    have n1_ : Zaa (Kd.R (Kd.int .i64) 3 (w70.setCell ⟨gb302, 5, none⟩ (.slice Ao67 y303.length co67)) w.heap.size (fun k_ => some k_ ≠ (.slice Ao66 t293.length co66 : Value).ownBlock) (.slice Ao65 t290.length co65) t290) := ⟨by (with_reducible repeat (first | apply Kd.Zan | apply Kd.Zao | apply Kd.Zav)); exact Kd.Zbu (Kd.Zbv (p := ⟨gb302, 5, none⟩) (Kd.Zch HO292.out BK302.out (by decide)) (fun _ hk => hk.2) (.slice Ao67 y303.length co67)) (fun _ hk => hk.1)⟩
    have n2_ : Zaa (Kd.R (Kd.int .i64) 3 (w70.setCell ⟨gb302, 5, none⟩ (.slice Ao67 y303.length co67)) w.heap.size (fun k_ => some k_ ≠ (.slice Ao65 t290.length co65 : Value).ownBlock) (.slice Ao66 t293.length co66) t293) := ⟨by (with_reducible repeat (first | apply Kd.Zan | apply Kd.Zao | apply Kd.Zav)); exact Kd.Zbu (Kd.Zbv (p := ⟨gb302, 5, none⟩) (Kd.Zch HO295.out BK302.out (by decide)) (fun _ hk => hk.2) (.slice Ao67 y303.length co67)) (fun _ hk => hk.1)⟩
    have n3_ : Zaa (Kd.S (Kd.slice 3 (Kd.int .i64)) 23 (w70.setCell ⟨gb302, 5, none⟩ (.slice Ao67 y303.length co67)) w.heap.size (fun k_ => some k_ ≠ (.slice Ao65 t290.length co65 : Value).ownBlock ∧ some k_ ≠ (.slice Ao66 t293.length co66 : Value).ownBlock) (.slice Ao67 y303.length co67) y303) := ⟨by (with_reducible repeat (first | apply Kd.Zbb | apply Kd.Zbc | apply Kd.Zbl)); exact Kd.Zcl (Kd.Zb1 (p := ⟨gb302, 5, none⟩) (Kd.Zco HO305.out BK302.out (by decide)) (fun _ hk => hk.2) (.slice Ao67 y303.length co67)) (fun _ hk => ⟨hk.1.1, hk.1.2⟩)⟩
    have n4_ : Zaa ((w70.setCell ⟨gb302, 5, none⟩ (.slice Ao67 y303.length co67)).heap[gb257]? = some (.cells #[.slice A0_0 l0_0.length c0_0, .int .i64 a0_1, .slice A0_2 l0_2.length c0_2, .slice A0_3 l0_3.length c0_3, .int .i64 a0_4, .int .i64 a0_5, .slice A0_6 l0_6.length c0_6, .int .i64 a0_7, .slice A0_8 l0_8.length c0_8, .slice A0_9 l0_9.length c0_9] 27 (0, 0))) := ⟨by (with_reducible repeat (first | refine Zaf ?_ _ | refine Zah ?_ | refine Zae ?_ _)); refine Zb6 ?_ NB257_302.out _; (with_reducible repeat (first | refine Zaf ?_ _ | refine Zah ?_ | refine Zae ?_ _)); exact BK257.out⟩
    have n5_ : Zaa ((w70.setCell ⟨gb302, 5, none⟩ (.slice Ao67 y303.length co67)).heap[gb258]? = some (.cells #[.int .i64 0, .slice none 0 0, .slice none 0 0, .int .i64 0, .int .i64 0, .slice none 0 0, .int .i64 0] 25 (0, 0))) := ⟨by (with_reducible repeat (first | refine Zaf ?_ _ | refine Zah ?_ | refine Zae ?_ _)); refine Zb6 ?_ NB258_302.out _; (with_reducible repeat (first | refine Zaf ?_ _ | refine Zah ?_ | refine Zae ?_ _)); exact BK258.out⟩
    have n6_ : Zaa ((w70.setCell ⟨gb302, 5, none⟩ (.slice Ao67 y303.length co67)).heap[gb302]? = some (.cells #[.int .i64 a1, .slice Ao65 t290.length co65, .slice Ao66 t293.length co66, .int .i64 t296, .int .i64 t297, .slice Ao67 y303.length co67, .int .i64 t301] 25 (0, 0))) := ⟨by (with_reducible repeat (first | refine Zaf ?_ _ | refine Zah ?_ | refine Zae ?_ _)); refine Zb5 (cs := #[.int .i64 a1, .slice Ao65 t290.length co65, .slice Ao66 t293.length co66, .int .i64 t296, .int .i64 t297, .slice Ao67 t298.length co67, .int .i64 t301]) ?_ 5 _ rfl; (with_reducible repeat (first | refine Zaf ?_ _ | refine Zah ?_ | refine Zae ?_ _)); exact BK302.out⟩
    have n7_ : Zaa (Below w.heap.size w (w70.setCell ⟨gb302, 5, none⟩ (.slice Ao67 y303.length co67))) := ⟨by repeat (first | (with_reducible first | exact HB.out | apply Zac | apply Za | apply Zab | refine Zag ?_ GE257.out | refine Zag ?_ GE258.out | refine Zag ?_ GE302.out) | exact HB.out)⟩
    (try clear HO_7)
    (try clear HO292)
    (try clear HO295)
    (try clear HO305)
    (try clear BK257)
    (try clear BK258)
    (try clear BK302)
    (try clear HB)
    generalize (w70.setCell ⟨gb302, 5, none⟩ (.slice Ao67 y303.length co67)) = w73 at n0_ n1_ n2_ n3_ n4_ n5_ n6_ n7_ ⊢
    have HO_7 := n0_
    have HO292 := n1_
    have HO295 := n2_
    have HO305 := n3_
    have BK257 := n4_
    have BK258 := n5_
    have BK302 := n6_
    have HB := n7_
    clear n0_ n1_ n2_ n3_ n4_ n5_ n6_ n7_
    have n0_ := Zaa.mk (Kd.Zbl HO_7.out)
    have n1_ := Zaa.mk (Kd.Zav HO292.out)
    have n2_ := Zaa.mk (Kd.Zav HO295.out)
    have n3_ := Zaa.mk (Kd.Zbl HO305.out)
    have n4_ := Zaa.mk (Zah BK257.out)
    have n5_ := Zaa.mk (Zah BK258.out)
    have n6_ := Zaa.mk (Zah BK302.out)
    have n7_ := Zaa.mk (Zab HB.out)
    clear HO_7
    clear HO292
    clear HO295
    clear HO305
    clear BK257
    clear BK258
    clear BK302
    clear HB
    have HO_7 := n0_
    have HO292 := n1_
    have HO295 := n2_
    have HO305 := n3_
    have BK257 := n4_
    have BK258 := n5_
    have BK302 := n6_
    have HB := n7_
    clear n0_ n1_ n2_ n3_ n4_ n5_ n6_ n7_
    obtain ⟨Ao75, co75, eo75⟩ := Kd.Zdi HO_7.out
    (first | subst eo75 | (injection eo75 with f1_ f2_ f3_; have f4_ := f1_.symm; have f5_ := f3_.symm; clear f1_ f2_ f3_; subst f4_; subst f5_))
    refine Zdw (n := 9) (S := fun w' => w'.cell? ⟨gb302, 0, none⟩ = some (.int .i64 a1) ∧ w'.cell? ⟨gb302, 1, none⟩ = some (.slice Ao65 t290.length co65) ∧ w'.cell? ⟨gb302, 2, none⟩ = some (.slice Ao66 t293.length co66) ∧ w'.cell? ⟨gb302, 3, none⟩ = some (.int .i64 t296) ∧ w'.cell? ⟨gb302, 4, none⟩ = some (.int .i64 t297) ∧ w'.cell? ⟨gb302, 5, none⟩ = some (.slice Ao67 y303.length co67) ∧ w'.cell? ⟨gb302, 6, none⟩ = some (.int .i64 t301)) (ds := []) #[false, false, false, false, false, false, false, false, false] (by kernel_rfl) rfl rfl ⟨(Zax BK302.out 0).trans rfl, (Zax BK302.out 1).trans rfl, (Zax BK302.out 2).trans rfl, (Zax BK302.out 3).trans rfl, (Zax BK302.out 4).trans rfl, (Zax BK302.out 5).trans rfl, (Zax BK302.out 6).trans rfl⟩ (fun hHeld => ?_); refine Zcv Zap.tab9 Zap.bits9 (fun HT_ HW_ => ?_)
    generalize w73.drew = w74 at HO_7 HO292 HO295 HO305 BK257 BK258 BK302 HB hHeld ⊢
    refine Zbt (i := 0) (N := some 52) (v := ?_) (a' := ?_) #[true, false, false, false, false, false, false, false, false] rfl rfl (Zbe HT_.out (by kernel_rfl)) (fun _ _ _ h => h) (Or.inl ⟨by rfl, ?_⟩) ?_ ?_
    rotate_left
    ·intro w'
     go_simp
     with_reducible rfl
    rotate_left
    ·simp only [Act.put, List.setIfInBounds_toArray, List.set_cons_zero, List.set_cons_succ, Zbg, Zbj]
     rfl
    refine Zbt (i := 2) (N := some 54) (v := ?_) (a' := ?_) #[true, false, true, false, false, false, false, false, false] rfl rfl (Zbe HT_.out (by kernel_rfl)) (fun _ _ _ h => h) (Or.inl ⟨by rfl, ?_⟩) ?_ ?_
    rotate_left
    ·intro w'
     go_simp
     with_reducible rfl
    rotate_left
    ·simp only [Act.put, List.setIfInBounds_toArray, List.set_cons_zero, List.set_cons_succ, Zbg, Zbj]
     rfl
    refine Zc5 (i := 1) (N := some 53) (v := ?_) (a' := ?_) #[true, true, true, false, false, false, false, false, false] rfl rfl (Zcb HT_.out HW_.out (by kernel_rfl)) (fun _ _ _ h => h) (Or.inl ⟨by rfl, ?_⟩) hHeld ?_ ?_
    rotate_left
    ·rintro w' ⟨s0, s1, s2, s3, s4, s5, s6⟩
     go_simp
     with_reducible rfl
    rotate_left
    ·simp only [Act.put, List.setIfInBounds_toArray, List.set_cons_zero, List.set_cons_succ, Zbg, Zbj]
     rfl
    refine Zc5 (i := 3) (N := some 55) (v := ?_) (a' := ?_) #[true, true, true, true, false, false, false, false, false] rfl rfl (Zcb HT_.out HW_.out (by kernel_rfl)) (fun _ _ _ h => h) (Or.inl ⟨by rfl, ?_⟩) hHeld ?_ ?_
    rotate_left
    ·rintro w' ⟨s0, s1, s2, s3, s4, s5, s6⟩
     go_simp
     with_reducible rfl
    rotate_left
    ·simp only [Act.put, List.setIfInBounds_toArray, List.set_cons_zero, List.set_cons_succ, Zbg, Zbj]
     rfl
    refine one_ (i := 4) (N := some 56) #[true, true, true, true, true, false, false, false, false] rfl rfl (Zdr HT_.out (by kernel_rfl)) (by decide) (fun K hK => ?_)
    refine goes_ Try.func41 (by kernel_rfl) rfl #[.slice Ao75 x7_1.length co75, .agg #[.int .i64 a1, .slice Ao65 t290.length co65, .slice Ao66 t293.length co66, .int .i64 t296, .int .i64 t297, .slice Ao67 y303.length co67, .int .i64 t301]] (by rfl) rfl rfl (by (try simp only [List.map_toArray, List.map_cons, List.map_nil]); first | done | rfl | (simp only [List.length_drop, List.length_take]; rfl)) ?_
    with_reducible refine (Zas.calls k1 _ _ x7_1 a1 _ _ t290 _ _ t293 t296 t297 _ _ y303 t301 t306 _ ?side1 ?side2 ?side3 ?side4 ?side5 ?side6 ?side7 ?side8 A57.out).mono ?_
    (case side1 => repeat (first | exact (Kd.Zcd HO_7.out).2.2 | (with_reducible refine Kd.C_alloc ?_ _) | (with_reducible refine Kd.Za1 ?_ _) | (with_reducible refine Kd.Zbd ?_)))
    (case side2 => exact (Kd.Zcd HO_7.out).2.1)
    (case side3 => repeat (first | exact (Kd.Zbp HO292.out).2.2 | (with_reducible refine Kd.C_alloc ?_ _) | (with_reducible refine Kd.Za1 ?_ _) | (with_reducible refine Kd.Zbd ?_)))
    (case side4 => exact (Kd.Zbp HO292.out).2.1)
    (case side5 => repeat (first | exact (Kd.Zbp HO295.out).2.2 | (with_reducible refine Kd.C_alloc ?_ _) | (with_reducible refine Kd.Za1 ?_ _) | (with_reducible refine Kd.Zbd ?_)))
    (case side6 => exact (Kd.Zbp HO295.out).2.1)
    (case side7 => repeat (first | exact (Kd.Zcd HO305.out).2.2 | (with_reducible refine Kd.C_alloc ?_ _) | (with_reducible refine Kd.Za1 ?_ _) | (with_reducible refine Kd.Zbd ?_)))
    (case side8 => exact (Kd.Zcd HO305.out).2.1)
    rintro e w76 ⟨rfl, hb⟩
    refine ⟨_, rfl, ?_⟩
    have n0_ := Zaa.mk (Kd.Zce (by (with_reducible repeat (first | apply Kd.Zbb | apply Kd.Zbc | apply Kd.Zbl)); exact HO_7.out) hb)
    have n1_ := Zaa.mk (Kd.Zca (by (with_reducible repeat (first | apply Kd.Zan | apply Kd.Zao | apply Kd.Zav)); exact HO292.out) hb)
    have n2_ := Zaa.mk (Kd.Zca (by (with_reducible repeat (first | apply Kd.Zan | apply Kd.Zao | apply Kd.Zav)); exact HO295.out) hb)
    have n3_ := Zaa.mk (Kd.Zce (by (with_reducible repeat (first | apply Kd.Zbb | apply Kd.Zbc | apply Kd.Zbl)); exact HO305.out) hb)
    have n4_ := Zaa.mk (Zbh (g := gb257) (o := .cells #[.slice A0_0 l0_0.length c0_0, .int .i64 a0_1, .slice A0_2 l0_2.length c0_2, .slice A0_3 l0_3.length c0_3, .int .i64 a0_4, .int .i64 a0_5, .slice A0_6 l0_6.length c0_6, .int .i64 a0_7, .slice A0_8 l0_8.length c0_8, .slice A0_9 l0_9.length c0_9] 27 (0, 0)) (by (with_reducible repeat (first | refine Zaf ?_ _ | refine Zah ?_ | refine Zae ?_ _)); exact BK257.out) hb)
    have n5_ := Zaa.mk (Zbh (g := gb258) (o := .cells #[.int .i64 0, .slice none 0 0, .slice none 0 0, .int .i64 0, .int .i64 0, .slice none 0 0, .int .i64 0] 25 (0, 0)) (by (with_reducible repeat (first | refine Zaf ?_ _ | refine Zah ?_ | refine Zae ?_ _)); exact BK258.out) hb)
    have n6_ := Zaa.mk (Zbh (g := gb302) (o := .cells #[.int .i64 a1, .slice Ao65 t290.length co65, .slice Ao66 t293.length co66, .int .i64 t296, .int .i64 t297, .slice Ao67 y303.length co67, .int .i64 t301] 25 (0, 0)) (by (with_reducible repeat (first | refine Zaf ?_ _ | refine Zah ?_ | refine Zae ?_ _)); exact BK302.out) hb)
    have n7_ := Zaa.mk (Za2 (by repeat (first | (with_reducible first | exact HB.out | apply Zac | apply Za | apply Zab | refine Zag ?_ GE257.out | refine Zag ?_ GE258.out | refine Zag ?_ GE302.out) | exact HB.out)) hb)
    clear HO_7
    clear HO292
    clear HO295
    clear HO305
    clear BK257
    clear BK258
    clear BK302
    clear HB
    have HO_7 := n0_
    have HO292 := n1_
    have HO295 := n2_
    have HO305 := n3_
    have BK257 := n4_
    have BK258 := n5_
    have BK302 := n6_
    have HB := n7_
    clear n0_ n1_ n2_ n3_ n4_ n5_ n6_ n7_
    (try clear hb)
    (try clear hb2)
    (try clear hk)
    (try clear hi)
    refine hK.out _ _ ⟨(Zax BK302.out 0).trans rfl, (Zax BK302.out 1).trans rfl, (Zax BK302.out 2).trans rfl, (Zax BK302.out 3).trans rfl, (Zax BK302.out 4).trans rfl, (Zax BK302.out 5).trans rfl, (Zax BK302.out 6).trans rfl⟩ (fun hHeld => ?_)
    clear hK K
    refine Ze3 (a' := ?_) ?_ ?_
    rotate_left
    ·show Act.put _ (some 56) _ = _
     simp only [Act.put, List.setIfInBounds_toArray, List.set_cons_zero, List.set_cons_succ, Zbg, Zbj]
     rfl
    refine Zbt (i := 5) (N := some 57) (v := ?_) (a' := ?_) #[true, true, true, true, true, true, false, false, false] rfl rfl (Zbe HT_.out (by kernel_rfl)) (fun _ _ _ h => h) (Or.inl ⟨by rfl, ?_⟩) ?_ ?_
    rotate_left
    ·intro w'
     go_simp
     with_reducible rfl
    rotate_left
    ·simp only [Act.put, List.setIfInBounds_toArray, List.set_cons_zero, List.set_cons_succ, Zbg, Zbj]
     rfl
    refine Zbt (i := 6) (N := some 4) (v := ?_) (a' := ?_) #[true, true, true, true, true, true, true, false, false] rfl rfl (Zbe HT_.out (by kernel_rfl)) (fun _ _ _ h => h) (Or.inl ⟨by rfl, ?_⟩) ?_ ?_
    rotate_left
    ·intro w'
     go_simp
     with_reducible rfl
    rotate_left
    ·simp only [Act.put, List.setIfInBounds_toArray, List.set_cons_zero, List.set_cons_succ, Zbg, Zbj]
     rfl
    refine one_ (i := 7) (N := none) #[true, true, true, true, true, true, true, true, false] rfl rfl (Zdr HT_.out (by kernel_rfl)) (by decide) (fun K hK => ?_)
    have hs77 : w76.cell? ⟨gb258, 0, none⟩ = some (.int .i64 0) := (Zax BK258.out 0).trans rfl
    have hfs77 := Zb0 BK258.out 0
    have hns77_0 := NB257_258.out
    have hns77_2 := NB302_258.out
    have hms77_0 := NB258_257.out
    have hms77_2 := NB258_302.out
    have hs78 : w76.cell? ⟨gb258, 1, none⟩ = some (.slice none 0 0) := (Zax BK258.out 1).trans rfl
    have hfs78 := Zb0 BK258.out 1
    have hns78_0 := NB257_258.out
    have hns78_2 := NB302_258.out
    have hms78_0 := NB258_257.out
    have hms78_2 := NB258_302.out
    have hs79 : w76.cell? ⟨gb258, 2, none⟩ = some (.slice none 0 0) := (Zax BK258.out 2).trans rfl
    have hfs79 := Zb0 BK258.out 2
    have hns79_0 := NB257_258.out
    have hns79_2 := NB302_258.out
    have hms79_0 := NB258_257.out
    have hms79_2 := NB258_302.out
    have hs80 : w76.cell? ⟨gb258, 3, none⟩ = some (.int .i64 0) := (Zax BK258.out 3).trans rfl
    have hfs80 := Zb0 BK258.out 3
    have hns80_0 := NB257_258.out
    have hns80_2 := NB302_258.out
    have hms80_0 := NB258_257.out
    have hms80_2 := NB258_302.out
    have hs81 : w76.cell? ⟨gb258, 4, none⟩ = some (.int .i64 0) := (Zax BK258.out 4).trans rfl
    have hfs81 := Zb0 BK258.out 4
    have hns81_0 := NB257_258.out
    have hns81_2 := NB302_258.out
    have hms81_0 := NB258_257.out
    have hms81_2 := NB258_302.out
    have hs82 : w76.cell? ⟨gb258, 5, none⟩ = some (.slice none 0 0) := (Zax BK258.out 5).trans rfl
    have hfs82 := Zb0 BK258.out 5
    have hns82_0 := NB257_258.out
    have hns82_2 := NB302_258.out
    have hms82_0 := NB258_257.out
    have hms82_2 := NB258_302.out
    have hs83 : w76.cell? ⟨gb258, 6, none⟩ = some (.int .i64 0) := (Zax BK258.out 6).trans rfl
    have hfs83 := Zb0 BK258.out 6
    have hns83_0 := NB257_258.out
    have hns83_2 := NB302_258.out
    have hms83_0 := NB258_257.out
    have hms83_2 := NB258_302.out
    refine skip_ (w1 := ?_) (by rfl) rfl ?_ ?_
    rotate_left
    ·go_simp
     rfl
    refine hK.out _ _ ⟨((cell_far (p := ⟨gb258, _, none⟩) NB302_258.out _).trans (((cell_far (p := ⟨gb258, _, none⟩) NB302_258.out _).trans (((cell_far (p := ⟨gb258, _, none⟩) NB302_258.out _).trans (((cell_far (p := ⟨gb258, _, none⟩) NB302_258.out _).trans (((cell_far (p := ⟨gb258, _, none⟩) NB302_258.out _).trans (((cell_far (p := ⟨gb258, _, none⟩) NB302_258.out _).trans (((cell_far (p := ⟨gb258, _, none⟩) NB302_258.out _).trans (hHeld.1)))))))))))))), ((cell_far (p := ⟨gb258, _, none⟩) NB302_258.out _).trans (((cell_far (p := ⟨gb258, _, none⟩) NB302_258.out _).trans (((cell_far (p := ⟨gb258, _, none⟩) NB302_258.out _).trans (((cell_far (p := ⟨gb258, _, none⟩) NB302_258.out _).trans (((cell_far (p := ⟨gb258, _, none⟩) NB302_258.out _).trans (((cell_far (p := ⟨gb258, _, none⟩) NB302_258.out _).trans (((cell_far (p := ⟨gb258, _, none⟩) NB302_258.out _).trans (hHeld.2.1)))))))))))))), ((cell_far (p := ⟨gb258, _, none⟩) NB302_258.out _).trans (((cell_far (p := ⟨gb258, _, none⟩) NB302_258.out _).trans (((cell_far (p := ⟨gb258, _, none⟩) NB302_258.out _).trans (((cell_far (p := ⟨gb258, _, none⟩) NB302_258.out _).trans (((cell_far (p := ⟨gb258, _, none⟩) NB302_258.out _).trans (((cell_far (p := ⟨gb258, _, none⟩) NB302_258.out _).trans (((cell_far (p := ⟨gb258, _, none⟩) NB302_258.out _).trans (hHeld.2.2.1)))))))))))))), ((cell_far (p := ⟨gb258, _, none⟩) NB302_258.out _).trans (((cell_far (p := ⟨gb258, _, none⟩) NB302_258.out _).trans (((cell_far (p := ⟨gb258, _, none⟩) NB302_258.out _).trans (((cell_far (p := ⟨gb258, _, none⟩) NB302_258.out _).trans (((cell_far (p := ⟨gb258, _, none⟩) NB302_258.out _).trans (((cell_far (p := ⟨gb258, _, none⟩) NB302_258.out _).trans (((cell_far (p := ⟨gb258, _, none⟩) NB302_258.out _).trans (hHeld.2.2.2.1)))))))))))))), ((cell_far (p := ⟨gb258, _, none⟩) NB302_258.out _).trans (((cell_far (p := ⟨gb258, _, none⟩) NB302_258.out _).trans (((cell_far (p := ⟨gb258, _, none⟩) NB302_258.out _).trans (((cell_far (p := ⟨gb258, _, none⟩) NB302_258.out _).trans (((cell_far (p := ⟨gb258, _, none⟩) NB302_258.out _).trans (((cell_far (p := ⟨gb258, _, none⟩) NB302_258.out _).trans (((cell_far (p := ⟨gb258, _, none⟩) NB302_258.out _).trans (hHeld.2.2.2.2.1)))))))))))))), ((cell_far (p := ⟨gb258, _, none⟩) NB302_258.out _).trans (((cell_far (p := ⟨gb258, _, none⟩) NB302_258.out _).trans (((cell_far (p := ⟨gb258, _, none⟩) NB302_258.out _).trans (((cell_far (p := ⟨gb258, _, none⟩) NB302_258.out _).trans (((cell_far (p := ⟨gb258, _, none⟩) NB302_258.out _).trans (((cell_far (p := ⟨gb258, _, none⟩) NB302_258.out _).trans (((cell_far (p := ⟨gb258, _, none⟩) NB302_258.out _).trans (hHeld.2.2.2.2.2.1)))))))))))))), ((cell_far (p := ⟨gb258, _, none⟩) NB302_258.out _).trans (((cell_far (p := ⟨gb258, _, none⟩) NB302_258.out _).trans (((cell_far (p := ⟨gb258, _, none⟩) NB302_258.out _).trans (((cell_far (p := ⟨gb258, _, none⟩) NB302_258.out _).trans (((cell_far (p := ⟨gb258, _, none⟩) NB302_258.out _).trans (((cell_far (p := ⟨gb258, _, none⟩) NB302_258.out _).trans (((cell_far (p := ⟨gb258, _, none⟩) NB302_258.out _).trans (hHeld.2.2.2.2.2.2))))))))))))))⟩ (fun hHeld => ?_)
    clear hK K
    refine Zbt (i := 8) (N := some 6) (v := ?_) (a' := ?_) #[true, true, true, true, true, true, true, true, true] rfl rfl (Zbe HT_.out (by kernel_rfl)) (fun _ _ _ h => h) (Or.inl ⟨by rfl, ?_⟩) ?_ ?_
    rotate_left
    ·intro w'
     go_simp
     with_reducible rfl
    rotate_left
    ·simp only [Act.put, List.setIfInBounds_toArray, List.set_cons_zero, List.set_cons_succ, Zbg, Zbj]
     rfl
    refine Zep (Zdf HT_.out (by kernel_rfl)) ?_
    try go_wp2
    refine bodyPost_ret (Zec (rs := [.tmp 4, .cell 5 25, .tmp 6]) rfl (by simp) (.tmp (.cell gb258 25 #[.int .i64 a1, .slice Ao65 t290.length co65, .slice Ao66 t293.length co66, .int .i64 t296, .int .i64 t297, .slice Ao67 y303.length co67, .int .i64 t301] (0, 0) _ rfl (by (with_reducible repeat (first | refine Zaf ?_ _ | refine Zah ?_ | refine Zae ?_ _)); refine Zb5 (cs := #[.int .i64 a1, .slice Ao65 t290.length co65, .slice Ao66 t293.length co66, .int .i64 t296, .int .i64 t297, .slice Ao67 y303.length co67, .int .i64 0]) ?_ 6 _ rfl; (with_reducible repeat (first | refine Zaf ?_ _ | refine Zah ?_ | refine Zae ?_ _)); refine Zb5 (cs := #[.int .i64 a1, .slice Ao65 t290.length co65, .slice Ao66 t293.length co66, .int .i64 t296, .int .i64 t297, .slice none 0 0, .int .i64 0]) ?_ 5 _ rfl; (with_reducible repeat (first | refine Zaf ?_ _ | refine Zah ?_ | refine Zae ?_ _)); refine Zb5 (cs := #[.int .i64 a1, .slice Ao65 t290.length co65, .slice Ao66 t293.length co66, .int .i64 t296, .int .i64 0, .slice none 0 0, .int .i64 0]) ?_ 4 _ rfl; (with_reducible repeat (first | refine Zaf ?_ _ | refine Zah ?_ | refine Zae ?_ _)); refine Zb5 (cs := #[.int .i64 a1, .slice Ao65 t290.length co65, .slice Ao66 t293.length co66, .int .i64 0, .int .i64 0, .slice none 0 0, .int .i64 0]) ?_ 3 _ rfl; (with_reducible repeat (first | refine Zaf ?_ _ | refine Zah ?_ | refine Zae ?_ _)); refine Zb5 (cs := #[.int .i64 a1, .slice Ao65 t290.length co65, .slice none 0 0, .int .i64 0, .int .i64 0, .slice none 0 0, .int .i64 0]) ?_ 2 _ rfl; (with_reducible repeat (first | refine Zaf ?_ _ | refine Zah ?_ | refine Zae ?_ _)); refine Zb5 (cs := #[.int .i64 a1, .slice none 0 0, .slice none 0 0, .int .i64 0, .int .i64 0, .slice none 0 0, .int .i64 0]) ?_ 1 _ rfl; (with_reducible repeat (first | refine Zaf ?_ _ | refine Zah ?_ | refine Zae ?_ _)); refine Zb5 (cs := #[.int .i64 0, .slice none 0 0, .slice none 0 0, .int .i64 0, .int .i64 0, .slice none 0 0, .int .i64 0]) ?_ 0 _ rfl; (with_reducible repeat (first | refine Zaf ?_ _ | refine Zah ?_ | refine Zae ?_ _)); exact BK258.out) Try.underlying25 rfl (by kernel_rfl) (.tmp .nil)))) rfl ?_
    exact ⟨_, _, _, _, by first | rfl | (simp [Za3, Za4] <;> rfl) | (simp only [← hji54]; first | rfl | (simp [Za3, Za4] <;> rfl)) | (simp [*, Za3, Za4] <;> rfl), by (with_reducible repeat (first | apply Kd.Zbb | apply Kd.Zbc | apply Kd.Zbl)); exact Kd.Zcl (Kd.Zb1 (p := ⟨gb258, 6, none⟩) (Kd.Zb1 (p := ⟨gb258, 5, none⟩) (Kd.Zb1 (p := ⟨gb258, 4, none⟩) (Kd.Zb1 (p := ⟨gb258, 3, none⟩) (Kd.Zb1 (p := ⟨gb258, 2, none⟩) (Kd.Zb1 (p := ⟨gb258, 1, none⟩) (Kd.Zb1 (p := ⟨gb258, 0, none⟩) (Kd.Zco HO_7.out BK258.out (by decide)) (fun _ hk => hk.2) (.int .i64 a1)) (fun _ hk => hk.2) (.slice Ao65 t290.length co65)) (fun _ hk => hk.2) (.slice Ao66 t293.length co66)) (fun _ hk => hk.2) (.int .i64 t296)) (fun _ hk => hk.2) (.int .i64 t297)) (fun _ hk => hk.2) (.slice Ao67 y303.length co67)) (fun _ hk => hk.2) (.int .i64 t301)) (fun _ hk => trivial), by (with_reducible repeat (first | apply Kd.Zan | apply Kd.Zao | apply Kd.Zav)); exact Kd.Zbu (Kd.Zbv (p := ⟨gb258, 6, none⟩) (Kd.Zbv (p := ⟨gb258, 5, none⟩) (Kd.Zbv (p := ⟨gb258, 4, none⟩) (Kd.Zbv (p := ⟨gb258, 3, none⟩) (Kd.Zbv (p := ⟨gb258, 2, none⟩) (Kd.Zbv (p := ⟨gb258, 1, none⟩) (Kd.Zbv (p := ⟨gb258, 0, none⟩) (Kd.Zch HO292.out BK258.out (by decide)) (fun _ hk => hk.2) (.int .i64 a1)) (fun _ hk => hk.2) (.slice Ao65 t290.length co65)) (fun _ hk => hk.2) (.slice Ao66 t293.length co66)) (fun _ hk => hk.2) (.int .i64 t296)) (fun _ hk => hk.2) (.int .i64 t297)) (fun _ hk => hk.2) (.slice Ao67 y303.length co67)) (fun _ hk => hk.2) (.int .i64 t301)) (fun _ hk => hk.1), by (with_reducible repeat (first | apply Kd.Zan | apply Kd.Zao | apply Kd.Zav)); exact Kd.Zbu (Kd.Zbv (p := ⟨gb258, 6, none⟩) (Kd.Zbv (p := ⟨gb258, 5, none⟩) (Kd.Zbv (p := ⟨gb258, 4, none⟩) (Kd.Zbv (p := ⟨gb258, 3, none⟩) (Kd.Zbv (p := ⟨gb258, 2, none⟩) (Kd.Zbv (p := ⟨gb258, 1, none⟩) (Kd.Zbv (p := ⟨gb258, 0, none⟩) (Kd.Zch HO295.out BK258.out (by decide)) (fun _ hk => hk.2) (.int .i64 a1)) (fun _ hk => hk.2) (.slice Ao65 t290.length co65)) (fun _ hk => hk.2) (.slice Ao66 t293.length co66)) (fun _ hk => hk.2) (.int .i64 t296)) (fun _ hk => hk.2) (.int .i64 t297)) (fun _ hk => hk.2) (.slice Ao67 y303.length co67)) (fun _ hk => hk.2) (.int .i64 t301)) (fun _ hk => hk.1), by (with_reducible repeat (first | apply Kd.Zbb | apply Kd.Zbc | apply Kd.Zbl)); exact Kd.Zcl (Kd.Zb1 (p := ⟨gb258, 6, none⟩) (Kd.Zb1 (p := ⟨gb258, 5, none⟩) (Kd.Zb1 (p := ⟨gb258, 4, none⟩) (Kd.Zb1 (p := ⟨gb258, 3, none⟩) (Kd.Zb1 (p := ⟨gb258, 2, none⟩) (Kd.Zb1 (p := ⟨gb258, 1, none⟩) (Kd.Zb1 (p := ⟨gb258, 0, none⟩) (Kd.Zco HO305.out BK258.out (by decide)) (fun _ hk => hk.2) (.int .i64 a1)) (fun _ hk => hk.2) (.slice Ao65 t290.length co65)) (fun _ hk => hk.2) (.slice Ao66 t293.length co66)) (fun _ hk => hk.2) (.int .i64 t296)) (fun _ hk => hk.2) (.int .i64 t297)) (fun _ hk => hk.2) (.slice Ao67 y303.length co67)) (fun _ hk => hk.2) (.int .i64 t301)) (fun _ hk => ⟨hk.1.1, hk.1.2⟩), by repeat (first | (with_reducible first | exact HB.out | apply Zac | apply Za | apply Zab | refine Zag ?_ GE257.out | refine Zag ?_ GE258.out | refine Zag ?_ GE302.out) | exact HB.out)⟩
   rw [if_pos c7] at H
   have c7b0 : decide (x8_1 < (l0_0.length : Int)) = true := decide_eq_true c7
   clear c7
   by_cases c8 : x8_1 < 4
   ·rw [if_pos c8] at H
    have c8b0 : decide (x8_1 < 4) = true := decide_eq_true c8
    clear c8
    by_cases c9 : 0 ≤ x8_1
    rotate_left
    ·rw [if_neg c9] at H
     exact absurd H (by simp)
    rw [if_pos c9] at H
    have c9b0 : decide (0 ≤ x8_1) = true := decide_eq_true c9
    clear c9
    obtain ⟨ji10, hji10⟩ : ∃ j_ : Int, (mn ((Zbx l0_0 x8_1).length : Int) 6) = j_ := ⟨_, rfl⟩
    replace H : (if 0 ≤ (ji10) then (if (ji10) ≤ ((Zbx l0_0 x8_1).length : Int) then ((Za7.f k1 ((Zbx l0_0 x8_1).take ((ji10) : Int).toNat)).bind fun t265 => (if x7_1.length < 5864062014805 then (Zap.l0 k1 a1 (x7_1 ++ [t265]) (wrap64 (x8_1 + 1)) l0_0 a0_1 l0_2 l0_3 a0_4 a0_5 l0_6 a0_7 l0_8 l0_9) else (none))) else (none)) else (none)) = some (r1, r2, r3, r4, r5, r6, r7, r8, r9) := by first | (rw [hji10] at H; exact H) | (simp only [hji10] at H ⊢; exact H)
    have hji10_ : (if 6 < ((Zbx l0_0 x8_1).length : Int) then 6 else ((Zbx l0_0 x8_1).length : Int)) = ji10 := hji10
    by_cases c11 : 0 ≤ (ji10)
    rotate_left
    ·rw [if_neg c11] at H
     exact absurd H (by simp)
    rw [if_pos c11] at H
    have c11b0 := eq_true c11
    have c11b1 : decide (0 ≤ (ji10)) = true := decide_eq_true c11
    clear c11
    by_cases c12 : (ji10) ≤ ((Zbx l0_0 x8_1).length : Int)
    rotate_left
    ·rw [if_neg c12] at H
     exact absurd H (by simp)
    rw [if_pos c12] at H
    have c12b0 := eq_true c12
    have c12b1 : decide ((ji10) ≤ ((Zbx l0_0 x8_1).length : Int)) = true := decide_eq_true c12
    clear c12
    replace H := Option.bind_eq_some_iff.mp H
    obtain ⟨t265, A130, H⟩ := H
    replace H : (if x7_1.length < 5864062014805 then (Zap.l0 k1 a1 (x7_1 ++ [t265]) (wrap64 (x8_1 + 1)) l0_0 a0_1 l0_2 l0_3 a0_4 a0_5 l0_6 a0_7 l0_8 l0_9) else (none)) = some (r1, r2, r3, r4, r5, r6, r7, r8, r9) := H
    have A13 := Zaa.mk A130
    clear A130
    by_cases c14 : x7_1.length < 5864062014805
    rotate_left
    ·rw [if_neg c14] at H
     exact absurd H (by simp)
    rw [if_pos c14] at H
    have LMc14 := Zaa.mk c14
    clear c14
    obtain ⟨y268, hy268⟩ : ∃ y_ : List (List (S41)), y_ = (x7_1 ++ [t265]) := ⟨_, rfl⟩
    replace H : (Zap.l0 k1 a1 y268 (wrap64 (x8_1 + 1)) l0_0 a0_1 l0_2 l0_3 a0_4 a0_5 l0_6 a0_7 l0_8 l0_9) = some (r1, r2, r3, r4, r5, r6, r7, r8, r9) := by first | (rw [hy268]; with_reducible exact H) | (have H2_ := (Option.bind_some _ _).symm.trans H; rw [hy268]; with_reducible exact H2_) | (have H2_ := (Option.bind_some _ _).symm.trans H; with_reducible exact H2_) | with_reducible exact H | (rw [hy268]; exact H) | exact H
    have Ny268 := Zaa.mk hy268
    clear hy268
    have H' := Zaa.mk H
    clear H
    have hnb15 := NB257_258.out
    have hnc15 := NB258_257.out
    obtain ⟨hcz16_0, hcz16_1, hcz16_2, hcz16_3, hcz16_4, hcz16_5, hcz16_6, hcz16_7, hcz16_8, hcz16_9, hfz16_0, hfz16_1, hfz16_2, hfz16_3, hfz16_4, hfz16_5, hfz16_6, hfz16_7, hfz16_8, hfz16_9⟩ := Zf5 BK257.out
    try go_wp2
    have n0_ := Zaa.mk (Kd.Zbl HO_7.out)
    have n1_ := Zaa.mk (Zah BK257.out)
    have n2_ := Zaa.mk (Zah BK258.out)
    have n3_ := Zaa.mk (Zab HB.out)
    clear HO_7
    clear BK257
    clear BK258
    clear HB
    have HO_7 := n0_
    have BK257 := n1_
    have BK258 := n2_
    have HB := n3_
    clear n0_ n1_ n2_ n3_
    have p262 : 0 ≤ (x8_1 : Int) := of_decide_eq_true (by first | (with_reducible assumption) | assumption)
    have q262 : x8_1 < (l0_0.length : Int) := of_decide_eq_true (by first | (with_reducible assumption) | assumption)
    obtain ⟨ad262, A262_0, c262_0, e262, hx262_0, hl262_0, hi262_0⟩ := Zdy HR0_0.out x8_1 p262 q262
    have hw262_0 := hx262_0
    cases e262
    replace hx262_0 := (HB.out.cell (World.block_lt_of_cell? w _ hx262_0)).trans hx262_0
    have HR262_0 := Zaa.mk hi262_0
    have HC262_0 := Zaa.mk hl262_0
    clear hi262_0 hl262_0
    replace p262 := eq_true p262
    replace q262 := eq_true q262
    have p263 : 0 ≤ (x8_1 : Int) := of_decide_eq_true (by first | (with_reducible assumption) | assumption)
    have q263 : x8_1 < (l0_0.length : Int) := of_decide_eq_true (by first | (with_reducible assumption) | assumption)
    obtain ⟨ad263, A263_0, c263_0, e263, hx263_0, hl263_0, hi263_0⟩ := Zdy HR0_0.out x8_1 p263 q263
    have hw263_0 := hx263_0
    obtain rfl : ad262 = ad263 := (by injection e263)
    replace hx263_0 := (HB.out.cell (World.block_lt_of_cell? w _ hx263_0)).trans hx263_0
    have HR263_0 := Zaa.mk hi263_0
    have HC263_0 := Zaa.mk hl263_0
    clear hi263_0 hl263_0
    replace p263 := eq_true p263
    replace q263 := eq_true q263
    have ea_ := Option.some.inj (hx262_0.symm.trans hx263_0)
    injection ea_ with ea_ en_ ec_
    subst ea_
    subst ec_
    clear en_
    obtain ⟨i018, hi018, _, hsz18, _⟩ := info_parts info3
    obtain ⟨hcut18, hA18, hC18⟩ := print_take_of (P := Try.prog) (Value.int .i64) 0 23 3 .i64 Try.underlying23 hi018 hsz18 A262_0 c262_0 (Zbx l0_0 x8_1) (ji10) (of_decide_eq_true (by first | (with_reducible assumption) | assumption)) (of_decide_eq_true (by first | (with_reducible assumption) | assumption)) HC262_0.out
    have HR264 := Zaa.mk (Kd.C_of_reads (h1 := fun _ => rfl) (hA18 _ (Kd.Zf9 HR262_0.out)))
    have HC264 := Zaa.mk hC18
    clear hA18 hC18 hi018 hsz18
    refine Zdw (n := 18) (S := fun w' => w'.cell? ⟨gb257, 0, none⟩ = some (.slice (some ad262) l0_0.length c0_0) ∧ w'.cell? ⟨gb257, 1, none⟩ = some (.int .i64 a0_1) ∧ w'.cell? ⟨gb257, 2, none⟩ = some (.slice A0_2 l0_2.length c0_2) ∧ w'.cell? ⟨gb257, 3, none⟩ = some (.slice A0_3 l0_3.length c0_3) ∧ w'.cell? ⟨gb257, 4, none⟩ = some (.int .i64 a0_4) ∧ w'.cell? ⟨gb257, 5, none⟩ = some (.int .i64 a0_5) ∧ w'.cell? ⟨gb257, 6, none⟩ = some (.slice A0_6 l0_6.length c0_6) ∧ w'.cell? ⟨gb257, 7, none⟩ = some (.int .i64 a0_7) ∧ w'.cell? ⟨gb257, 8, none⟩ = some (.slice A0_8 l0_8.length c0_8) ∧ w'.cell? ⟨gb257, 9, none⟩ = some (.slice A0_9 l0_9.length c0_9) ∧ w'.cell? (ad262.add (x8_1).toNat) = some (.slice A262_0 (Zbx l0_0 x8_1).length c262_0) ∧ w'.cell? (ad262.add (x8_1).toNat) = some (.slice A262_0 (Zbx l0_0 x8_1).length c262_0)) (ds := []) #[false, false, false, false, false, false, false, false, false, false, false, false, false, false, false, false, false, false] (by kernel_rfl) rfl rfl ⟨(Zax BK257.out 0).trans rfl, (Zax BK257.out 1).trans rfl, (Zax BK257.out 2).trans rfl, (Zax BK257.out 3).trans rfl, (Zax BK257.out 4).trans rfl, (Zax BK257.out 5).trans rfl, (Zax BK257.out 6).trans rfl, (Zax BK257.out 7).trans rfl, (Zax BK257.out 8).trans rfl, (Zax BK257.out 9).trans rfl, ((HB.out.cell (World.block_lt_of_cell? w _ hw262_0)).trans hw262_0), ((HB.out.cell (World.block_lt_of_cell? w _ hw263_0)).trans hw263_0)⟩ (fun hHeld => ?_); refine Zcv Zap.tab5 Zap.bits5 (fun HT_ HW_ => ?_)
    generalize wr.drew = w17 at HO_7 BK257 BK258 HB HR262_0 HR263_0 HR264 hx262_0 hx263_0 hHeld ⊢
    refine Zbt (i := 0) (N := some 22) (v := ?_) (a' := ?_) #[true, false, false, false, false, false, false, false, false, false, false, false, false, false, false, false, false, false] rfl rfl (Zbe HT_.out (by kernel_rfl)) (fun _ _ _ h => h) (Or.inl ⟨by rfl, ?_⟩) ?_ ?_
    rotate_left
    ·intro w'
     go_simp
     with_reducible rfl
    rotate_left
    ·simp only [Act.put, List.setIfInBounds_toArray, List.set_cons_zero, List.set_cons_succ, Zbg, Zbj]
     rfl
    refine Zbt (i := 1) (N := some 23) (v := ?_) (a' := ?_) #[true, true, false, false, false, false, false, false, false, false, false, false, false, false, false, false, false, false] rfl rfl (Zbe HT_.out (by kernel_rfl)) (fun _ _ _ h => h) (Or.inl ⟨by rfl, ?_⟩) ?_ ?_
    rotate_left
    ·intro w'
     go_simp
     with_reducible rfl
    rotate_left
    ·simp only [Act.put, List.setIfInBounds_toArray, List.set_cons_zero, List.set_cons_succ, Zbg, Zbj]
     rfl
    refine Zbt (i := 3) (N := some 25) (v := ?_) (a' := ?_) #[true, true, false, true, false, false, false, false, false, false, false, false, false, false, false, false, false, false] rfl rfl (Zbe HT_.out (by kernel_rfl)) (fun _ _ _ h => h) (Or.inl ⟨by rfl, ?_⟩) ?_ ?_
    rotate_left
    ·intro w'
     go_simp
     with_reducible rfl
    rotate_left
    ·simp only [Act.put, List.setIfInBounds_toArray, List.set_cons_zero, List.set_cons_succ, Zbg, Zbj]
     rfl
    refine Zbt (i := 6) (N := some 28) (v := ?_) (a' := ?_) #[true, true, false, true, false, false, true, false, false, false, false, false, false, false, false, false, false, false] rfl rfl (Zbe HT_.out (by kernel_rfl)) (fun _ _ _ h => h) (Or.inl ⟨by rfl, ?_⟩) ?_ ?_
    rotate_left
    ·intro w'
     go_simp
     with_reducible rfl
    rotate_left
    ·simp only [Act.put, List.setIfInBounds_toArray, List.set_cons_zero, List.set_cons_succ, Zbg, Zbj]
     rfl
    refine Zbt (i := 8) (N := some 30) (v := ?_) (a' := ?_) #[true, true, false, true, false, false, true, false, true, false, false, false, false, false, false, false, false, false] rfl rfl (Zbe HT_.out (by kernel_rfl)) (fun _ _ _ h => h) (Or.inl ⟨by rfl, ?_⟩) ?_ ?_
    rotate_left
    ·intro w'
     go_simp
     with_reducible rfl
    rotate_left
    ·simp only [Act.put, List.setIfInBounds_toArray, List.set_cons_zero, List.set_cons_succ, Zbg, Zbj]
     rfl
    refine Zc5 (i := 2) (N := some 24) (v := ?_) (a' := ?_) #[true, true, true, true, false, false, true, false, true, false, false, false, false, false, false, false, false, false] rfl rfl (Zcb HT_.out HW_.out (by kernel_rfl)) (fun _ _ _ h => h) (Or.inl ⟨by rfl, ?_⟩) hHeld ?_ ?_
    rotate_left
    ·rintro w' ⟨s0, s1, s2, s3, s4, s5, s6, s7, s8, s9, s10, s11⟩
     go_simp
     with_reducible rfl
    rotate_left
    ·simp only [Act.put, List.setIfInBounds_toArray, List.set_cons_zero, List.set_cons_succ, Zbg, Zbj]
     rfl
    refine Zbt (i := 4) (N := some 26) (v := ?_) (a' := ?_) #[true, true, true, true, true, false, true, false, true, false, false, false, false, false, false, false, false, false] rfl rfl (Zbe HT_.out (by kernel_rfl)) (fun _ _ _ h => h) (Or.inl ⟨by rfl, ?_⟩) ?_ ?_
    rotate_left
    ·intro w'
     go_simp
     with_reducible rfl
    rotate_left
    ·simp only [Act.put, List.setIfInBounds_toArray, List.set_cons_zero, List.set_cons_succ, Zbg, Zbj]
     rfl
    refine Zc5 (i := 5) (N := some 27) (v := ?_) (a' := ?_) #[true, true, true, true, true, true, true, false, true, false, false, false, false, false, false, false, false, false] rfl rfl (Zcb HT_.out HW_.out (by kernel_rfl)) (fun _ _ _ h => h) (Or.inl ⟨by rfl, ?_⟩) hHeld ?_ ?_
    rotate_left
    ·rintro w' ⟨s0, s1, s2, s3, s4, s5, s6, s7, s8, s9, s10, s11⟩
     go_simp
     with_reducible rfl
    rotate_left
    ·simp only [Act.put, List.setIfInBounds_toArray, List.set_cons_zero, List.set_cons_succ, Zbg, Zbj]
     rfl
    refine Zc5 (i := 7) (N := some 29) (v := ?_) (a' := ?_) #[true, true, true, true, true, true, true, true, true, false, false, false, false, false, false, false, false, false] rfl rfl (Zcb HT_.out HW_.out (by kernel_rfl)) (fun _ _ _ h => h) (Or.inl ⟨by rfl, ?_⟩) hHeld ?_ ?_
    rotate_left
    ·rintro w' ⟨s0, s1, s2, s3, s4, s5, s6, s7, s8, s9, s10, s11⟩
     go_simp
     with_reducible rfl
    rotate_left
    ·simp only [Act.put, List.setIfInBounds_toArray, List.set_cons_zero, List.set_cons_succ, Zbg, Zbj]
     rfl
    refine Zbt (i := 9) (N := some 31) (v := ?_) (a' := ?_) #[true, true, true, true, true, true, true, true, true, true, false, false, false, false, false, false, false, false] rfl rfl (Zbe HT_.out (by kernel_rfl)) (fun _ _ _ h => h) (Or.inl ⟨by rfl, ?_⟩) ?_ ?_
    rotate_left
    ·intro w'
     go_simp
     with_reducible rfl
    rotate_left
    ·simp only [Act.put, List.setIfInBounds_toArray, List.set_cons_zero, List.set_cons_succ, Zbg, Zbj]
     rfl
    refine Zc5 (i := 10) (N := some 32) (v := ?_) (a' := ?_) #[true, true, true, true, true, true, true, true, true, true, true, false, false, false, false, false, false, false] rfl rfl (Zcb HT_.out HW_.out (by kernel_rfl)) (fun _ _ _ h => h) (Or.inl ⟨by rfl, ?_⟩) hHeld ?_ ?_
    rotate_left
    ·rintro w' ⟨s0, s1, s2, s3, s4, s5, s6, s7, s8, s9, s10, s11⟩
     go_simp
     with_reducible rfl
    rotate_left
    ·simp only [Act.put, List.setIfInBounds_toArray, List.set_cons_zero, List.set_cons_succ, Zbg, Zbj]
     rfl
    refine Zbt (i := 11) (N := some 33) (v := ?_) (a' := ?_) #[true, true, true, true, true, true, true, true, true, true, true, true, false, false, false, false, false, false] rfl rfl (Zbe HT_.out (by kernel_rfl)) (fun _ _ _ h => h) (Or.inl ⟨by rfl, ?_⟩) ?_ ?_
    rotate_left
    ·intro w'
     go_simp
     with_reducible rfl
    rotate_left
    ·simp only [Act.put, List.setIfInBounds_toArray, List.set_cons_zero, List.set_cons_succ, Zbg, Zbj]
     rfl
    refine Zbt (i := 12) (N := some 34) (v := ?_) (a' := ?_) #[true, true, true, true, true, true, true, true, true, true, true, true, true, false, false, false, false, false] rfl rfl (Zbe HT_.out (by kernel_rfl)) (fun _ _ _ h => h) (Or.inl ⟨by rfl, ?_⟩) ?_ ?_
    rotate_left
    ·intro w'
     go_simp
     with_reducible rfl
    rotate_left
    ·simp only [Act.put, List.setIfInBounds_toArray, List.set_cons_zero, List.set_cons_succ, Zbg, Zbj]
     rfl
    refine Zbt (i := 13) (N := some 35) (v := ?_) (a' := ?_) #[true, true, true, true, true, true, true, true, true, true, true, true, true, true, false, false, false, false] rfl rfl (Zbe HT_.out (by kernel_rfl)) (fun _ _ _ h => h) (Or.inl ⟨by rfl, ?_⟩) ?_ ?_
    rotate_left
    ·intro w'
     go_simp
     with_reducible rfl
    rotate_left
    ·simp only [Act.put, List.setIfInBounds_toArray, List.set_cons_zero, List.set_cons_succ, Zbg, Zbj]
     rfl
    refine one_ (i := 14) (N := some 36) #[true, true, true, true, true, true, true, true, true, true, true, true, true, true, true, false, false, false] rfl rfl (Zdr HT_.out (by kernel_rfl)) (by decide) (fun K hK => ?_)
    refine goes_ Try.func40 (by kernel_rfl) rfl #[.slice A262_0 ((Zbx l0_0 x8_1).take ((ji10) : Int).toNat).length c262_0] (by rfl) rfl rfl (by (try simp only [List.map_toArray, List.map_cons, List.map_nil]); first | done | (rw [show ((Zbx l0_0 x8_1).take ((ji10) : Int).toNat).length = (ji10).toNat from (by rw [List.length_take]; have h_ : ((ji10) : Int) ≤ ((Zbx l0_0 x8_1).length : Int) := of_decide_eq_true (by first | (with_reducible assumption) | assumption); omega)] <;> rfl) | (simp only [hji10]; rfl) | rfl | (simp only [List.length_drop, List.length_take]; rfl)) ?_
    with_reducible refine (Za7.calls k1 _ _ ((Zbx l0_0 x8_1).take ((ji10) : Int).toNat) t265 _ ?side1 ?side2 A13.out).mono ?_
    (case side1 => repeat (first | exact (Kd.Zbk HR264.out HB.out) | (with_reducible refine Kd.C_alloc ?_ _) | (with_reducible refine Kd.Za1 ?_ _) | (with_reducible refine Kd.Zbd ?_)))
    (case side2 => exact HC264.out)
    rintro e w19 ⟨v266, rfl, ho0, hb⟩
    refine ⟨_, rfl, ?_⟩
    have n0_ := Zaa.mk (Kd.Zde (by (with_reducible repeat (first | apply Kd.Zbb | apply Kd.Zbc | apply Kd.Zbl)); exact HO_7.out) (Kd.Zcw ho0) hb)
    have n1_ := Zaa.mk (Kd.Zb8 ho0 (Zal (by repeat (first | (with_reducible first | exact HB.out | apply Zac | apply Za | apply Zab | refine Zag ?_ GE257.out | refine Zag ?_ GE258.out) | exact HB.out))))
    have n2_ := Zaa.mk (Zbh (g := gb257) (o := .cells #[.slice (some ad262) l0_0.length c0_0, .int .i64 a0_1, .slice A0_2 l0_2.length c0_2, .slice A0_3 l0_3.length c0_3, .int .i64 a0_4, .int .i64 a0_5, .slice A0_6 l0_6.length c0_6, .int .i64 a0_7, .slice A0_8 l0_8.length c0_8, .slice A0_9 l0_9.length c0_9] 27 (0, 0)) (by (with_reducible repeat (first | refine Zaf ?_ _ | refine Zah ?_ | refine Zae ?_ _)); exact BK257.out) hb)
    have n3_ := Zaa.mk (Zbh (g := gb258) (o := .cells #[.int .i64 0, .slice none 0 0, .slice none 0 0, .int .i64 0, .int .i64 0, .slice none 0 0, .int .i64 0] 25 (0, 0)) (by (with_reducible repeat (first | refine Zaf ?_ _ | refine Zah ?_ | refine Zae ?_ _)); exact BK258.out) hb)
    have n4_ := Zaa.mk (Za2 (by repeat (first | (with_reducible first | exact HB.out | apply Zac | apply Za | apply Zab | refine Zag ?_ GE257.out | refine Zag ?_ GE258.out) | exact HB.out)) hb)
    clear HO_7
    clear BK257
    clear BK258
    clear HB
    have HO_7 := n0_
    have HO267 := n1_
    have BK257 := n2_
    have BK258 := n3_
    have HB := n4_
    clear n0_ n1_ n2_ n3_ n4_
    (try clear hb)
    (try clear hb2)
    (try clear hk)
    (try clear hi)
    (try clear ho0)
    obtain ⟨Ao21, co21, eo21⟩ := Kd.Zc HO267.out
    (first | subst eo21 | (injection eo21 with f1_ f2_ f3_; have f4_ := f1_.symm; have f5_ := f3_.symm; clear f1_ f2_ f3_; subst f4_; subst f5_))
    refine hK.out _ _ ⟨(Zax BK257.out 0).trans rfl, (Zax BK257.out 1).trans rfl, (Zax BK257.out 2).trans rfl, (Zax BK257.out 3).trans rfl, (Zax BK257.out 4).trans rfl, (Zax BK257.out 5).trans rfl, (Zax BK257.out 6).trans rfl, (Zax BK257.out 7).trans rfl, (Zax BK257.out 8).trans rfl, (Zax BK257.out 9).trans rfl, ((HB.out.cell (World.block_lt_of_cell? w _ hw262_0)).trans hw262_0), ((HB.out.cell (World.block_lt_of_cell? w _ hw263_0)).trans hw263_0)⟩ (fun hHeld => ?_)
    clear hK K
    refine Ze3 (a' := ?_) ?_ ?_
    rotate_left
    ·show Act.put _ (some 36) _ = _
     simp only [Act.put, List.setIfInBounds_toArray, List.set_cons_zero, List.set_cons_succ, Zbg, Zbj]
     rfl
    refine one_ (i := 15) (N := some 37) #[true, true, true, true, true, true, true, true, true, true, true, true, true, true, true, true, false, false] rfl rfl (Zdr HT_.out (by kernel_rfl)) (by decide) (fun K hK => ?_)
    refine value_ (w1 := ?_) (v := ?_) (by rfl) rfl ?_ ?_
    rotate_left 2
    ·go_simp
     constructor
     ·rfl
     rfl
    refine hK.out _ _ ⟨(Zax (Zae BK257.out _) 0).trans rfl, (Zax (Zae BK257.out _) 1).trans rfl, (Zax (Zae BK257.out _) 2).trans rfl, (Zax (Zae BK257.out _) 3).trans rfl, (Zax (Zae BK257.out _) 4).trans rfl, (Zax (Zae BK257.out _) 5).trans rfl, (Zax (Zae BK257.out _) 6).trans rfl, (Zax (Zae BK257.out _) 7).trans rfl, (Zax (Zae BK257.out _) 8).trans rfl, (Zax (Zae BK257.out _) 9).trans rfl, (World.cell?_alloc_lt _ _ _ (World.block_lt_of_cell? _ _ (((HB.out.cell (World.block_lt_of_cell? w _ hw262_0)).trans hw262_0)))).trans (((HB.out.cell (World.block_lt_of_cell? w _ hw262_0)).trans hw262_0)), (World.cell?_alloc_lt _ _ _ (World.block_lt_of_cell? _ _ (((HB.out.cell (World.block_lt_of_cell? w _ hw263_0)).trans hw263_0)))).trans (((HB.out.cell (World.block_lt_of_cell? w _ hw263_0)).trans hw263_0))⟩ (fun hHeld => ?_)
    clear hK K
    refine Ze3 (a' := ?_) ?_ ?_
    rotate_left
    ·show Act.put _ (some 37) _ = _
     simp only [Act.put, List.setIfInBounds_toArray, List.set_cons_zero, List.set_cons_succ, Zbg, Zbj]
     rfl
    refine one_ (i := 16) (N := some 38) #[true, true, true, true, true, true, true, true, true, true, true, true, true, true, true, true, true, false] rfl rfl (Zdr HT_.out (by kernel_rfl)) (by decide) (fun K hK => ?_)
    refine Kd.S_append_step (Kd.slice 41 k41) (w0 := w) w.heap.size (by rfl) (.tmp 22) (.tmp 37) 28 39 (.slice none 0 0) 24 rfl Try.underlying28 info39 rfl (by decide) (by omega) u7 x7_1 t265 [.slice Ao21 t265.length co21] (fun _ => True) (fun k_ => some k_ = (.slice Ao21 t265.length co21 : Value).ownBlock) rfl rfl ?aP (fun k_ hk_ => ((Kd.Zbu (ok' := fun k_ => ((fun _ => True)) k_ ∧ some k_ ≠ (u7 : Value).ownBlock) (Kd.Zc8 (HO267.out) (Kd.Zc9 HO_7.out) (by decide)) (fun k_ hk => ⟨trivial, hk.2⟩))).1 k_ hk_.symm) ?aF ?aO ?aB ?aS ?aL ?_
    (case aP => exact Kd.M_row (Kd.Zbu (Kd.Ze1 rfl (Kd.Zbu (ok' := fun k_ => ((fun _ => True)) k_ ∧ some k_ ≠ (u7 : Value).ownBlock) (Kd.Zc8 (HO267.out) (Kd.Zc9 HO_7.out) (by decide)) (fun k_ hk => ⟨trivial, hk.2⟩))) (fun _ h_ => h_)))
    (case aB => exact (by repeat (first | (with_reducible first | exact HB.out | apply Zac | apply Za | apply Zab | refine Zag ?_ GE257.out | refine Zag ?_ GE258.out) | exact HB.out)))
    (case aF => exact (fun _ _ => trivial))
    (case aO => exact (by (with_reducible repeat (first | apply Kd.Zbb | apply Kd.Zbc | apply Kd.Zbl)); exact Kd.Zcl HO_7.out (fun k_ hk => ⟨trivial, fun e_ => hk.2 e_⟩)))
    (case aS => exact (Zal (by repeat (first | (with_reducible first | exact HB.out | apply Zac | apply Za | apply Zab | refine Zag ?_ GE257.out | refine Zag ?_ GE258.out) | exact HB.out))))
    (case aL => have := LMc14.out; omega)
    intro v269 w20 ho hb hg hat
    rw [← Ny268.out] at ho
    have n0_ := Zaa.mk (Zc2 (g := gb257) (o := .cells #[.slice (some ad262) l0_0.length c0_0, .int .i64 a0_1, .slice A0_2 l0_2.length c0_2, .slice A0_3 l0_3.length c0_3, .int .i64 a0_4, .int .i64 a0_5, .slice A0_6 l0_6.length c0_6, .int .i64 a0_7, .slice A0_8 l0_8.length c0_8, .slice A0_9 l0_9.length c0_9] 27 (0, 0)) (by (with_reducible repeat (first | refine Zaf ?_ _ | refine Zah ?_ | refine Zae ?_ _)); exact BK257.out) hg (Kd.S_ne HO_7.out BK257.out (by decide)))
    have n1_ := Zaa.mk (Zc2 (g := gb258) (o := .cells #[.int .i64 0, .slice none 0 0, .slice none 0 0, .int .i64 0, .int .i64 0, .slice none 0 0, .int .i64 0] 25 (0, 0)) (by (with_reducible repeat (first | refine Zaf ?_ _ | refine Zah ?_ | refine Zae ?_ _)); exact BK258.out) hg (Kd.S_ne HO_7.out BK258.out (by decide)))
    have n2_ := Zaa.mk (hb)
    have n3_ := Zaa.mk (ho)
    clear BK257
    clear BK258
    clear HB
    clear HO_7
    clear HO267
    have BK257 := n0_
    have BK258 := n1_
    have HB := n2_
    have HO270 := n3_
    clear n0_ n1_ n2_ n3_
    clear ho hb hg hat
    refine hK.out _ _ ⟨(Zax BK257.out 0).trans rfl, (Zax BK257.out 1).trans rfl, (Zax BK257.out 2).trans rfl, (Zax BK257.out 3).trans rfl, (Zax BK257.out 4).trans rfl, (Zax BK257.out 5).trans rfl, (Zax BK257.out 6).trans rfl, (Zax BK257.out 7).trans rfl, (Zax BK257.out 8).trans rfl, (Zax BK257.out 9).trans rfl, ((HB.out.cell (World.block_lt_of_cell? w _ hw262_0)).trans hw262_0), ((HB.out.cell (World.block_lt_of_cell? w _ hw263_0)).trans hw263_0)⟩ (fun hHeld => ?_)
    clear hK K
    refine Ze3 (a' := ?_) ?_ ?_
    rotate_left
    ·show Act.put _ (some 38) _ = _
     simp only [Act.put, List.setIfInBounds_toArray, List.set_cons_zero, List.set_cons_succ, Zbg, Zbj]
     rfl
    refine Zbt (i := 17) (N := some 7) (v := ?_) (a' := ?_) #[true, true, true, true, true, true, true, true, true, true, true, true, true, true, true, true, true, true] rfl rfl (Zbe HT_.out (by kernel_rfl)) (fun _ _ _ h => h) (Or.inl ⟨by rfl, ?_⟩) ?_ ?_
    rotate_left
    ·intro w'
     go_simp
     with_reducible rfl
    rotate_left
    ·simp only [Act.put, List.setIfInBounds_toArray, List.set_cons_zero, List.set_cons_succ, Zbg, Zbj]
     rfl
    refine Zep (Zdf HT_.out (by kernel_rfl)) ?_
    try go_wp2
    go_roundg k1
    case measure => have := HK1.out; omega
    case rel => exact ⟨(y268), (wrap64 (x8_1 + 1)), (by first | rfl | (simp; done) | (simp [*]; done)), H', ⟨by have := HK1.out; omega⟩, ⟨by (with_reducible repeat (first | apply Kd.Zbb | apply Kd.Zbc | apply Kd.Zbl)); exact HO270.out⟩, ⟨by (with_reducible repeat (first | refine Zaf ?_ _ | refine Zah ?_ | refine Zae ?_ _)); exact BK257.out⟩, ⟨by (with_reducible repeat (first | refine Zaf ?_ _ | refine Zah ?_ | refine Zae ?_ _)); exact BK258.out⟩, ⟨by repeat (first | (with_reducible first | exact HB.out | apply Zac | apply Za | apply Zab | refine Zag ?_ GE257.out | refine Zag ?_ GE258.out) | exact HB.out)⟩⟩
   rw [if_neg c8] at H
   have c8b0 : decide (x8_1 < 4) = false := decide_eq_false c8
   clear c8
   replace H := Option.bind_eq_some_iff.mp H
   obtain ⟨⟨t271, t272, t275, t278, t279, t280, t283⟩, A220, H⟩ := H
   replace H : (if 0 ≤ (mn (t280.length : Int) 20) then (if (mn (t280.length : Int) 20) ≤ (t280.length : Int) then ((some (t280.take ((mn (t280.length : Int) 20) : Int).toNat : List (List Int))).bind fun y285 => ((Zas.f k1 x7_1 a1 t272 t275 t278 t279 y285 t283).bind fun t288 => (some (x7_1, a1, t272, t275, t278, t279, y285, t283, (t288 == 0))))) else (none)) else (none)) = some (r1, r2, r3, r4, r5, r6, r7, r8, r9) := H
   have A22 := Zaa.mk A220
   clear A220
   obtain ⟨ji23, hji23⟩ : ∃ j_ : Int, (mn (t280.length : Int) 20) = j_ := ⟨_, rfl⟩
   replace H : (if 0 ≤ (ji23) then (if (ji23) ≤ (t280.length : Int) then ((some (t280.take ((ji23) : Int).toNat : List (List Int))).bind fun y285 => ((Zas.f k1 x7_1 a1 t272 t275 t278 t279 y285 t283).bind fun t288 => (some (x7_1, a1, t272, t275, t278, t279, y285, t283, (t288 == 0))))) else (none)) else (none)) = some (r1, r2, r3, r4, r5, r6, r7, r8, r9) := by first | (rw [hji23] at H; exact H) | (simp only [hji23] at H ⊢; exact H)
   (try rw [hji23] at A22)
   (try (have hji23h : ji23 ≤ 20 := by (rw [← hji23]; unfold mn; (repeat' split) <;> omega)))
   (try (have hji23g : ji23 ≤ 64 := by omega))
   (try (have hji23l : 0 ≤ ji23 := by (rw [← hji23]; unfold mn; (repeat' split) <;> omega)))
   (try (have hji23m : 0 ≤ ji23 := by omega))
   have hji23_ : (if 20 < (t280.length : Int) then 20 else (t280.length : Int)) = ji23 := hji23
   by_cases c24 : 0 ≤ (ji23)
   rotate_left
   ·rw [if_neg c24] at H
    exact absurd H (by simp)
   rw [if_pos c24] at H
   have c24b0 := eq_true c24
   have c24b1 : decide (0 ≤ (ji23)) = true := decide_eq_true c24
   clear c24
   by_cases c25 : (ji23) ≤ (t280.length : Int)
   rotate_left
   ·rw [if_neg c25] at H
    exact absurd H (by simp)
   rw [if_pos c25] at H
   have c25b0 := eq_true c25
   have c25b1 : decide ((ji23) ≤ (t280.length : Int)) = true := decide_eq_true c25
   clear c25
   obtain ⟨y285, hy285⟩ : ∃ y_ : List (List Int), y_ = (t280.take ((ji23) : Int).toNat) := ⟨_, rfl⟩
   replace H : ((Zas.f k1 x7_1 a1 t272 t275 t278 t279 y285 t283).bind fun t288 => (some (x7_1, a1, t272, t275, t278, t279, y285, t283, (t288 == 0)))) = some (r1, r2, r3, r4, r5, r6, r7, r8, r9) := by first | (rw [hy285]; with_reducible exact H) | (have H2_ := (Option.bind_some _ _).symm.trans H; rw [hy285]; with_reducible exact H2_) | (have H2_ := (Option.bind_some _ _).symm.trans H; with_reducible exact H2_) | with_reducible exact H | (rw [hy285]; exact H) | exact H
   have Ny285 := Zaa.mk hy285
   clear hy285
   replace H := Option.bind_eq_some_iff.mp H
   obtain ⟨t288, A260, H⟩ := H
   replace H : (some (x7_1, a1, t272, t275, t278, t279, y285, t283, (t288 == 0))) = some (r1, r2, r3, r4, r5, r6, r7, r8, r9) := H
   have A26 := Zaa.mk A260
   clear A260
   simp only [Option.some.injEq, Prod.mk.injEq] at H
   obtain ⟨rfl, rfl, rfl, rfl, rfl, rfl, rfl, rfl, rfl⟩ := H
   have hnb27 := NB257_258.out
   have hnc27 := NB258_257.out
   obtain ⟨hcz28_0, hcz28_1, hcz28_2, hcz28_3, hcz28_4, hcz28_5, hcz28_6, hcz28_7, hcz28_8, hcz28_9, hfz28_0, hfz28_1, hfz28_2, hfz28_3, hfz28_4, hfz28_5, hfz28_6, hfz28_7, hfz28_8, hfz28_9⟩ := Zf5 BK257.out
   try go_wp2_with (first | ((with_reducible refine Zbr (f := 26) rfl ?_); refine Zci (some 41) rfl rfl Try.func26 (by kernel_rfl) rfl #[.agg #[.int .i64 a0_1, .slice A0_2 l0_2.length c0_2, .slice A0_3 l0_3.length c0_3, .int .i64 a0_4, .int .i64 a0_5, .slice A0_6 l0_6.length c0_6, .int .i64 a0_7]] rfl (by (try simp only [List.map_toArray, List.map_cons, List.map_nil]); first | done | rfl | (simp only [List.length_drop, List.length_take]; rfl)) ?_; (with_reducible refine (Zby.calls k1 a0_1 _ _ l0_2 _ _ l0_3 a0_4 a0_5 _ _ l0_6 a0_7 t271 t272 t275 t278 t279 t280 t283 _ ?side1 ?side2 ?side3 ?side4 ?side5 ?side6 A22.out).mono ?_); (case side1 => repeat (first | exact (Kd.Zbk HR0_2.out HB.out) | (with_reducible refine Kd.C_alloc ?_ _) | (with_reducible refine Kd.Za1 ?_ _) | (with_reducible refine Kd.Zbd ?_))); (case side2 => exact HC0_2.out); (case side3 => repeat (first | exact (Kd.Zbk HR0_3.out HB.out) | (with_reducible refine Kd.C_alloc ?_ _) | (with_reducible refine Kd.Za1 ?_ _) | (with_reducible refine Kd.Zbd ?_))); (case side4 => exact HC0_3.out); (case side5 => repeat (first | exact (Kd.Zbk HR0_6.out HB.out) | (with_reducible refine Kd.C_alloc ?_ _) | (with_reducible refine Kd.Za1 ?_ _) | (with_reducible refine Kd.Zbd ?_))); (case side6 => exact HC0_6.out); rintro e w29 ⟨v273, v276, v281, rfl, ho0, ho1, ho2, hb⟩; refine ⟨_, rfl, ?_⟩; have n0_ := Zaa.mk (Kd.Zce (by (with_reducible repeat (first | apply Kd.Zbb | apply Kd.Zbc | apply Kd.Zbl)); exact HO_7.out) hb); have n1_ := Zaa.mk (Kd.Zb8 ho0 (Zal (by repeat (first | (with_reducible first | exact HB.out | apply Zac | apply Za | apply Zab | refine Zag ?_ GE257.out | refine Zag ?_ GE258.out) | exact HB.out)))); have n2_ := Zaa.mk (Kd.Zb8 ho1 (Zal (by repeat (first | (with_reducible first | exact HB.out | apply Zac | apply Za | apply Zab | refine Zag ?_ GE257.out | refine Zag ?_ GE258.out) | exact HB.out)))); have n3_ := Zaa.mk (Kd.Zdh ho2 (Zal (by repeat (first | (with_reducible first | exact HB.out | apply Zac | apply Za | apply Zab | refine Zag ?_ GE257.out | refine Zag ?_ GE258.out) | exact HB.out)))); have n4_ := Zaa.mk (Zbh (g := gb257) (o := .cells #[.slice A0_0 l0_0.length c0_0, .int .i64 a0_1, .slice A0_2 l0_2.length c0_2, .slice A0_3 l0_3.length c0_3, .int .i64 a0_4, .int .i64 a0_5, .slice A0_6 l0_6.length c0_6, .int .i64 a0_7, .slice A0_8 l0_8.length c0_8, .slice A0_9 l0_9.length c0_9] 27 (0, 0)) (by (with_reducible repeat (first | refine Zaf ?_ _ | refine Zah ?_ | refine Zae ?_ _)); exact BK257.out) hb); have n5_ := Zaa.mk (Zbh (g := gb258) (o := .cells #[.int .i64 0, .slice none 0 0, .slice none 0 0, .int .i64 0, .int .i64 0, .slice none 0 0, .int .i64 0] 25 (0, 0)) (by (with_reducible repeat (first | refine Zaf ?_ _ | refine Zah ?_ | refine Zae ?_ _)); exact BK258.out) hb); have n6_ := Zaa.mk (Za2 (by repeat (first | (with_reducible first | exact HB.out | apply Zac | apply Za | apply Zab | refine Zag ?_ GE257.out | refine Zag ?_ GE258.out) | exact HB.out)) hb); clear HO_7; clear BK257; clear BK258; clear HB; have HO_7 := n0_; have HO274 := n1_; have HO277 := n2_; have HO282 := n3_; have BK257 := n4_; have BK258 := n5_; have HB := n6_; clear n0_ n1_ n2_ n3_ n4_ n5_ n6_; (try clear hb); (try clear hb2); (try clear hk); (try clear hi); (try clear ho0); (try clear ho1); (try clear ho2)) | ((with_reducible refine Zb3 (N := 9) rfl ?_); refine Zcf ?hg (N := 9) ?hd (cs := #[.int .i64 0, .slice none 0 0, .slice none 0 0, .int .i64 0, .int .i64 0, .slice none 0 0, .int .i64 0]) (t := 25) ?hr ?_; (case hd => rfl); (case hg => rfl); (case hr => first | (go_simp; done) | (go_simp; rfl)); intro gb284 hg w30 hbox hb; have n0_ := Zaa.mk (Kd.Zce (by (with_reducible repeat (first | apply Kd.Zbb | apply Kd.Zbc | apply Kd.Zbl)); exact HO_7.out) hb); have n1_ := Zaa.mk (Kd.Zca (by (with_reducible repeat (first | apply Kd.Zan | apply Kd.Zao | apply Kd.Zav)); exact HO274.out) hb); have n2_ := Zaa.mk (Kd.Zca (by (with_reducible repeat (first | apply Kd.Zan | apply Kd.Zao | apply Kd.Zav)); exact HO277.out) hb); have n3_ := Zaa.mk (Kd.Zce (by (with_reducible repeat (first | apply Kd.Zbb | apply Kd.Zbc | apply Kd.Zbl)); exact HO282.out) hb); have n4_ := Zaa.mk (Zbh (g := gb257) (o := .cells #[.slice A0_0 l0_0.length c0_0, .int .i64 a0_1, .slice A0_2 l0_2.length c0_2, .slice A0_3 l0_3.length c0_3, .int .i64 a0_4, .int .i64 a0_5, .slice A0_6 l0_6.length c0_6, .int .i64 a0_7, .slice A0_8 l0_8.length c0_8, .slice A0_9 l0_9.length c0_9] 27 (0, 0)) (by (with_reducible repeat (first | refine Zaf ?_ _ | refine Zah ?_ | refine Zae ?_ _)); exact BK257.out) hb); have n5_ := Zaa.mk (Zbh (g := gb258) (o := .cells #[.int .i64 0, .slice none 0 0, .slice none 0 0, .int .i64 0, .int .i64 0, .slice none 0 0, .int .i64 0] 25 (0, 0)) (by (with_reducible repeat (first | refine Zaf ?_ _ | refine Zah ?_ | refine Zae ?_ _)); exact BK258.out) hb); have n6_ := Zaa.mk (Za2 (by repeat (first | (with_reducible first | exact HB.out | apply Zac | apply Za | apply Zab | refine Zag ?_ GE257.out | refine Zag ?_ GE258.out) | exact HB.out)) hb); have n7_ := Zaa.mk (hbox); have n8_ := Zaa.mk ((by rw [hg]; exact (Zal (by repeat (first | (with_reducible first | exact HB.out | apply Zac | apply Za | apply Zab | refine Zag ?_ GE257.out | refine Zag ?_ GE258.out) | exact HB.out))) : w.heap.size ≤ gb284)); have n9_ := Zaa.mk ((by rw [hg]; exact (Zal (by repeat (first | (with_reducible first | exact HB.out | apply Zac | apply Za | apply Zab | refine Zag ?_ GE257.out | refine Zag ?_ GE258.out) | exact HB.out))) : w.heap.size ≤ gb284)); have n10_ := Zaa.mk ((by rw [hg]; exact Nat.ne_of_lt (Zdc (g := gb257) (o := .cells #[.slice A0_0 l0_0.length c0_0, .int .i64 a0_1, .slice A0_2 l0_2.length c0_2, .slice A0_3 l0_3.length c0_3, .int .i64 a0_4, .int .i64 a0_5, .slice A0_6 l0_6.length c0_6, .int .i64 a0_7, .slice A0_8 l0_8.length c0_8, .slice A0_9 l0_9.length c0_9] 27 (0, 0)) (by (with_reducible repeat (first | refine Zaf ?_ _ | refine Zah ?_ | refine Zae ?_ _)); exact BK257.out)) : gb257 ≠ gb284)); have n11_ := Zaa.mk ((by rw [hg]; exact Nat.ne_of_gt (Zdc (g := gb257) (o := .cells #[.slice A0_0 l0_0.length c0_0, .int .i64 a0_1, .slice A0_2 l0_2.length c0_2, .slice A0_3 l0_3.length c0_3, .int .i64 a0_4, .int .i64 a0_5, .slice A0_6 l0_6.length c0_6, .int .i64 a0_7, .slice A0_8 l0_8.length c0_8, .slice A0_9 l0_9.length c0_9] 27 (0, 0)) (by (with_reducible repeat (first | refine Zaf ?_ _ | refine Zah ?_ | refine Zae ?_ _)); exact BK257.out)) : gb284 ≠ gb257)); have n12_ := Zaa.mk ((by rw [hg]; exact Nat.ne_of_lt (Zdc (g := gb258) (o := .cells #[.int .i64 0, .slice none 0 0, .slice none 0 0, .int .i64 0, .int .i64 0, .slice none 0 0, .int .i64 0] 25 (0, 0)) (by (with_reducible repeat (first | refine Zaf ?_ _ | refine Zah ?_ | refine Zae ?_ _)); exact BK258.out)) : gb258 ≠ gb284)); have n13_ := Zaa.mk ((by rw [hg]; exact Nat.ne_of_gt (Zdc (g := gb258) (o := .cells #[.int .i64 0, .slice none 0 0, .slice none 0 0, .int .i64 0, .int .i64 0, .slice none 0 0, .int .i64 0] 25 (0, 0)) (by (with_reducible repeat (first | refine Zaf ?_ _ | refine Zah ?_ | refine Zae ?_ _)); exact BK258.out)) : gb284 ≠ gb258)); clear HO_7; clear HO274; clear HO277; clear HO282; clear BK257; clear BK258; clear HB; have HO_7 := n0_; have HO274 := n1_; have HO277 := n2_; have HO282 := n3_; have BK257 := n4_; have BK258 := n5_; have HB := n6_; have BK284 := n7_; have GW284 := n8_; have GE284 := n9_; have NB257_284 := n10_; have NB284_257 := n11_; have NB258_284 := n12_; have NB284_258 := n13_; clear n0_ n1_ n2_ n3_ n4_ n5_ n6_ n7_ n8_ n9_ n10_ n11_ n12_ n13_; clear hb hbox hg; have hnb31 := NB284_257.out; have hnc31 := NB257_284.out; have hnb32 := NB284_258.out; have hnc32 := NB258_284.out; obtain ⟨hcz33_0, hcz33_1, hcz33_2, hcz33_3, hcz33_4, hcz33_5, hcz33_6, hfz33_0, hfz33_1, hfz33_2, hfz33_3, hfz33_4, hfz33_5, hfz33_6⟩ := Zcj BK284.out; obtain ⟨Ao34, co34, eo34⟩ := Kd.Zc HO274.out; subst eo34; obtain ⟨Ao35, co35, eo35⟩ := Kd.Zc HO277.out; subst eo35; obtain ⟨Ao36, co36, eo36⟩ := Kd.Zdi HO282.out; subst eo36) | ((with_reducible refine Zdo (t := 25) (p := 9) rfl ?_); refine Zdj (t := 25) (p := 9) (v := ?vo_w37) (w1 := (((((((w30.setCell ⟨gb284, 0, none⟩ (.int .i64 t271)).setCell ⟨gb284, 1, none⟩ (.slice Ao34 t272.length co34)).setCell ⟨gb284, 2, none⟩ (.slice Ao35 t275.length co35)).setCell ⟨gb284, 3, none⟩ (.int .i64 t278)).setCell ⟨gb284, 4, none⟩ (.int .i64 t279)).setCell ⟨gb284, 5, none⟩ (.slice Ao36 t280.length co36)).setCell ⟨gb284, 6, none⟩ (.int .i64 t283))) ?hg ?ho ?hn ?hr ?_; (case ho => rfl); (case hg => rfl); (case hn => rfl); (case hr => first | (go_simp; done) | (go_simp; rfl)); intro w37 hw; have n0_ : Zaa (Kd.S (Kd.slice 41 k41) 39 w37 w.heap.size (fun _ => True) u7 x7_1) := ⟨(by rw [hw]; exact (by (with_reducible repeat (first | apply Kd.Zbb | apply Kd.Zbc | apply Kd.Zbl)); exact Kd.Zcl (Kd.Zb1 (p := ⟨gb284, 6, none⟩) (Kd.Zb1 (p := ⟨gb284, 5, none⟩) (Kd.Zb1 (p := ⟨gb284, 4, none⟩) (Kd.Zb1 (p := ⟨gb284, 3, none⟩) (Kd.Zb1 (p := ⟨gb284, 2, none⟩) (Kd.Zb1 (p := ⟨gb284, 1, none⟩) (Kd.Zb1 (p := ⟨gb284, 0, none⟩) (Kd.Zco HO_7.out BK284.out (by decide)) (fun _ hk => hk.2) (.int .i64 t271)) (fun _ hk => hk.2) (.slice Ao34 t272.length co34)) (fun _ hk => hk.2) (.slice Ao35 t275.length co35)) (fun _ hk => hk.2) (.int .i64 t278)) (fun _ hk => hk.2) (.int .i64 t279)) (fun _ hk => hk.2) (.slice Ao36 t280.length co36)) (fun _ hk => hk.2) (.int .i64 t283)) (fun _ hk => trivial)))⟩; have n1_ : Zaa (Kd.R (Kd.int .i64) 3 w37 w.heap.size (fun k_ => some k_ ≠ (.slice Ao35 t275.length co35 : Value).ownBlock) (.slice Ao34 t272.length co34) t272) := ⟨(by rw [hw]; exact (by (with_reducible repeat (first | apply Kd.Zan | apply Kd.Zao | apply Kd.Zav)); exact Kd.Zbu (Kd.Zbv (p := ⟨gb284, 6, none⟩) (Kd.Zbv (p := ⟨gb284, 5, none⟩) (Kd.Zbv (p := ⟨gb284, 4, none⟩) (Kd.Zbv (p := ⟨gb284, 3, none⟩) (Kd.Zbv (p := ⟨gb284, 2, none⟩) (Kd.Zbv (p := ⟨gb284, 1, none⟩) (Kd.Zbv (p := ⟨gb284, 0, none⟩) (Kd.Zch HO274.out BK284.out (by decide)) (fun _ hk => hk.2) (.int .i64 t271)) (fun _ hk => hk.2) (.slice Ao34 t272.length co34)) (fun _ hk => hk.2) (.slice Ao35 t275.length co35)) (fun _ hk => hk.2) (.int .i64 t278)) (fun _ hk => hk.2) (.int .i64 t279)) (fun _ hk => hk.2) (.slice Ao36 t280.length co36)) (fun _ hk => hk.2) (.int .i64 t283)) (fun _ hk => hk.1)))⟩; have n2_ : Zaa (Kd.R (Kd.int .i64) 3 w37 w.heap.size (fun k_ => some k_ ≠ (.slice Ao34 t272.length co34 : Value).ownBlock) (.slice Ao35 t275.length co35) t275) := ⟨(by rw [hw]; exact (by (with_reducible repeat (first | apply Kd.Zan | apply Kd.Zao | apply Kd.Zav)); exact Kd.Zbu (Kd.Zbv (p := ⟨gb284, 6, none⟩) (Kd.Zbv (p := ⟨gb284, 5, none⟩) (Kd.Zbv (p := ⟨gb284, 4, none⟩) (Kd.Zbv (p := ⟨gb284, 3, none⟩) (Kd.Zbv (p := ⟨gb284, 2, none⟩) (Kd.Zbv (p := ⟨gb284, 1, none⟩) (Kd.Zbv (p := ⟨gb284, 0, none⟩) (Kd.Zch HO277.out BK284.out (by decide)) (fun _ hk => hk.2) (.int .i64 t271)) (fun _ hk => hk.2) (.slice Ao34 t272.length co34)) (fun _ hk => hk.2) (.slice Ao35 t275.length co35)) (fun _ hk => hk.2) (.int .i64 t278)) (fun _ hk => hk.2) (.int .i64 t279)) (fun _ hk => hk.2) (.slice Ao36 t280.length co36)) (fun _ hk => hk.2) (.int .i64 t283)) (fun _ hk => hk.1)))⟩; have n3_ : Zaa (Kd.S (Kd.slice 3 (Kd.int .i64)) 23 w37 w.heap.size (fun k_ => some k_ ≠ (.slice Ao34 t272.length co34 : Value).ownBlock ∧ some k_ ≠ (.slice Ao35 t275.length co35 : Value).ownBlock) (.slice Ao36 t280.length co36) t280) := ⟨(by rw [hw]; exact (by (with_reducible repeat (first | apply Kd.Zbb | apply Kd.Zbc | apply Kd.Zbl)); exact Kd.Zcl (Kd.Zb1 (p := ⟨gb284, 6, none⟩) (Kd.Zb1 (p := ⟨gb284, 5, none⟩) (Kd.Zb1 (p := ⟨gb284, 4, none⟩) (Kd.Zb1 (p := ⟨gb284, 3, none⟩) (Kd.Zb1 (p := ⟨gb284, 2, none⟩) (Kd.Zb1 (p := ⟨gb284, 1, none⟩) (Kd.Zb1 (p := ⟨gb284, 0, none⟩) (Kd.Zco HO282.out BK284.out (by decide)) (fun _ hk => hk.2) (.int .i64 t271)) (fun _ hk => hk.2) (.slice Ao34 t272.length co34)) (fun _ hk => hk.2) (.slice Ao35 t275.length co35)) (fun _ hk => hk.2) (.int .i64 t278)) (fun _ hk => hk.2) (.int .i64 t279)) (fun _ hk => hk.2) (.slice Ao36 t280.length co36)) (fun _ hk => hk.2) (.int .i64 t283)) (fun _ hk => ⟨hk.1.1, hk.1.2⟩)))⟩; have n4_ : Zaa (w37.heap[gb257]? = some (.cells #[.slice A0_0 l0_0.length c0_0, .int .i64 a0_1, .slice A0_2 l0_2.length c0_2, .slice A0_3 l0_3.length c0_3, .int .i64 a0_4, .int .i64 a0_5, .slice A0_6 l0_6.length c0_6, .int .i64 a0_7, .slice A0_8 l0_8.length c0_8, .slice A0_9 l0_9.length c0_9] 27 (0, 0))) := ⟨(by rw [hw]; exact (by (with_reducible repeat (first | refine Zaf ?_ _ | refine Zah ?_ | refine Zae ?_ _)); refine Zb6 ?_ NB257_284.out _; (with_reducible repeat (first | refine Zaf ?_ _ | refine Zah ?_ | refine Zae ?_ _)); refine Zb6 ?_ NB257_284.out _; (with_reducible repeat (first | refine Zaf ?_ _ | refine Zah ?_ | refine Zae ?_ _)); refine Zb6 ?_ NB257_284.out _; (with_reducible repeat (first | refine Zaf ?_ _ | refine Zah ?_ | refine Zae ?_ _)); refine Zb6 ?_ NB257_284.out _; (with_reducible repeat (first | refine Zaf ?_ _ | refine Zah ?_ | refine Zae ?_ _)); refine Zb6 ?_ NB257_284.out _; (with_reducible repeat (first | refine Zaf ?_ _ | refine Zah ?_ | refine Zae ?_ _)); refine Zb6 ?_ NB257_284.out _; (with_reducible repeat (first | refine Zaf ?_ _ | refine Zah ?_ | refine Zae ?_ _)); refine Zb6 ?_ NB257_284.out _; (with_reducible repeat (first | refine Zaf ?_ _ | refine Zah ?_ | refine Zae ?_ _)); exact BK257.out))⟩; have n5_ : Zaa (w37.heap[gb258]? = some (.cells #[.int .i64 0, .slice none 0 0, .slice none 0 0, .int .i64 0, .int .i64 0, .slice none 0 0, .int .i64 0] 25 (0, 0))) := ⟨(by rw [hw]; exact (by (with_reducible repeat (first | refine Zaf ?_ _ | refine Zah ?_ | refine Zae ?_ _)); refine Zb6 ?_ NB258_284.out _; (with_reducible repeat (first | refine Zaf ?_ _ | refine Zah ?_ | refine Zae ?_ _)); refine Zb6 ?_ NB258_284.out _; (with_reducible repeat (first | refine Zaf ?_ _ | refine Zah ?_ | refine Zae ?_ _)); refine Zb6 ?_ NB258_284.out _; (with_reducible repeat (first | refine Zaf ?_ _ | refine Zah ?_ | refine Zae ?_ _)); refine Zb6 ?_ NB258_284.out _; (with_reducible repeat (first | refine Zaf ?_ _ | refine Zah ?_ | refine Zae ?_ _)); refine Zb6 ?_ NB258_284.out _; (with_reducible repeat (first | refine Zaf ?_ _ | refine Zah ?_ | refine Zae ?_ _)); refine Zb6 ?_ NB258_284.out _; (with_reducible repeat (first | refine Zaf ?_ _ | refine Zah ?_ | refine Zae ?_ _)); refine Zb6 ?_ NB258_284.out _; (with_reducible repeat (first | refine Zaf ?_ _ | refine Zah ?_ | refine Zae ?_ _)); exact BK258.out))⟩; have n6_ : Zaa (w37.heap[gb284]? = some (.cells #[.int .i64 t271, .slice Ao34 t272.length co34, .slice Ao35 t275.length co35, .int .i64 t278, .int .i64 t279, .slice Ao36 t280.length co36, .int .i64 t283] 25 (0, 0))) := ⟨(by rw [hw]; exact (by (with_reducible repeat (first | refine Zaf ?_ _ | refine Zah ?_ | refine Zae ?_ _)); refine Zb5 (cs := #[.int .i64 t271, .slice Ao34 t272.length co34, .slice Ao35 t275.length co35, .int .i64 t278, .int .i64 t279, .slice Ao36 t280.length co36, .int .i64 0]) ?_ 6 _ rfl; (with_reducible repeat (first | refine Zaf ?_ _ | refine Zah ?_ | refine Zae ?_ _)); refine Zb5 (cs := #[.int .i64 t271, .slice Ao34 t272.length co34, .slice Ao35 t275.length co35, .int .i64 t278, .int .i64 t279, .slice none 0 0, .int .i64 0]) ?_ 5 _ rfl; (with_reducible repeat (first | refine Zaf ?_ _ | refine Zah ?_ | refine Zae ?_ _)); refine Zb5 (cs := #[.int .i64 t271, .slice Ao34 t272.length co34, .slice Ao35 t275.length co35, .int .i64 t278, .int .i64 0, .slice none 0 0, .int .i64 0]) ?_ 4 _ rfl; (with_reducible repeat (first | refine Zaf ?_ _ | refine Zah ?_ | refine Zae ?_ _)); refine Zb5 (cs := #[.int .i64 t271, .slice Ao34 t272.length co34, .slice Ao35 t275.length co35, .int .i64 0, .int .i64 0, .slice none 0 0, .int .i64 0]) ?_ 3 _ rfl; (with_reducible repeat (first | refine Zaf ?_ _ | refine Zah ?_ | refine Zae ?_ _)); refine Zb5 (cs := #[.int .i64 t271, .slice Ao34 t272.length co34, .slice none 0 0, .int .i64 0, .int .i64 0, .slice none 0 0, .int .i64 0]) ?_ 2 _ rfl; (with_reducible repeat (first | refine Zaf ?_ _ | refine Zah ?_ | refine Zae ?_ _)); refine Zb5 (cs := #[.int .i64 t271, .slice none 0 0, .slice none 0 0, .int .i64 0, .int .i64 0, .slice none 0 0, .int .i64 0]) ?_ 1 _ rfl; (with_reducible repeat (first | refine Zaf ?_ _ | refine Zah ?_ | refine Zae ?_ _)); refine Zb5 (cs := #[.int .i64 0, .slice none 0 0, .slice none 0 0, .int .i64 0, .int .i64 0, .slice none 0 0, .int .i64 0]) ?_ 0 _ rfl; (with_reducible repeat (first | refine Zaf ?_ _ | refine Zah ?_ | refine Zae ?_ _)); exact BK284.out))⟩; have n7_ : Zaa (Below w.heap.size w w37) := ⟨(by rw [hw]; exact (by repeat (first | (with_reducible first | exact HB.out | apply Zac | apply Za | apply Zab | refine Zag ?_ GE257.out | refine Zag ?_ GE258.out | refine Zag ?_ GE284.out) | exact HB.out)))⟩; clear hw; clear HO_7; clear HO274; clear HO277; clear HO282; clear BK257; clear BK258; clear BK284; clear HB; have HO_7 := n0_; have HO274 := n1_; have HO277 := n2_; have HO282 := n3_; have BK257 := n4_; have BK258 := n5_; have BK284 := n6_; have HB := n7_; clear n0_ n1_ n2_ n3_ n4_ n5_ n6_ n7_; obtain ⟨hcz38_0, hcz38_1, hcz38_2, hcz38_3, hcz38_4, hcz38_5, hcz38_6, hfz38_0, hfz38_1, hfz38_2, hfz38_3, hfz38_4, hfz38_5, hfz38_6⟩ := Zcj BK284.out) | ((with_reducible refine Zdo (t := 3) (p := 43) rfl ?_); refine Zdj (t := 3) (p := 43) (v := ?vo_w39) (w1 := (w37.setCell ⟨gb284, 0, none⟩ (.int .i64 a1))) ?hg ?ho ?hn ?hr ?_; (case ho => rfl); (case hg => rfl); (case hn => rfl); (case hr => first | (go_simp; done) | (go_simp; rfl)); intro w39 hw; have n0_ : Zaa (Kd.S (Kd.slice 41 k41) 39 w39 w.heap.size (fun _ => True) u7 x7_1) := ⟨(by rw [hw]; exact (by (with_reducible repeat (first | apply Kd.Zbb | apply Kd.Zbc | apply Kd.Zbl)); exact Kd.Zcl (Kd.Zb1 (p := ⟨gb284, 0, none⟩) (Kd.Zco HO_7.out BK284.out (by decide)) (fun _ hk => hk.2) (.int .i64 a1)) (fun _ hk => trivial)))⟩; have n1_ : Zaa (Kd.R (Kd.int .i64) 3 w39 w.heap.size (fun k_ => some k_ ≠ (.slice Ao35 t275.length co35 : Value).ownBlock) (.slice Ao34 t272.length co34) t272) := ⟨(by rw [hw]; exact (by (with_reducible repeat (first | apply Kd.Zan | apply Kd.Zao | apply Kd.Zav)); exact Kd.Zbu (Kd.Zbv (p := ⟨gb284, 0, none⟩) (Kd.Zch HO274.out BK284.out (by decide)) (fun _ hk => hk.2) (.int .i64 a1)) (fun _ hk => hk.1)))⟩; have n2_ : Zaa (Kd.R (Kd.int .i64) 3 w39 w.heap.size (fun k_ => some k_ ≠ (.slice Ao34 t272.length co34 : Value).ownBlock) (.slice Ao35 t275.length co35) t275) := ⟨(by rw [hw]; exact (by (with_reducible repeat (first | apply Kd.Zan | apply Kd.Zao | apply Kd.Zav)); exact Kd.Zbu (Kd.Zbv (p := ⟨gb284, 0, none⟩) (Kd.Zch HO277.out BK284.out (by decide)) (fun _ hk => hk.2) (.int .i64 a1)) (fun _ hk => hk.1)))⟩; have n3_ : Zaa (Kd.S (Kd.slice 3 (Kd.int .i64)) 23 w39 w.heap.size (fun k_ => some k_ ≠ (.slice Ao34 t272.length co34 : Value).ownBlock ∧ some k_ ≠ (.slice Ao35 t275.length co35 : Value).ownBlock) (.slice Ao36 t280.length co36) t280) := ⟨(by rw [hw]; exact (by (with_reducible repeat (first | apply Kd.Zbb | apply Kd.Zbc | apply Kd.Zbl)); exact Kd.Zcl (Kd.Zb1 (p := ⟨gb284, 0, none⟩) (Kd.Zco HO282.out BK284.out (by decide)) (fun _ hk => hk.2) (.int .i64 a1)) (fun _ hk => ⟨hk.1.1, hk.1.2⟩)))⟩; have n4_ : Zaa (w39.heap[gb257]? = some (.cells #[.slice A0_0 l0_0.length c0_0, .int .i64 a0_1, .slice A0_2 l0_2.length c0_2, .slice A0_3 l0_3.length c0_3, .int .i64 a0_4, .int .i64 a0_5, .slice A0_6 l0_6.length c0_6, .int .i64 a0_7, .slice A0_8 l0_8.length c0_8, .slice A0_9 l0_9.length c0_9] 27 (0, 0))) := ⟨(by rw [hw]; exact (by (with_reducible repeat (first | refine Zaf ?_ _ | refine Zah ?_ | refine Zae ?_ _)); refine Zb6 ?_ NB257_284.out _; (with_reducible repeat (first | refine Zaf ?_ _ | refine Zah ?_ | refine Zae ?_ _)); exact BK257.out))⟩; have n5_ : Zaa (w39.heap[gb258]? = some (.cells #[.int .i64 0, .slice none 0 0, .slice none 0 0, .int .i64 0, .int .i64 0, .slice none 0 0, .int .i64 0] 25 (0, 0))) := ⟨(by rw [hw]; exact (by (with_reducible repeat (first | refine Zaf ?_ _ | refine Zah ?_ | refine Zae ?_ _)); refine Zb6 ?_ NB258_284.out _; (with_reducible repeat (first | refine Zaf ?_ _ | refine Zah ?_ | refine Zae ?_ _)); exact BK258.out))⟩; have n6_ : Zaa (w39.heap[gb284]? = some (.cells #[.int .i64 a1, .slice Ao34 t272.length co34, .slice Ao35 t275.length co35, .int .i64 t278, .int .i64 t279, .slice Ao36 t280.length co36, .int .i64 t283] 25 (0, 0))) := ⟨(by rw [hw]; exact (by (with_reducible repeat (first | refine Zaf ?_ _ | refine Zah ?_ | refine Zae ?_ _)); refine Zb5 (cs := #[.int .i64 t271, .slice Ao34 t272.length co34, .slice Ao35 t275.length co35, .int .i64 t278, .int .i64 t279, .slice Ao36 t280.length co36, .int .i64 t283]) ?_ 0 _ rfl; (with_reducible repeat (first | refine Zaf ?_ _ | refine Zah ?_ | refine Zae ?_ _)); exact BK284.out))⟩; have n7_ : Zaa (Below w.heap.size w w39) := ⟨(by rw [hw]; exact (by repeat (first | (with_reducible first | exact HB.out | apply Zac | apply Za | apply Zab | refine Zag ?_ GE257.out | refine Zag ?_ GE258.out | refine Zag ?_ GE284.out) | exact HB.out)))⟩; clear hw; clear HO_7; clear HO274; clear HO277; clear HO282; clear BK257; clear BK258; clear BK284; clear HB; have HO_7 := n0_; have HO274 := n1_; have HO277 := n2_; have HO282 := n3_; have BK257 := n4_; have BK258 := n5_; have BK284 := n6_; have HB := n7_; clear n0_ n1_ n2_ n3_ n4_ n5_ n6_ n7_; obtain ⟨hcz40_0, hcz40_1, hcz40_2, hcz40_3, hcz40_4, hcz40_5, hcz40_6, hfz40_0, hfz40_1, hfz40_2, hfz40_3, hfz40_4, hfz40_5, hfz40_6⟩ := Zcj BK284.out; have q41 : ((ji23) : Int) ≤ ((t280.length : Int) : Int) := of_decide_eq_true (by first | (with_reducible assumption) | assumption); obtain ⟨i041, hi041, _, hsz41, _⟩ := info_parts Zf7; have hcut41 := cut_to (P := Try.prog) 22 23 .i64 Try.underlying22 hi041 Ao36 t280.length co36 (ji23) (of_decide_eq_true (by first | (with_reducible assumption) | assumption)) q41 (Kd.Zcd HO282.out).2.1; have hr41 := Kd.S_take (m := ((ji23) : Int).toNat) HO282.out (by omega); have hy41 : y285.length = ((ji23) : Int).toNat := (by rw [Ny285.out, List.length_take]; omega); rw [← Ny285.out] at hr41; rw [← hy41] at hr41 hcut41; clear hy41 hi041 hsz41 HO282; have HO287 := Zaa.mk hr41; clear hr41; replace q41 := eq_true q41))
   have n0_ : Zaa (Kd.S (Kd.slice 41 k41) 39 (w39.setCell ⟨gb284, 5, none⟩ (.slice Ao36 y285.length co36)) w.heap.size (fun _ => True) u7 x7_1) := ⟨by (with_reducible repeat (first | apply Kd.Zbb | apply Kd.Zbc | apply Kd.Zbl)); exact Kd.Zcl (Kd.Zb1 (p := ⟨gb284, 5, none⟩) (Kd.Zco HO_7.out BK284.out (by decide)) (fun _ hk => hk.2) (.slice Ao36 y285.length co36)) (fun _ hk => trivial)⟩
   have n1_ : Zaa (Kd.R (Kd.int .i64) 3 (w39.setCell ⟨gb284, 5, none⟩ (.slice Ao36 y285.length co36)) w.heap.size (fun k_ => some k_ ≠ (.slice Ao35 t275.length co35 : Value).ownBlock) (.slice Ao34 t272.length co34) t272) := ⟨by (with_reducible repeat (first | apply Kd.Zan | apply Kd.Zao | apply Kd.Zav)); exact Kd.Zbu (Kd.Zbv (p := ⟨gb284, 5, none⟩) (Kd.Zch HO274.out BK284.out (by decide)) (fun _ hk => hk.2) (.slice Ao36 y285.length co36)) (fun _ hk => hk.1)⟩
   have n2_ : Zaa (Kd.R (Kd.int .i64) 3 (w39.setCell ⟨gb284, 5, none⟩ (.slice Ao36 y285.length co36)) w.heap.size (fun k_ => some k_ ≠ (.slice Ao34 t272.length co34 : Value).ownBlock) (.slice Ao35 t275.length co35) t275) := ⟨by (with_reducible repeat (first | apply Kd.Zan | apply Kd.Zao | apply Kd.Zav)); exact Kd.Zbu (Kd.Zbv (p := ⟨gb284, 5, none⟩) (Kd.Zch HO277.out BK284.out (by decide)) (fun _ hk => hk.2) (.slice Ao36 y285.length co36)) (fun _ hk => hk.1)⟩
   have n3_ : Zaa (Kd.S (Kd.slice 3 (Kd.int .i64)) 23 (w39.setCell ⟨gb284, 5, none⟩ (.slice Ao36 y285.length co36)) w.heap.size (fun k_ => some k_ ≠ (.slice Ao34 t272.length co34 : Value).ownBlock ∧ some k_ ≠ (.slice Ao35 t275.length co35 : Value).ownBlock) (.slice Ao36 y285.length co36) y285) := ⟨by (with_reducible repeat (first | apply Kd.Zbb | apply Kd.Zbc | apply Kd.Zbl)); exact Kd.Zcl (Kd.Zb1 (p := ⟨gb284, 5, none⟩) (Kd.Zco HO287.out BK284.out (by decide)) (fun _ hk => hk.2) (.slice Ao36 y285.length co36)) (fun _ hk => ⟨hk.1.1, hk.1.2⟩)⟩
   have n4_ : Zaa ((w39.setCell ⟨gb284, 5, none⟩ (.slice Ao36 y285.length co36)).heap[gb257]? = some (.cells #[.slice A0_0 l0_0.length c0_0, .int .i64 a0_1, .slice A0_2 l0_2.length c0_2, .slice A0_3 l0_3.length c0_3, .int .i64 a0_4, .int .i64 a0_5, .slice A0_6 l0_6.length c0_6, .int .i64 a0_7, .slice A0_8 l0_8.length c0_8, .slice A0_9 l0_9.length c0_9] 27 (0, 0))) := ⟨by (with_reducible repeat (first | refine Zaf ?_ _ | refine Zah ?_ | refine Zae ?_ _)); refine Zb6 ?_ NB257_284.out _; (with_reducible repeat (first | refine Zaf ?_ _ | refine Zah ?_ | refine Zae ?_ _)); exact BK257.out⟩
   have n5_ : Zaa ((w39.setCell ⟨gb284, 5, none⟩ (.slice Ao36 y285.length co36)).heap[gb258]? = some (.cells #[.int .i64 0, .slice none 0 0, .slice none 0 0, .int .i64 0, .int .i64 0, .slice none 0 0, .int .i64 0] 25 (0, 0))) := ⟨by (with_reducible repeat (first | refine Zaf ?_ _ | refine Zah ?_ | refine Zae ?_ _)); refine Zb6 ?_ NB258_284.out _; (with_reducible repeat (first | refine Zaf ?_ _ | refine Zah ?_ | refine Zae ?_ _)); exact BK258.out⟩
   have n6_ : Zaa ((w39.setCell ⟨gb284, 5, none⟩ (.slice Ao36 y285.length co36)).heap[gb284]? = some (.cells #[.int .i64 a1, .slice Ao34 t272.length co34, .slice Ao35 t275.length co35, .int .i64 t278, .int .i64 t279, .slice Ao36 y285.length co36, .int .i64 t283] 25 (0, 0))) := ⟨by (with_reducible repeat (first | refine Zaf ?_ _ | refine Zah ?_ | refine Zae ?_ _)); refine Zb5 (cs := #[.int .i64 a1, .slice Ao34 t272.length co34, .slice Ao35 t275.length co35, .int .i64 t278, .int .i64 t279, .slice Ao36 t280.length co36, .int .i64 t283]) ?_ 5 _ rfl; (with_reducible repeat (first | refine Zaf ?_ _ | refine Zah ?_ | refine Zae ?_ _)); exact BK284.out⟩
   have n7_ : Zaa (Below w.heap.size w (w39.setCell ⟨gb284, 5, none⟩ (.slice Ao36 y285.length co36))) := ⟨by repeat (first | (with_reducible first | exact HB.out | apply Zac | apply Za | apply Zab | refine Zag ?_ GE257.out | refine Zag ?_ GE258.out | refine Zag ?_ GE284.out) | exact HB.out)⟩
   (try clear HO_7)
   (try clear HO274)
   (try clear HO277)
   (try clear HO287)
   (try clear BK257)
   (try clear BK258)
   (try clear BK284)
   (try clear HB)
   generalize (w39.setCell ⟨gb284, 5, none⟩ (.slice Ao36 y285.length co36)) = w42 at n0_ n1_ n2_ n3_ n4_ n5_ n6_ n7_ ⊢
   have HO_7 := n0_
   have HO274 := n1_
   have HO277 := n2_
   have HO287 := n3_
   have BK257 := n4_
   have BK258 := n5_
   have BK284 := n6_
   have HB := n7_
   clear n0_ n1_ n2_ n3_ n4_ n5_ n6_ n7_
   have n0_ := Zaa.mk (Kd.Zbl HO_7.out)
   have n1_ := Zaa.mk (Kd.Zav HO274.out)
   have n2_ := Zaa.mk (Kd.Zav HO277.out)
   have n3_ := Zaa.mk (Kd.Zbl HO287.out)
   have n4_ := Zaa.mk (Zah BK257.out)
   have n5_ := Zaa.mk (Zah BK258.out)
   have n6_ := Zaa.mk (Zah BK284.out)
   have n7_ := Zaa.mk (Zab HB.out)
   clear HO_7
   clear HO274
   clear HO277
   clear HO287
   clear BK257
   clear BK258
   clear BK284
   clear HB
   have HO_7 := n0_
   have HO274 := n1_
   have HO277 := n2_
   have HO287 := n3_
   have BK257 := n4_
   have BK258 := n5_
   have BK284 := n6_
   have HB := n7_
   clear n0_ n1_ n2_ n3_ n4_ n5_ n6_ n7_
   obtain ⟨Ao44, co44, eo44⟩ := Kd.Zdi HO_7.out
   (first | subst eo44 | (injection eo44 with f1_ f2_ f3_; have f4_ := f1_.symm; have f5_ := f3_.symm; clear f1_ f2_ f3_; subst f4_; subst f5_))
   refine Zdw (n := 9) (S := fun w' => w'.cell? ⟨gb284, 0, none⟩ = some (.int .i64 a1) ∧ w'.cell? ⟨gb284, 1, none⟩ = some (.slice Ao34 t272.length co34) ∧ w'.cell? ⟨gb284, 2, none⟩ = some (.slice Ao35 t275.length co35) ∧ w'.cell? ⟨gb284, 3, none⟩ = some (.int .i64 t278) ∧ w'.cell? ⟨gb284, 4, none⟩ = some (.int .i64 t279) ∧ w'.cell? ⟨gb284, 5, none⟩ = some (.slice Ao36 y285.length co36) ∧ w'.cell? ⟨gb284, 6, none⟩ = some (.int .i64 t283)) (ds := []) #[false, false, false, false, false, false, false, false, false] (by kernel_rfl) rfl rfl ⟨(Zax BK284.out 0).trans rfl, (Zax BK284.out 1).trans rfl, (Zax BK284.out 2).trans rfl, (Zax BK284.out 3).trans rfl, (Zax BK284.out 4).trans rfl, (Zax BK284.out 5).trans rfl, (Zax BK284.out 6).trans rfl⟩ (fun hHeld => ?_); refine Zcv Zap.tab9 Zap.bits9 (fun HT_ HW_ => ?_)
   generalize w42.drew = w43 at HO_7 HO274 HO277 HO287 BK257 BK258 BK284 HB hHeld ⊢
   refine Zbt (i := 0) (N := some 52) (v := ?_) (a' := ?_) #[true, false, false, false, false, false, false, false, false] rfl rfl (Zbe HT_.out (by kernel_rfl)) (fun _ _ _ h => h) (Or.inl ⟨by rfl, ?_⟩) ?_ ?_
   rotate_left
   ·intro w'
    go_simp
    with_reducible rfl
   rotate_left
   ·simp only [Act.put, List.setIfInBounds_toArray, List.set_cons_zero, List.set_cons_succ, Zbg, Zbj]
    rfl
   refine Zbt (i := 2) (N := some 54) (v := ?_) (a' := ?_) #[true, false, true, false, false, false, false, false, false] rfl rfl (Zbe HT_.out (by kernel_rfl)) (fun _ _ _ h => h) (Or.inl ⟨by rfl, ?_⟩) ?_ ?_
   rotate_left
   ·intro w'
    go_simp
    with_reducible rfl
   rotate_left
   ·simp only [Act.put, List.setIfInBounds_toArray, List.set_cons_zero, List.set_cons_succ, Zbg, Zbj]
    rfl
   refine Zc5 (i := 1) (N := some 53) (v := ?_) (a' := ?_) #[true, true, true, false, false, false, false, false, false] rfl rfl (Zcb HT_.out HW_.out (by kernel_rfl)) (fun _ _ _ h => h) (Or.inl ⟨by rfl, ?_⟩) hHeld ?_ ?_
   rotate_left
   ·rintro w' ⟨s0, s1, s2, s3, s4, s5, s6⟩
    go_simp
    with_reducible rfl
   rotate_left
   ·simp only [Act.put, List.setIfInBounds_toArray, List.set_cons_zero, List.set_cons_succ, Zbg, Zbj]
    rfl
   refine Zc5 (i := 3) (N := some 55) (v := ?_) (a' := ?_) #[true, true, true, true, false, false, false, false, false] rfl rfl (Zcb HT_.out HW_.out (by kernel_rfl)) (fun _ _ _ h => h) (Or.inl ⟨by rfl, ?_⟩) hHeld ?_ ?_
   rotate_left
   ·rintro w' ⟨s0, s1, s2, s3, s4, s5, s6⟩
    go_simp
    with_reducible rfl
   rotate_left
   ·simp only [Act.put, List.setIfInBounds_toArray, List.set_cons_zero, List.set_cons_succ, Zbg, Zbj]
    rfl
   refine one_ (i := 4) (N := some 56) #[true, true, true, true, true, false, false, false, false] rfl rfl (Zdr HT_.out (by kernel_rfl)) (by decide) (fun K hK => ?_)
   refine goes_ Try.func41 (by kernel_rfl) rfl #[.slice Ao44 x7_1.length co44, .agg #[.int .i64 a1, .slice Ao34 t272.length co34, .slice Ao35 t275.length co35, .int .i64 t278, .int .i64 t279, .slice Ao36 y285.length co36, .int .i64 t283]] (by rfl) rfl rfl (by (try simp only [List.map_toArray, List.map_cons, List.map_nil]); first | done | rfl | (simp only [List.length_drop, List.length_take]; rfl)) ?_
   with_reducible refine (Zas.calls k1 _ _ x7_1 a1 _ _ t272 _ _ t275 t278 t279 _ _ y285 t283 t288 _ ?side1 ?side2 ?side3 ?side4 ?side5 ?side6 ?side7 ?side8 A26.out).mono ?_
   (case side1 => repeat (first | exact (Kd.Zcd HO_7.out).2.2 | (with_reducible refine Kd.C_alloc ?_ _) | (with_reducible refine Kd.Za1 ?_ _) | (with_reducible refine Kd.Zbd ?_)))
   (case side2 => exact (Kd.Zcd HO_7.out).2.1)
   (case side3 => repeat (first | exact (Kd.Zbp HO274.out).2.2 | (with_reducible refine Kd.C_alloc ?_ _) | (with_reducible refine Kd.Za1 ?_ _) | (with_reducible refine Kd.Zbd ?_)))
   (case side4 => exact (Kd.Zbp HO274.out).2.1)
   (case side5 => repeat (first | exact (Kd.Zbp HO277.out).2.2 | (with_reducible refine Kd.C_alloc ?_ _) | (with_reducible refine Kd.Za1 ?_ _) | (with_reducible refine Kd.Zbd ?_)))
   (case side6 => exact (Kd.Zbp HO277.out).2.1)
   (case side7 => repeat (first | exact (Kd.Zcd HO287.out).2.2 | (with_reducible refine Kd.C_alloc ?_ _) | (with_reducible refine Kd.Za1 ?_ _) | (with_reducible refine Kd.Zbd ?_)))
   (case side8 => exact (Kd.Zcd HO287.out).2.1)
   rintro e w45 ⟨rfl, hb⟩
   refine ⟨_, rfl, ?_⟩
   have n0_ := Zaa.mk (Kd.Zce (by (with_reducible repeat (first | apply Kd.Zbb | apply Kd.Zbc | apply Kd.Zbl)); exact HO_7.out) hb)
   have n1_ := Zaa.mk (Kd.Zca (by (with_reducible repeat (first | apply Kd.Zan | apply Kd.Zao | apply Kd.Zav)); exact HO274.out) hb)
   have n2_ := Zaa.mk (Kd.Zca (by (with_reducible repeat (first | apply Kd.Zan | apply Kd.Zao | apply Kd.Zav)); exact HO277.out) hb)
   have n3_ := Zaa.mk (Kd.Zce (by (with_reducible repeat (first | apply Kd.Zbb | apply Kd.Zbc | apply Kd.Zbl)); exact HO287.out) hb)
   have n4_ := Zaa.mk (Zbh (g := gb257) (o := .cells #[.slice A0_0 l0_0.length c0_0, .int .i64 a0_1, .slice A0_2 l0_2.length c0_2, .slice A0_3 l0_3.length c0_3, .int .i64 a0_4, .int .i64 a0_5, .slice A0_6 l0_6.length c0_6, .int .i64 a0_7, .slice A0_8 l0_8.length c0_8, .slice A0_9 l0_9.length c0_9] 27 (0, 0)) (by (with_reducible repeat (first | refine Zaf ?_ _ | refine Zah ?_ | refine Zae ?_ _)); exact BK257.out) hb)
   have n5_ := Zaa.mk (Zbh (g := gb258) (o := .cells #[.int .i64 0, .slice none 0 0, .slice none 0 0, .int .i64 0, .int .i64 0, .slice none 0 0, .int .i64 0] 25 (0, 0)) (by (with_reducible repeat (first | refine Zaf ?_ _ | refine Zah ?_ | refine Zae ?_ _)); exact BK258.out) hb)
   have n6_ := Zaa.mk (Zbh (g := gb284) (o := .cells #[.int .i64 a1, .slice Ao34 t272.length co34, .slice Ao35 t275.length co35, .int .i64 t278, .int .i64 t279, .slice Ao36 y285.length co36, .int .i64 t283] 25 (0, 0)) (by (with_reducible repeat (first | refine Zaf ?_ _ | refine Zah ?_ | refine Zae ?_ _)); exact BK284.out) hb)
   have n7_ := Zaa.mk (Za2 (by repeat (first | (with_reducible first | exact HB.out | apply Zac | apply Za | apply Zab | refine Zag ?_ GE257.out | refine Zag ?_ GE258.out | refine Zag ?_ GE284.out) | exact HB.out)) hb)
   clear HO_7
   clear HO274
   clear HO277
   clear HO287
   clear BK257
   clear BK258
   clear BK284
   clear HB
   have HO_7 := n0_
   have HO274 := n1_
   have HO277 := n2_
   have HO287 := n3_
   have BK257 := n4_
   have BK258 := n5_
   have BK284 := n6_
   have HB := n7_
   clear n0_ n1_ n2_ n3_ n4_ n5_ n6_ n7_
   (try clear hb)
   (try clear hb2)
   (try clear hk)
   (try clear hi)
   refine hK.out _ _ ⟨(Zax BK284.out 0).trans rfl, (Zax BK284.out 1).trans rfl, (Zax BK284.out 2).trans rfl, (Zax BK284.out 3).trans rfl, (Zax BK284.out 4).trans rfl, (Zax BK284.out 5).trans rfl, (Zax BK284.out 6).trans rfl⟩ (fun hHeld => ?_)
   clear hK K
   refine Ze3 (a' := ?_) ?_ ?_
   rotate_left
   ·show Act.put _ (some 56) _ = _
    simp only [Act.put, List.setIfInBounds_toArray, List.set_cons_zero, List.set_cons_succ, Zbg, Zbj]
    rfl
   refine Zbt (i := 5) (N := some 57) (v := ?_) (a' := ?_) #[true, true, true, true, true, true, false, false, false] rfl rfl (Zbe HT_.out (by kernel_rfl)) (fun _ _ _ h => h) (Or.inl ⟨by rfl, ?_⟩) ?_ ?_
   rotate_left
   ·intro w'
    go_simp
    with_reducible rfl
   rotate_left
   ·simp only [Act.put, List.setIfInBounds_toArray, List.set_cons_zero, List.set_cons_succ, Zbg, Zbj]
    rfl
   refine Zbt (i := 6) (N := some 4) (v := ?_) (a' := ?_) #[true, true, true, true, true, true, true, false, false] rfl rfl (Zbe HT_.out (by kernel_rfl)) (fun _ _ _ h => h) (Or.inl ⟨by rfl, ?_⟩) ?_ ?_
   rotate_left
   ·intro w'
    go_simp
    with_reducible rfl
   rotate_left
   ·simp only [Act.put, List.setIfInBounds_toArray, List.set_cons_zero, List.set_cons_succ, Zbg, Zbj]
    rfl
   refine one_ (i := 7) (N := none) #[true, true, true, true, true, true, true, true, false] rfl rfl (Zdr HT_.out (by kernel_rfl)) (by decide) (fun K hK => ?_)
   have hs46 : w45.cell? ⟨gb258, 0, none⟩ = some (.int .i64 0) := (Zax BK258.out 0).trans rfl
   have hfs46 := Zb0 BK258.out 0
   have hns46_0 := NB257_258.out
   have hns46_2 := NB284_258.out
   have hms46_0 := NB258_257.out
   have hms46_2 := NB258_284.out
   have hs47 : w45.cell? ⟨gb258, 1, none⟩ = some (.slice none 0 0) := (Zax BK258.out 1).trans rfl
   have hfs47 := Zb0 BK258.out 1
   have hns47_0 := NB257_258.out
   have hns47_2 := NB284_258.out
   have hms47_0 := NB258_257.out
   have hms47_2 := NB258_284.out
   have hs48 : w45.cell? ⟨gb258, 2, none⟩ = some (.slice none 0 0) := (Zax BK258.out 2).trans rfl
   have hfs48 := Zb0 BK258.out 2
   have hns48_0 := NB257_258.out
   have hns48_2 := NB284_258.out
   have hms48_0 := NB258_257.out
   have hms48_2 := NB258_284.out
   have hs49 : w45.cell? ⟨gb258, 3, none⟩ = some (.int .i64 0) := (Zax BK258.out 3).trans rfl
   have hfs49 := Zb0 BK258.out 3
   have hns49_0 := NB257_258.out
   have hns49_2 := NB284_258.out
   have hms49_0 := NB258_257.out
   have hms49_2 := NB258_284.out
   have hs50 : w45.cell? ⟨gb258, 4, none⟩ = some (.int .i64 0) := (Zax BK258.out 4).trans rfl
   have hfs50 := Zb0 BK258.out 4
   have hns50_0 := NB257_258.out
   have hns50_2 := NB284_258.out
   have hms50_0 := NB258_257.out
   have hms50_2 := NB258_284.out
   have hs51 : w45.cell? ⟨gb258, 5, none⟩ = some (.slice none 0 0) := (Zax BK258.out 5).trans rfl
   have hfs51 := Zb0 BK258.out 5
   have hns51_0 := NB257_258.out
   have hns51_2 := NB284_258.out
   have hms51_0 := NB258_257.out
   have hms51_2 := NB258_284.out
   have hs52 : w45.cell? ⟨gb258, 6, none⟩ = some (.int .i64 0) := (Zax BK258.out 6).trans rfl
   have hfs52 := Zb0 BK258.out 6
   have hns52_0 := NB257_258.out
   have hns52_2 := NB284_258.out
   have hms52_0 := NB258_257.out
   have hms52_2 := NB258_284.out
   refine skip_ (w1 := ?_) (by rfl) rfl ?_ ?_
   rotate_left
   ·go_simp
    rfl
   refine hK.out _ _ ⟨((cell_far (p := ⟨gb258, _, none⟩) NB284_258.out _).trans (((cell_far (p := ⟨gb258, _, none⟩) NB284_258.out _).trans (((cell_far (p := ⟨gb258, _, none⟩) NB284_258.out _).trans (((cell_far (p := ⟨gb258, _, none⟩) NB284_258.out _).trans (((cell_far (p := ⟨gb258, _, none⟩) NB284_258.out _).trans (((cell_far (p := ⟨gb258, _, none⟩) NB284_258.out _).trans (((cell_far (p := ⟨gb258, _, none⟩) NB284_258.out _).trans (hHeld.1)))))))))))))), ((cell_far (p := ⟨gb258, _, none⟩) NB284_258.out _).trans (((cell_far (p := ⟨gb258, _, none⟩) NB284_258.out _).trans (((cell_far (p := ⟨gb258, _, none⟩) NB284_258.out _).trans (((cell_far (p := ⟨gb258, _, none⟩) NB284_258.out _).trans (((cell_far (p := ⟨gb258, _, none⟩) NB284_258.out _).trans (((cell_far (p := ⟨gb258, _, none⟩) NB284_258.out _).trans (((cell_far (p := ⟨gb258, _, none⟩) NB284_258.out _).trans (hHeld.2.1)))))))))))))), ((cell_far (p := ⟨gb258, _, none⟩) NB284_258.out _).trans (((cell_far (p := ⟨gb258, _, none⟩) NB284_258.out _).trans (((cell_far (p := ⟨gb258, _, none⟩) NB284_258.out _).trans (((cell_far (p := ⟨gb258, _, none⟩) NB284_258.out _).trans (((cell_far (p := ⟨gb258, _, none⟩) NB284_258.out _).trans (((cell_far (p := ⟨gb258, _, none⟩) NB284_258.out _).trans (((cell_far (p := ⟨gb258, _, none⟩) NB284_258.out _).trans (hHeld.2.2.1)))))))))))))), ((cell_far (p := ⟨gb258, _, none⟩) NB284_258.out _).trans (((cell_far (p := ⟨gb258, _, none⟩) NB284_258.out _).trans (((cell_far (p := ⟨gb258, _, none⟩) NB284_258.out _).trans (((cell_far (p := ⟨gb258, _, none⟩) NB284_258.out _).trans (((cell_far (p := ⟨gb258, _, none⟩) NB284_258.out _).trans (((cell_far (p := ⟨gb258, _, none⟩) NB284_258.out _).trans (((cell_far (p := ⟨gb258, _, none⟩) NB284_258.out _).trans (hHeld.2.2.2.1)))))))))))))), ((cell_far (p := ⟨gb258, _, none⟩) NB284_258.out _).trans (((cell_far (p := ⟨gb258, _, none⟩) NB284_258.out _).trans (((cell_far (p := ⟨gb258, _, none⟩) NB284_258.out _).trans (((cell_far (p := ⟨gb258, _, none⟩) NB284_258.out _).trans (((cell_far (p := ⟨gb258, _, none⟩) NB284_258.out _).trans (((cell_far (p := ⟨gb258, _, none⟩) NB284_258.out _).trans (((cell_far (p := ⟨gb258, _, none⟩) NB284_258.out _).trans (hHeld.2.2.2.2.1)))))))))))))), ((cell_far (p := ⟨gb258, _, none⟩) NB284_258.out _).trans (((cell_far (p := ⟨gb258, _, none⟩) NB284_258.out _).trans (((cell_far (p := ⟨gb258, _, none⟩) NB284_258.out _).trans (((cell_far (p := ⟨gb258, _, none⟩) NB284_258.out _).trans (((cell_far (p := ⟨gb258, _, none⟩) NB284_258.out _).trans (((cell_far (p := ⟨gb258, _, none⟩) NB284_258.out _).trans (((cell_far (p := ⟨gb258, _, none⟩) NB284_258.out _).trans (hHeld.2.2.2.2.2.1)))))))))))))), ((cell_far (p := ⟨gb258, _, none⟩) NB284_258.out _).trans (((cell_far (p := ⟨gb258, _, none⟩) NB284_258.out _).trans (((cell_far (p := ⟨gb258, _, none⟩) NB284_258.out _).trans (((cell_far (p := ⟨gb258, _, none⟩) NB284_258.out _).trans (((cell_far (p := ⟨gb258, _, none⟩) NB284_258.out _).trans (((cell_far (p := ⟨gb258, _, none⟩) NB284_258.out _).trans (((cell_far (p := ⟨gb258, _, none⟩) NB284_258.out _).trans (hHeld.2.2.2.2.2.2))))))))))))))⟩ (fun hHeld => ?_)
   clear hK K
   refine Zbt (i := 8) (N := some 6) (v := ?_) (a' := ?_) #[true, true, true, true, true, true, true, true, true] rfl rfl (Zbe HT_.out (by kernel_rfl)) (fun _ _ _ h => h) (Or.inl ⟨by rfl, ?_⟩) ?_ ?_
   rotate_left
   ·intro w'
    go_simp
    with_reducible rfl
   rotate_left
   ·simp only [Act.put, List.setIfInBounds_toArray, List.set_cons_zero, List.set_cons_succ, Zbg, Zbj]
    rfl
   refine Zep (Zdf HT_.out (by kernel_rfl)) ?_
   try go_wp2
   refine bodyPost_ret (Zec (rs := [.tmp 4, .cell 5 25, .tmp 6]) rfl (by simp) (.tmp (.cell gb258 25 #[.int .i64 a1, .slice Ao34 t272.length co34, .slice Ao35 t275.length co35, .int .i64 t278, .int .i64 t279, .slice Ao36 y285.length co36, .int .i64 t283] (0, 0) _ rfl (by (with_reducible repeat (first | refine Zaf ?_ _ | refine Zah ?_ | refine Zae ?_ _)); refine Zb5 (cs := #[.int .i64 a1, .slice Ao34 t272.length co34, .slice Ao35 t275.length co35, .int .i64 t278, .int .i64 t279, .slice Ao36 y285.length co36, .int .i64 0]) ?_ 6 _ rfl; (with_reducible repeat (first | refine Zaf ?_ _ | refine Zah ?_ | refine Zae ?_ _)); refine Zb5 (cs := #[.int .i64 a1, .slice Ao34 t272.length co34, .slice Ao35 t275.length co35, .int .i64 t278, .int .i64 t279, .slice none 0 0, .int .i64 0]) ?_ 5 _ rfl; (with_reducible repeat (first | refine Zaf ?_ _ | refine Zah ?_ | refine Zae ?_ _)); refine Zb5 (cs := #[.int .i64 a1, .slice Ao34 t272.length co34, .slice Ao35 t275.length co35, .int .i64 t278, .int .i64 0, .slice none 0 0, .int .i64 0]) ?_ 4 _ rfl; (with_reducible repeat (first | refine Zaf ?_ _ | refine Zah ?_ | refine Zae ?_ _)); refine Zb5 (cs := #[.int .i64 a1, .slice Ao34 t272.length co34, .slice Ao35 t275.length co35, .int .i64 0, .int .i64 0, .slice none 0 0, .int .i64 0]) ?_ 3 _ rfl; (with_reducible repeat (first | refine Zaf ?_ _ | refine Zah ?_ | refine Zae ?_ _)); refine Zb5 (cs := #[.int .i64 a1, .slice Ao34 t272.length co34, .slice none 0 0, .int .i64 0, .int .i64 0, .slice none 0 0, .int .i64 0]) ?_ 2 _ rfl; (with_reducible repeat (first | refine Zaf ?_ _ | refine Zah ?_ | refine Zae ?_ _)); refine Zb5 (cs := #[.int .i64 a1, .slice none 0 0, .slice none 0 0, .int .i64 0, .int .i64 0, .slice none 0 0, .int .i64 0]) ?_ 1 _ rfl; (with_reducible repeat (first | refine Zaf ?_ _ | refine Zah ?_ | refine Zae ?_ _)); refine Zb5 (cs := #[.int .i64 0, .slice none 0 0, .slice none 0 0, .int .i64 0, .int .i64 0, .slice none 0 0, .int .i64 0]) ?_ 0 _ rfl; (with_reducible repeat (first | refine Zaf ?_ _ | refine Zah ?_ | refine Zae ?_ _)); exact BK258.out) Try.underlying25 rfl (by kernel_rfl) (.tmp .nil)))) rfl ?_
   exact ⟨_, _, _, _, by first | rfl | (simp [Za3, Za4] <;> rfl) | (simp only [← hji23]; first | rfl | (simp [Za3, Za4] <;> rfl)) | (simp [*, Za3, Za4] <;> rfl), by (with_reducible repeat (first | apply Kd.Zbb | apply Kd.Zbc | apply Kd.Zbl)); exact Kd.Zcl (Kd.Zb1 (p := ⟨gb258, 6, none⟩) (Kd.Zb1 (p := ⟨gb258, 5, none⟩) (Kd.Zb1 (p := ⟨gb258, 4, none⟩) (Kd.Zb1 (p := ⟨gb258, 3, none⟩) (Kd.Zb1 (p := ⟨gb258, 2, none⟩) (Kd.Zb1 (p := ⟨gb258, 1, none⟩) (Kd.Zb1 (p := ⟨gb258, 0, none⟩) (Kd.Zco HO_7.out BK258.out (by decide)) (fun _ hk => hk.2) (.int .i64 a1)) (fun _ hk => hk.2) (.slice Ao34 t272.length co34)) (fun _ hk => hk.2) (.slice Ao35 t275.length co35)) (fun _ hk => hk.2) (.int .i64 t278)) (fun _ hk => hk.2) (.int .i64 t279)) (fun _ hk => hk.2) (.slice Ao36 y285.length co36)) (fun _ hk => hk.2) (.int .i64 t283)) (fun _ hk => trivial), by (with_reducible repeat (first | apply Kd.Zan | apply Kd.Zao | apply Kd.Zav)); exact Kd.Zbu (Kd.Zbv (p := ⟨gb258, 6, none⟩) (Kd.Zbv (p := ⟨gb258, 5, none⟩) (Kd.Zbv (p := ⟨gb258, 4, none⟩) (Kd.Zbv (p := ⟨gb258, 3, none⟩) (Kd.Zbv (p := ⟨gb258, 2, none⟩) (Kd.Zbv (p := ⟨gb258, 1, none⟩) (Kd.Zbv (p := ⟨gb258, 0, none⟩) (Kd.Zch HO274.out BK258.out (by decide)) (fun _ hk => hk.2) (.int .i64 a1)) (fun _ hk => hk.2) (.slice Ao34 t272.length co34)) (fun _ hk => hk.2) (.slice Ao35 t275.length co35)) (fun _ hk => hk.2) (.int .i64 t278)) (fun _ hk => hk.2) (.int .i64 t279)) (fun _ hk => hk.2) (.slice Ao36 y285.length co36)) (fun _ hk => hk.2) (.int .i64 t283)) (fun _ hk => hk.1), by (with_reducible repeat (first | apply Kd.Zan | apply Kd.Zao | apply Kd.Zav)); exact Kd.Zbu (Kd.Zbv (p := ⟨gb258, 6, none⟩) (Kd.Zbv (p := ⟨gb258, 5, none⟩) (Kd.Zbv (p := ⟨gb258, 4, none⟩) (Kd.Zbv (p := ⟨gb258, 3, none⟩) (Kd.Zbv (p := ⟨gb258, 2, none⟩) (Kd.Zbv (p := ⟨gb258, 1, none⟩) (Kd.Zbv (p := ⟨gb258, 0, none⟩) (Kd.Zch HO277.out BK258.out (by decide)) (fun _ hk => hk.2) (.int .i64 a1)) (fun _ hk => hk.2) (.slice Ao34 t272.length co34)) (fun _ hk => hk.2) (.slice Ao35 t275.length co35)) (fun _ hk => hk.2) (.int .i64 t278)) (fun _ hk => hk.2) (.int .i64 t279)) (fun _ hk => hk.2) (.slice Ao36 y285.length co36)) (fun _ hk => hk.2) (.int .i64 t283)) (fun _ hk => hk.1), by (with_reducible repeat (first | apply Kd.Zbb | apply Kd.Zbc | apply Kd.Zbl)); exact Kd.Zcl (Kd.Zb1 (p := ⟨gb258, 6, none⟩) (Kd.Zb1 (p := ⟨gb258, 5, none⟩) (Kd.Zb1 (p := ⟨gb258, 4, none⟩) (Kd.Zb1 (p := ⟨gb258, 3, none⟩) (Kd.Zb1 (p := ⟨gb258, 2, none⟩) (Kd.Zb1 (p := ⟨gb258, 1, none⟩) (Kd.Zb1 (p := ⟨gb258, 0, none⟩) (Kd.Zco HO287.out BK258.out (by decide)) (fun _ hk => hk.2) (.int .i64 a1)) (fun _ hk => hk.2) (.slice Ao34 t272.length co34)) (fun _ hk => hk.2) (.slice Ao35 t275.length co35)) (fun _ hk => hk.2) (.int .i64 t278)) (fun _ hk => hk.2) (.int .i64 t279)) (fun _ hk => hk.2) (.slice Ao36 y285.length co36)) (fun _ hk => hk.2) (.int .i64 t283)) (fun _ hk => ⟨hk.1.1, hk.1.2⟩), by repeat (first | (with_reducible first | exact HB.out | apply Zac | apply Za | apply Zab | refine Zag ?_ GE257.out | refine Zag ?_ GE258.out | refine Zag ?_ GE284.out) | exact HB.out)⟩
end Go.Proofs.Ytpbcigilipdedaa.P
/- Plain: whether a constraint may be, by the document (of a table, of an element); a case that is laid. -/
namespace Go.Proofs.Ytpbcigilipdedaa.P
open Go.RowKit Go.Proofs.YtpbcigilipdedaaW.PrintWords Go.Proofs.YtpbcigilipdedaaW.PrintLast Go.Proofs.YtpbcigilipdedaaW.PrintMore
set_option linter.unusedVariables false
set_option linter.unusedSimpArgs false

theorem mn_len2 {n m : Nat} : mn (n : Int) (m : Int) = ((min n m : Nat) : Int) := by unfold mn; omega
/-! ### others -/
theorem nodup_snoc {l : List Int} {n : Nat} (hn : n < l.length) (h : (l.take n).Nodup) (hd : ∀ j (hj : j < n), l[n] ≠ l[j]'(by omega)) : (l.take (n + 1)).Nodup := by
  rw [List.take_succ_eq_append_getElem hn, List.nodup_append]
  refine ⟨h, by simp, fun a ha b hb => ?_⟩
  obtain rfl := List.mem_singleton.1 hb
  obtain ⟨j, hj, rfl⟩ := List.mem_take_iff_getElem.1 ha
  exact fun e => hd j (by omega) e.symm
theorem others_l0 (l : List Int) (hl : l.length < 4611686018427387904) : ∀ (m n : Nat), n + m = l.length → (l.take n).Nodup → Ev (fun k => Zaq.l0 k l (n : Int)) (decide l.Nodup) := by
  intro m
  induction m with
  | zero =>
    intro n h hn
    rw [List.take_of_length_le (by omega)] at hn
    exact Ev.step (G := fun _ => some true) (fun k => by rw [Zaq.l0, if_neg (by omega)]) (Ev.const (by simp [hn]))
  | succ m ih =>
    intro n h hn
    have hlt : n < l.length := by omega
    have inner : ∀ (r q : Nat) (hq : q + r = n), (∀ j (hj : j < q), l[n] ≠ l[j]'(by omega)) → Ev (fun k => Zaq.l1 k l (n : Int) (q : Int)) (decide l.Nodup) := by
      intro r
      induction r with
      | zero =>
        intro q hq hd
        obtain rfl : q = n := by omega
        exact Ev.step (fun k => by rw [Zaq.l1, if_neg (by omega), w1 (by omega)]) (ih (q + 1) (by omega) (nodup_snoc hlt hn hd))
      | succ r ihr =>
        intro q hq hd
        have hql : q < l.length := by omega
        by_cases e : l[n] = l[q]
        rotate_left
        · refine Ev.step (fun k => by rw [Zaq.l1, if_pos (by omega), if_pos (by omega), if_pos (by omega), if_pos (by omega), if_pos (by omega), Zck l n hlt, Zck l q hql, if_neg e, w1 (by omega)]) (ihr (q + 1) (by omega) (fun j hj => ?_))
          by_cases hjq : j = q
          · subst hjq; exact e
          exact hd j (by omega)
        have hnn : ¬ l.Nodup := fun hN => by
          exact List.pairwise_iff_getElem.1 hN q n hql hlt (by omega) e.symm
        rw [decide_eq_false hnn]
        exact Ev.step (G := fun _ => some false) (fun k => by rw [Zaq.l1, if_pos (by omega), if_pos (by omega), if_pos (by omega), if_pos (by omega), if_pos (by omega), Zck l n hlt, Zck l q hql, if_pos e]) (Ev.pure _)
    exact Ev.step (fun k => by rw [Zaq.l0, if_pos (by omega)]; rfl) (inner n 0 (by omega) (fun j hj => absurd hj (Nat.not_lt_zero j)))
theorem others_ev (l : List Int) (hl : l.length < 4611686018427387904) : Ev (fun k => Zaq.f k l) (decide l.Nodup) := others_l0 l hl l.length 0 (by omega) (by simp)

/-! ### rows -/
/-- A table's rows may be. -/
def rowsOK (vars : List Int) (rows : List (List Int)) : Bool := (rows.all fun r => decide (r.length = vars.length) && r.all isVal) && decide (rows.length ≤ 1024)
theorem rows_l0 (kd : Int) (vars coefs : List Int) (op rhs : Int) (rows : List (List Int)) (b : Int) (hr : rows.length < 4611686018427387904) (hin : ∀ x ∈ rows, x.length < 4611686018427387904) : ∀ (m n : Nat), n + m = rows.length →
    Ev (fun k => Zat.l0 k (n : Int) kd vars coefs op rhs rows b) (((rows.drop n).all fun r => decide (r.length = vars.length) && r.all isVal) && decide (rows.length ≤ 1024)) := by
  intro m
  induction m with
  | zero =>
    intro n h
    rw [List.drop_of_length_le (by omega)]
    exact Ev.step (G := fun _ => some (decide ((rows.length : Int) ≤ 1024))) (fun k => by rw [Zat.l0, if_neg (by omega)]) (Ev.const (by simp; omega))
  | succ m ih =>
    intro n h
    have hn : n < rows.length := by omega
    have hx := hin _ (List.getElem_mem hn)
    rw [List.drop_eq_getElem_cons hn, List.all_cons]
    have inner : ∀ (r q : Nat), q + r = rows[n].length → Ev (fun k => Zat.l1 k (n : Int) (q : Int) kd vars coefs op rhs rows b) (((rows[n].drop q).all isVal && (rows.drop (n + 1)).all fun r => decide (r.length = vars.length) && r.all isVal) && decide (rows.length ≤ 1024)) := by
      intro r
      induction r with
      | zero =>
        intro q hq
        rw [List.drop_of_length_le (show rows[n].length ≤ q by omega)]
        refine Ev.step (fun k => by rw [Zat.l1, if_pos (by omega), if_pos (by omega), Zdm rows n hn, if_neg (by omega), w1 (by omega)]) ?_
        simpa using ih (n + 1) (by omega)
      | succ r ihr =>
        intro q hq
        have hql : q < rows[n].length := by omega
        refine Ev.step (fun k => by rw [Zat.l1, if_pos (by omega), if_pos (by omega), Zdm rows n hn, if_pos (by omega), if_pos (by omega), Zck _ q hql, Ze4, Option.bind_some, w1 (by omega)]) ?_
        rw [List.drop_eq_getElem_cons hql, List.all_cons]
        cases hv : isVal rows[n][q] with
        | true => simpa using ihr (q + 1) (by omega)
        | false => simpa using Ev.pure false
    by_cases e : rows[n].length = vars.length
    rotate_left
    · refine Ev.step (G := fun _ => some false) (fun k => by rw [Zat.l0, if_pos (by omega), if_pos (by omega), Zdm rows n hn, if_neg (by omega)]) ?_
      simpa [e] using Ev.pure false
    refine Ev.step (fun k => by rw [Zat.l0, if_pos (by omega), if_pos (by omega), Zdm rows n hn, if_pos (by omega)]) ?_
    have := inner rows[n].length 0 (by omega)
    simpa [e] using this
theorem rows_ev (kd : Int) (vars coefs : List Int) (op rhs : Int) (rows : List (List Int)) (b : Int) (hr : rows.length < 4611686018427387904) (hin : ∀ x ∈ rows, x.length < 4611686018427387904) :
    Ev (fun k => Zat.f k kd vars coefs op rhs rows b) (rowsOK vars rows) := rows_l0 kd vars coefs op rhs rows b hr hin rows.length 0 (by omega)

/-! ### right, Con: a table (2), an element (3) -/
def plainB (coefs : List Int) (op rhs b : Int) : Bool := decide (op = 0) && decide (rhs = 0) && decide (b = 0) && decide (coefs = [])
def manyB (vars : List Int) : Bool := decide (vars ≠ []) && decide vars.Nodup
/-- Its row is kept. -/
def rightB (kd : Int) (vars coefs : List Int) (op rhs : Int) (rows : List (List Int)) (b : Int) : Bool :=
  plainB coefs op rhs b && manyB vars && (if kd = 2 then rowsOK vars rows else decide (rows = []) && decide (3 ≤ vars.length))
section
variable (d : List (List Rg)) (kd : Int) (vars coefs : List Int) (op rhs : Int) (rows : List (List Int)) (b : Int) (hk : kd = 2 ∨ kd = 3)
  (hv : vars.length < 4611686018427387904) (hr : rows.length < 4611686018427387904) (hin : ∀ x ∈ rows, x.length < 4611686018427387904)
include hk hv hr hin
theorem right_j3 (x6 x8 : Bool) : Ev (fun k => Zaj.j3 k x6 x8 kd vars coefs op rhs rows b) (x6 && x8 && (if kd = 2 then rowsOK vars rows else decide (rows = []) && decide (3 ≤ vars.length))) := by
  rcases hk with rfl | rfl
  · refine Ev.step (fun k => by rw [Zaj.j3, if_neg (by omega), if_neg (by omega), if_pos rfl]) ?_
    cases x6 with
    | false => simpa using Ev.pure false
    | true =>
      cases x8 with
      | false => simpa using Ev.pure false
      | true => simpa using Ev.bind (rows_ev 2 vars coefs op rhs rows b hr hin) (Ev.pure _)
  refine Ev.step (fun k => by rw [Zaj.j3, if_neg (by omega), if_neg (by omega), if_neg (by omega), if_pos rfl]) ?_
  by_cases h0 : rows = []
  rotate_left
  · have hne : ¬ (rows.length : Int) = 0 := by
      intro e
      exact h0 (List.length_eq_zero_iff.1 (by omega))
    simp only [if_neg hne]
    simpa [h0] using Ev.pure false
  subst h0
  cases x6 with
  | false => simpa using Ev.pure false
  | true =>
    cases x8 with
    | false => simpa using Ev.pure false
    | true =>
      have e : (decide ((vars.length : Int) ≥ 3)) = decide (3 ≤ vars.length) := decide_eq_decide.2 (by omega)
      simpa [e] using Ev.pure (decide (3 ≤ vars.length))
theorem right_j2 (x6 : Bool) : Ev (fun k => Zaj.j2 k x6 kd vars coefs op rhs rows b) (x6 && manyB vars && (if kd = 2 then rowsOK vars rows else decide (rows = []) && decide (3 ≤ vars.length))) := by
  by_cases h0 : vars = []
  · subst h0
    refine Ev.step (fun k => by rw [Zaj.j2, if_neg (by simp)]) ?_
    have := right_j3 kd [] coefs op rhs rows b hk hv hr hin x6 false
    simpa [manyB] using this
  have hpos : (vars.length : Int) > 0 := by
    have : vars.length ≠ 0 := fun e => h0 (List.length_eq_zero_iff.1 e)
    omega
  refine Ev.step (fun k => by rw [Zaj.j2, if_pos hpos]) (Ev.bind (others_ev vars hv) ?_)
  have := right_j3 kd vars coefs op rhs rows b hk hv hr hin x6 (decide vars.Nodup)
  simpa [manyB, h0] using this
theorem right_j0 (x5 : Bool) : Ev (fun k => Zaj.j0 k x5 kd vars coefs op rhs rows b) (x5 && decide (coefs = []) && manyB vars && (if kd = 2 then rowsOK vars rows else decide (rows = []) && decide (3 ≤ vars.length))) := by
  have j1 : ∀ x6 : Bool, Ev (fun k => Zaj.j1 k x6 kd vars coefs op rhs rows b) (x6 && manyB vars && (if kd = 2 then rowsOK vars rows else decide (rows = []) && decide (3 ≤ vars.length))) := fun x6 => by
    by_cases h : op ≥ 0
    · exact Ev.step (fun k => by rw [Zaj.j1, if_pos h]) (right_j2 kd vars coefs op rhs rows b hk hv hr hin x6)
    exact Ev.step (fun k => by rw [Zaj.j1, if_neg h]) (right_j2 kd vars coefs op rhs rows b hk hv hr hin x6)
  cases x5 with
  | false => exact Ev.step (fun k => by rw [Zaj.j0, if_neg (by simp)]) (by simpa using j1 false)
  | true =>
    have e : ((coefs.length : Int) == 0) = decide (coefs = []) := by
      rw [Bool.eq_iff_iff, decide_eq_true_iff, beq_iff_eq]
      constructor
      · intro h; exact List.length_eq_zero_iff.1 (by omega)
      rintro rfl; rfl
    refine Ev.step (fun k => by rw [Zaj.j0, if_pos rfl, e]) ?_
    simpa using j1 (decide (coefs = []))
theorem right_ev : Ev (fun k => Zaj.f k d kd vars coefs op rhs rows b) (rightB kd vars coefs op rhs rows b) := by
  unfold Zaj.f rightB plainB
  by_cases h1 : op = 0
  rotate_left
  · have := right_j0 kd vars coefs op rhs rows b hk hv hr hin false
    simp only [if_neg h1]
    simpa [h1] using this
  by_cases h2 : rhs = 0
  rotate_left
  · have := right_j0 kd vars coefs op rhs rows b hk hv hr hin false
    simp only [if_pos h1, if_neg h2]
    simpa [h1, h2] using this
  have := right_j0 kd vars coefs op rhs rows b hk hv hr hin (b == 0)
  have e : (b == 0) = decide (b = 0) := by rw [Bool.eq_iff_iff, decide_eq_true_iff, beq_iff_eq]
  rw [e] at this
  simp only [if_pos h1, if_pos h2, e]
  simpa [h1, h2] using this
/-- Con tells something; if it tells nothing wrong, the variables are there and the row is kept. -/
theorem con_ev (hv2 : vars.length < 17592186044000) (hd : d.length < 4611686018427387904) : ∃ e : Int, Ev (fun k => Zas.f k d kd vars coefs op rhs rows b) e ∧ (e = 0 → (∀ v ∈ vars, 0 ≤ v ∧ v < (d.length : Int)) ∧ rightB kd vars coefs op rhs rows b = true) := by
  have hsl := Zed vars
  have hR := right_ev d kd vars coefs op rhs rows b hk hv hr hin
  have loop : ∀ (m n : Nat), n + m = (sd vars).length → (∀ v ∈ (sd vars).take n, 0 ≤ v ∧ v < (d.length : Int)) →
      ∃ e : Int, Ev (fun k => Zas.l0 k d (sd vars) (n : Int) kd vars coefs op rhs rows b) e ∧ (e = 0 → (∀ v ∈ sd vars, 0 ≤ v ∧ v < (d.length : Int)) ∧ rightB kd vars coefs op rhs rows b = true) := by
    intro m
    induction m with
    | zero =>
      intro n h ha
      rw [List.take_of_length_le (by omega)] at ha
      cases hB : rightB kd vars coefs op rhs rows b with
      | false =>
        rw [hB] at hR
        refine ⟨44, Ev.step (fun k => by rw [Zas.l0, if_neg (by omega)]) (Ev.bind hR (Ev.Zda Bool.false_ne_true (Ev.pure _))), fun e => by omega⟩
      | true =>
        rw [hB] at hR
        have hp : coefs = [] ∧ rhs = 0 := by
          unfold rightB plainB at hB
          simp at hB
          exact ⟨hB.1.1.2, hB.1.1.1.1.2⟩
        obtain ⟨rfl, rfl⟩ := hp
        have hbig : Ev (fun k => Zar.f k [] 0) false := by
          unfold Zar.f
          refine Ev.Zda (by omega) ?_
          refine Ev.step (fun k => by rw [Zar.j0, if_neg (by simp)]) ?_
          exact Ev.step (fun k => by rw [Zar.l0, if_neg (show ¬ ((0 : Int) < (([] : List Int).length : Int)) from Int.lt_irrefl 0)]) (Ev.pure _)
        refine ⟨0, Ev.step (fun k => by rw [Zas.l0, if_neg (by omega)]) (Ev.bind hR ?_), fun _ => ⟨ha, rfl⟩⟩
        refine Ev.Zcs (c := true = true) rfl ?_
        refine Ev.bind hbig ?_
        exact Ev.Zda (c := false = true) Bool.false_ne_true (Ev.pure _)
    | succ m ih =>
      intro n h ha
      have hn : n < (sd vars).length := by omega
      by_cases h1 : (sd vars)[n] < 0
      · exact ⟨43, Ev.step (fun k => by rw [Zas.l0, if_pos (by omega), if_pos (by omega), Zck _ n hn, if_pos h1]) (Ev.pure _), fun e => by omega⟩
      by_cases h2 : (sd vars)[n] ≥ (d.length : Int)
      · exact ⟨43, Ev.step (fun k => by rw [Zas.l0, if_pos (by omega), if_pos (by omega), Zck _ n hn, if_neg h1, if_pos h2]) (Ev.pure _), fun e => by omega⟩
      obtain ⟨e, he, hg⟩ := ih (n + 1) (by omega) (fun v hv' => by
        rw [List.take_succ_eq_append_getElem hn, List.mem_append, List.mem_singleton] at hv'
        rcases hv' with hv' | rfl
        · exact ha v hv'
        omega)
      exact ⟨e, Ev.step (fun k => by rw [Zas.l0, if_pos (by omega), if_pos (by omega), Zck _ n hn, if_neg h1, if_neg h2, w1 (by omega)]) he, hg⟩
  obtain ⟨e, he, hg⟩ := loop (sd vars).length 0 (by omega) (fun v hv' => by rw [List.take_zero] at hv'; cases hv')
  refine ⟨e, ?_, fun h0 => ⟨fun v hv' => (hg h0).1 v ((Zeb v vars).2 hv'), (hg h0).2⟩⟩
  have hU : Ev (fun k => Zbw.f k kd vars coefs op rhs rows b) (sd vars) := by
    unfold Zbw.f
    refine Ev.bind (Ev.pure _) (Ev.Zcs (by simp; omega) (Ev.bind (Ev.pure _) (Ev.Zda (by omega) ?_)))
    rw [List.nil_append]
    exact Ev.bind (Zg vars hv2) (Ev.pure _)
  unfold Zas.f
  refine Ev.Zda (by omega) ?_
  have e6 : decide (kd > 6) = false := decide_eq_false (by omega)
  rw [e6]
  exact Ev.step (fun k => by rw [Zas.j0, if_neg (by simp)]) (Ev.bind hU he)
end

/-! ### Laid -/
/-- The domains of a case: at most four, of at most six values. -/
def domsC (D : List (List Int)) : List (List Rg) := (D.take 4).map fun x => dsm (x.take 6)
theorem Zds (D : List (List Int)) : (domsC D).length ≤ 4 := by simp [domsC]; omega
theorem rdR_nat (xs : List (List Rg)) (n : Nat) (h : n < xs.length) : Zcr xs (n : Int) = xs[n] := by simp [Zcr, List.getD_eq_getElem?_getD, List.getElem?_eq_getElem h]
/-- What comes of a constraint that is laid for kind kd. -/
structure ConOK (kd : Int) (n : Nat) (vars coefs : List Int) (op rhs : Int) (rows : List (List Int)) (b : Int) : Prop where
  mem : ∀ v ∈ vars, 0 ≤ v ∧ v < (n : Int)
  right : rightB kd vars coefs op rhs rows b = true
section
variable (D : List (List Int)) (x1 : Int) (vars coefs : List Int) (op rhs : Int) (rows : List (List Int)) (b : Int) (A Tk : List Int) (kd : Int) (hk : kd = 2 ∨ kd = 3)
  (hv : vars.length * 8 ≤ 140737488351232) (hc : coefs.length * 8 ≤ 140737488351232) (hr : rows.length * 24 ≤ 140737488351232) (hin : ∀ x ∈ rows, x.length * 8 ≤ 140737488351232)
include hk hv hc hr hin
theorem laid_ev : ∃ ok : Bool, Ev (fun k => Zap.f k D x1 vars coefs op rhs rows b A Tk kd) (domsC D, kd, vars, coefs, op, rhs, rows.take 20, b, ok) ∧ (ok = true → ConOK kd (domsC D).length vars coefs op rhs (rows.take 20) b) := by
  have hdl := Zds D
  obtain ⟨e, he, hg⟩ := con_ev (domsC D) kd vars coefs op rhs (rows.take 20) b hk (by omega) (by rw [List.length_take]; omega) (fun x hx => by have := hin x (List.mem_of_mem_take hx); omega) (by omega) (by omega)
  have hown : Ev (fun k => Zby.f k x1 vars coefs op rhs rows b) (x1, vars, coefs, op, rhs, rows, b) := by
    unfold Zby.f
    refine Ev.bind (Ev.pure _) (Ev.Zcs (by simp; omega) (Ev.bind (Ev.pure _) (Ev.Zcs (by simp; omega) ?_)))
    exact Ev.bind (ref_Copy rows (by omega) (fun x hx => by have := hin x hx; omega)) (by simpa using Ev.pure _)
  have e20 : mn (rows.length : Int) 20 = ((min rows.length 20 : Nat) : Int) := mn_len2 (m := 20)
  have loop : ∀ (m n : Nat), n + m = min D.length 4 → Ev (fun k => Zap.l0 k kd (domsC (D.take n)) (n : Int) D x1 vars coefs op rhs rows b A Tk) (domsC D, kd, vars, coefs, op, rhs, rows.take 20, b, (e == 0)) := by
    have last : ∀ n, n = min D.length 4 → domsC (D.take n) = domsC D := fun n hn => by
      unfold domsC
      rw [List.take_take, hn]
      congr 1
      rcases Nat.le_total D.length 4 with h | h
      · rw [Nat.min_eq_left h, List.take_of_length_le h, List.take_of_length_le (by omega)]
      rw [Nat.min_eq_right h, Nat.min_self]
    intro m
    induction m with
    | zero =>
      intro n h
      rw [last n (by omega)]
      have fin : Ev (fun k => (Zby.f k x1 vars coefs op rhs rows b).bind fun bt271 => (if 0 ≤ (mn (bt271.2.2.2.2.2.1.length : Int) 20) then (if (mn (bt271.2.2.2.2.2.1.length : Int) 20) ≤ (bt271.2.2.2.2.2.1.length : Int) then ((some (bt271.2.2.2.2.2.1.take ((mn (bt271.2.2.2.2.2.1.length : Int) 20) : Int).toNat : List (List Int))).bind fun y285 => ((Zas.f k (domsC D) kd bt271.2.1 bt271.2.2.1 bt271.2.2.2.1 bt271.2.2.2.2.1 y285 bt271.2.2.2.2.2.2).bind fun t288 => (some (domsC D, kd, bt271.2.1, bt271.2.2.1, bt271.2.2.2.1, bt271.2.2.2.2.1, y285, bt271.2.2.2.2.2.2, (t288 == 0))))) else (none)) else (none))) (domsC D, kd, vars, coefs, op, rhs, rows.take 20, b, (e == 0)) := by
        refine Ev.bind hown (Ev.Zcs (by show 0 ≤ mn (rows.length : Int) 20; rw [e20]; omega) (Ev.Zcs (by show mn (rows.length : Int) 20 ≤ (rows.length : Int); rw [e20]; omega) (Ev.bind (Ev.pure _) ?_)))
        have et : rows.take (mn (rows.length : Int) 20).toNat = rows.take 20 := by
          rw [e20, Int.toNat_natCast]
          rcases Nat.le_total rows.length 20 with h | h
          · rw [Nat.min_eq_left h, List.take_of_length_le (Nat.le_refl _), List.take_of_length_le h]
          rw [Nat.min_eq_right h]
        show Ev (fun k => (Zas.f k (domsC D) kd vars coefs op rhs (rows.take (mn (rows.length : Int) 20).toNat) b).bind fun t288 => some (domsC D, kd, vars, coefs, op, rhs, rows.take (mn (rows.length : Int) 20).toNat, b, (t288 == 0))) _
        rw [et]
        exact Ev.bind he (Ev.pure _)
      by_cases hlt : n < D.length
      rotate_left
      · exact Ev.step (fun k => by rw [Zap.l0, if_neg (by omega)]) fin
      exact Ev.step (fun k => by rw [Zap.l0, if_pos (by omega), if_neg (by omega)]) fin
    | succ m ih =>
      intro n h
      have hn : n < D.length := by omega
      have e6 : mn (D[n].length : Int) 6 = ((min D[n].length 6 : Nat) : Int) := mn_len2 (m := 6)
      have et : D[n].take (mn (D[n].length : Int) 6).toNat = D[n].take 6 := by
        rw [e6, Int.toNat_natCast]
        rcases Nat.le_total D[n].length 6 with h | h
        · rw [Nat.min_eq_left h, List.take_of_length_le (Nat.le_refl _), List.take_of_length_le h]
        rw [Nat.min_eq_right h]
      have hstep := ih (n + 1) (by omega)
      have hsn : domsC (D.take (n + 1)) = domsC (D.take n) ++ [dsm (D[n].take 6)] := by
        unfold domsC
        rw [List.take_take, List.take_take, Nat.min_eq_right (by omega), Nat.min_eq_right (by omega), List.take_succ_eq_append_getElem hn, List.map_append]
        rfl
      rw [hsn] at hstep
      have hl4 := Zds (D.take n)
      refine Ev.step (fun k => by rw [Zap.l0, if_pos (by omega), if_pos (by omega), if_pos (by omega), Zdm D n hn, if_pos (by rw [e6]; omega), if_pos (by rw [e6]; omega), et]) (Ev.bind (Small_ev (D[n].take 6) (by rw [List.length_take]; omega)) ?_)
      refine Ev.Zcs (by omega) ?_
      simp only [w1 (show n < 4611686018427387904 by omega)]
      exact hstep
  refine ⟨e == 0, loop (min D.length 4) 0 (by omega), fun h => ?_⟩
  have := hg (by simpa using h)
  exact ⟨this.1, this.2⟩
end
end Go.Proofs.Ytpbcigilipdedaa.P
namespace Go.Proofs.Ytpbcigilipdedaa.P
open Go.RowKit Go.Proofs.YtpbcigilipdedaaW.PrintWords Go.Proofs.YtpbcigilipdedaaW.PrintLast Go.Proofs.YtpbcigilipdedaaW.PrintMore
attribute [local go_sem] Zcx Zcz Zc6 Zc7 Zcp Zcq Zcy Zc0
set_option linter.unusedVariables false
set_option linter.unusedSimpArgs false
/-! ### Zcc: function 52 -/
def Zcc.f (l0 : List Int) (a1 : Int) : Option (Int) := if a1 < 0 then (some 0) else (if a1 ≥ (l0.length : Int) then (some 0) else (if 0 ≤ a1 then (if a1 < (l0.length : Int) then (some (rd l0 a1)) else (none)) else (none)))
set_option maxHeartbeats 8000000 in
set_option maxRecDepth 100000 in
theorem Zcc.calls (A0 : Option Addr) (c0 : Nat) (l0 : List Int) (a1 : Int) (r : Int) (w : World) (hr0 : Kd.C (Kd.int .i64) w A0 l0.length l0) (hc0 : l0.length ≤ c0) (h : Zcc.f l0 a1 = some r) :
  Calls Try.prog 52 #[.slice A0 l0.length c0, .int .i64 a1] w fun e w' => e = .returned (.int .i64 r) ∧ Zbi w w' := by
 have HR0 := Zaa.mk hr0
 have HC0 := Zaa.mk hc0
 clear hr0 hc0
 have H : (if a1 < 0 then (some 0) else (if a1 ≥ (l0.length : Int) then (some 0) else (if 0 ≤ a1 then (if a1 < (l0.length : Int) then (some (rd l0 a1)) else (none)) else (none)))) = some r := h
 clear h
 by_cases c3 : a1 < 0
 ·rw [if_pos c3] at H
  have c3b0 : decide (a1 < 0) = true := decide_eq_true c3
  clear c3
  obtain rfl := Option.some.inj H
  go_enter Try.func52, Try.ntmps52
  go_wp2
  go_ret
  exact ⟨by first | rfl | (simp; done) | (simp [*]; done), by repeat (first | exact Zbi.refl _ | apply Zbi.step)⟩
 rw [if_neg c3] at H
 have c3b0 : decide (a1 < 0) = false := decide_eq_false c3
 clear c3
 by_cases c4 : a1 ≥ (l0.length : Int)
 ·rw [if_pos c4] at H
  have c4b0 : decide ((l0.length : Int) ≤ a1) = true := decide_eq_true c4
  clear c4
  obtain rfl := Option.some.inj H
  go_enter Try.func52, Try.ntmps52
  go_wp2
  go_ret
  exact ⟨by first | rfl | (simp; done) | (simp [*]; done), by repeat (first | exact Zbi.refl _ | apply Zbi.step)⟩
 rw [if_neg c4] at H
 have c4b0 : decide ((l0.length : Int) ≤ a1) = false := decide_eq_false c4
 clear c4
 by_cases c5 : 0 ≤ a1
 rotate_left
 ·rw [if_neg c5] at H
  exact absurd H (by simp)

 rw [if_pos c5] at H
 have c5b0 : decide (0 ≤ a1) = true := decide_eq_true c5
 clear c5
 by_cases c6 : a1 < (l0.length : Int)
 rotate_left
 ·rw [if_neg c6] at H
  exact absurd H (by simp)
 rw [if_pos c6] at H
 have c6b0 : decide (a1 < (l0.length : Int)) = true := decide_eq_true c6
 clear c6
 obtain rfl := Option.some.inj H
 have p385 : 0 ≤ (a1 : Int) := of_decide_eq_true (by first | (with_reducible assumption) | assumption)
 have q385 : a1 < (l0.length : Int) := of_decide_eq_true (by first | (with_reducible assumption) | assumption)
 obtain ⟨ad385, e385, hx385_0⟩ := Kd.Zb4 HR0.out a1 p385 q385
 cases e385
 replace p385 := eq_true p385
 replace q385 := eq_true q385
 go_enter Try.func52, Try.ntmps52
 go_wp2
 go_ret
 exact ⟨by first | rfl | (simp; done) | (simp [*]; done), by repeat (first | exact Zbi.refl _ | apply Zbi.step)⟩
/-! ### Za0: function 49 -/
def Za0.l0 : Nat → List Int → List Int → List Int → Int → Option (List Int)
 | 0, _, _, _, _ => none
 | k + 1, x0, x1, x5, x6 => if x6 < (x0.length : Int) then (if 0 ≤ x6 then ((Zcc.f x1 (rd x0 x6)).bind fun t390 => (if x5.length < 17592186044416 then (Za0.l0 k x0 x1 (x5 ++ [t390]) (wrap64 (x6 + 1))) else (none))) else (none)) else (some x5)
def Za0.f (k : Nat) (l0 : List Int) (l1 : List Int) : Option (List Int) := Za0.l0 k l0 l1 (([] : List Int)) 0
theorem Za0.Zb2 : ∀ k, (∀ y0 y1 y2 y3, LeO (Za0.l0 k y0 y1 y2 y3) (Za0.l0 (k + 1) y0 y1 y2 y3))
 | 0 => fun _ _ _ _ r h => by simp [Za0.l0] at h
 | k + 1 => by
  have ih0 := Za0.Zb2 k
  intro y0 y1 y2 y3
  unfold Za0.l0
  repeat' first
  | (with_reducible exact ih0 _ _ _ _)
  | (with_reducible exact LeO.refl _)
  | (with_reducible exact LeO.none _)
  | (with_reducible refine LeO.ite ?_ ?_)
  | (with_reducible refine LeO.bind ?_ (fun _ => ?_))
  | exact ih0 _ _ _ _
  | exact LeO.none _
  | refine LeO.ite ?_ ?_
  | refine LeO.bind ?_ (fun _ => ?_)
theorem Za0.mono : ∀ a0 a1 k, LeO (Za0.f k a0 a1) (Za0.f (k + 1) a0 a1) := by
 intro a0 a1 k
 have ih0 := Za0.Zb2 k
 unfold Za0.f
 repeat' first
   | (with_reducible exact ih0 _ _ _ _)
   | (with_reducible exact LeO.refl _)
   | (with_reducible exact LeO.none _)
   | (with_reducible refine LeO.ite ?_ ?_)
   | (with_reducible refine LeO.bind ?_ (fun _ => ?_))
   | exact ih0 _ _ _ _
   | exact LeO.none _
   | refine LeO.ite ?_ ?_
   | refine LeO.bind ?_ (fun _ => ?_)
set_option maxHeartbeats 8000000 in
set_option maxRecDepth 100000 in
theorem Za0.calls (k : Nat) (A0 : Option Addr) (c0 : Nat) (l0 : List Int) (A1 : Option Addr) (c1 : Nat) (l1 : List Int) (r : List Int) (w : World) (hr0 : Kd.C (Kd.int .i64) w A0 l0.length l0) (hc0 : l0.length ≤ c0) (hr1 : Kd.C (Kd.int .i64) w A1 l1.length l1) (hc1 : l1.length ≤ c1) (h : Za0.f k l0 l1 = some r) :
  Calls Try.prog 49 #[.slice A0 l0.length c0, .slice A1 l1.length c1] w fun e w' => ∃ v0_ : Value, e = .returned (v0_) ∧ Kd.R (Kd.int .i64) 3 w' w.heap.size (fun _ => True) v0_ r ∧ Below w.heap.size w w' := by
 have HR0 := Zaa.mk hr0
 have HC0 := Zaa.mk hc0
 clear hr0 hc0
 have HR1 := Zaa.mk hr1
 have HC1 := Zaa.mk hc1
 clear hr1 hc1
 have HB := Zaa.mk (Below.refl w.heap.size w)
 have H : (Za0.l0 k l0 l1 (([] : List Int)) 0) = some r := h
 clear h
 obtain ⟨y386, hy386⟩ : ∃ y_ : List Int, y_ = (([] : List Int)) := ⟨_, rfl⟩
 replace H : (Za0.l0 k l0 l1 y386 0) = some r := by first | (rw [hy386]; with_reducible exact H) | (have H2_ := (Option.bind_some _ _).symm.trans H; rw [hy386]; with_reducible exact H2_) | (have H2_ := (Option.bind_some _ _).symm.trans H; with_reducible exact H2_) | with_reducible exact H | (rw [hy386]; exact H) | exact H
 have Ny386 := Zaa.mk hy386
 clear hy386
 have H' := Zaa.mk H
 clear H
 go_enter Try.func49, Try.ntmps49
 go_wp2_with (first | ((with_reducible refine Zb3 (N := 7) rfl ?_); refine Kd.Zdx (Kd.int .i64) _ 3 ?hg (N := 7) ?hd (xs := ([] : List Int)) (inner := []) (ok := fun _ => True) (okp := fun _ => True) ?hr ?hp (fun _ hk => hk) trivial (Below.refl _ _) (Nat.le_refl _) (by simp) ?_; (case hd => rfl); (case hg => rfl); (case hr => first | (go_simp; done) | (go_simp; rfl)); (case hp => exact (Reps.none _ _)); intro v387 w3 ho4 hb hg_ hnew_; clear hg_ hnew_; (first | rw [← Ny386.out] at ho4 | (simp only [Int.reduceToNat] at ho4; rw [← Ny386.out] at ho4)); have n0_ := Zaa.mk (Kd.Zb8 ho4 (Zal (by repeat (first | (with_reducible first | exact HB.out | apply Zac | apply Za | apply Zab) | exact HB.out)))); have n1_ := Zaa.mk (Za2 (by repeat (first | (with_reducible first | exact HB.out | apply Zac | apply Za | apply Zab) | exact HB.out)) hb); clear HB; have HO388 := n0_; have HB := n1_; clear n0_ n1_; clear hb ho4))
 go_loopg [5, 6] k (fun kq v5 v6 w' => ∃ (x5_1 : List Int) (x6_1 : Int), v6 = .int .i64 x6_1 ∧ Zaa (Za0.l0 kq l0 l1 x5_1 x6_1 = some r) ∧ Zaa (kq ≤ k) ∧ Zaa (Kd.R (Kd.int .i64) 3 w' w.heap.size (fun _ => True) v5 x5_1) ∧ Zaa (Below w.heap.size w w'))
 case atStart => exact ⟨(y386), (0), (by first | rfl | (simp; done) | (simp [*]; done)), H', ⟨Nat.le_refl _⟩, ⟨by (with_reducible repeat (first | apply Kd.Zan | apply Kd.Zao | apply Kd.Zav)); exact HO388.out⟩, ⟨by repeat (first | (with_reducible first | exact HB.out | apply Zac | apply Za | apply Zab) | exact HB.out)⟩⟩
 case round =>
  clear H'
  try clear c1
  try clear p2
  try clear c4
  obtain ⟨x5_1, x6_1, rfl, HA, HK1, HO_5, HB⟩ := hrel
  cases gk with
  | zero => exact absurd HA.out (by simp [Za0.l0])
  | succ k1 =>
   have H := HA.out
   clear HA
   simp only [Za0.l0] at H
   by_cases c5 : x6_1 < (l0.length : Int)
   rotate_left
   ·rw [if_neg c5] at H
    have c5b0 : decide (x6_1 < (l0.length : Int)) = false := decide_eq_false c5
    clear c5
    obtain rfl := Option.some.inj H
    go_wp2
    go_ret
    exact ⟨_, by first | rfl | (simp [Za3, Za4] <;> rfl) | (simp [*, Za3, Za4] <;> rfl), by (with_reducible repeat (first | apply Kd.Zan | apply Kd.Zao | apply Kd.Zav)); exact HO_5.out, by repeat (first | (with_reducible first | exact HB.out | apply Zac | apply Za | apply Zab) | exact HB.out)⟩

   rw [if_pos c5] at H
   have c5b0 : decide (x6_1 < (l0.length : Int)) = true := decide_eq_true c5
   clear c5
   by_cases c6 : 0 ≤ x6_1
   rotate_left
   ·rw [if_neg c6] at H
    exact absurd H (by simp)
   rw [if_pos c6] at H
   have c6b0 : decide (0 ≤ x6_1) = true := decide_eq_true c6
   clear c6
   replace H := Option.bind_eq_some_iff.mp H
   obtain ⟨t390, A70, H⟩ := H
   replace H : (if x5_1.length < 17592186044416 then (Za0.l0 k1 l0 l1 (x5_1 ++ [t390]) (wrap64 (x6_1 + 1))) else (none)) = some r := H
   have A7 := Zaa.mk A70
   clear A70
   by_cases c8 : x5_1.length < 17592186044416
   rotate_left
   ·rw [if_neg c8] at H
    exact absurd H (by simp)
   rw [if_pos c8] at H
   have LMc8 := Zaa.mk c8
   clear c8
   obtain ⟨y391, hy391⟩ : ∃ y_ : List Int, y_ = (x5_1 ++ [t390]) := ⟨_, rfl⟩
   replace H : (Za0.l0 k1 l0 l1 y391 (wrap64 (x6_1 + 1))) = some r := by first | (rw [hy391]; with_reducible exact H) | (have H2_ := (Option.bind_some _ _).symm.trans H; rw [hy391]; with_reducible exact H2_) | (have H2_ := (Option.bind_some _ _).symm.trans H; with_reducible exact H2_) | with_reducible exact H | (rw [hy391]; exact H) | exact H
   have Ny391 := Zaa.mk hy391
   clear hy391
   have H' := Zaa.mk H
   clear H
   have p389 : 0 ≤ (x6_1 : Int) := of_decide_eq_true (by first | (with_reducible assumption) | assumption)
   have q389 : x6_1 < (l0.length : Int) := of_decide_eq_true (by first | (with_reducible assumption) | assumption)
   obtain ⟨ad389, e389, hx389_0⟩ := Kd.Zb4 HR0.out x6_1 p389 q389
   cases e389
   replace hx389_0 := (HB.out.cell (World.block_lt_of_cell? w _ hx389_0)).trans hx389_0
   replace p389 := eq_true p389
   replace q389 := eq_true q389
   go_wp2_with (first | ((with_reducible refine Zbr (f := 52) rfl ?_); refine Zci (some 20) rfl rfl Try.func52 (by kernel_rfl) rfl #[.slice A1 l1.length c1, .int .i64 (rd l0 x6_1)] rfl (by (try simp only [List.map_toArray, List.map_cons, List.map_nil]); first | done | rfl | (simp only [List.length_drop, List.length_take]; rfl)) ?_; (with_reducible refine (Zcc.calls _ _ l1 (rd l0 x6_1) t390 _ ?side1 ?side2 A7.out).mono ?_); (case side1 => repeat (first | exact (Kd.Zbk HR1.out HB.out) | (with_reducible refine Kd.C_alloc ?_ _) | (with_reducible refine Kd.Za1 ?_ _) | (with_reducible refine Kd.Zbd ?_))); (case side2 => exact HC1.out); rintro e w' ⟨rfl, ⟨nd, rfl⟩⟩; refine ⟨_, rfl, ?_⟩) | ((with_reducible refine Zbs (b := .append) (xs := #[.tmp 14, .tmp 21]) rfl ?_); at_builtin; refine Kd.Zcm (Kd.int .i64) (w0 := w) w.heap.size rfl (.tmp 14) (.tmp 21) 23 3 (.int .i64 0) 8 rfl Try.underlying23 info3 rfl (by decide) (by omega) u5 x5_1 t390 [.int .i64 t390] (fun _ => True) (fun _ => False) rfl rfl ?aP (fun _ hk => hk.elim) ?aF ?aO ?aB ?aS ?aL ?_; (case aP => exact rfl); (case aB => exact (by repeat (first | (with_reducible first | exact HB.out | apply Zac | apply Za | apply Zab) | exact HB.out))); (case aF => exact (fun _ _ => trivial)); (case aO => exact (by (with_reducible repeat (first | apply Kd.Zan | apply Kd.Zao | apply Kd.Zav)); exact HO_5.out)); (case aS => exact (Zal (by repeat (first | (with_reducible first | exact HB.out | apply Zac | apply Za | apply Zab) | exact HB.out)))); (case aL => have := LMc8.out; omega); intro v392 w9 ho hb hg hat; rw [← Ny391.out] at ho; have n0_ := Zaa.mk (hb); have n1_ := Zaa.mk (ho); clear HB; clear HO_5; have HB := n0_; have HO393 := n1_; clear n0_ n1_; clear ho hb hg hat))
   go_roundg k1
   case measure => have := HK1.out; omega
   case rel => exact ⟨(y391), (wrap64 (x6_1 + 1)), (by first | rfl | (simp; done) | (simp [*]; done)), H', ⟨by have := HK1.out; omega⟩, ⟨by (with_reducible repeat (first | apply Kd.Zan | apply Kd.Zao | apply Kd.Zav)); exact HO393.out⟩, ⟨by repeat (first | (with_reducible first | exact HB.out | apply Zac | apply Za | apply Zab) | exact HB.out)⟩⟩
/-! ### Zb9: function 50 -/
def Zb9.f (a0 : Int) (a1 : Int) (a2 : Int) : Option (Bool) := if a0 = 0 then (some (decide (a1 ≤ a2))) else (some ((a1 == a2) == (a0 == 1)))
set_option maxHeartbeats 8000000 in
set_option maxRecDepth 100000 in
theorem Zb9.calls (a0 : Int) (a1 : Int) (a2 : Int) (r : Bool) (w : World) (h : Zb9.f a0 a1 a2 = some r) :
  Calls Try.prog 50 #[.int .i64 a0, .int .i64 a1, .int .i64 a2] w fun e w' => e = .returned (.bool r) ∧ Zbi w w' := by
 have H : (if a0 = 0 then (some (decide (a1 ≤ a2))) else (some ((a1 == a2) == (a0 == 1)))) = some r := h
 clear h
 by_cases c4 : a0 = 0
 rotate_left
 ·rw [if_neg c4] at H
  have c4b0 : (a0 == 0) = false := beq_eq_false_iff_ne.mpr c4
  have c4b1 : (a0 != 0) = true := bne_iff_ne.mpr c4
  obtain rfl := Option.some.inj H
  go_enter Try.func50, Try.ntmps50
  go_wp2
  go_ret
  exact ⟨by first | rfl | (simp; done) | (simp [*]; done), by repeat (first | exact Zbi.refl _ | apply Zbi.step)⟩

 rw [if_pos c4] at H
 have c4b0 : (a0 == 0) = true := beq_iff_eq.mpr c4
 have c4b1 : (a0 != 0) = false := bne_eq_false_iff_eq.mpr c4
 clear c4
 obtain rfl := Option.some.inj H
 go_enter Try.func50, Try.ntmps50
 go_wp2
 go_ret
 exact ⟨by first | rfl | (simp; done) | (simp [*]; done), by repeat (first | exact Zbi.refl _ | apply Zbi.step)⟩
/-! ### Zb: function 51 -/
def Zb.l0 : Nat → List Int → List Int → List Int → Int → Int → Option (Int)
 | 0, _, _, _, _, _ => none
 | k + 1, x0, x1, x2, x7, x8 => if x8 < (x0.length : Int) then (if x8 < (x1.length : Int) then (if 0 ≤ x8 then ((Zcc.f x2 (rd x0 x8)).bind fun t396 => (Zb.l0 k x0 x1 x2 (wrap64 (x7 + (wrap64 ((rd x1 x8) * t396)))) (wrap64 (x8 + 1)))) else (none)) else (some x7)) else (some x7)
def Zb.f (k : Nat) (l0 : List Int) (l1 : List Int) (l2 : List Int) : Option (Int) := Zb.l0 k l0 l1 l2 0 0
theorem Zb.Zb2 : ∀ k, (∀ y0 y1 y2 y3 y4, LeO (Zb.l0 k y0 y1 y2 y3 y4) (Zb.l0 (k + 1) y0 y1 y2 y3 y4))
 | 0 => fun _ _ _ _ _ r h => by simp [Zb.l0] at h
 | k + 1 => by
  have ih0 := Zb.Zb2 k
  intro y0 y1 y2 y3 y4
  unfold Zb.l0
  repeat' first
  | (with_reducible exact ih0 _ _ _ _ _)
  | (with_reducible exact LeO.refl _)
  | (with_reducible exact LeO.none _)
  | (with_reducible refine LeO.ite ?_ ?_)
  | (with_reducible refine LeO.bind ?_ (fun _ => ?_))
  | exact ih0 _ _ _ _ _
  | exact LeO.none _
  | refine LeO.ite ?_ ?_
  | refine LeO.bind ?_ (fun _ => ?_)
theorem Zb.mono : ∀ a0 a1 a2 k, LeO (Zb.f k a0 a1 a2) (Zb.f (k + 1) a0 a1 a2) := by
 intro a0 a1 a2 k
 have ih0 := Zb.Zb2 k
 unfold Zb.f
 repeat' first
   | (with_reducible exact ih0 _ _ _ _ _)
   | (with_reducible exact LeO.refl _)
   | (with_reducible exact LeO.none _)
   | (with_reducible refine LeO.ite ?_ ?_)
   | (with_reducible refine LeO.bind ?_ (fun _ => ?_))
   | exact ih0 _ _ _ _ _
   | exact LeO.none _
   | refine LeO.ite ?_ ?_
   | refine LeO.bind ?_ (fun _ => ?_)
set_option maxHeartbeats 8000000 in
set_option maxRecDepth 100000 in
theorem Zb.calls (k : Nat) (A0 : Option Addr) (c0 : Nat) (l0 : List Int) (A1 : Option Addr) (c1 : Nat) (l1 : List Int) (A2 : Option Addr) (c2 : Nat) (l2 : List Int) (r : Int) (w : World) (hr0 : Kd.C (Kd.int .i64) w A0 l0.length l0) (hc0 : l0.length ≤ c0) (hr1 : Kd.C (Kd.int .i64) w A1 l1.length l1) (hc1 : l1.length ≤ c1) (hr2 : Kd.C (Kd.int .i64) w A2 l2.length l2) (hc2 : l2.length ≤ c2) (h : Zb.f k l0 l1 l2 = some r) :
  Calls Try.prog 51 #[.slice A0 l0.length c0, .slice A1 l1.length c1, .slice A2 l2.length c2] w fun e w' => e = .returned (.int .i64 r) ∧ Zbi w w' := by
 have HR0 := Zaa.mk hr0
 have HC0 := Zaa.mk hc0
 clear hr0 hc0
 have HR1 := Zaa.mk hr1
 have HC1 := Zaa.mk hc1
 clear hr1 hc1
 have HR2 := Zaa.mk hr2
 have HC2 := Zaa.mk hc2
 clear hr2 hc2
 have H : (Zb.l0 k l0 l1 l2 0 0) = some r := h
 clear h
 have H' := Zaa.mk H
 clear H
 go_enter Try.func51, Try.ntmps51
 go_wp2
 repeat (go_quiet (fail); try go_wp2)
 go_loopg [7, 8] k (fun kq v7 v8 w' => ∃ (x7_1 : Int) (x8_1 : Int), v7 = .int .i64 x7_1 ∧ v8 = .int .i64 x8_1 ∧ Zaa (Zb.l0 kq l0 l1 l2 x7_1 x8_1 = some r) ∧ Zaa (kq ≤ k) ∧ Zbi w w')
 case atStart => exact ⟨(0), (0), (by first | rfl | (simp; done) | (simp [*]; done)), (by first | rfl | (simp; done) | (simp [*]; done)), H', ⟨Nat.le_refl _⟩, by repeat (first | exact Zbi.refl _ | apply Zbi.step)⟩
 case round =>
  clear H'
  try clear c1
  try clear c2
  try clear p2
  obtain ⟨x7_1, x8_1, rfl, rfl, HA, HK1, ⟨m1, rfl⟩⟩ := hrel
  cases gk with
  | zero => exact absurd HA.out (by simp [Zb.l0])
  | succ k1 =>
   have H := HA.out
   clear HA
   simp only [Zb.l0] at H
   by_cases c4 : x8_1 < (l0.length : Int)
   rotate_left
   ·rw [if_neg c4] at H
    have c4b0 : decide (x8_1 < (l0.length : Int)) = false := decide_eq_false c4
    clear c4
    obtain rfl := Option.some.inj H
    go_wp2
    repeat (go_quiet (fail); try go_wp2)
    go_ret
    exact ⟨by first | rfl | (simp; done) | (simp [*]; done), by repeat (first | exact Zbi.refl _ | apply Zbi.step)⟩

   rw [if_pos c4] at H
   have c4b0 : decide (x8_1 < (l0.length : Int)) = true := decide_eq_true c4
   clear c4
   by_cases c5 : x8_1 < (l1.length : Int)
   rotate_left
   ·rw [if_neg c5] at H
    have c5b0 : decide (x8_1 < (l1.length : Int)) = false := decide_eq_false c5
    clear c5
    obtain rfl := Option.some.inj H
    go_wp2
    repeat (go_quiet (fail); try go_wp2)
    go_ret
    exact ⟨by first | rfl | (simp; done) | (simp [*]; done), by repeat (first | exact Zbi.refl _ | apply Zbi.step)⟩
   rw [if_pos c5] at H
   have c5b0 : decide (x8_1 < (l1.length : Int)) = true := decide_eq_true c5
   clear c5
   by_cases c6 : 0 ≤ x8_1
   rotate_left
   ·rw [if_neg c6] at H
    exact absurd H (by simp)
   rw [if_pos c6] at H
   have c6b0 : decide (0 ≤ x8_1) = true := decide_eq_true c6
   clear c6
   replace H := Option.bind_eq_some_iff.mp H
   obtain ⟨t396, A70, H⟩ := H
   replace H : (Zb.l0 k1 l0 l1 l2 (wrap64 (x7_1 + (wrap64 ((rd l1 x8_1) * t396)))) (wrap64 (x8_1 + 1))) = some r := H
   have A7 := Zaa.mk A70
   clear A70
   have H' := Zaa.mk H
   clear H
   have p394 : 0 ≤ (x8_1 : Int) := of_decide_eq_true (by first | (with_reducible assumption) | assumption)
   have q394 : x8_1 < (l1.length : Int) := of_decide_eq_true (by first | (with_reducible assumption) | assumption)
   obtain ⟨ad394, e394, hx394_0⟩ := Kd.Zb4 HR1.out x8_1 p394 q394
   cases e394
   replace p394 := eq_true p394
   replace q394 := eq_true q394
   have p395 : 0 ≤ (x8_1 : Int) := of_decide_eq_true (by first | (with_reducible assumption) | assumption)
   have q395 : x8_1 < (l0.length : Int) := of_decide_eq_true (by first | (with_reducible assumption) | assumption)
   obtain ⟨ad395, e395, hx395_0⟩ := Kd.Zb4 HR0.out x8_1 p395 q395
   cases e395
   replace p395 := eq_true p395
   replace q395 := eq_true q395
   go_wp2_with (first | (go_at_call 52; (with_reducible refine (Zcc.calls _ _ l2 (rd l0 x8_1) t396 _ ?side1 ?side2 A7.out).mono ?_); (case side1 => repeat (first | exact HR2.out | (with_reducible refine Kd.C_alloc ?_ _) | (with_reducible refine Kd.Za1 ?_ _) | (with_reducible refine Kd.Zbd ?_))); (case side2 => exact HC2.out); rintro e w' ⟨rfl, ⟨nd, rfl⟩⟩; (try first | exact ⟨rfl, _, World.drewN_drewN _ _ _⟩ | exact ⟨rfl, _, Eq.trans (World.drewN_drewN _ _ _) (congrArg (World.drewN _) (Nat.add_assoc _ _ _))⟩)))
   repeat (go_quiet (first | (go_at_call 52; (with_reducible refine (Zcc.calls _ _ l2 (rd l0 x8_1) t396 _ ?side1 ?side2 A7.out).mono ?_); (case side1 => repeat (first | exact HR2.out | (with_reducible refine Kd.C_alloc ?_ _) | (with_reducible refine Kd.Za1 ?_ _) | (with_reducible refine Kd.Zbd ?_))); (case side2 => exact HC2.out); rintro e w' ⟨rfl, ⟨nd, rfl⟩⟩; (try first | exact ⟨rfl, _, World.drewN_drewN _ _ _⟩ | exact ⟨rfl, _, Eq.trans (World.drewN_drewN _ _ _) (congrArg (World.drewN _) (Nat.add_assoc _ _ _))⟩))); try go_wp2_with (first | (go_at_call 52; (with_reducible refine (Zcc.calls _ _ l2 (rd l0 x8_1) t396 _ ?side1 ?side2 A7.out).mono ?_); (case side1 => repeat (first | exact HR2.out | (with_reducible refine Kd.C_alloc ?_ _) | (with_reducible refine Kd.Za1 ?_ _) | (with_reducible refine Kd.Zbd ?_))); (case side2 => exact HC2.out); rintro e w' ⟨rfl, ⟨nd, rfl⟩⟩; (try first | exact ⟨rfl, _, World.drewN_drewN _ _ _⟩ | exact ⟨rfl, _, Eq.trans (World.drewN_drewN _ _ _) (congrArg (World.drewN _) (Nat.add_assoc _ _ _))⟩))))
   go_roundg k1
   case measure => have := HK1.out; omega
   case rel => exact ⟨(wrap64 (x7_1 + (wrap64 ((rd l1 x8_1) * t396)))), (wrap64 (x8_1 + 1)), (by first | rfl | (simp; done) | (simp [*]; done)), (by first | rfl | (simp; done) | (simp [*]; done)), H', ⟨by have := HK1.out; omega⟩, by repeat (first | exact Zbi.refl _ | apply Zbi.step)⟩
/-! ### Zay: function 32 -/
def Zay.l0 : Nat → List Int → Int → Int → List Int → List Int → Int → Int → List (List Int) → Int → Option (Bool)
 | 0, _, _, _, _, _, _, _, _, _ => none
 | k + 1, x5, x7, x391000, x391001, x391002, x391003, x391004, x391005, x391006 => if x7 < (x391005.length : Int) then (if 0 ≤ x7 then ((Zau.f k (Zbx x391005 x7) x5).bind fun t397 => (if t397 = true then (some true) else (Zay.l0 k x5 (wrap64 (x7 + 1)) x391000 x391001 x391002 x391003 x391004 x391005 x391006))) else (none)) else (some false)
def Zay.f (k : Nat) (a0_0 : Int) (l0_1 : List Int) (l0_2 : List Int) (a0_3 : Int) (a0_4 : Int) (l0_5 : List (List Int)) (a0_6 : Int) (l1 : List Int) : Option (Bool) := (Za0.f k l0_1 l1).bind fun t391 => ((Zb.f k l0_1 l0_2 l1).bind fun t394 => ((Zb9.f a0_3 t394 a0_4).bind fun t395 => (if a0_0 = 0 then (none) else (if a0_0 = 1 then (none) else (if a0_0 = 2 then (Zay.l0 k t391 0 a0_0 l0_1 l0_2 a0_3 a0_4 l0_5 a0_6) else (none))))))
theorem Zay.Zb2 : ∀ k, (∀ y0 y1 y2 y3 y4 y5 y6 y7 y8, LeO (Zay.l0 k y0 y1 y2 y3 y4 y5 y6 y7 y8) (Zay.l0 (k + 1) y0 y1 y2 y3 y4 y5 y6 y7 y8))
 | 0 => fun _ _ _ _ _ _ _ _ _ r h => by simp [Zay.l0] at h
 | k + 1 => by
  have ih0 := Zay.Zb2 k
  intro y0 y1 y2 y3 y4 y5 y6 y7 y8
  unfold Zay.l0
  repeat' first
  | (with_reducible exact ih0 _ _ _ _ _ _ _ _ _)
  | (with_reducible exact Zau.mono _ _ _)
  | (with_reducible exact Zb.mono _ _ _ _)
  | (with_reducible exact Za0.mono _ _ _)
  | (with_reducible exact LeO.refl _)
  | (with_reducible exact LeO.none _)
  | (with_reducible refine LeO.ite ?_ ?_)
  | (with_reducible refine LeO.bind ?_ (fun _ => ?_))
  | exact ih0 _ _ _ _ _ _ _ _ _
  | exact Zau.mono _ _ _
  | exact Zb.mono _ _ _ _
  | exact Za0.mono _ _ _
  | exact LeO.none _
  | refine LeO.ite ?_ ?_
  | refine LeO.bind ?_ (fun _ => ?_)
theorem Zay.mono : ∀ a0 a1 a2 a3 a4 a5 a6 a7 k, LeO (Zay.f k a0 a1 a2 a3 a4 a5 a6 a7) (Zay.f (k + 1) a0 a1 a2 a3 a4 a5 a6 a7) := by
 intro a0 a1 a2 a3 a4 a5 a6 a7 k
 have ih0 := Zay.Zb2 k
 unfold Zay.f
 repeat' first
   | (with_reducible exact ih0 _ _ _ _ _ _ _ _ _)
   | (with_reducible exact Zau.mono _ _ _)
   | (with_reducible exact Zb.mono _ _ _ _)
   | (with_reducible exact Za0.mono _ _ _)
   | (with_reducible exact LeO.refl _)
   | (with_reducible exact LeO.none _)
   | (with_reducible refine LeO.ite ?_ ?_)
   | (with_reducible refine LeO.bind ?_ (fun _ => ?_))
   | exact ih0 _ _ _ _ _ _ _ _ _
   | exact Zau.mono _ _ _
   | exact Zb.mono _ _ _ _
   | exact Za0.mono _ _ _
   | exact LeO.none _
   | refine LeO.ite ?_ ?_
   | refine LeO.bind ?_ (fun _ => ?_)
set_option maxHeartbeats 8000000 in
set_option maxRecDepth 100000 in
theorem Zay.calls (k : Nat) (a0_0 : Int) (A0_1 : Option Addr) (c0_1 : Nat) (l0_1 : List Int) (A0_2 : Option Addr) (c0_2 : Nat) (l0_2 : List Int) (a0_3 : Int) (a0_4 : Int) (A0_5 : Option Addr) (c0_5 : Nat) (l0_5 : List (List Int)) (a0_6 : Int) (A1 : Option Addr) (c1 : Nat) (l1 : List Int) (r : Bool) (w : World) (hr0_1 : Kd.C (Kd.int .i64) w A0_1 l0_1.length l0_1) (hc0_1 : l0_1.length ≤ c0_1) (hr0_2 : Kd.C (Kd.int .i64) w A0_2 l0_2.length l0_2) (hc0_2 : l0_2.length ≤ c0_2) (hr0_5 : Kd.C (Kd.slice 3 (Kd.int .i64)) w A0_5 l0_5.length l0_5) (hc0_5 : l0_5.length ≤ c0_5) (hr1 : Kd.C (Kd.int .i64) w A1 l1.length l1) (hc1 : l1.length ≤ c1) (h : Zay.f k a0_0 l0_1 l0_2 a0_3 a0_4 l0_5 a0_6 l1 = some r) :
  Calls Try.prog 32 #[.agg #[.int .i64 a0_0, .slice A0_1 l0_1.length c0_1, .slice A0_2 l0_2.length c0_2, .int .i64 a0_3, .int .i64 a0_4, .slice A0_5 l0_5.length c0_5, .int .i64 a0_6], .slice A1 l1.length c1] w fun e w' => e = .returned (.bool r) ∧ Below w.heap.size w w' := by
 have hu25 := Try.underlying25
 have HR0_1 := Zaa.mk hr0_1
 have HC0_1 := Zaa.mk hc0_1
 clear hr0_1 hc0_1
 have HR0_2 := Zaa.mk hr0_2
 have HC0_2 := Zaa.mk hc0_2
 clear hr0_2 hc0_2
 have HR0_5 := Zaa.mk hr0_5
 have HC0_5 := Zaa.mk hc0_5
 clear hr0_5 hc0_5
 have HR1 := Zaa.mk hr1
 have HC1 := Zaa.mk hc1
 clear hr1 hc1
 have HB := Zaa.mk (Below.refl w.heap.size w)
 have H : ((Za0.f k l0_1 l1).bind fun t391 => ((Zb.f k l0_1 l0_2 l1).bind fun t394 => ((Zb9.f a0_3 t394 a0_4).bind fun t395 => (if a0_0 = 0 then (none) else (if a0_0 = 1 then (none) else (if a0_0 = 2 then (Zay.l0 k t391 0 a0_0 l0_1 l0_2 a0_3 a0_4 l0_5 a0_6) else (none))))))) = some r := h
 clear h
 replace H := Option.bind_eq_some_iff.mp H
 obtain ⟨t391, A30, H⟩ := H
 replace H : ((Zb.f k l0_1 l0_2 l1).bind fun t394 => ((Zb9.f a0_3 t394 a0_4).bind fun t395 => (if a0_0 = 0 then (none) else (if a0_0 = 1 then (none) else (if a0_0 = 2 then (Zay.l0 k t391 0 a0_0 l0_1 l0_2 a0_3 a0_4 l0_5 a0_6) else (none)))))) = some r := H
 have A3 := Zaa.mk A30
 clear A30
 replace H := Option.bind_eq_some_iff.mp H
 obtain ⟨t394, A40, H⟩ := H
 replace H : ((Zb9.f a0_3 t394 a0_4).bind fun t395 => (if a0_0 = 0 then (none) else (if a0_0 = 1 then (none) else (if a0_0 = 2 then (Zay.l0 k t391 0 a0_0 l0_1 l0_2 a0_3 a0_4 l0_5 a0_6) else (none))))) = some r := H
 have A4 := Zaa.mk A40
 clear A40
 replace H := Option.bind_eq_some_iff.mp H
 obtain ⟨t395, A50, H⟩ := H
 replace H : (if a0_0 = 0 then (none) else (if a0_0 = 1 then (none) else (if a0_0 = 2 then (Zay.l0 k t391 0 a0_0 l0_1 l0_2 a0_3 a0_4 l0_5 a0_6) else (none)))) = some r := H
 have A5 := Zaa.mk A50
 clear A50
 by_cases c6 : a0_0 = 0
 ·rw [if_pos c6] at H
  exact absurd H (by simp)
 rw [if_neg c6] at H
 have c6b0 : (a0_0 == 0) = false := beq_eq_false_iff_ne.mpr c6
 have c6b1 : (a0_0 != 0) = true := bne_iff_ne.mpr c6
 by_cases c7 : a0_0 = 1
 ·rw [if_pos c7] at H
  exact absurd H (by simp)
 rw [if_neg c7] at H
 have c7b0 : (a0_0 == 1) = false := beq_eq_false_iff_ne.mpr c7
 have c7b1 : (a0_0 != 1) = true := bne_iff_ne.mpr c7
 by_cases c8 : a0_0 = 2
 rotate_left
 ·rw [if_neg c8] at H
  exact absurd H (by simp)

 rw [if_pos c8] at H
 have c8b0 : (a0_0 == 2) = true := beq_iff_eq.mpr c8
 have c8b1 : (a0_0 != 2) = false := bne_eq_false_iff_eq.mpr c8
 clear c8
 have H' := Zaa.mk H
 clear H
 go_enter Try.func32, Try.ntmps32
 go_wp2_with (first | ((with_reducible refine Zb3 (N := 2) rfl ?_); (try (refine Zd4 (by rfl) ?_; dsimp only)); refine Zcf ?hg (N := 2) ?hd (cs := #[.int .i64 a0_0, .slice A0_1 l0_1.length c0_1, .slice A0_2 l0_2.length c0_2, .int .i64 a0_3, .int .i64 a0_4, .slice A0_5 l0_5.length c0_5, .int .i64 a0_6]) (t := 25) ?hr ?_; (case hd => rfl); (case hg => rfl); (case hr => first | (go_simp; done) | (go_simp; rfl)); intro gb390 hg w9 hbox hb; have n0_ := Zaa.mk (Za2 (by repeat (first | (with_reducible first | exact HB.out | apply Zac | apply Za | apply Zab) | exact HB.out)) hb); have n1_ := Zaa.mk (hbox); have n2_ := Zaa.mk ((by rw [hg]; exact (Zal (by repeat (first | (with_reducible first | exact HB.out | apply Zac | apply Za | apply Zab) | exact HB.out))) : w.heap.size ≤ gb390)); have n3_ := Zaa.mk ((by rw [hg]; exact (Zal (by repeat (first | (with_reducible first | exact HB.out | apply Zac | apply Za | apply Zab) | exact HB.out))) : w.heap.size ≤ gb390)); clear HB; have HB := n0_; have BK390 := n1_; have GW390 := n2_; have GE390 := n3_; clear n0_ n1_ n2_ n3_; clear hb hbox hg; obtain ⟨hcz10_0, hcz10_1, hcz10_2, hcz10_3, hcz10_4, hcz10_5, hcz10_6, hfz10_0, hfz10_1, hfz10_2, hfz10_3, hfz10_4, hfz10_5, hfz10_6⟩ := Zcj BK390.out) | (go_at_call 49; (with_reducible refine (Za0.calls k _ _ l0_1 _ _ l1 t391 _ ?side1 ?side2 ?side3 ?side4 A3.out).mono ?_); (case side1 => repeat (first | exact (Kd.Zbk HR0_1.out HB.out) | (with_reducible refine Kd.C_alloc ?_ _) | (with_reducible refine Kd.Za1 ?_ _) | (with_reducible refine Kd.Zbd ?_))); (case side2 => exact HC0_1.out); (case side3 => repeat (first | exact (Kd.Zbk HR1.out HB.out) | (with_reducible refine Kd.C_alloc ?_ _) | (with_reducible refine Kd.Za1 ?_ _) | (with_reducible refine Kd.Zbd ?_))); (case side4 => exact HC1.out); rintro e w11 ⟨v392, rfl, ho0, hb⟩; have n0_ := Zaa.mk (Kd.Zb8 ho0 (Zal (by repeat (first | (with_reducible first | exact HB.out | apply Zac | apply Za | apply Zab | refine Zag ?_ GE390.out) | exact HB.out)))); have n1_ := Zaa.mk (Zbh (g := gb390) (o := .cells #[.int .i64 a0_0, .slice A0_1 l0_1.length c0_1, .slice A0_2 l0_2.length c0_2, .int .i64 a0_3, .int .i64 a0_4, .slice A0_5 l0_5.length c0_5, .int .i64 a0_6] 25 (0, 0)) (by (with_reducible repeat (first | refine Zaf ?_ _ | refine Zah ?_ | refine Zae ?_ _)); exact BK390.out) hb); have n2_ := Zaa.mk (Za2 (by repeat (first | (with_reducible first | exact HB.out | apply Zac | apply Za | apply Zab | refine Zag ?_ GE390.out) | exact HB.out)) hb); clear BK390; clear HB; have HO393 := n0_; have BK390 := n1_; have HB := n2_; clear n0_ n1_ n2_; (try clear hb); (try clear hb2); (try clear hk); (try clear hi); (try clear ho0); obtain ⟨hcz12_0, hcz12_1, hcz12_2, hcz12_3, hcz12_4, hcz12_5, hcz12_6, hfz12_0, hfz12_1, hfz12_2, hfz12_3, hfz12_4, hfz12_5, hfz12_6⟩ := Zcj BK390.out) | (go_at_call 51; (with_reducible refine (Zb.calls k _ _ l0_1 _ _ l0_2 _ _ l1 t394 _ ?side1 ?side2 ?side3 ?side4 ?side5 ?side6 A4.out).mono ?_); (case side1 => repeat (first | exact (Kd.Zbk HR0_1.out HB.out) | (with_reducible refine Kd.C_alloc ?_ _) | (with_reducible refine Kd.Za1 ?_ _) | (with_reducible refine Kd.Zbd ?_))); (case side2 => exact HC0_1.out); (case side3 => repeat (first | exact (Kd.Zbk HR0_2.out HB.out) | (with_reducible refine Kd.C_alloc ?_ _) | (with_reducible refine Kd.Za1 ?_ _) | (with_reducible refine Kd.Zbd ?_))); (case side4 => exact HC0_2.out); (case side5 => repeat (first | exact (Kd.Zbk HR1.out HB.out) | (with_reducible refine Kd.C_alloc ?_ _) | (with_reducible refine Kd.Za1 ?_ _) | (with_reducible refine Kd.Zbd ?_))); (case side6 => exact HC1.out); rintro e w' ⟨rfl, ⟨nd, rfl⟩⟩; (try first | exact ⟨rfl, _, World.drewN_drewN _ _ _⟩ | exact ⟨rfl, _, Eq.trans (World.drewN_drewN _ _ _) (congrArg (World.drewN _) (Nat.add_assoc _ _ _))⟩)) | (go_at_call 50; (with_reducible refine (Zb9.calls a0_3 t394 a0_4 t395 _ A5.out).mono ?_); rintro e w' ⟨rfl, ⟨nd, rfl⟩⟩; (try first | exact ⟨rfl, _, World.drewN_drewN _ _ _⟩ | exact ⟨rfl, _, Eq.trans (World.drewN_drewN _ _ _) (congrArg (World.drewN _) (Nat.add_assoc _ _ _))⟩)))
 repeat (go_quiet (first | ((with_reducible refine Zb3 (N := 2) rfl ?_); (try (refine Zd4 (by rfl) ?_; dsimp only)); refine Zcf ?hg (N := 2) ?hd (cs := #[.int .i64 a0_0, .slice A0_1 l0_1.length c0_1, .slice A0_2 l0_2.length c0_2, .int .i64 a0_3, .int .i64 a0_4, .slice A0_5 l0_5.length c0_5, .int .i64 a0_6]) (t := 25) ?hr ?_; (case hd => rfl); (case hg => rfl); (case hr => first | (go_simp; done) | (go_simp; rfl)); intro gb390 hg w9 hbox hb; have n0_ := Zaa.mk (Za2 (by repeat (first | (with_reducible first | exact HB.out | apply Zac | apply Za | apply Zab) | exact HB.out)) hb); have n1_ := Zaa.mk (hbox); have n2_ := Zaa.mk ((by rw [hg]; exact (Zal (by repeat (first | (with_reducible first | exact HB.out | apply Zac | apply Za | apply Zab) | exact HB.out))) : w.heap.size ≤ gb390)); have n3_ := Zaa.mk ((by rw [hg]; exact (Zal (by repeat (first | (with_reducible first | exact HB.out | apply Zac | apply Za | apply Zab) | exact HB.out))) : w.heap.size ≤ gb390)); clear HB; have HB := n0_; have BK390 := n1_; have GW390 := n2_; have GE390 := n3_; clear n0_ n1_ n2_ n3_; clear hb hbox hg; obtain ⟨hcz10_0, hcz10_1, hcz10_2, hcz10_3, hcz10_4, hcz10_5, hcz10_6, hfz10_0, hfz10_1, hfz10_2, hfz10_3, hfz10_4, hfz10_5, hfz10_6⟩ := Zcj BK390.out) | (go_at_call 49; (with_reducible refine (Za0.calls k _ _ l0_1 _ _ l1 t391 _ ?side1 ?side2 ?side3 ?side4 A3.out).mono ?_); (case side1 => repeat (first | exact (Kd.Zbk HR0_1.out HB.out) | (with_reducible refine Kd.C_alloc ?_ _) | (with_reducible refine Kd.Za1 ?_ _) | (with_reducible refine Kd.Zbd ?_))); (case side2 => exact HC0_1.out); (case side3 => repeat (first | exact (Kd.Zbk HR1.out HB.out) | (with_reducible refine Kd.C_alloc ?_ _) | (with_reducible refine Kd.Za1 ?_ _) | (with_reducible refine Kd.Zbd ?_))); (case side4 => exact HC1.out); rintro e w11 ⟨v392, rfl, ho0, hb⟩; have n0_ := Zaa.mk (Kd.Zb8 ho0 (Zal (by repeat (first | (with_reducible first | exact HB.out | apply Zac | apply Za | apply Zab | refine Zag ?_ GE390.out) | exact HB.out)))); have n1_ := Zaa.mk (Zbh (g := gb390) (o := .cells #[.int .i64 a0_0, .slice A0_1 l0_1.length c0_1, .slice A0_2 l0_2.length c0_2, .int .i64 a0_3, .int .i64 a0_4, .slice A0_5 l0_5.length c0_5, .int .i64 a0_6] 25 (0, 0)) (by (with_reducible repeat (first | refine Zaf ?_ _ | refine Zah ?_ | refine Zae ?_ _)); exact BK390.out) hb); have n2_ := Zaa.mk (Za2 (by repeat (first | (with_reducible first | exact HB.out | apply Zac | apply Za | apply Zab | refine Zag ?_ GE390.out) | exact HB.out)) hb); clear BK390; clear HB; have HO393 := n0_; have BK390 := n1_; have HB := n2_; clear n0_ n1_ n2_; (try clear hb); (try clear hb2); (try clear hk); (try clear hi); (try clear ho0); obtain ⟨hcz12_0, hcz12_1, hcz12_2, hcz12_3, hcz12_4, hcz12_5, hcz12_6, hfz12_0, hfz12_1, hfz12_2, hfz12_3, hfz12_4, hfz12_5, hfz12_6⟩ := Zcj BK390.out) | (go_at_call 51; (with_reducible refine (Zb.calls k _ _ l0_1 _ _ l0_2 _ _ l1 t394 _ ?side1 ?side2 ?side3 ?side4 ?side5 ?side6 A4.out).mono ?_); (case side1 => repeat (first | exact (Kd.Zbk HR0_1.out HB.out) | (with_reducible refine Kd.C_alloc ?_ _) | (with_reducible refine Kd.Za1 ?_ _) | (with_reducible refine Kd.Zbd ?_))); (case side2 => exact HC0_1.out); (case side3 => repeat (first | exact (Kd.Zbk HR0_2.out HB.out) | (with_reducible refine Kd.C_alloc ?_ _) | (with_reducible refine Kd.Za1 ?_ _) | (with_reducible refine Kd.Zbd ?_))); (case side4 => exact HC0_2.out); (case side5 => repeat (first | exact (Kd.Zbk HR1.out HB.out) | (with_reducible refine Kd.C_alloc ?_ _) | (with_reducible refine Kd.Za1 ?_ _) | (with_reducible refine Kd.Zbd ?_))); (case side6 => exact HC1.out); rintro e w' ⟨rfl, ⟨nd, rfl⟩⟩; (try first | exact ⟨rfl, _, World.drewN_drewN _ _ _⟩ | exact ⟨rfl, _, Eq.trans (World.drewN_drewN _ _ _) (congrArg (World.drewN _) (Nat.add_assoc _ _ _))⟩)) | (go_at_call 50; (with_reducible refine (Zb9.calls a0_3 t394 a0_4 t395 _ A5.out).mono ?_); rintro e w' ⟨rfl, ⟨nd, rfl⟩⟩; (try first | exact ⟨rfl, _, World.drewN_drewN _ _ _⟩ | exact ⟨rfl, _, Eq.trans (World.drewN_drewN _ _ _) (congrArg (World.drewN _) (Nat.add_assoc _ _ _))⟩))); try go_wp2_with (first | ((with_reducible refine Zb3 (N := 2) rfl ?_); (try (refine Zd4 (by rfl) ?_; dsimp only)); refine Zcf ?hg (N := 2) ?hd (cs := #[.int .i64 a0_0, .slice A0_1 l0_1.length c0_1, .slice A0_2 l0_2.length c0_2, .int .i64 a0_3, .int .i64 a0_4, .slice A0_5 l0_5.length c0_5, .int .i64 a0_6]) (t := 25) ?hr ?_; (case hd => rfl); (case hg => rfl); (case hr => first | (go_simp; done) | (go_simp; rfl)); intro gb390 hg w9 hbox hb; have n0_ := Zaa.mk (Za2 (by repeat (first | (with_reducible first | exact HB.out | apply Zac | apply Za | apply Zab) | exact HB.out)) hb); have n1_ := Zaa.mk (hbox); have n2_ := Zaa.mk ((by rw [hg]; exact (Zal (by repeat (first | (with_reducible first | exact HB.out | apply Zac | apply Za | apply Zab) | exact HB.out))) : w.heap.size ≤ gb390)); have n3_ := Zaa.mk ((by rw [hg]; exact (Zal (by repeat (first | (with_reducible first | exact HB.out | apply Zac | apply Za | apply Zab) | exact HB.out))) : w.heap.size ≤ gb390)); clear HB; have HB := n0_; have BK390 := n1_; have GW390 := n2_; have GE390 := n3_; clear n0_ n1_ n2_ n3_; clear hb hbox hg; obtain ⟨hcz10_0, hcz10_1, hcz10_2, hcz10_3, hcz10_4, hcz10_5, hcz10_6, hfz10_0, hfz10_1, hfz10_2, hfz10_3, hfz10_4, hfz10_5, hfz10_6⟩ := Zcj BK390.out) | (go_at_call 49; (with_reducible refine (Za0.calls k _ _ l0_1 _ _ l1 t391 _ ?side1 ?side2 ?side3 ?side4 A3.out).mono ?_); (case side1 => repeat (first | exact (Kd.Zbk HR0_1.out HB.out) | (with_reducible refine Kd.C_alloc ?_ _) | (with_reducible refine Kd.Za1 ?_ _) | (with_reducible refine Kd.Zbd ?_))); (case side2 => exact HC0_1.out); (case side3 => repeat (first | exact (Kd.Zbk HR1.out HB.out) | (with_reducible refine Kd.C_alloc ?_ _) | (with_reducible refine Kd.Za1 ?_ _) | (with_reducible refine Kd.Zbd ?_))); (case side4 => exact HC1.out); rintro e w11 ⟨v392, rfl, ho0, hb⟩; have n0_ := Zaa.mk (Kd.Zb8 ho0 (Zal (by repeat (first | (with_reducible first | exact HB.out | apply Zac | apply Za | apply Zab | refine Zag ?_ GE390.out) | exact HB.out)))); have n1_ := Zaa.mk (Zbh (g := gb390) (o := .cells #[.int .i64 a0_0, .slice A0_1 l0_1.length c0_1, .slice A0_2 l0_2.length c0_2, .int .i64 a0_3, .int .i64 a0_4, .slice A0_5 l0_5.length c0_5, .int .i64 a0_6] 25 (0, 0)) (by (with_reducible repeat (first | refine Zaf ?_ _ | refine Zah ?_ | refine Zae ?_ _)); exact BK390.out) hb); have n2_ := Zaa.mk (Za2 (by repeat (first | (with_reducible first | exact HB.out | apply Zac | apply Za | apply Zab | refine Zag ?_ GE390.out) | exact HB.out)) hb); clear BK390; clear HB; have HO393 := n0_; have BK390 := n1_; have HB := n2_; clear n0_ n1_ n2_; (try clear hb); (try clear hb2); (try clear hk); (try clear hi); (try clear ho0); obtain ⟨hcz12_0, hcz12_1, hcz12_2, hcz12_3, hcz12_4, hcz12_5, hcz12_6, hfz12_0, hfz12_1, hfz12_2, hfz12_3, hfz12_4, hfz12_5, hfz12_6⟩ := Zcj BK390.out) | (go_at_call 51; (with_reducible refine (Zb.calls k _ _ l0_1 _ _ l0_2 _ _ l1 t394 _ ?side1 ?side2 ?side3 ?side4 ?side5 ?side6 A4.out).mono ?_); (case side1 => repeat (first | exact (Kd.Zbk HR0_1.out HB.out) | (with_reducible refine Kd.C_alloc ?_ _) | (with_reducible refine Kd.Za1 ?_ _) | (with_reducible refine Kd.Zbd ?_))); (case side2 => exact HC0_1.out); (case side3 => repeat (first | exact (Kd.Zbk HR0_2.out HB.out) | (with_reducible refine Kd.C_alloc ?_ _) | (with_reducible refine Kd.Za1 ?_ _) | (with_reducible refine Kd.Zbd ?_))); (case side4 => exact HC0_2.out); (case side5 => repeat (first | exact (Kd.Zbk HR1.out HB.out) | (with_reducible refine Kd.C_alloc ?_ _) | (with_reducible refine Kd.Za1 ?_ _) | (with_reducible refine Kd.Zbd ?_))); (case side6 => exact HC1.out); rintro e w' ⟨rfl, ⟨nd, rfl⟩⟩; (try first | exact ⟨rfl, _, World.drewN_drewN _ _ _⟩ | exact ⟨rfl, _, Eq.trans (World.drewN_drewN _ _ _) (congrArg (World.drewN _) (Nat.add_assoc _ _ _))⟩)) | (go_at_call 50; (with_reducible refine (Zb9.calls a0_3 t394 a0_4 t395 _ A5.out).mono ?_); rintro e w' ⟨rfl, ⟨nd, rfl⟩⟩; (try first | exact ⟨rfl, _, World.drewN_drewN _ _ _⟩ | exact ⟨rfl, _, Eq.trans (World.drewN_drewN _ _ _) (congrArg (World.drewN _) (Nat.add_assoc _ _ _))⟩))))
 go_loopg [7] k (fun kq v7 w' => ∃ (x7_1 : Int), v7 = .int .i64 x7_1 ∧ Zaa (Zay.l0 kq t391 x7_1 a0_0 l0_1 l0_2 a0_3 a0_4 l0_5 a0_6 = some r) ∧ Zaa (kq ≤ k) ∧ Zaa (Kd.R (Kd.int .i64) 3 w' w.heap.size (fun _ => True) v392 t391) ∧ Zaa (w'.heap[gb390]? = some (.cells #[.int .i64 a0_0, (.slice A0_1 l0_1.length c0_1), (.slice A0_2 l0_2.length c0_2), .int .i64 a0_3, .int .i64 a0_4, (.slice A0_5 l0_5.length c0_5), .int .i64 a0_6] 25 (0, 0))) ∧ Zaa (Below w.heap.size w w'))
 case atStart => exact ⟨(0), (by first | rfl | (simp; done) | (simp [*]; done)), H', ⟨Nat.le_refl _⟩, ⟨by (with_reducible repeat (first | apply Kd.Zan | apply Kd.Zao | apply Kd.Zav)); exact HO393.out⟩, ⟨by (with_reducible repeat (first | refine Zaf ?_ _ | refine Zah ?_ | refine Zae ?_ _)); exact BK390.out⟩, ⟨by repeat (first | (with_reducible first | exact HB.out | apply Zac | apply Za | apply Zab | refine Zag ?_ GE390.out) | exact HB.out)⟩⟩
 case round =>
  clear H'
  try clear c1
  try clear p2
  try clear c3
  try clear c6
  try clear c6b0
  try clear c6b1
  try clear c7
  try clear c7b0
  try clear c7b1
  try clear c8
  try clear c8b0
  try clear c8b1
  try clear hcz10_0
  try clear hcz10_1
  try clear hcz10_2
  try clear hcz10_3
  try clear hcz10_4
  try clear hcz10_5
  try clear hcz10_6
  try clear hcz12_0
  try clear hcz12_1
  try clear hcz12_2
  try clear hcz12_3
  try clear hcz12_4
  try clear hcz12_5
  try clear hcz12_6
  try clear hfz10_0
  try clear hfz10_1
  try clear hfz10_2
  try clear hfz10_3
  try clear hfz10_4
  try clear hfz10_5
  try clear hfz10_6
  try clear hfz12_0
  try clear hfz12_1
  try clear hfz12_2
  try clear hfz12_3
  try clear hfz12_4
  try clear hfz12_5
  try clear hfz12_6
  obtain ⟨x7_1, rfl, HA, HK1, HO_5, BK390, HB⟩ := hrel
  cases gk with
  | zero => exact absurd HA.out (by simp [Zay.l0])
  | succ k1 =>
   have H := HA.out
   clear HA
   simp only [Zay.l0] at H
   by_cases c13 : x7_1 < (l0_5.length : Int)
   rotate_left
   ·rw [if_neg c13] at H
    have c13b0 : decide (x7_1 < (l0_5.length : Int)) = false := decide_eq_false c13
    clear c13
    obtain rfl := Option.some.inj H
    obtain ⟨hcz21_0, hcz21_1, hcz21_2, hcz21_3, hcz21_4, hcz21_5, hcz21_6, hfz21_0, hfz21_1, hfz21_2, hfz21_3, hfz21_4, hfz21_5, hfz21_6⟩ := Zcj BK390.out
    go_wp2
    repeat (go_quiet (fail); try go_wp2)
    go_ret
    exact ⟨by first | rfl | (simp [Za3, Za4] <;> rfl) | (simp [*, Za3, Za4] <;> rfl), by repeat (first | (with_reducible first | exact HB.out | apply Zac | apply Za | apply Zab | refine Zag ?_ GE390.out) | exact HB.out)⟩
   rw [if_pos c13] at H
   have c13b0 : decide (x7_1 < (l0_5.length : Int)) = true := decide_eq_true c13
   clear c13
   by_cases c14 : 0 ≤ x7_1
   rotate_left
   ·rw [if_neg c14] at H
    exact absurd H (by simp)
   rw [if_pos c14] at H
   have c14b0 : decide (0 ≤ x7_1) = true := decide_eq_true c14
   clear c14
   replace H := Option.bind_eq_some_iff.mp H
   obtain ⟨t397, A150, H⟩ := H
   replace H : (if t397 = true then (some true) else (Zay.l0 k1 t391 (wrap64 (x7_1 + 1)) a0_0 l0_1 l0_2 a0_3 a0_4 l0_5 a0_6)) = some r := H
   have A15 := Zaa.mk A150
   clear A150
   by_cases c16 : t397 = true
   ·subst c16
    have H1 : (some true) = some r := by rw [if_pos rfl] at H; exact H
    clear H
    have H := H1
    clear H1
    obtain rfl := Option.some.inj H
    obtain ⟨hcz17_0, hcz17_1, hcz17_2, hcz17_3, hcz17_4, hcz17_5, hcz17_6, hfz17_0, hfz17_1, hfz17_2, hfz17_3, hfz17_4, hfz17_5, hfz17_6⟩ := Zcj BK390.out
    have p396 : 0 ≤ (x7_1 : Int) := of_decide_eq_true (by first | (with_reducible assumption) | assumption)
    have q396 : x7_1 < (l0_5.length : Int) := of_decide_eq_true (by first | (with_reducible assumption) | assumption)
    obtain ⟨ad396, A396_0, c396_0, e396, hx396_0, hl396_0, hi396_0⟩ := Zdy HR0_5.out x7_1 p396 q396
    cases e396
    replace hx396_0 := (HB.out.cell (World.block_lt_of_cell? w _ hx396_0)).trans hx396_0
    have HR396_0 := Zaa.mk hi396_0
    have HC396_0 := Zaa.mk hl396_0
    clear hi396_0 hl396_0
    replace p396 := eq_true p396
    replace q396 := eq_true q396
    obtain ⟨Ao18, co18, eo18⟩ := Kd.Zc HO_5.out
    subst eo18
    go_wp2_with (first | (go_at_call 28; (with_reducible refine (Zau.calls k1 _ _ (Zbx l0_5 x7_1) _ _ t391 true _ ?side1 ?side2 ?side3 ?side4 A15.out).mono ?_); (case side1 => repeat (first | exact (Kd.Zbk HR396_0.out HB.out) | (with_reducible refine Kd.C_alloc ?_ _) | (with_reducible refine Kd.Za1 ?_ _) | (with_reducible refine Kd.Zbd ?_))); (case side2 => exact HC396_0.out); (case side3 => repeat (first | exact (Kd.Zbp HO_5.out).2.2 | (with_reducible refine Kd.C_alloc ?_ _) | (with_reducible refine Kd.Za1 ?_ _) | (with_reducible refine Kd.Zbd ?_))); (case side4 => exact (Kd.Zbp HO_5.out).2.1); rintro e w' ⟨rfl, ⟨nd, rfl⟩⟩; (try first | exact ⟨rfl, _, World.drewN_drewN _ _ _⟩ | exact ⟨rfl, _, Eq.trans (World.drewN_drewN _ _ _) (congrArg (World.drewN _) (Nat.add_assoc _ _ _))⟩)))
    repeat (go_quiet (first | (go_at_call 28; (with_reducible refine (Zau.calls k1 _ _ (Zbx l0_5 x7_1) _ _ t391 true _ ?side1 ?side2 ?side3 ?side4 A15.out).mono ?_); (case side1 => repeat (first | exact (Kd.Zbk HR396_0.out HB.out) | (with_reducible refine Kd.C_alloc ?_ _) | (with_reducible refine Kd.Za1 ?_ _) | (with_reducible refine Kd.Zbd ?_))); (case side2 => exact HC396_0.out); (case side3 => repeat (first | exact (Kd.Zbp HO_5.out).2.2 | (with_reducible refine Kd.C_alloc ?_ _) | (with_reducible refine Kd.Za1 ?_ _) | (with_reducible refine Kd.Zbd ?_))); (case side4 => exact (Kd.Zbp HO_5.out).2.1); rintro e w' ⟨rfl, ⟨nd, rfl⟩⟩; (try first | exact ⟨rfl, _, World.drewN_drewN _ _ _⟩ | exact ⟨rfl, _, Eq.trans (World.drewN_drewN _ _ _) (congrArg (World.drewN _) (Nat.add_assoc _ _ _))⟩))); try go_wp2_with (first | (go_at_call 28; (with_reducible refine (Zau.calls k1 _ _ (Zbx l0_5 x7_1) _ _ t391 true _ ?side1 ?side2 ?side3 ?side4 A15.out).mono ?_); (case side1 => repeat (first | exact (Kd.Zbk HR396_0.out HB.out) | (with_reducible refine Kd.C_alloc ?_ _) | (with_reducible refine Kd.Za1 ?_ _) | (with_reducible refine Kd.Zbd ?_))); (case side2 => exact HC396_0.out); (case side3 => repeat (first | exact (Kd.Zbp HO_5.out).2.2 | (with_reducible refine Kd.C_alloc ?_ _) | (with_reducible refine Kd.Za1 ?_ _) | (with_reducible refine Kd.Zbd ?_))); (case side4 => exact (Kd.Zbp HO_5.out).2.1); rintro e w' ⟨rfl, ⟨nd, rfl⟩⟩; (try first | exact ⟨rfl, _, World.drewN_drewN _ _ _⟩ | exact ⟨rfl, _, Eq.trans (World.drewN_drewN _ _ _) (congrArg (World.drewN _) (Nat.add_assoc _ _ _))⟩))))
    go_ret
    exact ⟨by first | rfl | (simp [Za3, Za4] <;> rfl) | (simp [*, Za3, Za4] <;> rfl), by repeat (first | (with_reducible first | exact HB.out | apply Zac | apply Za | apply Zab | refine Zag ?_ GE390.out) | exact HB.out)⟩
   replace c16 := Bool.eq_false_iff.mpr c16
   subst c16
   have H1 : (Zay.l0 k1 t391 (wrap64 (x7_1 + 1)) a0_0 l0_1 l0_2 a0_3 a0_4 l0_5 a0_6) = some r := by rw [if_neg (show ¬ (false = true) by decide)] at H; exact H
   clear H
   have H := H1
   clear H1
   have H' := Zaa.mk H
   clear H
   obtain ⟨hcz19_0, hcz19_1, hcz19_2, hcz19_3, hcz19_4, hcz19_5, hcz19_6, hfz19_0, hfz19_1, hfz19_2, hfz19_3, hfz19_4, hfz19_5, hfz19_6⟩ := Zcj BK390.out
   have p396 : 0 ≤ (x7_1 : Int) := of_decide_eq_true (by first | (with_reducible assumption) | assumption)
   have q396 : x7_1 < (l0_5.length : Int) := of_decide_eq_true (by first | (with_reducible assumption) | assumption)
   obtain ⟨ad396, A396_0, c396_0, e396, hx396_0, hl396_0, hi396_0⟩ := Zdy HR0_5.out x7_1 p396 q396
   cases e396
   replace hx396_0 := (HB.out.cell (World.block_lt_of_cell? w _ hx396_0)).trans hx396_0
   have HR396_0 := Zaa.mk hi396_0
   have HC396_0 := Zaa.mk hl396_0
   clear hi396_0 hl396_0
   replace p396 := eq_true p396
   replace q396 := eq_true q396
   obtain ⟨Ao20, co20, eo20⟩ := Kd.Zc HO_5.out
   subst eo20
   go_wp2_with (first | (go_at_call 28; (with_reducible refine (Zau.calls k1 _ _ (Zbx l0_5 x7_1) _ _ t391 false _ ?side1 ?side2 ?side3 ?side4 A15.out).mono ?_); (case side1 => repeat (first | exact (Kd.Zbk HR396_0.out HB.out) | (with_reducible refine Kd.C_alloc ?_ _) | (with_reducible refine Kd.Za1 ?_ _) | (with_reducible refine Kd.Zbd ?_))); (case side2 => exact HC396_0.out); (case side3 => repeat (first | exact (Kd.Zbp HO_5.out).2.2 | (with_reducible refine Kd.C_alloc ?_ _) | (with_reducible refine Kd.Za1 ?_ _) | (with_reducible refine Kd.Zbd ?_))); (case side4 => exact (Kd.Zbp HO_5.out).2.1); rintro e w' ⟨rfl, ⟨nd, rfl⟩⟩; (try first | exact ⟨rfl, _, World.drewN_drewN _ _ _⟩ | exact ⟨rfl, _, Eq.trans (World.drewN_drewN _ _ _) (congrArg (World.drewN _) (Nat.add_assoc _ _ _))⟩)))
   repeat (go_quiet (first | (go_at_call 28; (with_reducible refine (Zau.calls k1 _ _ (Zbx l0_5 x7_1) _ _ t391 false _ ?side1 ?side2 ?side3 ?side4 A15.out).mono ?_); (case side1 => repeat (first | exact (Kd.Zbk HR396_0.out HB.out) | (with_reducible refine Kd.C_alloc ?_ _) | (with_reducible refine Kd.Za1 ?_ _) | (with_reducible refine Kd.Zbd ?_))); (case side2 => exact HC396_0.out); (case side3 => repeat (first | exact (Kd.Zbp HO_5.out).2.2 | (with_reducible refine Kd.C_alloc ?_ _) | (with_reducible refine Kd.Za1 ?_ _) | (with_reducible refine Kd.Zbd ?_))); (case side4 => exact (Kd.Zbp HO_5.out).2.1); rintro e w' ⟨rfl, ⟨nd, rfl⟩⟩; (try first | exact ⟨rfl, _, World.drewN_drewN _ _ _⟩ | exact ⟨rfl, _, Eq.trans (World.drewN_drewN _ _ _) (congrArg (World.drewN _) (Nat.add_assoc _ _ _))⟩))); try go_wp2_with (first | (go_at_call 28; (with_reducible refine (Zau.calls k1 _ _ (Zbx l0_5 x7_1) _ _ t391 false _ ?side1 ?side2 ?side3 ?side4 A15.out).mono ?_); (case side1 => repeat (first | exact (Kd.Zbk HR396_0.out HB.out) | (with_reducible refine Kd.C_alloc ?_ _) | (with_reducible refine Kd.Za1 ?_ _) | (with_reducible refine Kd.Zbd ?_))); (case side2 => exact HC396_0.out); (case side3 => repeat (first | exact (Kd.Zbp HO_5.out).2.2 | (with_reducible refine Kd.C_alloc ?_ _) | (with_reducible refine Kd.Za1 ?_ _) | (with_reducible refine Kd.Zbd ?_))); (case side4 => exact (Kd.Zbp HO_5.out).2.1); rintro e w' ⟨rfl, ⟨nd, rfl⟩⟩; (try first | exact ⟨rfl, _, World.drewN_drewN _ _ _⟩ | exact ⟨rfl, _, Eq.trans (World.drewN_drewN _ _ _) (congrArg (World.drewN _) (Nat.add_assoc _ _ _))⟩))))
   go_roundg k1
   case measure => have := HK1.out; omega
   case rel => exact ⟨(wrap64 (x7_1 + 1)), (by first | rfl | (simp; done) | (simp [*]; done)), H', ⟨by have := HK1.out; omega⟩, ⟨by (with_reducible repeat (first | apply Kd.Zan | apply Kd.Zao | apply Kd.Zav)); exact HO_5.out⟩, ⟨by (with_reducible repeat (first | refine Zaf ?_ _ | refine Zah ?_ | refine Zae ?_ _)); exact BK390.out⟩, ⟨by repeat (first | (with_reducible first | exact HB.out | apply Zac | apply Za | apply Zab | refine Zag ?_ GE390.out) | exact HB.out)⟩⟩
end Go.Proofs.Ytpbcigilipdedaa.P
