/- Proved: what each function of the program that the statements of this seat reach comes to, for whatever memory and arguments it is called with (on condition that its plain text tells a result). -/
import Derived.Test.YtpbcigilipdedaaZ1

namespace Go.Proofs.Ytpbcigilipdedaa.P
open Go.RowKit Go.Proofs.YtpbcigilipdedaaW.PrintWords Go.Proofs.YtpbcigilipdedaaW.PrintLast Go.Proofs.YtpbcigilipdedaaW.PrintMore
attribute [local go_sem] Zcv Zcx Zdc Zdd Zcp Zcq Zcw Zcy
set_option linter.unusedVariables false
set_option linter.unusedSimpArgs false
/-! ### Zau: function 18 -/
mutual
def Zau.l0 : Nat → List (List (S41)) → List (List (S41)) → List (List (S41)) → Int → Int → Int → List Int → List Int → Int → Int → List (List Int) → Int → Option ((List (List (S41))) × Bool)
 | 0, _, _, _, _, _, _, _, _, _, _, _, _ => none
 | k + 1, x0, x6, x15, x16, x17, x325000, x325001, x325002, x325003, x325004, x325005, x325006 => if x17 < x16 then (if 0 ≤ x17 then (if x17 < (x15.length : Int) then (if ((Zcn x15 x17).length : Int) = 0 then (some (([] : List (List (S41))), false)) else ((cloneR.f (Zcn x15 x17)).bind fun t326 => (if x6.length < 5864062014805 then (Zau.l0 k x0 (x6 ++ [t326]) x15 x16 (wrap64 (x17 + 1)) x325000 x325001 x325002 x325003 x325004 x325005 x325006) else (none)))) else (none)) else (none)) else ((Za3.f k x0 x325000 x325001 x325002 x325003 x325004 x325005 x325006).bind fun t332 => (if (t332.length : Int) = 0 then (some (([] : List (List (S41))), false)) else (Zau.l1 k x6 t332 x325001 (x325001.length : Int) 0)))
def Zau.l1 : Nat → List (List (S41)) → List (List Int) → List Int → Int → Int → Option ((List (List (S41))) × Bool)
 | 0, _, _, _, _, _ => none
 | k + 1, x6, x9, x37, x38, x39 => if x39 < x38 then (if 0 ≤ x39 then (if x39 < (x37.length : Int) then (Zau.l2 k x6 x9 x39 (rd x37 x39) ([] : List Int) x37 x38 x39 x9 (x9.length : Int) 0) else (none)) else (none)) else (some (x6, true))
def Zau.l2 : Nat → List (List (S41)) → List (List Int) → Int → Int → List Int → List Int → Int → Int → List (List Int) → Int → Int → Option ((List (List (S41))) × Bool)
 | 0, _, _, _, _, _, _, _, _, _, _, _ => none
 | k + 1, x6, x9, x10, x11, x12, x37, x38, x39, x44, x45, x46 => if x46 < x45 then (if 0 ≤ x46 then (if x46 < (x44.length : Int) then (if 0 ≤ x10 then (if x10 < ((Zbz x44 x46).length : Int) then (if x12.length < 17592186044416 then (Zau.l2 k x6 x9 x10 x11 (x12 ++ [rd (Zbz x44 x46) x10]) x37 x38 x39 x44 x45 (wrap64 (x46 + 1))) else (none)) else (none)) else (none)) else (none)) else (none)) else ((Zde.f k x12).bind fun bt341 => (if 0 ≤ x11 then (if x11 < (x6.length : Int) then (Zau.l1 k (x6.set (x11 : Int).toNat bt341.1) x9 x37 x38 (wrap64 (x39 + 1))) else (none)) else (none)))
end
def Zau.f (k : Nat) (l0 : List (List (S41))) (a1_0 : Int) (l1_1 : List Int) (l1_2 : List Int) (a1_3 : Int) (a1_4 : Int) (l1_5 : List (List Int)) (a1_6 : Int) : Option ((List (List (S41))) × Bool) := Zau.l0 k l0 ([] : List (List (S41))) l0 (l0.length : Int) 0 a1_0 l1_1 l1_2 a1_3 a1_4 l1_5 a1_6
theorem Zau.Zb1 : ∀ k, (∀ y0 y1 y2 y3 y4 y5 y6 y7 y8 y9 y10 y11, LeO (Zau.l0 k y0 y1 y2 y3 y4 y5 y6 y7 y8 y9 y10 y11) (Zau.l0 (k + 1) y0 y1 y2 y3 y4 y5 y6 y7 y8 y9 y10 y11)) ∧ (∀ y0 y1 y2 y3 y4, LeO (Zau.l1 k y0 y1 y2 y3 y4) (Zau.l1 (k + 1) y0 y1 y2 y3 y4)) ∧ (∀ y0 y1 y2 y3 y4 y5 y6 y7 y8 y9 y10, LeO (Zau.l2 k y0 y1 y2 y3 y4 y5 y6 y7 y8 y9 y10) (Zau.l2 (k + 1) y0 y1 y2 y3 y4 y5 y6 y7 y8 y9 y10))
 | 0 => ⟨fun _ _ _ _ _ _ _ _ _ _ _ _ r h => by simp [Zau.l0] at h, fun _ _ _ _ _ r h => by simp [Zau.l1] at h, fun _ _ _ _ _ _ _ _ _ _ _ r h => by simp [Zau.l2] at h⟩
 | k + 1 => by
  obtain ⟨ih0, ih1, ih2⟩ := Zau.Zb1 k
  refine ⟨?_, ?_, ?_⟩
  ·intro y0 y1 y2 y3 y4 y5 y6 y7 y8 y9 y10 y11
   unfold Zau.l0
   repeat' first
   | (with_reducible exact ih0 _ _ _ _ _ _ _ _ _ _ _ _)
   | (with_reducible exact ih1 _ _ _ _ _)
   | (with_reducible exact ih2 _ _ _ _ _ _ _ _ _ _ _)
   | (with_reducible exact Zde.mono _ _)
   | (with_reducible exact Za3.mono _ _ _ _ _ _ _ _ _)
   | (with_reducible exact LeO.refl _)
   | (with_reducible exact LeO.none _)
   | (with_reducible refine LeO.ite ?_ ?_)
   | (with_reducible refine LeO.bind ?_ (fun _ => ?_))
   | exact ih0 _ _ _ _ _ _ _ _ _ _ _ _
   | exact ih1 _ _ _ _ _
   | exact ih2 _ _ _ _ _ _ _ _ _ _ _
   | exact Zde.mono _ _
   | exact Za3.mono _ _ _ _ _ _ _ _ _
   | exact LeO.none _
   | refine LeO.ite ?_ ?_
   | refine LeO.bind ?_ (fun _ => ?_)
  ·intro y0 y1 y2 y3 y4
   unfold Zau.l1
   repeat' first
   | (with_reducible exact ih0 _ _ _ _ _ _ _ _ _ _ _ _)
   | (with_reducible exact ih1 _ _ _ _ _)
   | (with_reducible exact ih2 _ _ _ _ _ _ _ _ _ _ _)
   | (with_reducible exact Zde.mono _ _)
   | (with_reducible exact Za3.mono _ _ _ _ _ _ _ _ _)
   | (with_reducible exact LeO.refl _)
   | (with_reducible exact LeO.none _)
   | (with_reducible refine LeO.ite ?_ ?_)
   | (with_reducible refine LeO.bind ?_ (fun _ => ?_))
   | exact ih0 _ _ _ _ _ _ _ _ _ _ _ _
   | exact ih1 _ _ _ _ _
   | exact ih2 _ _ _ _ _ _ _ _ _ _ _
   | exact Zde.mono _ _
   | exact Za3.mono _ _ _ _ _ _ _ _ _
   | exact LeO.none _
   | refine LeO.ite ?_ ?_
   | refine LeO.bind ?_ (fun _ => ?_)
  intro y0 y1 y2 y3 y4 y5 y6 y7 y8 y9 y10
  unfold Zau.l2
  repeat' first
  | (with_reducible exact ih0 _ _ _ _ _ _ _ _ _ _ _ _)
  | (with_reducible exact ih1 _ _ _ _ _)
  | (with_reducible exact ih2 _ _ _ _ _ _ _ _ _ _ _)
  | (with_reducible exact Zde.mono _ _)
  | (with_reducible exact Za3.mono _ _ _ _ _ _ _ _ _)
  | (with_reducible exact LeO.refl _)
  | (with_reducible exact LeO.none _)
  | (with_reducible refine LeO.ite ?_ ?_)
  | (with_reducible refine LeO.bind ?_ (fun _ => ?_))
  | exact ih0 _ _ _ _ _ _ _ _ _ _ _ _
  | exact ih1 _ _ _ _ _
  | exact ih2 _ _ _ _ _ _ _ _ _ _ _
  | exact Zde.mono _ _
  | exact Za3.mono _ _ _ _ _ _ _ _ _
  | exact LeO.none _
  | refine LeO.ite ?_ ?_
  | refine LeO.bind ?_ (fun _ => ?_)
theorem Zau.mono : ∀ a0 a1 a2 a3 a4 a5 a6 a7 k, LeO (Zau.f k a0 a1 a2 a3 a4 a5 a6 a7) (Zau.f (k + 1) a0 a1 a2 a3 a4 a5 a6 a7) := by
 intro a0 a1 a2 a3 a4 a5 a6 a7 k
 obtain ⟨ih0, ih1, ih2⟩ := Zau.Zb1 k
 unfold Zau.f
 repeat' first
   | (with_reducible exact ih0 _ _ _ _ _ _ _ _ _ _ _ _)
   | (with_reducible exact ih1 _ _ _ _ _)
   | (with_reducible exact ih2 _ _ _ _ _ _ _ _ _ _ _)
   | (with_reducible exact Zde.mono _ _)
   | (with_reducible exact Za3.mono _ _ _ _ _ _ _ _ _)
   | (with_reducible exact LeO.refl _)
   | (with_reducible exact LeO.none _)
   | (with_reducible refine LeO.ite ?_ ?_)
   | (with_reducible refine LeO.bind ?_ (fun _ => ?_))
   | exact ih0 _ _ _ _ _ _ _ _ _ _ _ _
   | exact ih1 _ _ _ _ _
   | exact ih2 _ _ _ _ _ _ _ _ _ _ _
   | exact Zde.mono _ _
   | exact Za3.mono _ _ _ _ _ _ _ _ _
   | exact LeO.none _
   | refine LeO.ite ?_ ?_
   | refine LeO.bind ?_ (fun _ => ?_)
set_option maxHeartbeats 8000000 in
set_option maxRecDepth 100000 in
theorem Zau.calls (k : Nat) (A0 : Option Addr) (c0 : Nat) (l0 : List (List (S41))) (a1_0 : Int) (A1_1 : Option Addr) (c1_1 : Nat) (l1_1 : List Int) (A1_2 : Option Addr) (c1_2 : Nat) (l1_2 : List Int) (a1_3 : Int) (a1_4 : Int) (A1_5 : Option Addr) (c1_5 : Nat) (l1_5 : List (List Int)) (a1_6 : Int) (r1 : List (List (S41))) (r2 : Bool) (w : World) (hr0 : Kd.C (Kd.slice 41 k41) w A0 l0.length l0) (hc0 : l0.length ≤ c0) (hr1_1 : Kd.C (Kd.int .i64) w A1_1 l1_1.length l1_1) (hc1_1 : l1_1.length ≤ c1_1) (hr1_2 : Kd.C (Kd.int .i64) w A1_2 l1_2.length l1_2) (hc1_2 : l1_2.length ≤ c1_2) (hr1_5 : Kd.C (Kd.slice 3 (Kd.int .i64)) w A1_5 l1_5.length l1_5) (hc1_5 : l1_5.length ≤ c1_5) (h : Zau.f k l0 a1_0 l1_1 l1_2 a1_3 a1_4 l1_5 a1_6 = some (r1, r2)) :
  Calls Try.prog 18 #[.slice A0 l0.length c0, .agg #[.int .i64 a1_0, .slice A1_1 l1_1.length c1_1, .slice A1_2 l1_2.length c1_2, .int .i64 a1_3, .int .i64 a1_4, .slice A1_5 l1_5.length c1_5, .int .i64 a1_6]] w fun e w' => ∃ v0_ : Value, e = .returned (.tuple #[v0_, .bool r2]) ∧ Kd.S (Kd.slice 41 k41) 39 w' w.heap.size (fun _ => True) v0_ r1 ∧ Below w.heap.size w w' := by
 have hu25 := Try.underlying25
 have HR0 := Zaa.mk hr0
 have HC0 := Zaa.mk hc0
 clear hr0 hc0
 have HR1_1 := Zaa.mk hr1_1
 have HC1_1 := Zaa.mk hc1_1
 clear hr1_1 hc1_1
 have HR1_2 := Zaa.mk hr1_2
 have HC1_2 := Zaa.mk hc1_2
 clear hr1_2 hc1_2
 have HR1_5 := Zaa.mk hr1_5
 have HC1_5 := Zaa.mk hc1_5
 clear hr1_5 hc1_5
 have HB := Zaa.mk (Below.refl w.heap.size w)
 have H : (Zau.l0 k l0 ([] : List (List (S41))) l0 (l0.length : Int) 0 a1_0 l1_1 l1_2 a1_3 a1_4 l1_5 a1_6) = some (r1, r2) := h
 clear h
 have H' := Zaa.mk H
 clear H
 go_enter Try.func18, Try.ntmps18
 go_wp2_with (first | ((with_reducible refine Zb2 (N := 3) rfl ?_); refine Zcd ?hg (N := 3) ?hd (cs := #[.int .i64 a1_0, .slice A1_1 l1_1.length c1_1, .slice A1_2 l1_2.length c1_2, .int .i64 a1_3, .int .i64 a1_4, .slice A1_5 l1_5.length c1_5, .int .i64 a1_6]) (t := 25) ?hr ?_; (case hd => rfl); (case hg => rfl); (case hr => first | (go_simp; done) | (go_simp; rfl)); intro gb324 hg w3 hbox hb; have n0_ := Zaa.mk (Zay (by repeat (first | (with_reducible first | exact HB.out | apply Zac | apply Za | apply Zab) | exact HB.out)) hb); have n1_ := Zaa.mk (hbox); have n2_ := Zaa.mk ((by rw [hg]; exact (Zal (by repeat (first | (with_reducible first | exact HB.out | apply Zac | apply Za | apply Zab) | exact HB.out))) : w.heap.size ≤ gb324)); have n3_ := Zaa.mk ((by rw [hg]; exact (Zal (by repeat (first | (with_reducible first | exact HB.out | apply Zac | apply Za | apply Zab) | exact HB.out))) : w.heap.size ≤ gb324)); clear HB; have HB := n0_; have BK324 := n1_; have GW324 := n2_; have GE324 := n3_; clear n0_ n1_ n2_ n3_; clear hb hbox hg))
 go_loopg [6, 17] k (fun kq v6 v17 w' => ∃ (x6_1 : List (List (S41))) (x17_1 : Int), v17 = .int .i64 x17_1 ∧ Zaa (Zau.l0 kq l0 x6_1 l0 (l0.length : Int) x17_1 a1_0 l1_1 l1_2 a1_3 a1_4 l1_5 a1_6 = some (r1, r2)) ∧ Zaa (kq ≤ k) ∧ Zaa (Kd.S (Kd.slice 41 k41) 39 w' w.heap.size (fun _ => True) v6 x6_1) ∧ Zaa (w'.heap[gb324]? = some (.cells #[.int .i64 a1_0, (.slice A1_1 l1_1.length c1_1), (.slice A1_2 l1_2.length c1_2), .int .i64 a1_3, .int .i64 a1_4, (.slice A1_5 l1_5.length c1_5), .int .i64 a1_6] 25 (0, 0))) ∧ Zaa (Below w.heap.size w w'))
 case atStart => exact ⟨(([] : List (List (S41)))), (0), (by first | rfl | (simp; done) | (simp [*]; done)), H', ⟨Nat.le_refl _⟩, ⟨by first | exact Kd.S_nil _ _ _ _ _ | exact Kd.N_nil _ _ _ _ _ | exact Kd.V_nil _ _ _ _ _ | exact Kd.Q_nil _ _ _ _ _ | exact Kd.Zen _ _ _ _ _⟩, ⟨by (with_reducible repeat (first | refine Zag ?_ _ | refine Zah ?_ | refine Zae ?_ _)); exact BK324.out⟩, ⟨by repeat (first | (with_reducible first | exact HB.out | apply Zac | apply Za | apply Zab | refine Zaf ?_ GE324.out) | exact HB.out)⟩⟩
 case round =>
  clear H'
  try clear c1
  try clear p2
  obtain ⟨x6_1, x17_1, rfl, HA, HK1, HO_6, BK324, HB⟩ := hrel
  cases gk with
  | zero => exact absurd HA.out (by simp [Zau.l0])
  | succ k1 =>
   have H := HA.out
   clear HA
   simp only [Zau.l0] at H
   by_cases c4 : x17_1 < (l0.length : Int)
   ·rw [if_pos c4] at H
    have c4b0 : decide (x17_1 < (l0.length : Int)) = true := decide_eq_true c4
    clear c4
    by_cases c5 : 0 ≤ x17_1
    rotate_left
    ·rw [if_neg c5] at H
     exact absurd H (by simp)
    rw [if_pos c5] at H
    have c5b0 : decide (0 ≤ x17_1) = true := decide_eq_true c5
    clear c5
    by_cases c6 : x17_1 < (l0.length : Int)
    rotate_left
    ·rw [if_neg c6] at H
     exact absurd H (by simp)
    rw [if_pos c6] at H
    have c6b0 : decide (x17_1 < (l0.length : Int)) = true := decide_eq_true c6
    clear c6
    by_cases c7 : ((Zcn l0 x17_1).length : Int) = 0
    ·rw [if_pos c7] at H
     have c7b0 : (((Zcn l0 x17_1).length : Int) == 0) = true := beq_iff_eq.mpr c7
     have c7b1 : (((Zcn l0 x17_1).length : Int) != 0) = false := bne_eq_false_iff_eq.mpr c7
     clear c7
     simp only [Option.some.injEq, Prod.mk.injEq] at H
     obtain ⟨rfl, rfl⟩ := H
     have p325 : 0 ≤ (x17_1 : Int) := of_decide_eq_true (by first | (with_reducible assumption) | assumption)
     have q325 : x17_1 < (l0.length : Int) := of_decide_eq_true (by first | (with_reducible assumption) | assumption)
     obtain ⟨ad325, A325_0, c325_0, e325, hx325_0, hl325_0, hi325_0⟩ := Zfb HR0.out x17_1 p325 q325
     cases e325
     replace hx325_0 := (HB.out.cell (World.block_lt_of_cell? w _ hx325_0)).trans hx325_0
     have HR325_0 := Zaa.mk hi325_0
     have HC325_0 := Zaa.mk hl325_0
     clear hi325_0 hl325_0
     replace p325 := eq_true p325
     replace q325 := eq_true q325
     go_wp2
     go_ret2
     exact ⟨_, by first | rfl | (simp [Za1, Za2] <;> rfl) | (simp [*, Za1, Za2] <;> rfl), by first | exact Kd.S_nil _ _ _ _ _ | exact Kd.N_nil _ _ _ _ _ | exact Kd.V_nil _ _ _ _ _ | exact Kd.Q_nil _ _ _ _ _ | exact Kd.Zen _ _ _ _ _, by repeat (first | (with_reducible first | exact HB.out | apply Zac | apply Za | apply Zab | refine Zaf ?_ GE324.out) | exact HB.out)⟩
    rw [if_neg c7] at H
    have c7b0 : (((Zcn l0 x17_1).length : Int) == 0) = false := beq_eq_false_iff_ne.mpr c7
    have c7b1 : (((Zcn l0 x17_1).length : Int) != 0) = true := bne_iff_ne.mpr c7
    have c7b2 : ¬ ((Zcn l0 x17_1) = []) := fun h_ => c7 (by rw [h_]; rfl)
    replace H := Option.bind_eq_some_iff.mp H
    obtain ⟨t326, A80, H⟩ := H
    replace H : (if x6_1.length < 5864062014805 then (Zau.l0 k1 l0 (x6_1 ++ [t326]) l0 (l0.length : Int) (wrap64 (x17_1 + 1)) a1_0 l1_1 l1_2 a1_3 a1_4 l1_5 a1_6) else (none)) = some (r1, r2) := H
    have A8 := Zaa.mk A80
    clear A80
    by_cases c9 : x6_1.length < 5864062014805
    rotate_left
    ·rw [if_neg c9] at H
     exact absurd H (by simp)
    rw [if_pos c9] at H
    have LMc9 := Zaa.mk c9
    clear c9
    obtain ⟨y329, hy329⟩ : ∃ y_ : List (List (S41)), y_ = (x6_1 ++ [t326]) := ⟨_, rfl⟩
    replace H : (Zau.l0 k1 l0 y329 l0 (l0.length : Int) (wrap64 (x17_1 + 1)) a1_0 l1_1 l1_2 a1_3 a1_4 l1_5 a1_6) = some (r1, r2) := by first | (rw [hy329]; with_reducible exact H) | (have H2_ := (Option.bind_some _ _).symm.trans H; rw [hy329]; with_reducible exact H2_) | (have H2_ := (Option.bind_some _ _).symm.trans H; with_reducible exact H2_) | with_reducible exact H | (rw [hy329]; exact H) | exact H
    have Ny329 := Zaa.mk hy329
    clear hy329
    have H' := Zaa.mk H
    clear H
    have p325 : 0 ≤ (x17_1 : Int) := of_decide_eq_true (by first | (with_reducible assumption) | assumption)
    have q325 : x17_1 < (l0.length : Int) := of_decide_eq_true (by first | (with_reducible assumption) | assumption)
    obtain ⟨ad325, A325_0, c325_0, e325, hx325_0, hl325_0, hi325_0⟩ := Zfb HR0.out x17_1 p325 q325
    cases e325
    replace hx325_0 := (HB.out.cell (World.block_lt_of_cell? w _ hx325_0)).trans hx325_0
    have HR325_0 := Zaa.mk hi325_0
    have HC325_0 := Zaa.mk hl325_0
    clear hi325_0 hl325_0
    replace p325 := eq_true p325
    replace q325 := eq_true q325
    go_wp2_with (first | ((with_reducible refine Zbn (f := 42) rfl ?_); refine Zcf (some 26) rfl rfl Try.func42 (by kernel_rfl) rfl #[.slice A325_0 (Zcn l0 x17_1).length c325_0] rfl (by (try simp only [List.map_toArray, List.map_cons, List.map_nil]); first | done | rfl | (simp only [List.length_drop, List.length_take]; rfl)) ?_; (with_reducible refine (cloneR.calls _ _ (Zcn l0 x17_1) t326 _ ?side1 ?side2 A8.out).mono ?_); (case side1 => repeat (first | exact (Kd.Zbj HR325_0.out HB.out) | (with_reducible refine Kd.C_alloc ?_ _) | (with_reducible refine Kd.Za0 ?_ _) | (with_reducible refine Kd.C_drew ?_))); (case side2 => exact HC325_0.out); rintro e w10 ⟨v327, rfl, ho0, hb⟩; refine ⟨_, rfl, ?_⟩; have n0_ := Zaa.mk (Kd.Zc5 (by (with_reducible repeat (first | apply Kd.S_alloc | apply Kd.Zbe | apply Kd.Zbk)); exact HO_6.out) (Kd.Zco ho0) hb); have n1_ := Zaa.mk (Kd.Zb9 ho0 (Zal (by repeat (first | (with_reducible first | exact HB.out | apply Zac | apply Za | apply Zab | refine Zaf ?_ GE324.out) | exact HB.out)))); have n2_ := Zaa.mk (Zbb (g := gb324) (o := .cells #[.int .i64 a1_0, .slice A1_1 l1_1.length c1_1, .slice A1_2 l1_2.length c1_2, .int .i64 a1_3, .int .i64 a1_4, .slice A1_5 l1_5.length c1_5, .int .i64 a1_6] 25 (0, 0)) (by (with_reducible repeat (first | refine Zag ?_ _ | refine Zah ?_ | refine Zae ?_ _)); exact BK324.out) hb); have n3_ := Zaa.mk (Zay (by repeat (first | (with_reducible first | exact HB.out | apply Zac | apply Za | apply Zab | refine Zaf ?_ GE324.out) | exact HB.out)) hb); clear HO_6; clear BK324; clear HB; have HO_6 := n0_; have HO328 := n1_; have BK324 := n2_; have HB := n3_; clear n0_ n1_ n2_ n3_; (try clear hb); (try clear hb2); (try clear hk); (try clear hi); (try clear ho0); obtain ⟨Ao12, co12, eo12⟩ := Kd.Zcb HO328.out; subst eo12) | ((with_reducible refine Zbt (b := .append) (xs := #[.tmp 24, .tmp 27]) rfl ?_); at_builtin; refine Kd.Zfg (Kd.slice 41 k41) (w0 := w) w.heap.size rfl (.tmp 24) (.tmp 27) 28 39 (.slice none 0 0) 24 rfl Try.underlying28 info39 rfl (by decide) (by omega) u6 x6_1 t326 [.slice Ao12 t326.length co12] (fun _ => True) (fun k_ => some k_ = (.slice Ao12 t326.length co12 : Value).ownBlock) rfl rfl ?aP (fun k_ hk_ => ((Kd.Zbs (ok' := fun k_ => ((fun _ => True)) k_ ∧ some k_ ≠ (u6 : Value).ownBlock) (Kd.Zc9 (HO328.out) (Kd.Zd HO_6.out) (by decide)) (fun k_ hk => ⟨trivial, hk.2⟩))).1 k_ hk_.symm) ?aF ?aO ?aB ?aS ?aL ?_; (case aP => exact Kd.M_row (Kd.Zbs (Kd.Ze0 rfl (Kd.Zbs (ok' := fun k_ => ((fun _ => True)) k_ ∧ some k_ ≠ (u6 : Value).ownBlock) (Kd.Zc9 (HO328.out) (Kd.Zd HO_6.out) (by decide)) (fun k_ hk => ⟨trivial, hk.2⟩))) (fun _ h_ => h_))); (case aB => exact (by repeat (first | (with_reducible first | exact HB.out | apply Zac | apply Za | apply Zab | refine Zaf ?_ GE324.out) | exact HB.out))); (case aF => exact (fun _ _ => trivial)); (case aO => exact (by (with_reducible repeat (first | apply Kd.S_alloc | apply Kd.Zbe | apply Kd.Zbk)); exact Kd.Zb4 HO_6.out (fun k_ hk => ⟨trivial, fun e_ => hk.2 e_⟩))); (case aS => exact (Zal (by repeat (first | (with_reducible first | exact HB.out | apply Zac | apply Za | apply Zab | refine Zaf ?_ GE324.out) | exact HB.out)))); (case aL => have := LMc9.out; omega); intro v330 w11 ho hb hg hat; rw [← Ny329.out] at ho; have n0_ := Zaa.mk (Zcu (g := gb324) (o := .cells #[.int .i64 a1_0, .slice A1_1 l1_1.length c1_1, .slice A1_2 l1_2.length c1_2, .int .i64 a1_3, .int .i64 a1_4, .slice A1_5 l1_5.length c1_5, .int .i64 a1_6] 25 (0, 0)) (by (with_reducible repeat (first | refine Zag ?_ _ | refine Zah ?_ | refine Zae ?_ _)); exact BK324.out) hg (Kd.S_ne HO_6.out BK324.out (by decide))); have n1_ := Zaa.mk (hb); have n2_ := Zaa.mk (ho); clear BK324; clear HB; clear HO_6; clear HO328; have BK324 := n0_; have HB := n1_; have HO331 := n2_; clear n0_ n1_ n2_; clear ho hb hg hat))
    go_roundg k1
    case measure => have := HK1.out; omega
    case rel => exact ⟨(y329), (wrap64 (x17_1 + 1)), (by first | rfl | (simp; done) | (simp [*]; done)), H', ⟨by have := HK1.out; omega⟩, ⟨by (with_reducible repeat (first | apply Kd.S_alloc | apply Kd.Zbe | apply Kd.Zbk)); exact HO331.out⟩, ⟨by (with_reducible repeat (first | refine Zag ?_ _ | refine Zah ?_ | refine Zae ?_ _)); exact BK324.out⟩, ⟨by repeat (first | (with_reducible first | exact HB.out | apply Zac | apply Za | apply Zab | refine Zaf ?_ GE324.out) | exact HB.out)⟩⟩
   rw [if_neg c4] at H
   have c4b0 : decide (x17_1 < (l0.length : Int)) = false := decide_eq_false c4
   clear c4
   replace H := Option.bind_eq_some_iff.mp H
   obtain ⟨t332, A130, H⟩ := H
   replace H : (if (t332.length : Int) = 0 then (some (([] : List (List (S41))), false)) else (Zau.l1 k1 x6_1 t332 l1_1 (l1_1.length : Int) 0)) = some (r1, r2) := H
   have A13 := Zaa.mk A130
   clear A130
   by_cases c14 : (t332.length : Int) = 0
   ·rw [if_pos c14] at H
    have c14b0 : ((t332.length : Int) == 0) = true := beq_iff_eq.mpr c14
    have c14b1 : ((t332.length : Int) != 0) = false := bne_eq_false_iff_eq.mpr c14
    clear c14
    simp only [Option.some.injEq, Prod.mk.injEq] at H
    obtain ⟨rfl, rfl⟩ := H
    obtain ⟨hcz15_0, hcz15_1, hcz15_2, hcz15_3, hcz15_4, hcz15_5, hcz15_6, hfz15_0, hfz15_1, hfz15_2, hfz15_3, hfz15_4, hfz15_5, hfz15_6⟩ := Zch BK324.out
    go_wp2_with (first | ((with_reducible refine Zbn (f := 20) rfl ?_); refine Zcf (some 32) rfl rfl Try.func20 (by kernel_rfl) rfl #[.slice A0 l0.length c0, .agg #[.int .i64 a1_0, .slice A1_1 l1_1.length c1_1, .slice A1_2 l1_2.length c1_2, .int .i64 a1_3, .int .i64 a1_4, .slice A1_5 l1_5.length c1_5, .int .i64 a1_6]] rfl (by (try simp only [List.map_toArray, List.map_cons, List.map_nil]); first | done | rfl | (simp only [List.length_drop, List.length_take]; rfl)) ?_; (with_reducible refine (Za3.calls k1 _ _ l0 a1_0 _ _ l1_1 _ _ l1_2 a1_3 a1_4 _ _ l1_5 a1_6 t332 _ ?side1 ?side2 ?side3 ?side4 ?side5 ?side6 ?side7 ?side8 A13.out).mono ?_); (case side1 => repeat (first | exact (Kd.Zbj HR0.out HB.out) | (with_reducible refine Kd.C_alloc ?_ _) | (with_reducible refine Kd.Za0 ?_ _) | (with_reducible refine Kd.C_drew ?_))); (case side2 => exact HC0.out); (case side3 => repeat (first | exact (Kd.Zbj HR1_1.out HB.out) | (with_reducible refine Kd.C_alloc ?_ _) | (with_reducible refine Kd.Za0 ?_ _) | (with_reducible refine Kd.C_drew ?_))); (case side4 => exact HC1_1.out); (case side5 => repeat (first | exact (Kd.Zbj HR1_2.out HB.out) | (with_reducible refine Kd.C_alloc ?_ _) | (with_reducible refine Kd.Za0 ?_ _) | (with_reducible refine Kd.C_drew ?_))); (case side6 => exact HC1_2.out); (case side7 => repeat (first | exact (Kd.Zbj HR1_5.out HB.out) | (with_reducible refine Kd.C_alloc ?_ _) | (with_reducible refine Kd.Za0 ?_ _) | (with_reducible refine Kd.C_drew ?_))); (case side8 => exact HC1_5.out); rintro e w16 ⟨v333, rfl, ho0, hb⟩; refine ⟨_, rfl, ?_⟩; have n0_ := Zaa.mk (Kd.Zb8 (by (with_reducible repeat (first | apply Kd.S_alloc | apply Kd.Zbe | apply Kd.Zbk)); exact HO_6.out) hb); have n1_ := Zaa.mk (Kd.Zc2 ho0 (Zal (by repeat (first | (with_reducible first | exact HB.out | apply Zac | apply Za | apply Zab | refine Zaf ?_ GE324.out) | exact HB.out)))); have n2_ := Zaa.mk (Zbb (g := gb324) (o := .cells #[.int .i64 a1_0, .slice A1_1 l1_1.length c1_1, .slice A1_2 l1_2.length c1_2, .int .i64 a1_3, .int .i64 a1_4, .slice A1_5 l1_5.length c1_5, .int .i64 a1_6] 25 (0, 0)) (by (with_reducible repeat (first | refine Zag ?_ _ | refine Zah ?_ | refine Zae ?_ _)); exact BK324.out) hb); have n3_ := Zaa.mk (Zay (by repeat (first | (with_reducible first | exact HB.out | apply Zac | apply Za | apply Zab | refine Zaf ?_ GE324.out) | exact HB.out)) hb); clear HO_6; clear BK324; clear HB; have HO_6 := n0_; have HO334 := n1_; have BK324 := n2_; have HB := n3_; clear n0_ n1_ n2_ n3_; (try clear hb); (try clear hb2); (try clear hk); (try clear hi); (try clear ho0); obtain ⟨Ao17, co17, eo17⟩ := Kd.Zc6 HO334.out; subst eo17))
    go_ret2
    exact ⟨_, by first | rfl | (simp [Za1, Za2] <;> rfl) | (simp [*, Za1, Za2] <;> rfl), by first | exact Kd.S_nil _ _ _ _ _ | exact Kd.N_nil _ _ _ _ _ | exact Kd.V_nil _ _ _ _ _ | exact Kd.Q_nil _ _ _ _ _ | exact Kd.Zen _ _ _ _ _, by repeat (first | (with_reducible first | exact HB.out | apply Zac | apply Za | apply Zab | refine Zaf ?_ GE324.out) | exact HB.out)⟩
   rw [if_neg c14] at H
   have c14b0 : ((t332.length : Int) == 0) = false := beq_eq_false_iff_ne.mpr c14
   have c14b1 : ((t332.length : Int) != 0) = true := bne_iff_ne.mpr c14
   have c14b2 : ¬ (t332 = []) := fun h_ => c14 (by rw [h_]; rfl)
   have H' := Zaa.mk H
   clear H
   obtain ⟨hcz18_0, hcz18_1, hcz18_2, hcz18_3, hcz18_4, hcz18_5, hcz18_6, hfz18_0, hfz18_1, hfz18_2, hfz18_3, hfz18_4, hfz18_5, hfz18_6⟩ := Zch BK324.out
   go_wp2_with (first | ((with_reducible refine Zbn (f := 20) rfl ?_); refine Zcf (some 32) rfl rfl Try.func20 (by kernel_rfl) rfl #[.slice A0 l0.length c0, .agg #[.int .i64 a1_0, .slice A1_1 l1_1.length c1_1, .slice A1_2 l1_2.length c1_2, .int .i64 a1_3, .int .i64 a1_4, .slice A1_5 l1_5.length c1_5, .int .i64 a1_6]] rfl (by (try simp only [List.map_toArray, List.map_cons, List.map_nil]); first | done | rfl | (simp only [List.length_drop, List.length_take]; rfl)) ?_; (with_reducible refine (Za3.calls k1 _ _ l0 a1_0 _ _ l1_1 _ _ l1_2 a1_3 a1_4 _ _ l1_5 a1_6 t332 _ ?side1 ?side2 ?side3 ?side4 ?side5 ?side6 ?side7 ?side8 A13.out).mono ?_); (case side1 => repeat (first | exact (Kd.Zbj HR0.out HB.out) | (with_reducible refine Kd.C_alloc ?_ _) | (with_reducible refine Kd.Za0 ?_ _) | (with_reducible refine Kd.C_drew ?_))); (case side2 => exact HC0.out); (case side3 => repeat (first | exact (Kd.Zbj HR1_1.out HB.out) | (with_reducible refine Kd.C_alloc ?_ _) | (with_reducible refine Kd.Za0 ?_ _) | (with_reducible refine Kd.C_drew ?_))); (case side4 => exact HC1_1.out); (case side5 => repeat (first | exact (Kd.Zbj HR1_2.out HB.out) | (with_reducible refine Kd.C_alloc ?_ _) | (with_reducible refine Kd.Za0 ?_ _) | (with_reducible refine Kd.C_drew ?_))); (case side6 => exact HC1_2.out); (case side7 => repeat (first | exact (Kd.Zbj HR1_5.out HB.out) | (with_reducible refine Kd.C_alloc ?_ _) | (with_reducible refine Kd.Za0 ?_ _) | (with_reducible refine Kd.C_drew ?_))); (case side8 => exact HC1_5.out); rintro e w19 ⟨v333, rfl, ho0, hb⟩; refine ⟨_, rfl, ?_⟩; have n0_ := Zaa.mk (Kd.Zb8 (by (with_reducible repeat (first | apply Kd.S_alloc | apply Kd.Zbe | apply Kd.Zbk)); exact HO_6.out) hb); have n1_ := Zaa.mk (Kd.Zc2 ho0 (Zal (by repeat (first | (with_reducible first | exact HB.out | apply Zac | apply Za | apply Zab | refine Zaf ?_ GE324.out) | exact HB.out)))); have n2_ := Zaa.mk (Zbb (g := gb324) (o := .cells #[.int .i64 a1_0, .slice A1_1 l1_1.length c1_1, .slice A1_2 l1_2.length c1_2, .int .i64 a1_3, .int .i64 a1_4, .slice A1_5 l1_5.length c1_5, .int .i64 a1_6] 25 (0, 0)) (by (with_reducible repeat (first | refine Zag ?_ _ | refine Zah ?_ | refine Zae ?_ _)); exact BK324.out) hb); have n3_ := Zaa.mk (Zay (by repeat (first | (with_reducible first | exact HB.out | apply Zac | apply Za | apply Zab | refine Zaf ?_ GE324.out) | exact HB.out)) hb); clear HO_6; clear BK324; clear HB; have HO_6 := n0_; have HO334 := n1_; have BK324 := n2_; have HB := n3_; clear n0_ n1_ n2_ n3_; (try clear hb); (try clear hb2); (try clear hk); (try clear hi); (try clear ho0); obtain ⟨Ao20, co20, eo20⟩ := Kd.Zc6 HO334.out; subst eo20; obtain ⟨hcz21_0, hcz21_1, hcz21_2, hcz21_3, hcz21_4, hcz21_5, hcz21_6, hfz21_0, hfz21_1, hfz21_2, hfz21_3, hfz21_4, hfz21_5, hfz21_6⟩ := Zch BK324.out))
   go_loopg [39] k1 (fun kq v39 w' => ∃ (x6_2 : List (List (S41))) (x39_2 : Int), v39 = .int .i64 x39_2 ∧ Zaa (Zau.l1 kq x6_2 t332 l1_1 (l1_1.length : Int) x39_2 = some (r1, r2)) ∧ Zaa (kq ≤ k1) ∧ Zaa (Kd.S (Kd.slice 41 k41) 39 w' w.heap.size (fun _ => True) u6 x6_2) ∧ Zaa (Kd.S (Kd.slice 3 (Kd.int .i64)) 23 w' w.heap.size (fun _ => True) (.slice Ao20 t332.length co20) t332) ∧ Zaa (w'.heap[gb324]? = some (.cells #[.int .i64 a1_0, (.slice A1_1 l1_1.length c1_1), (.slice A1_2 l1_2.length c1_2), .int .i64 a1_3, .int .i64 a1_4, (.slice A1_5 l1_5.length c1_5), .int .i64 a1_6] 25 (0, 0))) ∧ Zaa (Below w.heap.size w w'))
   case atStart => exact ⟨(x6_1), (0), (by first | rfl | (simp; done) | (simp [*]; done)), H', ⟨Nat.le_refl _⟩, ⟨by (with_reducible repeat (first | apply Kd.S_alloc | apply Kd.Zbe | apply Kd.Zbk)); exact HO_6.out⟩, ⟨by (with_reducible repeat (first | apply Kd.S_alloc | apply Kd.Zbe | apply Kd.Zbk)); exact HO334.out⟩, ⟨by (with_reducible repeat (first | refine Zag ?_ _ | refine Zah ?_ | refine Zae ?_ _)); exact BK324.out⟩, ⟨by repeat (first | (with_reducible first | exact HB.out | apply Zac | apply Za | apply Zab | refine Zaf ?_ GE324.out) | exact HB.out)⟩⟩
   case round =>
    clear H'
    try clear c1
    try clear c2
    try clear p2
    try clear c3
    try clear p3
    try clear q3
    try clear hx3
    try clear c4
    try clear c4b0
    try clear c5
    try clear c5b0
    try clear c6
    try clear c6b0
    try clear p6
    try clear c7
    try clear c7b0
    try clear c7b1
    try clear c7b2
    try clear c9
    try clear c14
    try clear c14b0
    try clear c14b1
    try clear c14b2
    try clear c18
    try clear c20
    try clear hcz15_0
    try clear hcz15_1
    try clear hcz15_2
    try clear hcz15_3
    try clear hcz15_4
    try clear hcz15_5
    try clear hcz15_6
    try clear hcz18_0
    try clear hcz18_1
    try clear hcz18_2
    try clear hcz18_3
    try clear hcz18_4
    try clear hcz18_5
    try clear hcz18_6
    try clear hcz21_0
    try clear hcz21_1
    try clear hcz21_2
    try clear hcz21_3
    try clear hcz21_4
    try clear hcz21_5
    try clear hcz21_6
    try clear hfz15_0
    try clear hfz15_1
    try clear hfz15_2
    try clear hfz15_3
    try clear hfz15_4
    try clear hfz15_5
    try clear hfz15_6
    try clear hfz18_0
    try clear hfz18_1
    try clear hfz18_2
    try clear hfz18_3
    try clear hfz18_4
    try clear hfz18_5
    try clear hfz18_6
    try clear hfz21_0
    try clear hfz21_1
    try clear hfz21_2
    try clear hfz21_3
    try clear hfz21_4
    try clear hfz21_5
    try clear hfz21_6
    try clear hx325_0
    try clear p2
    try clear p325
    try clear q325
    obtain ⟨x6_2, x39_2, rfl, HA, HK2, HO_6, HO_9, BK324, HB⟩ := hrel
    cases gk with
    | zero => exact absurd HA.out (by simp [Zau.l1])
    | succ k2 =>
     have H := HA.out
     clear HA
     simp only [Zau.l1] at H
     by_cases c22 : x39_2 < (l1_1.length : Int)
     rotate_left
     ·rw [if_neg c22] at H
      have c22b0 : decide (x39_2 < (l1_1.length : Int)) = false := decide_eq_false c22
      clear c22
      simp only [Option.some.injEq, Prod.mk.injEq] at H
      obtain ⟨rfl, rfl⟩ := H
      go_wp2
      go_ret2
      exact ⟨_, by first | rfl | (simp [Za1, Za2] <;> rfl) | (simp [*, Za1, Za2] <;> rfl), by (with_reducible repeat (first | apply Kd.S_alloc | apply Kd.Zbe | apply Kd.Zbk)); exact HO_6.out, by repeat (first | (with_reducible first | exact HB.out | apply Zac | apply Za | apply Zab | refine Zaf ?_ GE324.out) | exact HB.out)⟩

     rw [if_pos c22] at H
     have c22b0 : decide (x39_2 < (l1_1.length : Int)) = true := decide_eq_true c22
     clear c22
     by_cases c23 : 0 ≤ x39_2
     rotate_left
     ·rw [if_neg c23] at H
      exact absurd H (by simp)
     rw [if_pos c23] at H
     have c23b0 : decide (0 ≤ x39_2) = true := decide_eq_true c23
     clear c23
     by_cases c24 : x39_2 < (l1_1.length : Int)
     rotate_left
     ·rw [if_neg c24] at H
      exact absurd H (by simp)
     rw [if_pos c24] at H
     have c24b0 : decide (x39_2 < (l1_1.length : Int)) = true := decide_eq_true c24
     clear c24
     have H' := Zaa.mk H
     clear H
     have p335 : 0 ≤ (x39_2 : Int) := of_decide_eq_true (by first | (with_reducible assumption) | assumption)
     have q335 : x39_2 < (l1_1.length : Int) := of_decide_eq_true (by first | (with_reducible assumption) | assumption)
     obtain ⟨ad335, e335, hx335_0⟩ := Kd.Zb6 HR1_1.out x39_2 p335 q335
     cases e335
     replace hx335_0 := (HB.out.cell (World.block_lt_of_cell? w _ hx335_0)).trans hx335_0
     replace p335 := eq_true p335
     replace q335 := eq_true q335
     go_wp2
     go_loopg [12, 46] k2 (fun kq v12 v46 w' => ∃ (x12_3 : List Int) (x46_3 : Int), v46 = .int .i64 x46_3 ∧ Zaa (Zau.l2 kq x6_2 t332 x39_2 (rd l1_1 x39_2) x12_3 l1_1 (l1_1.length : Int) x39_2 t332 (t332.length : Int) x46_3 = some (r1, r2)) ∧ Zaa (kq ≤ k2) ∧ Zaa (Kd.S (Kd.slice 41 k41) 39 w' w.heap.size (fun _ => True) u6 x6_2) ∧ Zaa (Kd.S (Kd.slice 3 (Kd.int .i64)) 23 w' w.heap.size (fun k_ => some k_ ≠ (v12 : Value).ownBlock) (.slice Ao20 t332.length co20) t332) ∧ Zaa (Kd.R (Kd.int .i64) 3 w' w.heap.size (fun _ => True) v12 x12_3) ∧ Zaa (Kd.S (Kd.slice 3 (Kd.int .i64)) 23 w' w.heap.size (fun k_ => some k_ ≠ (v12 : Value).ownBlock) (.slice Ao20 t332.length co20) t332) ∧ Zaa (w'.heap[gb324]? = some (.cells #[.int .i64 a1_0, (.slice (some ad335) l1_1.length c1_1), (.slice A1_2 l1_2.length c1_2), .int .i64 a1_3, .int .i64 a1_4, (.slice A1_5 l1_5.length c1_5), .int .i64 a1_6] 25 (0, 0))) ∧ Zaa (Below w.heap.size w w'))
     case atStart => exact ⟨(([] : List Int)), (0), (by first | rfl | (simp; done) | (simp [*]; done)), H', ⟨Nat.le_refl _⟩, ⟨by (with_reducible repeat (first | apply Kd.S_alloc | apply Kd.Zbe | apply Kd.Zbk)); exact HO_6.out⟩, ⟨by (with_reducible repeat (first | apply Kd.S_alloc | apply Kd.Zbe | apply Kd.Zbk)); exact Kd.Zb4 HO_9.out (fun _ hk => (by simp [Value.ownBlock]))⟩, ⟨by first | exact Kd.Zen _ _ _ _ _ | exact Kd.N_nil _ _ _ _ _ | exact Kd.V_nil _ _ _ _ _ | exact Kd.Q_nil _ _ _ _ _ | exact Kd.S_nil _ _ _ _ _⟩, ⟨by (with_reducible repeat (first | apply Kd.S_alloc | apply Kd.Zbe | apply Kd.Zbk)); exact Kd.Zb4 HO_9.out (fun _ hk => (by simp [Value.ownBlock]))⟩, ⟨by (with_reducible repeat (first | refine Zag ?_ _ | refine Zah ?_ | refine Zae ?_ _)); exact BK324.out⟩, ⟨by repeat (first | (with_reducible first | exact HB.out | apply Zac | apply Za | apply Zab | refine Zaf ?_ GE324.out) | exact HB.out)⟩⟩
     case round =>
      clear H'
      try clear c1
      try clear c2
      try clear p2
      try clear c3
      try clear p3
      try clear q3
      try clear hx3
      try clear c4
      try clear c4b0
      try clear c5
      try clear c5b0
      try clear c6
      try clear c6b0
      try clear p6
      try clear c7
      try clear c7b0
      try clear c7b1
      try clear c7b2
      try clear c9
      try clear c14
      try clear c14b0
      try clear c14b1
      try clear c14b2
      try clear c18
      try clear c20
      try clear c22
      try clear c22b0
      try clear c23
      try clear c23b0
      try clear c24
      try clear c24b0
      try clear hcz15_0
      try clear hcz15_1
      try clear hcz15_2
      try clear hcz15_3
      try clear hcz15_4
      try clear hcz15_5
      try clear hcz15_6
      try clear hcz18_0
      try clear hcz18_1
      try clear hcz18_2
      try clear hcz18_3
      try clear hcz18_4
      try clear hcz18_5
      try clear hcz18_6
      try clear hcz21_0
      try clear hcz21_1
      try clear hcz21_2
      try clear hcz21_3
      try clear hcz21_4
      try clear hcz21_5
      try clear hcz21_6
      try clear hfz15_0
      try clear hfz15_1
      try clear hfz15_2
      try clear hfz15_3
      try clear hfz15_4
      try clear hfz15_5
      try clear hfz15_6
      try clear hfz18_0
      try clear hfz18_1
      try clear hfz18_2
      try clear hfz18_3
      try clear hfz18_4
      try clear hfz18_5
      try clear hfz18_6
      try clear hfz21_0
      try clear hfz21_1
      try clear hfz21_2
      try clear hfz21_3
      try clear hfz21_4
      try clear hfz21_5
      try clear hfz21_6
      try clear hx325_0
      try clear hx335_0
      try clear p2
      try clear p3
      try clear p325
      try clear p335
      try clear p6
      try clear q3
      try clear q325
      try clear q335
      obtain ⟨x12_3, x46_3, rfl, HA, HK3, HO_6, HO_9, HO_12, HO_44, BK324, HB⟩ := hrel
      cases gk with
      | zero => exact absurd HA.out (by simp [Zau.l2])
      | succ k3 =>
       have H := HA.out
       clear HA
       simp only [Zau.l2] at H
       by_cases c25 : x46_3 < (t332.length : Int)
       ·rw [if_pos c25] at H
        have c25b0 : decide (x46_3 < (t332.length : Int)) = true := decide_eq_true c25
        clear c25
        by_cases c26 : 0 ≤ x46_3
        rotate_left
        ·rw [if_neg c26] at H
         exact absurd H (by simp)
        rw [if_pos c26] at H
        have c26b0 : decide (0 ≤ x46_3) = true := decide_eq_true c26
        clear c26
        by_cases c27 : x46_3 < (t332.length : Int)
        rotate_left
        ·rw [if_neg c27] at H
         exact absurd H (by simp)
        rw [if_pos c27] at H
        have c27b0 : decide (x46_3 < (t332.length : Int)) = true := decide_eq_true c27
        clear c27
        by_cases c28 : 0 ≤ x39_2
        rotate_left
        ·rw [if_neg c28] at H
         exact absurd H (by simp)
        rw [if_pos c28] at H
        have c28b0 : decide (0 ≤ x39_2) = true := decide_eq_true c28
        clear c28
        by_cases c29 : x39_2 < ((Zbz t332 x46_3).length : Int)
        rotate_left
        ·rw [if_neg c29] at H
         exact absurd H (by simp)
        rw [if_pos c29] at H
        have c29b0 : decide (x39_2 < ((Zbz t332 x46_3).length : Int)) = true := decide_eq_true c29
        clear c29
        by_cases c30 : x12_3.length < 17592186044416
        rotate_left
        ·rw [if_neg c30] at H
         exact absurd H (by simp)
        rw [if_pos c30] at H
        have LMc30 := Zaa.mk c30
        clear c30
        obtain ⟨y338, hy338⟩ : ∃ y_ : List Int, y_ = (x12_3 ++ [rd (Zbz t332 x46_3) x39_2]) := ⟨_, rfl⟩
        replace H : (Zau.l2 k3 x6_2 t332 x39_2 (rd l1_1 x39_2) y338 l1_1 (l1_1.length : Int) x39_2 t332 (t332.length : Int) (wrap64 (x46_3 + 1))) = some (r1, r2) := by first | (rw [hy338]; with_reducible exact H) | (have H2_ := (Option.bind_some _ _).symm.trans H; rw [hy338]; with_reducible exact H2_) | (have H2_ := (Option.bind_some _ _).symm.trans H; with_reducible exact H2_) | with_reducible exact H | (rw [hy338]; exact H) | exact H
        have Ny338 := Zaa.mk hy338
        clear hy338
        have H' := Zaa.mk H
        clear H
        have p336 : 0 ≤ (x46_3 : Int) := of_decide_eq_true (by first | (with_reducible assumption) | assumption)
        have q336 : x46_3 < (t332.length : Int) := of_decide_eq_true (by first | (with_reducible assumption) | assumption)
        obtain ⟨ad336, A336_0, c336_0, e336, hx336_0, hl336_0, hi336_0⟩ := Zdy (Kd.Zb5 HO_44.out).2.2 x46_3 p336 q336
        cases e336
        obtain ⟨ce336, hce336, hMe336, hcc336⟩ := Kd.S_get HO_44.out [] x46_3 p336 (by first | exact q336 | exact of_decide_eq_true (by first | (with_reducible assumption) | assumption) | (have e_ := (Kd.Zb5 HO_44.out).1; omega))
        obtain ⟨ve336_0, rfl, ge336_0⟩ := hMe336
        have hv336_0 := hcc336 0 _ rfl
        rw [Nat.add_zero, show ((Kd.slice 3 (Kd.int .i64))).sz = 1 from rfl, Nat.mul_one] at hv336_0
        replace hv336_0 := Option.some.inj (hv336_0.symm.trans hx336_0)
        rw [hv336_0] at ge336_0
        have HL336_0 := Zaa.mk (show Kd.R (Kd.int .i64) 3 _ _ _ _ (Zbz t332 x46_3) from ge336_0)
        clear hv336_0 ge336_0
        clear hcc336 hce336
        have HR336_0 := Zaa.mk hi336_0
        have HC336_0 := Zaa.mk hl336_0
        clear hi336_0 hl336_0
        replace p336 := eq_true p336
        replace q336 := eq_true q336
        have p337 : 0 ≤ (x39_2 : Int) := of_decide_eq_true (by first | (with_reducible assumption) | assumption)
        have q337 : x39_2 < ((Zbz t332 x46_3).length : Int) := of_decide_eq_true (by first | (with_reducible assumption) | assumption)
        obtain ⟨ad337, e337, hx337_0⟩ := Kd.Zb6 (by repeat (first | (with_reducible exact HR336_0.out) | (with_reducible refine Kd.C_alloc ?_ _) | (with_reducible refine Kd.Za0 ?_ _) | (with_reducible refine Kd.C_drew ?_) | exact HR336_0.out)) x39_2 p337 q337
        cases e337
        replace p337 := eq_true p337
        replace q337 := eq_true q337
        go_wp2_with (first | ((with_reducible refine Zbt (b := .append) (xs := #[.tmp 50, .tmp 55]) rfl ?_); at_builtin; refine Kd.Zcj (Kd.int .i64) (w0 := w) w.heap.size rfl (.tmp 50) (.tmp 55) 23 3 (.int .i64 0) 8 rfl Try.underlying23 info3 rfl (by decide) (by omega) u12 x12_3 (rd (Zbz t332 x46_3) x39_2) [.int .i64 (rd (Zbz t332 x46_3) x39_2)] (fun _ => True) (fun _ => False) rfl rfl ?aP (fun _ hk => hk.elim) ?aF ?aO ?aB ?aS ?aL ?_; (case aP => exact rfl); (case aB => exact (by repeat (first | (with_reducible first | exact HB.out | apply Zac | apply Za | apply Zab | refine Zaf ?_ GE324.out) | exact HB.out))); (case aF => exact (fun _ _ => trivial)); (case aO => exact (by (with_reducible repeat (first | apply Kd.R_alloc | apply Kd.Zap | apply Kd.Zav)); exact HO_12.out)); (case aS => exact (Zal (by repeat (first | (with_reducible first | exact HB.out | apply Zac | apply Za | apply Zab | refine Zaf ?_ GE324.out) | exact HB.out)))); (case aL => have := LMc30.out; omega); intro v339 w31 ho hb hg hat; rw [← Ny338.out] at ho; have n0_ := Zaa.mk (Kd.S_over' (by (with_reducible repeat (first | apply Kd.S_alloc | apply Kd.Zbe | apply Kd.Zbk)); exact HO_6.out) (Kd.R_typed (by (with_reducible repeat (first | apply Kd.R_alloc | apply Kd.Zap | apply Kd.Zav)); exact HO_12.out)) (by decide) hg); have n1_ := Zaa.mk (Kd.S_after (ok := (fun _ => True)) (by (with_reducible repeat (first | apply Kd.S_alloc | apply Kd.Zbe | apply Kd.Zbk)); exact Kd.Zb4 HO_9.out (fun _ hk => ⟨trivial, hk⟩)) hg hat); have n2_ := Zaa.mk (Kd.S_after (ok := (fun _ => True)) (by (with_reducible repeat (first | apply Kd.S_alloc | apply Kd.Zbe | apply Kd.Zbk)); exact Kd.Zb4 HO_44.out (fun _ hk => ⟨trivial, hk⟩)) hg hat); have n3_ := Zaa.mk (Zcu (g := gb324) (o := .cells #[.int .i64 a1_0, .slice (some ad335) l1_1.length c1_1, .slice A1_2 l1_2.length c1_2, .int .i64 a1_3, .int .i64 a1_4, .slice A1_5 l1_5.length c1_5, .int .i64 a1_6] 25 (0, 0)) (by (with_reducible repeat (first | refine Zag ?_ _ | refine Zah ?_ | refine Zae ?_ _)); exact BK324.out) hg (Kd.R_ne HO_12.out BK324.out (by decide))); have n4_ := Zaa.mk (Kd.Zct (ok := (fun k_ => some k_ ≠ (.slice (some ad336) t332.length co20 : Value).ownBlock)) (by (with_reducible repeat (first | apply Kd.R_alloc | apply Kd.Zap | apply Kd.Zav)); exact Kd.Zbs HL336_0.out (fun _ hk => ⟨hk.2, hk.1⟩)) hg hat); have n5_ := Zaa.mk (hb); have n6_ := Zaa.mk (ho); clear HO_6; clear HO_9; clear HO_44; clear BK324; clear HL336_0; clear HB; clear HO_12; have HO_6 := n0_; have HO_9 := n1_; have HO_44 := n2_; have BK324 := n3_; have HL336_0 := n4_; have HB := n5_; have HO340 := n6_; clear n0_ n1_ n2_ n3_ n4_ n5_ n6_; clear ho hb hg hat))
        go_roundg k3
        case measure => have := HK1.out; have := HK2.out; have := HK3.out; omega
        case rel => exact ⟨(y338), (wrap64 (x46_3 + 1)), (by first | rfl | (simp; done) | (simp [*]; done)), H', ⟨by have := HK1.out; have := HK2.out; have := HK3.out; omega⟩, ⟨by (with_reducible repeat (first | apply Kd.S_alloc | apply Kd.Zbe | apply Kd.Zbk)); exact HO_6.out⟩, ⟨by (with_reducible repeat (first | apply Kd.S_alloc | apply Kd.Zbe | apply Kd.Zbk)); exact Kd.Zb4 HO_9.out (fun _ hk => hk.2)⟩, ⟨by (with_reducible repeat (first | apply Kd.R_alloc | apply Kd.Zap | apply Kd.Zav)); exact HO340.out⟩, ⟨by (with_reducible repeat (first | apply Kd.S_alloc | apply Kd.Zbe | apply Kd.Zbk)); exact Kd.Zb4 HO_44.out (fun _ hk => hk.2)⟩, ⟨by (with_reducible repeat (first | refine Zag ?_ _ | refine Zah ?_ | refine Zae ?_ _)); exact BK324.out⟩, ⟨by repeat (first | (with_reducible first | exact HB.out | apply Zac | apply Za | apply Zab | refine Zaf ?_ GE324.out) | exact HB.out)⟩⟩
       rw [if_neg c25] at H
       have c25b0 : decide (x46_3 < (t332.length : Int)) = false := decide_eq_false c25
       clear c25
       replace H := Option.bind_eq_some_iff.mp H
       obtain ⟨⟨t341, t342⟩, A320, H⟩ := H
       replace H : (if 0 ≤ (rd l1_1 x39_2) then (if (rd l1_1 x39_2) < (x6_2.length : Int) then (Zau.l1 k3 (x6_2.set ((rd l1_1 x39_2) : Int).toNat t341) t332 l1_1 (l1_1.length : Int) (wrap64 (x39_2 + 1))) else (none)) else (none)) = some (r1, r2) := H
       have A32 := Zaa.mk A320
       clear A320
       by_cases c33 : 0 ≤ (rd l1_1 x39_2)
       rotate_left
       ·rw [if_neg c33] at H
        exact absurd H (by simp)
       rw [if_pos c33] at H
       have c33b0 : decide (0 ≤ (rd l1_1 x39_2)) = true := decide_eq_true c33
       clear c33
       by_cases c34 : (rd l1_1 x39_2) < (x6_2.length : Int)
       rotate_left
       ·rw [if_neg c34] at H
        exact absurd H (by simp)
       rw [if_pos c34] at H
       have c34b0 : decide ((rd l1_1 x39_2) < (x6_2.length : Int)) = true := decide_eq_true c34
       clear c34
       obtain ⟨y345, hy345⟩ : ∃ y_ : List (List (S41)), y_ = (x6_2.set ((rd l1_1 x39_2) : Int).toNat t341) := ⟨_, rfl⟩
       replace H : (Zau.l1 k3 y345 t332 l1_1 (l1_1.length : Int) (wrap64 (x39_2 + 1))) = some (r1, r2) := by first | (rw [hy345]; with_reducible exact H) | (have H2_ := (Option.bind_some _ _).symm.trans H; rw [hy345]; with_reducible exact H2_) | (have H2_ := (Option.bind_some _ _).symm.trans H; with_reducible exact H2_) | with_reducible exact H | (rw [hy345]; exact H) | exact H
       have Ny345 := Zaa.mk hy345
       clear hy345
       have H' := Zaa.mk H
       clear H
       obtain ⟨Ao36, co36, eo36⟩ := Kd.Zcb HO_12.out
       subst eo36
       go_wp2_with (first | ((with_reducible refine Zbn (f := 43) rfl ?_); refine Zcf (some 62) rfl rfl Try.func43 (by kernel_rfl) rfl #[.slice Ao36 x12_3.length co36] rfl (by (try simp only [List.map_toArray, List.map_cons, List.map_nil]); first | done | rfl | (simp only [List.length_drop, List.length_take]; rfl)) ?_; (with_reducible refine (Zde.calls k3 _ _ x12_3 t341 t342 _ ?side1 ?side2 A32.out).mono ?_); (case side1 => repeat (first | exact (Kd.Zbi HO_12.out).2.2 | (with_reducible refine Kd.C_alloc ?_ _) | (with_reducible refine Kd.Za0 ?_ _) | (with_reducible refine Kd.C_drew ?_))); (case side2 => exact (Kd.Zbi HO_12.out).2.1); rintro e w37 ⟨v343, rfl, ho0, hb⟩; refine ⟨_, rfl, ?_⟩; have n0_ := Zaa.mk (Kd.Zc5 (by (with_reducible repeat (first | apply Kd.S_alloc | apply Kd.Zbe | apply Kd.Zbk)); exact HO_6.out) (Kd.Zco ho0) hb); have n1_ := Zaa.mk (Kd.Zb8 (by (with_reducible repeat (first | apply Kd.S_alloc | apply Kd.Zbe | apply Kd.Zbk)); exact HO_9.out) hb); have n2_ := Zaa.mk (Kd.Zb3 (by (with_reducible repeat (first | apply Kd.R_alloc | apply Kd.Zap | apply Kd.Zav)); exact HO_12.out) hb); have n3_ := Zaa.mk (Kd.Zb8 (by (with_reducible repeat (first | apply Kd.S_alloc | apply Kd.Zbe | apply Kd.Zbk)); exact HO_44.out) hb); have n4_ := Zaa.mk (Kd.Zb9 ho0 (Zal (by repeat (first | (with_reducible first | exact HB.out | apply Zac | apply Za | apply Zab | refine Zaf ?_ GE324.out) | exact HB.out)))); have n5_ := Zaa.mk (Zbb (g := gb324) (o := .cells #[.int .i64 a1_0, .slice (some ad335) l1_1.length c1_1, .slice A1_2 l1_2.length c1_2, .int .i64 a1_3, .int .i64 a1_4, .slice A1_5 l1_5.length c1_5, .int .i64 a1_6] 25 (0, 0)) (by (with_reducible repeat (first | refine Zag ?_ _ | refine Zah ?_ | refine Zae ?_ _)); exact BK324.out) hb); have n6_ := Zaa.mk (Zay (by repeat (first | (with_reducible first | exact HB.out | apply Zac | apply Za | apply Zab | refine Zaf ?_ GE324.out) | exact HB.out)) hb); clear HO_6; clear HO_9; clear HO_12; clear HO_44; clear BK324; clear HB; have HO_6 := n0_; have HO_9 := n1_; have HO_12 := n2_; have HO_44 := n3_; have HO344 := n4_; have BK324 := n5_; have HB := n6_; clear n0_ n1_ n2_ n3_ n4_ n5_ n6_; (try clear hb); (try clear hb2); (try clear hk); (try clear hi); (try clear ho0); have p35 : 0 ≤ ((rd l1_1 x39_2) : Int) := of_decide_eq_true (by first | (with_reducible assumption) | assumption); have q35 : ((rd l1_1 x39_2) : Int) < ((x6_2.length : Int) : Int) := of_decide_eq_true (by first | (with_reducible assumption) | assumption); obtain ⟨go35, co35, eo35, gb35, gl35, cl35, HG35⟩ := Kd.S_form HO_6.out (by omega); (first | cases eo35 | (injection eo35 with ea_ en_ ec_; (first | subst ea_ | (injection ea_ with ea_; subst ea_)); subst ec_; clear en_)); have GB35 := Zaa.mk gb35; have GG35 := Zaa.mk HG35; clear gb35 gl35 HG35; obtain ⟨_, ce35, hcl35, hM35, hcc35, hfr35, _, _⟩ := Kd.S_elem HO_6.out [] ((rd l1_1 x39_2) : Int) p35 q35; obtain ⟨ve35_0, rfl, ge35_0⟩ := hM35; have hx35_0 := hcc35 0 _ rfl; have hf35_0 := hfr35 0; (try simp only [show ((Kd.slice 41 k41)).sz = 1 from rfl, Nat.mul_one, Nat.add_zero] at hx35_0); (try simp only [show ((Kd.slice 41 k41)).sz = 1 from rfl, Nat.mul_one, Nat.add_zero] at hf35_0); (try clear hM35); clear hcl35 hcc35 hfr35; replace p35 := eq_true p35; replace q35 := eq_true q35; have n_ := Zaa.mk (Kd.Zb4 (ok' := (fun k_ => some k_ ≠ (v343 : Value).ownBlock)) HO_6.out (fun k_ hk => hk.2)); clear HO_6; have HO_6 := n_; clear n_; have HX38 := Zaa.mk (show Kd.S (Kd.slice 41 k41) 39 w37 w.heap.size (fun k_ => ((fun _ => True)) k_ ∧ ¬ ((fun k_ => some k_ = (v343 : Value).ownBlock)) k_) (.slice (some ⟨go35, 0, none⟩) x6_2.length co35) x6_2 from (by (with_reducible repeat (first | apply Kd.S_alloc | apply Kd.Zbe | apply Kd.Zbk)); exact Kd.Zb4 HO_6.out (fun k_ hk => ⟨trivial, fun e_ => hk e_⟩))); obtain ⟨oki38, ce38, hcl38, hM38, hcc38, hfr38, hoki38, hH38⟩ := Kd.S_elem HX38.out [] ((rd l1_1 x39_2) : Int) (of_decide_eq_true (by first | (with_reducible assumption) | assumption)) (by have h_ : ((rd l1_1 x39_2) : Int) < ((x6_2.length : Int) : Int) := of_decide_eq_true (by first | (with_reducible assumption) | assumption); first | exact h_ | (have e_ := (Kd.Zb5 HO_6.out).1; omega) | simpa using h_); obtain ⟨ve38_0, rfl, ge38_0⟩ := hM38; have HP38 := Kd.S_seg hH38 (of_decide_eq_true (by first | (with_reducible assumption) | assumption)) (by have h_ : ((rd l1_1 x39_2) : Int) < ((x6_2.length : Int) : Int) := of_decide_eq_true (by first | (with_reducible assumption) | assumption); first | exact h_ | (have e_ := (Kd.Zb5 HO_6.out).1; omega) | simpa using h_) (seg := [v343]) (j := 0) (show 1 ≤ 1 from by decide) (x' := t341) (Kd.M_row (Kd.Zbs (Kd.Ze0 rfl (Kd.Zbs (ok' := fun k_ => ((fun _ => True)) k_ ∧ k_ ≠ go35) (Kd.Zc9 (HO344.out) (Kd.Zd HO_6.out) (by decide)) (fun k_ hk => ⟨trivial, fun e_ => (hk.2) (by rw [e_]; rfl)⟩))) (fun _ h_ => Or.inr (h_)))) (fun _ hk => hk) (fun k_ hk_ => ((Kd.Zbs (ok' := fun k_ => ((fun _ => True)) k_ ∧ k_ ≠ go35) (Kd.Zc9 (HO344.out) (Kd.Zd HO_6.out) (by decide)) (fun k_ hk => ⟨trivial, fun e_ => (hk.2) (by rw [e_]; rfl)⟩))).1 k_ hk_.symm); have hx38_0 := hcc38 0 _ rfl; (try simp only [show ((Kd.slice 41 k41)).sz = 1 from rfl, Nat.mul_one, Nat.add_zero] at hx38_0); have hf38_0 := hfr38 0; (try simp only [show ((Kd.slice 41 k41)).sz = 1 from rfl, Nat.mul_one, Nat.add_zero] at hf38_0); (try clear hM38); clear hcl38 hcc38 hfr38 hoki38 hH38; (try simp only [show ((Kd.slice 41 k41)).sz = 1 from rfl, Nat.mul_one, Nat.add_zero] at HP38)) | ((with_reducible refine Zdm (t := 39) (p := 65) rfl ?_); refine Zdg (t := 39) (p := 65) (v := ?vo_w39) (w1 := (w37.setCell ⟨go35, ((rd l1_1 x39_2) : Int).toNat, none⟩ (v343))) ?hg ?ho ?hn ?hr ?_; (case ho => rfl); (case hg => rfl); (case hn => rfl); (case hr => first | (go_simp; done) | (go_simp; rfl) | (obtain ⟨Aq_, cq_, eq_⟩ := Kd.Zcb HO344.out; subst eq_; first | (go_simp; done) | (go_simp; rfl))); intro w39 hw; have hg : w37.grownBy w39 (some go35) := (by rw [hw]; exact HP38.2); have hp_ : Kd.S (Kd.slice 41 k41) 39 w39 w.heap.size (fun _ => True) (.slice (some ⟨go35, 0, none⟩) x6_2.length co35) y345 := (by rw [hw, Ny345.out]; exact HP38.1); clear HP38; have n0_ := Zaa.mk (hp_); have n1_ := Zaa.mk (Kd.S_over' (v := (.slice (some ⟨go35, 0, none⟩) x6_2.length co35)) (by (with_reducible repeat (first | apply Kd.S_alloc | apply Kd.Zbe | apply Kd.Zbk)); exact HO_9.out) (Kd.Zd HO_6.out) (by decide) hg); have n2_ := Zaa.mk (Kd.R_over' (v := (.slice (some ⟨go35, 0, none⟩) x6_2.length co35)) (by (with_reducible repeat (first | apply Kd.R_alloc | apply Kd.Zap | apply Kd.Zav)); exact HO_12.out) (Kd.Zd HO_6.out) (by decide) hg); have n3_ := Zaa.mk (Kd.S_over' (v := (.slice (some ⟨go35, 0, none⟩) x6_2.length co35)) (by (with_reducible repeat (first | apply Kd.S_alloc | apply Kd.Zbe | apply Kd.Zbk)); exact HO_44.out) (Kd.Zd HO_6.out) (by decide) hg); have n4_ := Zaa.mk (Zcu (g := gb324) (o := .cells #[.int .i64 a1_0, .slice (some ad335) l1_1.length c1_1, .slice A1_2 l1_2.length c1_2, .int .i64 a1_3, .int .i64 a1_4, .slice A1_5 l1_5.length c1_5, .int .i64 a1_6] 25 (0, 0)) (by (with_reducible repeat (first | refine Zag ?_ _ | refine Zah ?_ | refine Zae ?_ _)); exact BK324.out) hg (Kd.S_ne HO_6.out BK324.out (by decide))); have n5_ := Zaa.mk ((by rw [hw]; exact Zaf (HB.out) GB35.out : Below w.heap.size w w39)); clear HO_6; clear HO_9; clear HO_12; clear HO_44; clear BK324; clear HB; clear HO344; have HO_6 := n0_; have HO_9 := n1_; have HO_12 := n2_; have HO_44 := n3_; have BK324 := n4_; have HB := n5_; clear n0_ n1_ n2_ n3_ n4_ n5_; clear hg hw hp_))
       go_roundg k3
       case measure => have := HK1.out; have := HK2.out; have := HK3.out; omega
       case rel => exact ⟨(y345), (wrap64 (x39_2 + 1)), (by first | rfl | (simp; done) | (simp [*]; done)), H', ⟨by have := HK1.out; have := HK2.out; have := HK3.out; omega⟩, ⟨by (with_reducible repeat (first | apply Kd.S_alloc | apply Kd.Zbe | apply Kd.Zbk)); exact HO_6.out⟩, ⟨by (with_reducible repeat (first | apply Kd.S_alloc | apply Kd.Zbe | apply Kd.Zbk)); exact Kd.Zb4 HO_9.out (fun _ hk => trivial)⟩, ⟨by (with_reducible repeat (first | refine Zag ?_ _ | refine Zah ?_ | refine Zae ?_ _)); exact BK324.out⟩, ⟨by repeat (first | (with_reducible first | exact HB.out | apply Zac | apply Za | apply Zab | refine Zaf ?_ GE324.out) | exact HB.out)⟩⟩
theorem eqA41 (d : Nat) (w : World) (x0 y0 : Int) (x1 y1 : Int) :
  (Op.equalIn (d + 2) 41 (.agg #[.int .i64 x0, .int .i64 x1]) (.agg #[.int .i64 y0, .int .i64 y1])).run Try.prog w = .ok (x0 == y0 && (x1 == y1)) w := by
 refine eqA_of Try.underlying41 (by kernel_rfl) ?_
 refine eqf_cons (by rfl) (by go_simp; rfl) (by go_simp; rfl) (by go_simp) ?_
 exact eqf_last (by rfl) (by go_simp; rfl) (by go_simp; rfl) (by go_simp)
end Go.Proofs.Ytpbcigilipdedaa.P
namespace Go.Proofs.Ytpbcigilipdedaa.P
open Go.RowKit Go.Proofs.YtpbcigilipdedaaW.PrintWords Go.Proofs.YtpbcigilipdedaaW.PrintLast Go.Proofs.YtpbcigilipdedaaW.PrintMore
attribute [local go_sem] Zcv Zcx Zdc Zdd Zcp Zcq Zcw Zcy
set_option linter.unusedVariables false
set_option linter.unusedSimpArgs false
attribute [local go_sem high] eqA41
/-! ### Za6: function 39 -/
def Za6.l0 : Nat → List (S41) → List (S41) → Int → Option (Bool)
 | 0, _, _, _ => none
 | k + 1, x0, x1, x5 => if x5 < (x0.length : Int) then (if 0 ≤ x5 then (if x5 < (x1.length : Int) then (if (!(((Zb7 x0 x5).f0) == ((Zb7 x1 x5).f0)) || (!(((Zb7 x0 x5).f1) == ((Zb7 x1 x5).f1)))) = true then (some false) else (Za6.l0 k x0 x1 (wrap64 (x5 + 1)))) else (none)) else (none)) else (some true)
def Za6.f (k : Nat) (l0 : List (S41)) (l1 : List (S41)) : Option (Bool) := if (l0.length : Int) = (l1.length : Int) then (Za6.l0 k l0 l1 0) else (some false)
theorem Za6.Zb1 : ∀ k, (∀ y0 y1 y2, LeO (Za6.l0 k y0 y1 y2) (Za6.l0 (k + 1) y0 y1 y2))
 | 0 => fun _ _ _ r h => by simp [Za6.l0] at h
 | k + 1 => by
  have ih0 := Za6.Zb1 k
  intro y0 y1 y2
  unfold Za6.l0
  repeat' first
  | (with_reducible exact ih0 _ _ _)
  | (with_reducible exact LeO.refl _)
  | (with_reducible exact LeO.none _)
  | (with_reducible refine LeO.ite ?_ ?_)
  | (with_reducible refine LeO.bind ?_ (fun _ => ?_))
  | exact ih0 _ _ _
  | exact LeO.none _
  | refine LeO.ite ?_ ?_
  | refine LeO.bind ?_ (fun _ => ?_)
theorem Za6.mono : ∀ a0 a1 k, LeO (Za6.f k a0 a1) (Za6.f (k + 1) a0 a1) := by
 intro a0 a1 k
 have ih0 := Za6.Zb1 k
 unfold Za6.f
 repeat' first
   | (with_reducible exact ih0 _ _ _)
   | (with_reducible exact LeO.refl _)
   | (with_reducible exact LeO.none _)
   | (with_reducible refine LeO.ite ?_ ?_)
   | (with_reducible refine LeO.bind ?_ (fun _ => ?_))
   | exact ih0 _ _ _
   | exact LeO.none _
   | refine LeO.ite ?_ ?_
   | refine LeO.bind ?_ (fun _ => ?_)
set_option maxHeartbeats 8000000 in
set_option maxRecDepth 100000 in
theorem Za6.calls (k : Nat) (A0 : Option Addr) (c0 : Nat) (l0 : List (S41)) (A1 : Option Addr) (c1 : Nat) (l1 : List (S41)) (r : Bool) (w : World) (hr0 : Kd.C k41 w A0 l0.length l0) (hc0 : l0.length ≤ c0) (hr1 : Kd.C k41 w A1 l1.length l1) (hc1 : l1.length ≤ c1) (h : Za6.f k l0 l1 = some r) :
  Calls Try.prog 39 #[.slice A0 l0.length c0, .slice A1 l1.length c1] w fun e w' => e = .returned (.bool r) ∧ Zbh w w' := by
 have hu41 := Try.underlying41
 have HR0 := Zaa.mk hr0
 have HC0 := Zaa.mk hc0
 clear hr0 hc0
 have HR1 := Zaa.mk hr1
 have HC1 := Zaa.mk hc1
 clear hr1 hc1
 have H : (if (l0.length : Int) = (l1.length : Int) then (Za6.l0 k l0 l1 0) else (some false)) = some r := h
 clear h
 by_cases c3 : (l0.length : Int) = (l1.length : Int)
 rotate_left
 ·rw [if_neg c3] at H
  have c3b0 : ((l0.length : Int) == (l1.length : Int)) = false := beq_eq_false_iff_ne.mpr c3
  have c3b1 : ((l0.length : Int) != (l1.length : Int)) = true := bne_iff_ne.mpr c3
  have c3b2 : (l0.length == l1.length) = false := by first | simpa using c3 | (simp at c3 ⊢; omega)
  obtain rfl := Option.some.inj H
  go_enter Try.func39, Try.ntmps39
  go_wp2
  repeat (go_quiet (fail); try go_wp2)
  go_ret
  exact ⟨by first | rfl | (simp; done) | (simp [*]; done), by repeat (first | exact Zbh.refl _ | apply Zbh.step)⟩

 rw [if_pos c3] at H
 have c3b0 : ((l0.length : Int) == (l1.length : Int)) = true := beq_iff_eq.mpr c3
 have c3b1 : ((l0.length : Int) != (l1.length : Int)) = false := bne_eq_false_iff_eq.mpr c3
 have c3b2 : (l0.length == l1.length) = true := by first | simpa using c3 | (simp at c3 ⊢; omega)
 clear c3
 have H' := Zaa.mk H
 clear H
 go_enter Try.func39, Try.ntmps39
 go_wp2
 repeat (go_quiet (fail); try go_wp2)
 go_loopg [5] k (fun kq v5 w' => ∃ (x5_1 : Int), v5 = .int .i64 x5_1 ∧ Zaa (Za6.l0 kq l0 l1 x5_1 = some r) ∧ Zaa (kq ≤ k) ∧ Zbh w w')
 case atStart => exact ⟨(0), (by first | rfl | (simp; done) | (simp [*]; done)), H', ⟨Nat.le_refl _⟩, by repeat (first | exact Zbh.refl _ | apply Zbh.step)⟩
 case round =>
  clear H'
  try clear c1
  try clear p2
  try clear c3
  try clear c3b0
  try clear c3b1
  try clear c3b2
  obtain ⟨x5_1, rfl, HA, HK1, ⟨m1, rfl⟩⟩ := hrel
  cases gk with
  | zero => exact absurd HA.out (by simp [Za6.l0])
  | succ k1 =>
   have H := HA.out
   clear HA
   simp only [Za6.l0] at H
   by_cases c4 : x5_1 < (l0.length : Int)
   rotate_left
   ·rw [if_neg c4] at H
    have c4b0 : decide (x5_1 < (l0.length : Int)) = false := decide_eq_false c4
    clear c4
    obtain rfl := Option.some.inj H
    go_wp2
    repeat (go_quiet (fail); try go_wp2)
    go_ret
    exact ⟨by first | rfl | (simp; done) | (simp [*]; done), by repeat (first | exact Zbh.refl _ | apply Zbh.step)⟩
   rw [if_pos c4] at H
   have c4b0 : decide (x5_1 < (l0.length : Int)) = true := decide_eq_true c4
   clear c4
   by_cases c5 : 0 ≤ x5_1
   rotate_left
   ·rw [if_neg c5] at H
    exact absurd H (by simp)
   rw [if_pos c5] at H
   have c5b0 : decide (0 ≤ x5_1) = true := decide_eq_true c5
   clear c5
   by_cases c6 : x5_1 < (l1.length : Int)
   rotate_left
   ·rw [if_neg c6] at H
    exact absurd H (by simp)
   rw [if_pos c6] at H
   have c6b0 : decide (x5_1 < (l1.length : Int)) = true := decide_eq_true c6
   clear c6
   by_cases c7 : (!(((Zb7 l0 x5_1).f0) == ((Zb7 l1 x5_1).f0)) || (!(((Zb7 l0 x5_1).f1) == ((Zb7 l1 x5_1).f1)))) = true
   ·rw [if_pos c7] at H
    have c7b0 : (!(((Zb7 l0 x5_1).f0) == ((Zb7 l1 x5_1).f0)) || (!(((Zb7 l0 x5_1).f1) == ((Zb7 l1 x5_1).f1)))) = true := c7
    clear c7
    obtain rfl := Option.some.inj H
    have p346 : 0 ≤ (x5_1 : Int) := of_decide_eq_true (by first | (with_reducible assumption) | assumption)
    have q346 : x5_1 < (l0.length : Int) := of_decide_eq_true (by first | (with_reducible assumption) | assumption)
    obtain ⟨ad346, e346, hx346_0, hx346_1⟩ := Zdz HR0.out x5_1 p346 q346
    cases e346
    replace p346 := eq_true p346
    replace q346 := eq_true q346
    have p347 : 0 ≤ (x5_1 : Int) := of_decide_eq_true (by first | (with_reducible assumption) | assumption)
    have q347 : x5_1 < (l1.length : Int) := of_decide_eq_true (by first | (with_reducible assumption) | assumption)
    obtain ⟨ad347, e347, hx347_0, hx347_1⟩ := Zdz HR1.out x5_1 p347 q347
    cases e347
    replace p347 := eq_true p347
    replace q347 := eq_true q347
    go_wp2
    repeat (go_quiet (fail); try go_wp2)
    go_ret
    exact ⟨by first | rfl | (simp; done) | (simp [*]; done), by repeat (first | exact Zbh.refl _ | apply Zbh.step)⟩
   rw [if_neg c7] at H
   have c7b0 : (!(((Zb7 l0 x5_1).f0) == ((Zb7 l1 x5_1).f0)) || (!(((Zb7 l0 x5_1).f1) == ((Zb7 l1 x5_1).f1)))) = false := by simpa using c7
   clear c7
   have H' := Zaa.mk H
   clear H
   have p346 : 0 ≤ (x5_1 : Int) := of_decide_eq_true (by first | (with_reducible assumption) | assumption)
   have q346 : x5_1 < (l0.length : Int) := of_decide_eq_true (by first | (with_reducible assumption) | assumption)
   obtain ⟨ad346, e346, hx346_0, hx346_1⟩ := Zdz HR0.out x5_1 p346 q346
   cases e346
   replace p346 := eq_true p346
   replace q346 := eq_true q346
   have p347 : 0 ≤ (x5_1 : Int) := of_decide_eq_true (by first | (with_reducible assumption) | assumption)
   have q347 : x5_1 < (l1.length : Int) := of_decide_eq_true (by first | (with_reducible assumption) | assumption)
   obtain ⟨ad347, e347, hx347_0, hx347_1⟩ := Zdz HR1.out x5_1 p347 q347
   cases e347
   replace p347 := eq_true p347
   replace q347 := eq_true q347
   go_wp2
   repeat (go_quiet (fail); try go_wp2)
   go_roundg k1
   case measure => have := HK1.out; omega
   case rel => exact ⟨(wrap64 (x5_1 + 1)), (by first | rfl | (simp; done) | (simp [*]; done)), H', ⟨by have := HK1.out; omega⟩, by repeat (first | exact Zbh.refl _ | apply Zbh.step)⟩
end Go.Proofs.Ytpbcigilipdedaa.P
namespace Go.Proofs.Ytpbcigilipdedaa.P
open Go.RowKit Go.Proofs.YtpbcigilipdedaaW.PrintWords Go.Proofs.YtpbcigilipdedaaW.PrintLast Go.Proofs.YtpbcigilipdedaaW.PrintMore
attribute [local go_sem] Zcv Zcx Zdc Zdd Zcp Zcq Zcw Zcy
set_option linter.unusedVariables false
set_option linter.unusedSimpArgs false
/-! ### Zaw: function 21 -/
def Zaw.l0 : Nat → List (List (S41)) → List (List (S41)) → Int → Option (Bool)
 | 0, _, _, _ => none
 | k + 1, x0, x1, x5 => if x5 < (x0.length : Int) then (if 0 ≤ x5 then (if x5 < (x1.length : Int) then ((Za6.f k (Zcn x0 x5) (Zcn x1 x5)).bind fun t350 => (if t350 = true then (Zaw.l0 k x0 x1 (wrap64 (x5 + 1))) else (some false))) else (none)) else (none)) else (some true)
def Zaw.f (k : Nat) (l0 : List (List (S41))) (l1 : List (List (S41))) : Option (Bool) := if (l0.length : Int) = (l1.length : Int) then (Zaw.l0 k l0 l1 0) else (some false)
theorem Zaw.Zb1 : ∀ k, (∀ y0 y1 y2, LeO (Zaw.l0 k y0 y1 y2) (Zaw.l0 (k + 1) y0 y1 y2))
 | 0 => fun _ _ _ r h => by simp [Zaw.l0] at h
 | k + 1 => by
  have ih0 := Zaw.Zb1 k
  intro y0 y1 y2
  unfold Zaw.l0
  repeat' first
  | (with_reducible exact ih0 _ _ _)
  | (with_reducible exact Za6.mono _ _ _)
  | (with_reducible exact LeO.refl _)
  | (with_reducible exact LeO.none _)
  | (with_reducible refine LeO.ite ?_ ?_)
  | (with_reducible refine LeO.bind ?_ (fun _ => ?_))
  | exact ih0 _ _ _
  | exact Za6.mono _ _ _
  | exact LeO.none _
  | refine LeO.ite ?_ ?_
  | refine LeO.bind ?_ (fun _ => ?_)
theorem Zaw.mono : ∀ a0 a1 k, LeO (Zaw.f k a0 a1) (Zaw.f (k + 1) a0 a1) := by
 intro a0 a1 k
 have ih0 := Zaw.Zb1 k
 unfold Zaw.f
 repeat' first
   | (with_reducible exact ih0 _ _ _)
   | (with_reducible exact Za6.mono _ _ _)
   | (with_reducible exact LeO.refl _)
   | (with_reducible exact LeO.none _)
   | (with_reducible refine LeO.ite ?_ ?_)
   | (with_reducible refine LeO.bind ?_ (fun _ => ?_))
   | exact ih0 _ _ _
   | exact Za6.mono _ _ _
   | exact LeO.none _
   | refine LeO.ite ?_ ?_
   | refine LeO.bind ?_ (fun _ => ?_)
set_option maxHeartbeats 8000000 in
set_option maxRecDepth 100000 in
theorem Zaw.calls (k : Nat) (A0 : Option Addr) (c0 : Nat) (l0 : List (List (S41))) (A1 : Option Addr) (c1 : Nat) (l1 : List (List (S41))) (r : Bool) (w : World) (hr0 : Kd.C (Kd.slice 41 k41) w A0 l0.length l0) (hc0 : l0.length ≤ c0) (hr1 : Kd.C (Kd.slice 41 k41) w A1 l1.length l1) (hc1 : l1.length ≤ c1) (h : Zaw.f k l0 l1 = some r) :
  Calls Try.prog 21 #[.slice A0 l0.length c0, .slice A1 l1.length c1] w fun e w' => e = .returned (.bool r) ∧ Zbh w w' := by
 have HR0 := Zaa.mk hr0
 have HC0 := Zaa.mk hc0
 clear hr0 hc0
 have HR1 := Zaa.mk hr1
 have HC1 := Zaa.mk hc1
 clear hr1 hc1
 have H : (if (l0.length : Int) = (l1.length : Int) then (Zaw.l0 k l0 l1 0) else (some false)) = some r := h
 clear h
 by_cases c3 : (l0.length : Int) = (l1.length : Int)
 rotate_left
 ·rw [if_neg c3] at H
  have c3b0 : ((l0.length : Int) == (l1.length : Int)) = false := beq_eq_false_iff_ne.mpr c3
  have c3b1 : ((l0.length : Int) != (l1.length : Int)) = true := bne_iff_ne.mpr c3
  have c3b2 : (l0.length == l1.length) = false := by first | simpa using c3 | (simp at c3 ⊢; omega)
  obtain rfl := Option.some.inj H
  go_enter Try.func21, Try.ntmps21
  go_wp2
  repeat (go_quiet (fail); try go_wp2)
  go_ret
  exact ⟨by first | rfl | (simp; done) | (simp [*]; done), by repeat (first | exact Zbh.refl _ | apply Zbh.step)⟩

 rw [if_pos c3] at H
 have c3b0 : ((l0.length : Int) == (l1.length : Int)) = true := beq_iff_eq.mpr c3
 have c3b1 : ((l0.length : Int) != (l1.length : Int)) = false := bne_eq_false_iff_eq.mpr c3
 have c3b2 : (l0.length == l1.length) = true := by first | simpa using c3 | (simp at c3 ⊢; omega)
 clear c3
 have H' := Zaa.mk H
 clear H
 go_enter Try.func21, Try.ntmps21
 go_wp2
 repeat (go_quiet (fail); try go_wp2)
 go_loopg [5] k (fun kq v5 w' => ∃ (x5_1 : Int), v5 = .int .i64 x5_1 ∧ Zaa (Zaw.l0 kq l0 l1 x5_1 = some r) ∧ Zaa (kq ≤ k) ∧ Zbh w w')
 case atStart => exact ⟨(0), (by first | rfl | (simp; done) | (simp [*]; done)), H', ⟨Nat.le_refl _⟩, by repeat (first | exact Zbh.refl _ | apply Zbh.step)⟩
 case round =>
  clear H'
  try clear c1
  try clear c2
  try clear p2
  try clear c3
  try clear c3b0
  try clear c3b1
  try clear c3b2
  obtain ⟨x5_1, rfl, HA, HK1, ⟨m1, rfl⟩⟩ := hrel
  cases gk with
  | zero => exact absurd HA.out (by simp [Zaw.l0])
  | succ k1 =>
   have H := HA.out
   clear HA
   simp only [Zaw.l0] at H
   by_cases c4 : x5_1 < (l0.length : Int)
   rotate_left
   ·rw [if_neg c4] at H
    have c4b0 : decide (x5_1 < (l0.length : Int)) = false := decide_eq_false c4
    clear c4
    obtain rfl := Option.some.inj H
    go_wp2
    repeat (go_quiet (fail); try go_wp2)
    go_ret
    exact ⟨by first | rfl | (simp; done) | (simp [*]; done), by repeat (first | exact Zbh.refl _ | apply Zbh.step)⟩
   rw [if_pos c4] at H
   have c4b0 : decide (x5_1 < (l0.length : Int)) = true := decide_eq_true c4
   clear c4
   by_cases c5 : 0 ≤ x5_1
   rotate_left
   ·rw [if_neg c5] at H
    exact absurd H (by simp)
   rw [if_pos c5] at H
   have c5b0 : decide (0 ≤ x5_1) = true := decide_eq_true c5
   clear c5
   by_cases c6 : x5_1 < (l1.length : Int)
   rotate_left
   ·rw [if_neg c6] at H
    exact absurd H (by simp)
   rw [if_pos c6] at H
   have c6b0 : decide (x5_1 < (l1.length : Int)) = true := decide_eq_true c6
   clear c6
   replace H := Option.bind_eq_some_iff.mp H
   obtain ⟨t350, A70, H⟩ := H
   replace H : (if t350 = true then (Zaw.l0 k1 l0 l1 (wrap64 (x5_1 + 1))) else (some false)) = some r := H
   have A7 := Zaa.mk A70
   clear A70
   by_cases c8 : t350 = true
   rotate_left
   ·replace c8 := Bool.eq_false_iff.mpr c8
    subst c8
    have H1 : (some false) = some r := by rw [if_neg (show ¬ (false = true) by decide)] at H; exact H
    clear H
    have H := H1
    clear H1
    obtain rfl := Option.some.inj H
    have p348 : 0 ≤ (x5_1 : Int) := of_decide_eq_true (by first | (with_reducible assumption) | assumption)
    have q348 : x5_1 < (l0.length : Int) := of_decide_eq_true (by first | (with_reducible assumption) | assumption)
    obtain ⟨ad348, A348_0, c348_0, e348, hx348_0, hl348_0, hi348_0⟩ := Zfb HR0.out x5_1 p348 q348
    cases e348
    have HR348_0 := Zaa.mk hi348_0
    have HC348_0 := Zaa.mk hl348_0
    clear hi348_0 hl348_0
    replace p348 := eq_true p348
    replace q348 := eq_true q348
    have p349 : 0 ≤ (x5_1 : Int) := of_decide_eq_true (by first | (with_reducible assumption) | assumption)
    have q349 : x5_1 < (l1.length : Int) := of_decide_eq_true (by first | (with_reducible assumption) | assumption)
    obtain ⟨ad349, A349_0, c349_0, e349, hx349_0, hl349_0, hi349_0⟩ := Zfb HR1.out x5_1 p349 q349
    cases e349
    have HR349_0 := Zaa.mk hi349_0
    have HC349_0 := Zaa.mk hl349_0
    clear hi349_0 hl349_0
    replace p349 := eq_true p349
    replace q349 := eq_true q349
    go_wp2_with (first | (go_at_call 39; (with_reducible refine (Za6.calls k1 _ _ (Zcn l0 x5_1) _ _ (Zcn l1 x5_1) false _ ?side1 ?side2 ?side3 ?side4 A7.out).mono ?_); (case side1 => repeat (first | exact HR348_0.out | (with_reducible refine Kd.C_alloc ?_ _) | (with_reducible refine Kd.Za0 ?_ _) | (with_reducible refine Kd.C_drew ?_))); (case side2 => exact HC348_0.out); (case side3 => repeat (first | exact HR349_0.out | (with_reducible refine Kd.C_alloc ?_ _) | (with_reducible refine Kd.Za0 ?_ _) | (with_reducible refine Kd.C_drew ?_))); (case side4 => exact HC349_0.out); rintro e w' ⟨rfl, ⟨nd, rfl⟩⟩; (try first | exact ⟨rfl, _, World.drewN_drewN _ _ _⟩ | exact ⟨rfl, _, Eq.trans (World.drewN_drewN _ _ _) (congrArg (World.drewN _) (Nat.add_assoc _ _ _))⟩)))
    repeat (go_quiet (first | (go_at_call 39; (with_reducible refine (Za6.calls k1 _ _ (Zcn l0 x5_1) _ _ (Zcn l1 x5_1) false _ ?side1 ?side2 ?side3 ?side4 A7.out).mono ?_); (case side1 => repeat (first | exact HR348_0.out | (with_reducible refine Kd.C_alloc ?_ _) | (with_reducible refine Kd.Za0 ?_ _) | (with_reducible refine Kd.C_drew ?_))); (case side2 => exact HC348_0.out); (case side3 => repeat (first | exact HR349_0.out | (with_reducible refine Kd.C_alloc ?_ _) | (with_reducible refine Kd.Za0 ?_ _) | (with_reducible refine Kd.C_drew ?_))); (case side4 => exact HC349_0.out); rintro e w' ⟨rfl, ⟨nd, rfl⟩⟩; (try first | exact ⟨rfl, _, World.drewN_drewN _ _ _⟩ | exact ⟨rfl, _, Eq.trans (World.drewN_drewN _ _ _) (congrArg (World.drewN _) (Nat.add_assoc _ _ _))⟩))); try go_wp2_with (first | (go_at_call 39; (with_reducible refine (Za6.calls k1 _ _ (Zcn l0 x5_1) _ _ (Zcn l1 x5_1) false _ ?side1 ?side2 ?side3 ?side4 A7.out).mono ?_); (case side1 => repeat (first | exact HR348_0.out | (with_reducible refine Kd.C_alloc ?_ _) | (with_reducible refine Kd.Za0 ?_ _) | (with_reducible refine Kd.C_drew ?_))); (case side2 => exact HC348_0.out); (case side3 => repeat (first | exact HR349_0.out | (with_reducible refine Kd.C_alloc ?_ _) | (with_reducible refine Kd.Za0 ?_ _) | (with_reducible refine Kd.C_drew ?_))); (case side4 => exact HC349_0.out); rintro e w' ⟨rfl, ⟨nd, rfl⟩⟩; (try first | exact ⟨rfl, _, World.drewN_drewN _ _ _⟩ | exact ⟨rfl, _, Eq.trans (World.drewN_drewN _ _ _) (congrArg (World.drewN _) (Nat.add_assoc _ _ _))⟩))))
    go_ret
    exact ⟨by first | rfl | (simp; done) | (simp [*]; done), by repeat (first | exact Zbh.refl _ | apply Zbh.step)⟩
   subst c8
   have H1 : (Zaw.l0 k1 l0 l1 (wrap64 (x5_1 + 1))) = some r := by rw [if_pos rfl] at H; exact H
   clear H
   have H := H1
   clear H1
   have H' := Zaa.mk H
   clear H
   have p348 : 0 ≤ (x5_1 : Int) := of_decide_eq_true (by first | (with_reducible assumption) | assumption)
   have q348 : x5_1 < (l0.length : Int) := of_decide_eq_true (by first | (with_reducible assumption) | assumption)
   obtain ⟨ad348, A348_0, c348_0, e348, hx348_0, hl348_0, hi348_0⟩ := Zfb HR0.out x5_1 p348 q348
   cases e348
   have HR348_0 := Zaa.mk hi348_0
   have HC348_0 := Zaa.mk hl348_0
   clear hi348_0 hl348_0
   replace p348 := eq_true p348
   replace q348 := eq_true q348
   have p349 : 0 ≤ (x5_1 : Int) := of_decide_eq_true (by first | (with_reducible assumption) | assumption)
   have q349 : x5_1 < (l1.length : Int) := of_decide_eq_true (by first | (with_reducible assumption) | assumption)
   obtain ⟨ad349, A349_0, c349_0, e349, hx349_0, hl349_0, hi349_0⟩ := Zfb HR1.out x5_1 p349 q349
   cases e349
   have HR349_0 := Zaa.mk hi349_0
   have HC349_0 := Zaa.mk hl349_0
   clear hi349_0 hl349_0
   replace p349 := eq_true p349
   replace q349 := eq_true q349
   go_wp2_with (first | (go_at_call 39; (with_reducible refine (Za6.calls k1 _ _ (Zcn l0 x5_1) _ _ (Zcn l1 x5_1) true _ ?side1 ?side2 ?side3 ?side4 A7.out).mono ?_); (case side1 => repeat (first | exact HR348_0.out | (with_reducible refine Kd.C_alloc ?_ _) | (with_reducible refine Kd.Za0 ?_ _) | (with_reducible refine Kd.C_drew ?_))); (case side2 => exact HC348_0.out); (case side3 => repeat (first | exact HR349_0.out | (with_reducible refine Kd.C_alloc ?_ _) | (with_reducible refine Kd.Za0 ?_ _) | (with_reducible refine Kd.C_drew ?_))); (case side4 => exact HC349_0.out); rintro e w' ⟨rfl, ⟨nd, rfl⟩⟩; (try first | exact ⟨rfl, _, World.drewN_drewN _ _ _⟩ | exact ⟨rfl, _, Eq.trans (World.drewN_drewN _ _ _) (congrArg (World.drewN _) (Nat.add_assoc _ _ _))⟩)))
   repeat (go_quiet (first | (go_at_call 39; (with_reducible refine (Za6.calls k1 _ _ (Zcn l0 x5_1) _ _ (Zcn l1 x5_1) true _ ?side1 ?side2 ?side3 ?side4 A7.out).mono ?_); (case side1 => repeat (first | exact HR348_0.out | (with_reducible refine Kd.C_alloc ?_ _) | (with_reducible refine Kd.Za0 ?_ _) | (with_reducible refine Kd.C_drew ?_))); (case side2 => exact HC348_0.out); (case side3 => repeat (first | exact HR349_0.out | (with_reducible refine Kd.C_alloc ?_ _) | (with_reducible refine Kd.Za0 ?_ _) | (with_reducible refine Kd.C_drew ?_))); (case side4 => exact HC349_0.out); rintro e w' ⟨rfl, ⟨nd, rfl⟩⟩; (try first | exact ⟨rfl, _, World.drewN_drewN _ _ _⟩ | exact ⟨rfl, _, Eq.trans (World.drewN_drewN _ _ _) (congrArg (World.drewN _) (Nat.add_assoc _ _ _))⟩))); try go_wp2_with (first | (go_at_call 39; (with_reducible refine (Za6.calls k1 _ _ (Zcn l0 x5_1) _ _ (Zcn l1 x5_1) true _ ?side1 ?side2 ?side3 ?side4 A7.out).mono ?_); (case side1 => repeat (first | exact HR348_0.out | (with_reducible refine Kd.C_alloc ?_ _) | (with_reducible refine Kd.Za0 ?_ _) | (with_reducible refine Kd.C_drew ?_))); (case side2 => exact HC348_0.out); (case side3 => repeat (first | exact HR349_0.out | (with_reducible refine Kd.C_alloc ?_ _) | (with_reducible refine Kd.Za0 ?_ _) | (with_reducible refine Kd.C_drew ?_))); (case side4 => exact HC349_0.out); rintro e w' ⟨rfl, ⟨nd, rfl⟩⟩; (try first | exact ⟨rfl, _, World.drewN_drewN _ _ _⟩ | exact ⟨rfl, _, Eq.trans (World.drewN_drewN _ _ _) (congrArg (World.drewN _) (Nat.add_assoc _ _ _))⟩))))
   go_roundg k1
   case measure => have := HK1.out; omega
   case rel => exact ⟨(wrap64 (x5_1 + 1)), (by first | rfl | (simp; done) | (simp [*]; done)), H', ⟨by have := HK1.out; omega⟩, by repeat (first | exact Zbh.refl _ | apply Zbh.step)⟩
/-! ### Zam: function 28 -/
def Zam.l0 : Nat → List Int → List Int → Int → Option (Bool)
 | 0, _, _, _ => none
 | k + 1, x0, x1, x5 => if x5 < (x0.length : Int) then (if 0 ≤ x5 then (if x5 < (x1.length : Int) then (if (rd x0 x5) = (rd x1 x5) then (Zam.l0 k x0 x1 (wrap64 (x5 + 1))) else (some false)) else (none)) else (none)) else (some true)
def Zam.f (k : Nat) (l0 : List Int) (l1 : List Int) : Option (Bool) := if (l0.length : Int) = (l1.length : Int) then (Zam.l0 k l0 l1 0) else (some false)
theorem Zam.Zb1 : ∀ k, (∀ y0 y1 y2, LeO (Zam.l0 k y0 y1 y2) (Zam.l0 (k + 1) y0 y1 y2))
 | 0 => fun _ _ _ r h => by simp [Zam.l0] at h
 | k + 1 => by
  have ih0 := Zam.Zb1 k
  intro y0 y1 y2
  unfold Zam.l0
  repeat' first
  | (with_reducible exact ih0 _ _ _)
  | (with_reducible exact LeO.refl _)
  | (with_reducible exact LeO.none _)
  | (with_reducible refine LeO.ite ?_ ?_)
  | (with_reducible refine LeO.bind ?_ (fun _ => ?_))
  | exact ih0 _ _ _
  | exact LeO.none _
  | refine LeO.ite ?_ ?_
  | refine LeO.bind ?_ (fun _ => ?_)
theorem Zam.mono : ∀ a0 a1 k, LeO (Zam.f k a0 a1) (Zam.f (k + 1) a0 a1) := by
 intro a0 a1 k
 have ih0 := Zam.Zb1 k
 unfold Zam.f
 repeat' first
   | (with_reducible exact ih0 _ _ _)
   | (with_reducible exact LeO.refl _)
   | (with_reducible exact LeO.none _)
   | (with_reducible refine LeO.ite ?_ ?_)
   | (with_reducible refine LeO.bind ?_ (fun _ => ?_))
   | exact ih0 _ _ _
   | exact LeO.none _
   | refine LeO.ite ?_ ?_
   | refine LeO.bind ?_ (fun _ => ?_)
set_option maxHeartbeats 8000000 in
set_option maxRecDepth 100000 in
theorem Zam.calls (k : Nat) (A0 : Option Addr) (c0 : Nat) (l0 : List Int) (A1 : Option Addr) (c1 : Nat) (l1 : List Int) (r : Bool) (w : World) (hr0 : Kd.C (Kd.int .i64) w A0 l0.length l0) (hc0 : l0.length ≤ c0) (hr1 : Kd.C (Kd.int .i64) w A1 l1.length l1) (hc1 : l1.length ≤ c1) (h : Zam.f k l0 l1 = some r) :
  Calls Try.prog 28 #[.slice A0 l0.length c0, .slice A1 l1.length c1] w fun e w' => e = .returned (.bool r) ∧ Zbh w w' := by
 have HR0 := Zaa.mk hr0
 have HC0 := Zaa.mk hc0
 clear hr0 hc0
 have HR1 := Zaa.mk hr1
 have HC1 := Zaa.mk hc1
 clear hr1 hc1
 have H : (if (l0.length : Int) = (l1.length : Int) then (Zam.l0 k l0 l1 0) else (some false)) = some r := h
 clear h
 by_cases c3 : (l0.length : Int) = (l1.length : Int)
 rotate_left
 ·rw [if_neg c3] at H
  have c3b0 : ((l0.length : Int) == (l1.length : Int)) = false := beq_eq_false_iff_ne.mpr c3
  have c3b1 : ((l0.length : Int) != (l1.length : Int)) = true := bne_iff_ne.mpr c3
  have c3b2 : (l0.length == l1.length) = false := by first | simpa using c3 | (simp at c3 ⊢; omega)
  obtain rfl := Option.some.inj H
  go_enter Try.func28, Try.ntmps28
  go_wp2
  repeat (go_quiet (fail); try go_wp2)
  go_ret
  exact ⟨by first | rfl | (simp; done) | (simp [*]; done), by repeat (first | exact Zbh.refl _ | apply Zbh.step)⟩

 rw [if_pos c3] at H
 have c3b0 : ((l0.length : Int) == (l1.length : Int)) = true := beq_iff_eq.mpr c3
 have c3b1 : ((l0.length : Int) != (l1.length : Int)) = false := bne_eq_false_iff_eq.mpr c3
 have c3b2 : (l0.length == l1.length) = true := by first | simpa using c3 | (simp at c3 ⊢; omega)
 clear c3
 have H' := Zaa.mk H
 clear H
 go_enter Try.func28, Try.ntmps28
 go_wp2
 repeat (go_quiet (fail); try go_wp2)
 go_loopg [5] k (fun kq v5 w' => ∃ (x5_1 : Int), v5 = .int .i64 x5_1 ∧ Zaa (Zam.l0 kq l0 l1 x5_1 = some r) ∧ Zaa (kq ≤ k) ∧ Zbh w w')
 case atStart => exact ⟨(0), (by first | rfl | (simp; done) | (simp [*]; done)), H', ⟨Nat.le_refl _⟩, by repeat (first | exact Zbh.refl _ | apply Zbh.step)⟩
 case round =>
  clear H'
  try clear c1
  try clear c2
  try clear p2
  try clear c3
  try clear c3b0
  try clear c3b1
  try clear c3b2
  obtain ⟨x5_1, rfl, HA, HK1, ⟨m1, rfl⟩⟩ := hrel
  cases gk with
  | zero => exact absurd HA.out (by simp [Zam.l0])
  | succ k1 =>
   have H := HA.out
   clear HA
   simp only [Zam.l0] at H
   by_cases c4 : x5_1 < (l0.length : Int)
   rotate_left
   ·rw [if_neg c4] at H
    have c4b0 : decide (x5_1 < (l0.length : Int)) = false := decide_eq_false c4
    clear c4
    obtain rfl := Option.some.inj H
    go_wp2
    repeat (go_quiet (fail); try go_wp2)
    go_ret
    exact ⟨by first | rfl | (simp; done) | (simp [*]; done), by repeat (first | exact Zbh.refl _ | apply Zbh.step)⟩
   rw [if_pos c4] at H
   have c4b0 : decide (x5_1 < (l0.length : Int)) = true := decide_eq_true c4
   clear c4
   by_cases c5 : 0 ≤ x5_1
   rotate_left
   ·rw [if_neg c5] at H
    exact absurd H (by simp)
   rw [if_pos c5] at H
   have c5b0 : decide (0 ≤ x5_1) = true := decide_eq_true c5
   clear c5
   by_cases c6 : x5_1 < (l1.length : Int)
   rotate_left
   ·rw [if_neg c6] at H
    exact absurd H (by simp)
   rw [if_pos c6] at H
   have c6b0 : decide (x5_1 < (l1.length : Int)) = true := decide_eq_true c6
   clear c6
   by_cases c7 : (rd l0 x5_1) = (rd l1 x5_1)
   rotate_left
   ·rw [if_neg c7] at H
    have c7b0 : ((rd l0 x5_1) == (rd l1 x5_1)) = false := beq_eq_false_iff_ne.mpr c7
    have c7b1 : ((rd l0 x5_1) != (rd l1 x5_1)) = true := bne_iff_ne.mpr c7
    obtain rfl := Option.some.inj H
    have p351 : 0 ≤ (x5_1 : Int) := of_decide_eq_true (by first | (with_reducible assumption) | assumption)
    have q351 : x5_1 < (l0.length : Int) := of_decide_eq_true (by first | (with_reducible assumption) | assumption)
    obtain ⟨ad351, e351, hx351_0⟩ := Kd.Zb6 HR0.out x5_1 p351 q351
    cases e351
    replace p351 := eq_true p351
    replace q351 := eq_true q351
    have p352 : 0 ≤ (x5_1 : Int) := of_decide_eq_true (by first | (with_reducible assumption) | assumption)
    have q352 : x5_1 < (l1.length : Int) := of_decide_eq_true (by first | (with_reducible assumption) | assumption)
    obtain ⟨ad352, e352, hx352_0⟩ := Kd.Zb6 HR1.out x5_1 p352 q352
    cases e352
    replace p352 := eq_true p352
    replace q352 := eq_true q352
    go_wp2
    repeat (go_quiet (fail); try go_wp2)
    go_ret
    exact ⟨by first | rfl | (simp; done) | (simp [*]; done), by repeat (first | exact Zbh.refl _ | apply Zbh.step)⟩
   rw [if_pos c7] at H
   have c7b0 : ((rd l0 x5_1) == (rd l1 x5_1)) = true := beq_iff_eq.mpr c7
   have c7b1 : ((rd l0 x5_1) != (rd l1 x5_1)) = false := bne_eq_false_iff_eq.mpr c7
   clear c7
   have H' := Zaa.mk H
   clear H
   have p351 : 0 ≤ (x5_1 : Int) := of_decide_eq_true (by first | (with_reducible assumption) | assumption)
   have q351 : x5_1 < (l0.length : Int) := of_decide_eq_true (by first | (with_reducible assumption) | assumption)
   obtain ⟨ad351, e351, hx351_0⟩ := Kd.Zb6 HR0.out x5_1 p351 q351
   cases e351
   replace p351 := eq_true p351
   replace q351 := eq_true q351
   have p352 : 0 ≤ (x5_1 : Int) := of_decide_eq_true (by first | (with_reducible assumption) | assumption)
   have q352 : x5_1 < (l1.length : Int) := of_decide_eq_true (by first | (with_reducible assumption) | assumption)
   obtain ⟨ad352, e352, hx352_0⟩ := Kd.Zb6 HR1.out x5_1 p352 q352
   cases e352
   replace p352 := eq_true p352
   replace q352 := eq_true q352
   go_wp2
   repeat (go_quiet (fail); try go_wp2)
   go_roundg k1
   case measure => have := HK1.out; omega
   case rel => exact ⟨(wrap64 (x5_1 + 1)), (by first | rfl | (simp; done) | (simp [*]; done)), H', ⟨by have := HK1.out; omega⟩, by repeat (first | exact Zbh.refl _ | apply Zbh.step)⟩
/-! ### Zbg: function 22 -/
def Zbg.l0 : Nat → List (List Int) → List (List Int) → Int → Option (Bool)
 | 0, _, _, _ => none
 | k + 1, x0, x1, x5 => if x5 < (x0.length : Int) then (if 0 ≤ x5 then (if x5 < (x1.length : Int) then ((Zam.f k (Zbz x0 x5) (Zbz x1 x5)).bind fun t355 => (if t355 = true then (Zbg.l0 k x0 x1 (wrap64 (x5 + 1))) else (some false))) else (none)) else (none)) else (some true)
def Zbg.f (k : Nat) (l0 : List (List Int)) (l1 : List (List Int)) : Option (Bool) := if (l0.length : Int) = (l1.length : Int) then (Zbg.l0 k l0 l1 0) else (some false)
theorem Zbg.Zb1 : ∀ k, (∀ y0 y1 y2, LeO (Zbg.l0 k y0 y1 y2) (Zbg.l0 (k + 1) y0 y1 y2))
 | 0 => fun _ _ _ r h => by simp [Zbg.l0] at h
 | k + 1 => by
  have ih0 := Zbg.Zb1 k
  intro y0 y1 y2
  unfold Zbg.l0
  repeat' first
  | (with_reducible exact ih0 _ _ _)
  | (with_reducible exact Zam.mono _ _ _)
  | (with_reducible exact LeO.refl _)
  | (with_reducible exact LeO.none _)
  | (with_reducible refine LeO.ite ?_ ?_)
  | (with_reducible refine LeO.bind ?_ (fun _ => ?_))
  | exact ih0 _ _ _
  | exact Zam.mono _ _ _
  | exact LeO.none _
  | refine LeO.ite ?_ ?_
  | refine LeO.bind ?_ (fun _ => ?_)
theorem Zbg.mono : ∀ a0 a1 k, LeO (Zbg.f k a0 a1) (Zbg.f (k + 1) a0 a1) := by
 intro a0 a1 k
 have ih0 := Zbg.Zb1 k
 unfold Zbg.f
 repeat' first
   | (with_reducible exact ih0 _ _ _)
   | (with_reducible exact Zam.mono _ _ _)
   | (with_reducible exact LeO.refl _)
   | (with_reducible exact LeO.none _)
   | (with_reducible refine LeO.ite ?_ ?_)
   | (with_reducible refine LeO.bind ?_ (fun _ => ?_))
   | exact ih0 _ _ _
   | exact Zam.mono _ _ _
   | exact LeO.none _
   | refine LeO.ite ?_ ?_
   | refine LeO.bind ?_ (fun _ => ?_)
set_option maxHeartbeats 8000000 in
set_option maxRecDepth 100000 in
theorem Zbg.calls (k : Nat) (A0 : Option Addr) (c0 : Nat) (l0 : List (List Int)) (A1 : Option Addr) (c1 : Nat) (l1 : List (List Int)) (r : Bool) (w : World) (hr0 : Kd.C (Kd.slice 3 (Kd.int .i64)) w A0 l0.length l0) (hc0 : l0.length ≤ c0) (hr1 : Kd.C (Kd.slice 3 (Kd.int .i64)) w A1 l1.length l1) (hc1 : l1.length ≤ c1) (h : Zbg.f k l0 l1 = some r) :
  Calls Try.prog 22 #[.slice A0 l0.length c0, .slice A1 l1.length c1] w fun e w' => e = .returned (.bool r) ∧ Zbh w w' := by
 have HR0 := Zaa.mk hr0
 have HC0 := Zaa.mk hc0
 clear hr0 hc0
 have HR1 := Zaa.mk hr1
 have HC1 := Zaa.mk hc1
 clear hr1 hc1
 have H : (if (l0.length : Int) = (l1.length : Int) then (Zbg.l0 k l0 l1 0) else (some false)) = some r := h
 clear h
 by_cases c3 : (l0.length : Int) = (l1.length : Int)
 rotate_left
 ·rw [if_neg c3] at H
  have c3b0 : ((l0.length : Int) == (l1.length : Int)) = false := beq_eq_false_iff_ne.mpr c3
  have c3b1 : ((l0.length : Int) != (l1.length : Int)) = true := bne_iff_ne.mpr c3
  have c3b2 : (l0.length == l1.length) = false := by first | simpa using c3 | (simp at c3 ⊢; omega)
  obtain rfl := Option.some.inj H
  go_enter Try.func22, Try.ntmps22
  go_wp2
  repeat (go_quiet (fail); try go_wp2)
  go_ret
  exact ⟨by first | rfl | (simp; done) | (simp [*]; done), by repeat (first | exact Zbh.refl _ | apply Zbh.step)⟩

 rw [if_pos c3] at H
 have c3b0 : ((l0.length : Int) == (l1.length : Int)) = true := beq_iff_eq.mpr c3
 have c3b1 : ((l0.length : Int) != (l1.length : Int)) = false := bne_eq_false_iff_eq.mpr c3
 have c3b2 : (l0.length == l1.length) = true := by first | simpa using c3 | (simp at c3 ⊢; omega)
 clear c3
 have H' := Zaa.mk H
 clear H
 go_enter Try.func22, Try.ntmps22
 go_wp2
 repeat (go_quiet (fail); try go_wp2)
 go_loopg [5] k (fun kq v5 w' => ∃ (x5_1 : Int), v5 = .int .i64 x5_1 ∧ Zaa (Zbg.l0 kq l0 l1 x5_1 = some r) ∧ Zaa (kq ≤ k) ∧ Zbh w w')
 case atStart => exact ⟨(0), (by first | rfl | (simp; done) | (simp [*]; done)), H', ⟨Nat.le_refl _⟩, by repeat (first | exact Zbh.refl _ | apply Zbh.step)⟩
 case round =>
  clear H'
  try clear c1
  try clear c2
  try clear p2
  try clear c3
  try clear c3b0
  try clear c3b1
  try clear c3b2
  obtain ⟨x5_1, rfl, HA, HK1, ⟨m1, rfl⟩⟩ := hrel
  cases gk with
  | zero => exact absurd HA.out (by simp [Zbg.l0])
  | succ k1 =>
   have H := HA.out
   clear HA
   simp only [Zbg.l0] at H
   by_cases c4 : x5_1 < (l0.length : Int)
   rotate_left
   ·rw [if_neg c4] at H
    have c4b0 : decide (x5_1 < (l0.length : Int)) = false := decide_eq_false c4
    clear c4
    obtain rfl := Option.some.inj H
    go_wp2
    repeat (go_quiet (fail); try go_wp2)
    go_ret
    exact ⟨by first | rfl | (simp; done) | (simp [*]; done), by repeat (first | exact Zbh.refl _ | apply Zbh.step)⟩
   rw [if_pos c4] at H
   have c4b0 : decide (x5_1 < (l0.length : Int)) = true := decide_eq_true c4
   clear c4
   by_cases c5 : 0 ≤ x5_1
   rotate_left
   ·rw [if_neg c5] at H
    exact absurd H (by simp)
   rw [if_pos c5] at H
   have c5b0 : decide (0 ≤ x5_1) = true := decide_eq_true c5
   clear c5
   by_cases c6 : x5_1 < (l1.length : Int)
   rotate_left
   ·rw [if_neg c6] at H
    exact absurd H (by simp)
   rw [if_pos c6] at H
   have c6b0 : decide (x5_1 < (l1.length : Int)) = true := decide_eq_true c6
   clear c6
   replace H := Option.bind_eq_some_iff.mp H
   obtain ⟨t355, A70, H⟩ := H
   replace H : (if t355 = true then (Zbg.l0 k1 l0 l1 (wrap64 (x5_1 + 1))) else (some false)) = some r := H
   have A7 := Zaa.mk A70
   clear A70
   by_cases c8 : t355 = true
   rotate_left
   ·replace c8 := Bool.eq_false_iff.mpr c8
    subst c8
    have H1 : (some false) = some r := by rw [if_neg (show ¬ (false = true) by decide)] at H; exact H
    clear H
    have H := H1
    clear H1
    obtain rfl := Option.some.inj H
    have p353 : 0 ≤ (x5_1 : Int) := of_decide_eq_true (by first | (with_reducible assumption) | assumption)
    have q353 : x5_1 < (l0.length : Int) := of_decide_eq_true (by first | (with_reducible assumption) | assumption)
    obtain ⟨ad353, A353_0, c353_0, e353, hx353_0, hl353_0, hi353_0⟩ := Zdy HR0.out x5_1 p353 q353
    cases e353
    have HR353_0 := Zaa.mk hi353_0
    have HC353_0 := Zaa.mk hl353_0
    clear hi353_0 hl353_0
    replace p353 := eq_true p353
    replace q353 := eq_true q353
    have p354 : 0 ≤ (x5_1 : Int) := of_decide_eq_true (by first | (with_reducible assumption) | assumption)
    have q354 : x5_1 < (l1.length : Int) := of_decide_eq_true (by first | (with_reducible assumption) | assumption)
    obtain ⟨ad354, A354_0, c354_0, e354, hx354_0, hl354_0, hi354_0⟩ := Zdy HR1.out x5_1 p354 q354
    cases e354
    have HR354_0 := Zaa.mk hi354_0
    have HC354_0 := Zaa.mk hl354_0
    clear hi354_0 hl354_0
    replace p354 := eq_true p354
    replace q354 := eq_true q354
    go_wp2_with (first | (go_at_call 28; (with_reducible refine (Zam.calls k1 _ _ (Zbz l0 x5_1) _ _ (Zbz l1 x5_1) false _ ?side1 ?side2 ?side3 ?side4 A7.out).mono ?_); (case side1 => repeat (first | exact HR353_0.out | (with_reducible refine Kd.C_alloc ?_ _) | (with_reducible refine Kd.Za0 ?_ _) | (with_reducible refine Kd.C_drew ?_))); (case side2 => exact HC353_0.out); (case side3 => repeat (first | exact HR354_0.out | (with_reducible refine Kd.C_alloc ?_ _) | (with_reducible refine Kd.Za0 ?_ _) | (with_reducible refine Kd.C_drew ?_))); (case side4 => exact HC354_0.out); rintro e w' ⟨rfl, ⟨nd, rfl⟩⟩; (try first | exact ⟨rfl, _, World.drewN_drewN _ _ _⟩ | exact ⟨rfl, _, Eq.trans (World.drewN_drewN _ _ _) (congrArg (World.drewN _) (Nat.add_assoc _ _ _))⟩)))
    repeat (go_quiet (first | (go_at_call 28; (with_reducible refine (Zam.calls k1 _ _ (Zbz l0 x5_1) _ _ (Zbz l1 x5_1) false _ ?side1 ?side2 ?side3 ?side4 A7.out).mono ?_); (case side1 => repeat (first | exact HR353_0.out | (with_reducible refine Kd.C_alloc ?_ _) | (with_reducible refine Kd.Za0 ?_ _) | (with_reducible refine Kd.C_drew ?_))); (case side2 => exact HC353_0.out); (case side3 => repeat (first | exact HR354_0.out | (with_reducible refine Kd.C_alloc ?_ _) | (with_reducible refine Kd.Za0 ?_ _) | (with_reducible refine Kd.C_drew ?_))); (case side4 => exact HC354_0.out); rintro e w' ⟨rfl, ⟨nd, rfl⟩⟩; (try first | exact ⟨rfl, _, World.drewN_drewN _ _ _⟩ | exact ⟨rfl, _, Eq.trans (World.drewN_drewN _ _ _) (congrArg (World.drewN _) (Nat.add_assoc _ _ _))⟩))); try go_wp2_with (first | (go_at_call 28; (with_reducible refine (Zam.calls k1 _ _ (Zbz l0 x5_1) _ _ (Zbz l1 x5_1) false _ ?side1 ?side2 ?side3 ?side4 A7.out).mono ?_); (case side1 => repeat (first | exact HR353_0.out | (with_reducible refine Kd.C_alloc ?_ _) | (with_reducible refine Kd.Za0 ?_ _) | (with_reducible refine Kd.C_drew ?_))); (case side2 => exact HC353_0.out); (case side3 => repeat (first | exact HR354_0.out | (with_reducible refine Kd.C_alloc ?_ _) | (with_reducible refine Kd.Za0 ?_ _) | (with_reducible refine Kd.C_drew ?_))); (case side4 => exact HC354_0.out); rintro e w' ⟨rfl, ⟨nd, rfl⟩⟩; (try first | exact ⟨rfl, _, World.drewN_drewN _ _ _⟩ | exact ⟨rfl, _, Eq.trans (World.drewN_drewN _ _ _) (congrArg (World.drewN _) (Nat.add_assoc _ _ _))⟩))))
    go_ret
    exact ⟨by first | rfl | (simp; done) | (simp [*]; done), by repeat (first | exact Zbh.refl _ | apply Zbh.step)⟩
   subst c8
   have H1 : (Zbg.l0 k1 l0 l1 (wrap64 (x5_1 + 1))) = some r := by rw [if_pos rfl] at H; exact H
   clear H
   have H := H1
   clear H1
   have H' := Zaa.mk H
   clear H
   have p353 : 0 ≤ (x5_1 : Int) := of_decide_eq_true (by first | (with_reducible assumption) | assumption)
   have q353 : x5_1 < (l0.length : Int) := of_decide_eq_true (by first | (with_reducible assumption) | assumption)
   obtain ⟨ad353, A353_0, c353_0, e353, hx353_0, hl353_0, hi353_0⟩ := Zdy HR0.out x5_1 p353 q353
   cases e353
   have HR353_0 := Zaa.mk hi353_0
   have HC353_0 := Zaa.mk hl353_0
   clear hi353_0 hl353_0
   replace p353 := eq_true p353
   replace q353 := eq_true q353
   have p354 : 0 ≤ (x5_1 : Int) := of_decide_eq_true (by first | (with_reducible assumption) | assumption)
   have q354 : x5_1 < (l1.length : Int) := of_decide_eq_true (by first | (with_reducible assumption) | assumption)
   obtain ⟨ad354, A354_0, c354_0, e354, hx354_0, hl354_0, hi354_0⟩ := Zdy HR1.out x5_1 p354 q354
   cases e354
   have HR354_0 := Zaa.mk hi354_0
   have HC354_0 := Zaa.mk hl354_0
   clear hi354_0 hl354_0
   replace p354 := eq_true p354
   replace q354 := eq_true q354
   go_wp2_with (first | (go_at_call 28; (with_reducible refine (Zam.calls k1 _ _ (Zbz l0 x5_1) _ _ (Zbz l1 x5_1) true _ ?side1 ?side2 ?side3 ?side4 A7.out).mono ?_); (case side1 => repeat (first | exact HR353_0.out | (with_reducible refine Kd.C_alloc ?_ _) | (with_reducible refine Kd.Za0 ?_ _) | (with_reducible refine Kd.C_drew ?_))); (case side2 => exact HC353_0.out); (case side3 => repeat (first | exact HR354_0.out | (with_reducible refine Kd.C_alloc ?_ _) | (with_reducible refine Kd.Za0 ?_ _) | (with_reducible refine Kd.C_drew ?_))); (case side4 => exact HC354_0.out); rintro e w' ⟨rfl, ⟨nd, rfl⟩⟩; (try first | exact ⟨rfl, _, World.drewN_drewN _ _ _⟩ | exact ⟨rfl, _, Eq.trans (World.drewN_drewN _ _ _) (congrArg (World.drewN _) (Nat.add_assoc _ _ _))⟩)))
   repeat (go_quiet (first | (go_at_call 28; (with_reducible refine (Zam.calls k1 _ _ (Zbz l0 x5_1) _ _ (Zbz l1 x5_1) true _ ?side1 ?side2 ?side3 ?side4 A7.out).mono ?_); (case side1 => repeat (first | exact HR353_0.out | (with_reducible refine Kd.C_alloc ?_ _) | (with_reducible refine Kd.Za0 ?_ _) | (with_reducible refine Kd.C_drew ?_))); (case side2 => exact HC353_0.out); (case side3 => repeat (first | exact HR354_0.out | (with_reducible refine Kd.C_alloc ?_ _) | (with_reducible refine Kd.Za0 ?_ _) | (with_reducible refine Kd.C_drew ?_))); (case side4 => exact HC354_0.out); rintro e w' ⟨rfl, ⟨nd, rfl⟩⟩; (try first | exact ⟨rfl, _, World.drewN_drewN _ _ _⟩ | exact ⟨rfl, _, Eq.trans (World.drewN_drewN _ _ _) (congrArg (World.drewN _) (Nat.add_assoc _ _ _))⟩))); try go_wp2_with (first | (go_at_call 28; (with_reducible refine (Zam.calls k1 _ _ (Zbz l0 x5_1) _ _ (Zbz l1 x5_1) true _ ?side1 ?side2 ?side3 ?side4 A7.out).mono ?_); (case side1 => repeat (first | exact HR353_0.out | (with_reducible refine Kd.C_alloc ?_ _) | (with_reducible refine Kd.Za0 ?_ _) | (with_reducible refine Kd.C_drew ?_))); (case side2 => exact HC353_0.out); (case side3 => repeat (first | exact HR354_0.out | (with_reducible refine Kd.C_alloc ?_ _) | (with_reducible refine Kd.Za0 ?_ _) | (with_reducible refine Kd.C_drew ?_))); (case side4 => exact HC354_0.out); rintro e w' ⟨rfl, ⟨nd, rfl⟩⟩; (try first | exact ⟨rfl, _, World.drewN_drewN _ _ _⟩ | exact ⟨rfl, _, Eq.trans (World.drewN_drewN _ _ _) (congrArg (World.drewN _) (Nat.add_assoc _ _ _))⟩))))
   go_roundg k1
   case measure => have := HK1.out; omega
   case rel => exact ⟨(wrap64 (x5_1 + 1)), (by first | rfl | (simp; done) | (simp [*]; done)), H', ⟨by have := HK1.out; omega⟩, by repeat (first | exact Zbh.refl _ | apply Zbh.step)⟩
end Go.Proofs.Ytpbcigilipdedaa.P
/- secateurlaw09.fixed: the calls whose answers are fixed. -/
namespace Go.Proofs.Ytpbcigilipdedaa.P
open Go.RowKit Go.Proofs.YtpbcigilipdedaaW.PrintWords Go.Proofs.YtpbcigilipdedaaW.PrintLast Go.Proofs.YtpbcigilipdedaaW.PrintMore
set_option linter.unusedVariables false
set_option linter.unusedSimpArgs false

abbrev Rg9 := S41
def x9 : List Rg9 := [⟨0, 3⟩]
def rows9 : List (List Int) := [[0, 1], [2, 5], [3, 3]]
def d9 : List (List Rg9) := [[⟨0, 0⟩, ⟨3, 3⟩], [⟨1, 1⟩, ⟨3, 3⟩]]
set_option maxRecDepth 100000 in
theorem prune9 : Zau.f 40 [x9, x9] 2 [0, 1] [] 0 0 rows9 0 = some (d9, true) := by decide +kernel
set_option maxRecDepth 100000 in
theorem prune9' : Zau.f 40 [[⟨1, 1⟩], x9] 2 [0, 1] [] 0 0 rows9 0 = some ([], false) := by decide +kernel
set_option maxRecDepth 100000 in
theorem rows9_f : Za3.f 40 [x9, x9] 2 [0, 1] [] 0 0 rows9 0 = some [[0, 1], [3, 3]] := by decide +kernel
set_option maxRecDepth 100000 in
theorem sorted9 : Zc4.f [[2], [1, 5], [1], [2]] = some [[1], [1, 5], [2]] := by decide +kernel
set_option maxRecDepth 100000 in
theorem same9 : Zaw.f 40 d9 d9 = some true := by decide +kernel
set_option maxRecDepth 100000 in
theorem lists9 : Zbg.f 40 [[0, 1], [3, 3]] [[0, 1], [3, 3]] = some true := by decide +kernel
set_option maxRecDepth 100000 in
theorem lists9' : Zbg.f 40 [[1], [1, 5], [2]] [[1], [1, 5], [2]] = some true := by decide +kernel

/-- What lies behind the literals of the first statements (w: the call's world). -/
def Lit9 (w : World) (b gc : Nat) (W : World) : Prop :=
  Below w.heap.size w W ∧ W.heap[b]? = some (.cells #[.int .i64 0, .int .i64 3] 41 (0, 0)) ∧
  W.heap[b + 1]? = some (.cells #[.int .i64 0, .int .i64 1] 3 (0, 0)) ∧ W.heap[b + 1 + 1]? = some (.cells #[.int .i64 0, .int .i64 1] 3 (0, 0)) ∧
  W.heap[b + 1 + 1 + 1]? = some (.cells #[.int .i64 2, .int .i64 5] 3 (0, 0)) ∧ W.heap[b + 1 + 1 + 1 + 1]? = some (.cells #[.int .i64 3, .int .i64 3] 3 (0, 0)) ∧
  W.heap[b + 1 + 1 + 1 + 1 + 1]? = some (.cells #[.slice (some ⟨b + 1 + 1, 0, none⟩) 2 2, .slice (some ⟨b + 1 + 1 + 1, 0, none⟩) 2 2, .slice (some ⟨b + 1 + 1 + 1 + 1, 0, none⟩) 2 2] 23 (0, 0)) ∧
  W.heap[gc]? = some (.cells #[.int .i64 2, .slice (some ⟨b + 1, 0, none⟩) 2 2, .slice none 0 0, .int .i64 0, .int .i64 0, .slice (some ⟨b + 1 + 1 + 1 + 1 + 1, 0, none⟩) 3 3, .int .i64 0] 25 (0, 0))
theorem Lit9.below {w : World} {b gc : Nat} {W W' : World} (h : Lit9 w b gc W) (hb : Below W.heap.size W W') : Lit9 w b gc W' := by
  obtain ⟨h0, h1, h2, h3, h4, h5, h6, h7⟩ := h
  exact ⟨h0.trans (hb.mono h0.size), Zbb h1 hb, Zbb h2 hb, Zbb h3 hb, Zbb h4 hb, Zbb h5 hb, Zbb h6 hb, Zbb h7 hb⟩
theorem Lit9.x {w : World} {b gc : Nat} {W : World} (h : Lit9 w b gc W) : (Kd.slice 41 k41).K W x9 [.slice (some ⟨b, 0, none⟩) 1 1] :=
  Zeg rfl (Nat.le_refl _) (Zff x9 [.int .i64 0, .int .i64 3] (by decide) h.2.1 rfl)
theorem Lit9.vars {w : World} {b gc : Nat} {W : World} (h : Lit9 w b gc W) : (Kd.int .i64).C W (some ⟨b + 1, 0, none⟩) 2 [0, 1] := Zdv [0, 1] (by decide) h.2.2.1
theorem Lit9.rows {w : World} {b gc : Nat} {W : World} (h : Lit9 w b gc W) : kInts.C W (some ⟨b + 1 + 1 + 1 + 1 + 1, 0, none⟩) 3 rows9 :=
  Ze6 rows9 _ (by decide) h.2.2.2.2.2.2.1 ⟨Zeg rfl (Nat.le_refl _) (Zdv [0, 1] (by decide) h.2.2.2.1), Zeg rfl (Nat.le_refl _) (Zdv [2, 5] (by decide) h.2.2.2.2.1), Zeg rfl (Nat.le_refl _) (Zdv [3, 3] (by decide) h.2.2.2.2.2.1), trivial⟩
theorem Lit9.c {w : World} {b gc : Nat} {W : World} (h : Lit9 w b gc W) (i : Nat) : W.cell? ⟨gc, i, none⟩ = #[Value.int .i64 2, .slice (some ⟨b + 1, 0, none⟩) 2 2, .slice none 0 0, .int .i64 0, .int .i64 0, .slice (some ⟨b + 1 + 1 + 1 + 1 + 1, 0, none⟩) 3 3, .int .i64 0][i]? := Zax h.2.2.2.2.2.2.2 i
theorem Lit9.lt {w : World} {b gc : Nat} {W : World} (h : Lit9 w b gc W) : gc < W.heap.size := (Array.getElem?_eq_some_iff.1 h.2.2.2.2.2.2.2).1
set_option maxRecDepth 100000 in
set_option maxHeartbeats 4000000 in
theorem fixed9 (w : World) : Calls Try.prog 15 #[] w fun e w' => e = .returned (.bool true) ∧ Below w.heap.size w w' := by
  go_enter Try.func15, Try.ntmps15
  try simp only [List.append]
  go_wp2_with (first | (go_at_call 18; go_loud (refine Zda (F := fun W => Lit9 w w.heap.size (w.heap.size + 1 + 1 + 1 + 1 + 1 + 1) W ∧ W.heap[w.heap.size + 1 + 1 + 1 + 1 + 1 + 1 + 1]? = some (.cells #[.slice (some ⟨w.heap.size, 0, none⟩) 1 1, .slice (some ⟨w.heap.size, 0, none⟩) 1 1] 39 (0, 0))) ?hF0 ?hG0; (case hF0 => refine ⟨⟨?_, ?_, ?_, ?_, ?_, ?_, ?_, ?_⟩, ?_⟩ <;> (first | ((repeat (first | exact Below.refl _ _ | apply Zac | apply Za)); done) | ((repeat (first | (apply Zfl; simp; done) | apply Zae)); done))); intro W0 hF; generalize w.heap.size + 1 + 1 + 1 + 1 + 1 + 1 = gc at *; generalize w.heap.size = b at *; obtain ⟨hL, hd⟩ := hF; refine (Zau.calls 40 _ _ [x9, x9] 2 _ _ [0, 1] none 0 [] 0 0 _ _ rows9 0 d9 true W0 (Ze6 [x9, x9] [_, _] (by decide) hd ⟨hL.x, hL.x, trivial⟩) (Nat.le_refl _) hL.vars (Nat.le_refl _) (Kd.C_nil _ _) (Nat.le_refl _) hL.rows (Nat.le_refl _) prune9).mono ?_; rintro e W1 ⟨v1, rfl, hS1, hb1⟩; have HL1 := Zaa.mk (hL.below hb1); clear hL hd hb1; obtain ⟨A1, c1, rfl, hcl1, hC1⟩ := Kd.S_reads hS1; have HC1 := Zaa.mk hC1; clear hS1 hC1; have hgc := HL1.out.lt; have hc0 := (HL1.out.c 0).trans rfl; have hc1 := (HL1.out.c 1).trans rfl; have hc2 := (HL1.out.c 2).trans rfl; have hc3 := (HL1.out.c 3).trans rfl; have hc4 := (HL1.out.c 4).trans rfl; have hc5 := (HL1.out.c 5).trans rfl; have hc6 := (HL1.out.c 6).trans rfl)) | (go_at_call 18; go_loud (refine Zda (F := fun W => Below W1.heap.size W1 W ∧ W.heap[W1.heap.size]? = some (.cells #[.int .i64 1, .int .i64 1] 41 (0, 0)) ∧ W.heap[W1.heap.size + 1]? = some (.cells #[.slice (some ⟨W1.heap.size, 0, none⟩) 1 1, .slice (some ⟨b, 0, none⟩) 1 1] 39 (0, 0))) ?hF1 ?hG1; (case hF1 => refine ⟨?_, ?_, ?_⟩ <;> (first | ((repeat (first | exact Below.refl _ _ | apply Zac | apply Za)); done) | ((repeat (first | (apply Zfl; simp; done) | apply Zae)); done))); intro W_ hF_; obtain ⟨hB_, h0_, h1_⟩ := hF_; refine (have hL_ := HL1.out.below hB_; Zau.calls 40 _ _ [[⟨1, 1⟩], x9] 2 _ _ [0, 1] none 0 [] 0 0 _ _ rows9 0 [] false W_ (Ze6 [[⟨1, 1⟩], x9] [_, _] (by decide) h1_ ⟨Zeg rfl (Nat.le_refl _) (Zff [⟨1, 1⟩] [.int .i64 1, .int .i64 1] (by decide) h0_ rfl), hL_.x, trivial⟩) (Nat.le_refl _) hL_.vars (Nat.le_refl _) (Kd.C_nil _ _) (Nat.le_refl _) hL_.rows (Nat.le_refl _) prune9').mono ?_; rintro e W2 ⟨v2, rfl, hS2, hb2⟩; have HB2 := Zaa.mk (Zay hB_ hb2); have HL2 := Zaa.mk (HL1.out.below HB2.out); have HC2 := Zaa.mk (Kd.Zbj HC1.out HB2.out); clear hgc hc0 hc1 hc2 hc3 hc4 hc5 hc6 hB_ h0_ h1_ hb2; obtain ⟨A2, c2, rfl, hcl2, hC2⟩ := Kd.S_reads hS2; clear hS2 hC2; have hgd := HL2.out.lt; have hd0 := (HL2.out.c 0).trans rfl; have hd1 := (HL2.out.c 1).trans rfl; have hd2 := (HL2.out.c 2).trans rfl; have hd3 := (HL2.out.c 3).trans rfl; have hd4 := (HL2.out.c 4).trans rfl; have hd5 := (HL2.out.c 5).trans rfl; have hd6 := (HL2.out.c 6).trans rfl)) | (go_at_call 21; go_loud (refine Zda (F := fun W => Below W2.heap.size W2 W ∧ W.heap[W2.heap.size]? = some (.cells #[.int .i64 0, .int .i64 0, .int .i64 3, .int .i64 3] 41 (0, 0)) ∧ W.heap[W2.heap.size + 1]? = some (.cells #[.int .i64 1, .int .i64 1, .int .i64 3, .int .i64 3] 41 (0, 0)) ∧ W.heap[W2.heap.size + 1 + 1]? = some (.cells #[.slice (some ⟨W2.heap.size, 0, none⟩) 2 2, .slice (some ⟨W2.heap.size + 1, 0, none⟩) 2 2] 39 (0, 0))) ?hF2 ?hG2; (case hF2 => refine ⟨?_, ?_, ?_, ?_⟩ <;> (first | ((repeat (first | exact Below.refl _ _ | apply Zac | apply Za)); done) | ((repeat (first | (apply Zfl; simp; done) | apply Zae)); done))); intro W_ hF_; obtain ⟨hB_, h0_, h1_, h2_⟩ := hF_; refine (Zaw.calls 40 _ _ d9 _ _ d9 true W_ (Kd.Zbj HC2.out hB_) hcl1 (Ze6 d9 [_, _] (by decide) h2_ ⟨Zeg rfl (Nat.le_refl _) (Zff [⟨0, 0⟩, ⟨3, 3⟩] [.int .i64 0, .int .i64 0, .int .i64 3, .int .i64 3] (by decide) h0_ rfl), Zeg rfl (Nat.le_refl _) (Zff [⟨1, 1⟩, ⟨3, 3⟩] [.int .i64 1, .int .i64 1, .int .i64 3, .int .i64 3] (by decide) h1_ rfl), trivial⟩) (Nat.le_refl _) same9).mono ?_; rintro e W3 ⟨rfl, hdr⟩; have HL3 := Zaa.mk ((HL2.out.below hB_).below hdr.below); clear hdr h0_ h1_ h2_ hB_ hgd hd0 hd1 hd2 hd3 hd4 hd5 hd6; have hge := HL3.out.lt; have he0 := (HL3.out.c 0).trans rfl; have he1 := (HL3.out.c 1).trans rfl; have he2 := (HL3.out.c 2).trans rfl; have he3 := (HL3.out.c 3).trans rfl; have he4 := (HL3.out.c 4).trans rfl; have he5 := (HL3.out.c 5).trans rfl; have he6 := (HL3.out.c 6).trans rfl)) | (go_at_call 20; go_loud (refine Zda (F := fun W => Below W3.heap.size W3 W ∧ W.heap[W3.heap.size]? = some (.cells #[.slice (some ⟨b, 0, none⟩) 1 1, .slice (some ⟨b, 0, none⟩) 1 1] 39 (0, 0))) ?hF3 ?hG3; (case hF3 => refine ⟨?_, ?_⟩ <;> (first | ((repeat (first | exact Below.refl _ _ | apply Zac | apply Za)); done) | ((repeat (first | (apply Zfl; simp; done) | apply Zae)); done))); intro W_ hF_; obtain ⟨hB_, h0_⟩ := hF_; refine (have hL_ := HL3.out.below hB_; Za3.calls 40 _ _ [x9, x9] 2 _ _ [0, 1] none 0 [] 0 0 _ _ rows9 0 [[0, 1], [3, 3]] W_ (Ze6 [x9, x9] [_, _] (by decide) h0_ ⟨hL_.x, hL_.x, trivial⟩) (Nat.le_refl _) hL_.vars (Nat.le_refl _) (Kd.C_nil _ _) (Nat.le_refl _) hL_.rows (Nat.le_refl _) rows9_f).mono ?_; rintro e W4 ⟨v4, rfl, hS4, hb4⟩; have HL4 := Zaa.mk ((HL3.out.below hB_).below hb4); clear hge he0 he1 he2 he3 he4 he5 he6 hB_ h0_ hb4; obtain ⟨A4, c4, rfl, hcl4, hC4⟩ := Kd.S_reads hS4; have HC4 := Zaa.mk hC4; clear hS4 hC4)) | (go_at_call 22; go_loud (refine Zda (F := fun W => Below W4.heap.size W4 W ∧ W.heap[W4.heap.size]? = some (.cells #[.int .i64 0, .int .i64 1] 3 (0, 0)) ∧ W.heap[W4.heap.size + 1]? = some (.cells #[.int .i64 3, .int .i64 3] 3 (0, 0)) ∧ W.heap[W4.heap.size + 1 + 1]? = some (.cells #[.slice (some ⟨W4.heap.size, 0, none⟩) 2 2, .slice (some ⟨W4.heap.size + 1, 0, none⟩) 2 2] 23 (0, 0))) ?hF4 ?hG4; (case hF4 => refine ⟨?_, ?_, ?_, ?_⟩ <;> (first | ((repeat (first | exact Below.refl _ _ | apply Zac | apply Za)); done) | ((repeat (first | (apply Zfl; simp; done) | apply Zae)); done))); intro W_ hF_; obtain ⟨hB_, h0_, h1_, h2_⟩ := hF_; refine (Zbg.calls 40 _ _ [[0, 1], [3, 3]] _ _ [[0, 1], [3, 3]] true W_ (Kd.Zbj HC4.out hB_) hcl4 (Ze6 [[0, 1], [3, 3]] [_, _] (by decide) h2_ ⟨Zeg rfl (Nat.le_refl _) (Zdv [0, 1] (by decide) h0_), Zeg rfl (Nat.le_refl _) (Zdv [3, 3] (by decide) h1_), trivial⟩) (Nat.le_refl _) lists9).mono ?_; rintro e W5 ⟨rfl, hdr⟩; have HL5 := Zaa.mk ((HL4.out.below hB_).below hdr.below); clear hdr h0_ h1_ h2_ hB_)) | (go_at_call 24; go_loud (refine Zda (F := fun W => Below W5.heap.size W5 W ∧ W.heap[W5.heap.size]? = some (.cells #[.int .i64 2] 3 (0, 0)) ∧ W.heap[W5.heap.size + 1]? = some (.cells #[.int .i64 1, .int .i64 5] 3 (0, 0)) ∧ W.heap[W5.heap.size + 1 + 1]? = some (.cells #[.int .i64 1] 3 (0, 0)) ∧ W.heap[W5.heap.size + 1 + 1 + 1]? = some (.cells #[.int .i64 2] 3 (0, 0)) ∧ W.heap[W5.heap.size + 1 + 1 + 1 + 1]? = some (.cells #[.slice (some ⟨W5.heap.size, 0, none⟩) 1 1, .slice (some ⟨W5.heap.size + 1, 0, none⟩) 2 2, .slice (some ⟨W5.heap.size + 1 + 1, 0, none⟩) 1 1, .slice (some ⟨W5.heap.size + 1 + 1 + 1, 0, none⟩) 1 1] 23 (0, 0))) ?hF5 ?hG5; (case hF5 => refine ⟨?_, ?_, ?_, ?_, ?_, ?_⟩ <;> (first | ((repeat (first | exact Below.refl _ _ | apply Zac | apply Za)); done) | ((repeat (first | (apply Zfl; simp; done) | apply Zae)); done))); intro W_ hF_; obtain ⟨hB_, h0_, h1_, h2_, h3_, h4_⟩ := hF_; refine (Zc4.calls _ _ [[2], [1, 5], [1], [2]] [[1], [1, 5], [2]] W_ (Ze6 [[2], [1, 5], [1], [2]] [_, _, _, _] (by decide) h4_ ⟨Zeg rfl (Nat.le_refl _) (Zdv [2] (by decide) h0_), Zeg rfl (Nat.le_refl _) (Zdv [1, 5] (by decide) h1_), Zeg rfl (Nat.le_refl _) (Zdv [1] (by decide) h2_), Zeg rfl (Nat.le_refl _) (Zdv [2] (by decide) h3_), trivial⟩) (Nat.le_refl _) sorted9).mono ?_; rintro e W6 ⟨v6, rfl, hS6, hb6⟩; have HL6 := Zaa.mk ((HL5.out.below hB_).below hb6); clear h0_ h1_ h2_ h3_ h4_ hB_ hb6; obtain ⟨A6, c6, rfl, hcl6, hC6⟩ := Kd.S_reads hS6; have HC6 := Zaa.mk hC6; clear hS6 hC6)) | (go_at_call 22; go_loud (refine Zda (F := fun W => Below W6.heap.size W6 W ∧ W.heap[W6.heap.size]? = some (.cells #[.int .i64 1] 3 (0, 0)) ∧ W.heap[W6.heap.size + 1]? = some (.cells #[.int .i64 1, .int .i64 5] 3 (0, 0)) ∧ W.heap[W6.heap.size + 1 + 1]? = some (.cells #[.int .i64 2] 3 (0, 0)) ∧ W.heap[W6.heap.size + 1 + 1 + 1]? = some (.cells #[.slice (some ⟨W6.heap.size, 0, none⟩) 1 1, .slice (some ⟨W6.heap.size + 1, 0, none⟩) 2 2, .slice (some ⟨W6.heap.size + 1 + 1, 0, none⟩) 1 1] 23 (0, 0))) ?hF6 ?hG6; (case hF6 => refine ⟨?_, ?_, ?_, ?_, ?_⟩ <;> (first | ((repeat (first | exact Below.refl _ _ | apply Zac | apply Za)); done) | ((repeat (first | (apply Zfl; simp; done) | apply Zae)); done))); intro W_ hF_; obtain ⟨hB_, h0_, h1_, h2_, h3_⟩ := hF_; refine (Zbg.calls 40 _ _ [[1], [1, 5], [2]] _ _ [[1], [1, 5], [2]] true W_ (Kd.Zbj HC6.out hB_) hcl6 (Ze6 [[1], [1, 5], [2]] [_, _, _] (by decide) h3_ ⟨Zeg rfl (Nat.le_refl _) (Zdv [1] (by decide) h0_), Zeg rfl (Nat.le_refl _) (Zdv [1, 5] (by decide) h1_), Zeg rfl (Nat.le_refl _) (Zdv [2] (by decide) h2_), trivial⟩) (Nat.le_refl _) lists9').mono ?_; rintro e W7 ⟨rfl, hdr⟩; have HL7 := Zaa.mk ((HL6.out.below hB_).below hdr.below); clear hdr h0_ h1_ h2_ h3_ hB_)))
  go_ret
  exact ⟨rfl, by repeat (first | exact HL7.out.1 | apply Za)⟩
def Zb.f (_ : Nat) : Option Bool := some true
theorem Zb.mono : ∀ k, LeO (Zb.f k) (Zb.f (k + 1)) := fun _ => LeO.refl _
theorem Zb.calls (k : Nat) (r : Bool) (w : World) (h : Zb.f k = some r) : Calls Try.prog 15 #[] w fun e w' => e = .returned (.bool r) ∧ Below w.heap.size w w' := by
  obtain rfl := Option.some.inj h
  exact fixed9 w
end Go.Proofs.Ytpbcigilipdedaa.P
/- Plain: the values of ranges, at most so many of them (what dom.all goes over). -/
namespace Go.Proofs.Ytpbcigilipdedaa.P
open Go.RowKit Go.Proofs.YtpbcigilipdedaaW.PrintWords Go.Proofs.YtpbcigilipdedaaW.PrintLast Go.Proofs.YtpbcigilipdedaaW.PrintMore
set_option linter.unusedVariables false
set_option linter.unusedSimpArgs false

/-! ### dom.all: the values, range by range, at most r of them -/
def upTo : Nat → Int → Int → List Int
  | 0, _, _ => []
  | r + 1, v, hi => if v ≤ hi then v :: upTo r (v + 1) hi else []
def allV : Nat → List S41 → List Int
  | _, [] => []
  | r, x :: ds => upTo r x.f0 x.f1 ++ allV (r - (upTo r x.f0 x.f1).length) ds
theorem upTo_length (r : Nat) : ∀ v hi, (upTo r v hi).length ≤ r := by
  induction r with
  | zero => intro v hi; simp [upTo]
  | succ r ih =>
    intro v hi
    unfold upTo
    split
    · have := ih (v + 1) hi
      simp
      omega
    simp
theorem upTo_yes {r : Nat} {v hi : Int} (hr : 0 < r) (h : v ≤ hi) : upTo r v hi = v :: upTo (r - 1) (v + 1) hi := by
  obtain ⟨r, rfl⟩ : ∃ m, r = m + 1 := ⟨r - 1, by omega⟩
  simp [upTo, h]
theorem upTo_no {r : Nat} {v hi : Int} (h : r = 0 ∨ ¬ v ≤ hi) : upTo r v hi = [] := by
  rcases h with rfl | h
  · rfl
  cases r with
  | zero => rfl
  | succ r => simp [upTo, h]
theorem allV_length (ds : List S41) : ∀ r, (allV r ds).length ≤ r := by
  induction ds with
  | nil => intro r; simp [allV]
  | cons x ds ih =>
    intro r
    have h1 := upTo_length r x.f0 x.f1
    have h2 := ih (r - (upTo r x.f0 x.f1).length)
    simp [allV]
    omega
/-- No number is out of the way. -/
def niceD (d : List S41) : Bool := d.all fun x => decide (-1048576 ≤ x.f0 ∧ x.f0 ≤ 1048576 ∧ -1048576 ≤ x.f1 ∧ x.f1 ≤ 1048576)
theorem niceD_at {d : List S41} (h : niceD d = true) {k : Nat} (hk : k < d.length) : -1048576 ≤ (Zb7 d k).f0 ∧ (Zb7 d k).f0 ≤ 1048576 ∧ -1048576 ≤ (Zb7 d k).f1 ∧ (Zb7 d k).f1 ≤ 1048576 := by
  have := (List.all_eq_true.1 h) (d[k]) (List.getElem_mem hk)
  simp [Zb7, List.getD_eq_getElem?_getD, List.getElem?_eq_getElem hk]
  simpa using this
theorem drop_at {d : List S41} {k : Nat} (hk : k < d.length) : d.drop k = Zb7 d k :: d.drop (k + 1) := by
  rw [List.drop_eq_getElem_cons hk]
  simp [Zb7, List.getD_eq_getElem?_getD, List.getElem?_eq_getElem hk]
end Go.Proofs.Ytpbcigilipdedaa.P
/- Plain: domains as lists of ranges. A domain is told by its values: two good lists of ranges with the same values are one. -/
namespace Go.Proofs.Ytpbcigilipdedaa.P
open Go.RowKit Go.Proofs.YtpbcigilipdedaaW.PrintWords Go.Proofs.YtpbcigilipdedaaW.PrintLast Go.Proofs.YtpbcigilipdedaaW.PrintMore
set_option linter.unusedVariables false
set_option linter.unusedSimpArgs false

abbrev Rg := S41
abbrev rg (d : List Rg) (i : Int) : Rg := Zb7 d i
theorem Rg.ext' {x y : Rg} (h0 : x.f0 = y.f0) (h1 : x.f1 = y.f1) : x = y := by cases x; cases y; simp at *; exact ⟨h0, h1⟩
theorem rg_nat (d : List Rg) (n : Nat) (h : n < d.length) : rg d (n : Int) = d[n] := by simp [rg, Zb7, List.getD_eq_getElem?_getD, List.getElem?_eq_getElem h]

/-- Ranges in order with a gap between any two, none below b; values no greater than V. -/
def Gd (V : Int) : Int → List Rg → Prop
  | _, [] => True
  | b, x :: d => b ≤ x.f0 ∧ x.f0 ≤ x.f1 ∧ x.f1 ≤ V ∧ Gd V (x.f1 + 2) d
/-- v is a value of d. -/
def Va (d : List Rg) (v : Int) : Prop := ∃ x ∈ d, x.f0 ≤ v ∧ v ≤ x.f1
@[simp] theorem Va_nil (v : Int) : Va [] v ↔ False := by simp [Va]
@[simp] theorem Zcm (x : Rg) (d : List Rg) (v : Int) : Va (x :: d) v ↔ (x.f0 ≤ v ∧ v ≤ x.f1) ∨ Va d v := by simp [Va]
theorem Zdx (d e : List Rg) (v : Int) : Va (d ++ e) v ↔ Va d v ∨ Va e v := by
  induction d with
  | nil => simp
  | cons x d ih => simp [ih, or_assoc]
theorem Gd.mono {V b c : Int} {d : List Rg} (h : Gd V b d) (hc : c ≤ b) : Gd V c d := by
  cases d with
  | nil => trivial
  | cons x d => obtain ⟨h1, h2, h3, h4⟩ := h; exact ⟨by omega, h2, h3, h4⟩
theorem Gd.ge {V : Int} : ∀ {b : Int} {d : List Rg} {v : Int}, Gd V b d → Va d v → b ≤ v
  | _, [], _, _, h => absurd h (by simp)
  | b, x :: d, v, ⟨h1, h2, h3, h4⟩, h => by
    rcases (Zcm x d v).1 h with h | h
    · omega
    have := Gd.ge h4 h; omega
theorem Gd.le {V : Int} : ∀ {b : Int} {d : List Rg} {v : Int}, Gd V b d → Va d v → v ≤ V
  | _, [], _, _, h => absurd h (by simp)
  | b, x :: d, v, ⟨h1, h2, h3, h4⟩, h => by
    rcases (Zcm x d v).1 h with h | h
    · omega
    exact Gd.le h4 h
/-- **Two good lists of ranges with the same values are one.** -/
theorem Gd.ext {V : Int} : ∀ {b c : Int} {d e : List Rg}, Gd V b d → Gd V c e → (∀ v, Va d v ↔ Va e v) → d = e
  | _, _, [], [], _, _, _ => rfl
  | _, _, [], y :: e, _, ⟨_, h2, _, _⟩, h => absurd ((h y.f0).2 ((Zcm _ _ _).2 (.inl ⟨Int.le_refl _, h2⟩))) (by simp)
  | _, _, x :: d, [], ⟨_, h2, _, _⟩, _, h => absurd ((h x.f0).1 ((Zcm _ _ _).2 (.inl ⟨Int.le_refl _, h2⟩))) (by simp)
  | b, c, x :: d, y :: e, ⟨h1, h2, h3, h4⟩, ⟨k1, k2, k3, k4⟩, h => by
    have gx : ∀ v, Va (x :: d) v → x.f0 ≤ v := fun v hv => Gd.ge (V := V) (b := x.f0) (d := x :: d) ⟨Int.le_refl _, h2, h3, h4⟩ hv
    have gy : ∀ v, Va (y :: e) v → y.f0 ≤ v := fun v hv => Gd.ge (V := V) (b := y.f0) (d := y :: e) ⟨Int.le_refl _, k2, k3, k4⟩ hv
    have a1 := gy _ ((h x.f0).1 ((Zcm _ _ _).2 (.inl ⟨Int.le_refl _, h2⟩)))
    have a2 := gx _ ((h y.f0).2 ((Zcm _ _ _).2 (.inl ⟨Int.le_refl _, k2⟩)))
    have e0 : x.f0 = y.f0 := by omega
    have no1 : ¬ x.f1 < y.f1 := fun hlt => by
      have := (h (x.f1 + 1)).2 ((Zcm _ _ _).2 (.inl ⟨by omega, by omega⟩))
      rcases (Zcm _ _ _).1 this with h | h
      · omega
      have := Gd.ge h4 h; omega
    have no2 : ¬ y.f1 < x.f1 := fun hlt => by
      have := (h (y.f1 + 1)).1 ((Zcm _ _ _).2 (.inl ⟨by omega, by omega⟩))
      rcases (Zcm _ _ _).1 this with h | h
      · omega
      have := Gd.ge k4 h; omega
    have e1 : x.f1 = y.f1 := by omega
    obtain rfl := Rg.ext' e0 e1
    congr 1
    refine Gd.ext h4 k4 (fun v => ⟨fun hv => ?_, fun hv => ?_⟩)
    · have hg := Gd.ge h4 hv
      rcases (Zcm _ _ _).1 ((h v).1 ((Zcm _ _ _).2 (.inr hv))) with h | h
      · omega
      exact h
    have hg := Gd.ge k4 hv
    rcases (Zcm _ _ _).1 ((h v).2 ((Zcm _ _ _).2 (.inr hv))) with h | h
    · omega
    exact h
/-- Where the next range may begin. -/
def endB (b : Int) (d : List Rg) : Int := (d.getLast?.map fun x => x.f1 + 2).getD b
theorem endB_snoc (b : Int) (d : List Rg) (x : Rg) : endB b (d ++ [x]) = x.f1 + 2 := by simp [endB]
theorem endB_cons (b : Int) (x : Rg) (d : List Rg) : endB b (x :: d) = endB (x.f1 + 2) d := by
  cases d with
  | nil => simp [endB]
  | cons y d => simp [endB, List.getLast?_cons]
theorem Gd_append (V : Int) : ∀ (b : Int) (d e : List Rg), Gd V b (d ++ e) ↔ Gd V b d ∧ Gd V (endB b d) e
  | b, [], e => by simp [Gd, endB]
  | b, x :: d, e => by
    rw [List.cons_append, Gd, Gd, Gd_append V (x.f1 + 2) d e, endB_cons]
    simp [and_assoc]
theorem Zfi {V b : Int} {d : List Rg} {x : Rg} : Gd V b (d ++ [x]) ↔ Gd V b d ∧ endB b d ≤ x.f0 ∧ x.f0 ≤ x.f1 ∧ x.f1 ≤ V := by
  rw [Gd_append]
  simp [Gd]
theorem Gd.lt_end {V : Int} : ∀ {b : Int} {d : List Rg} {v : Int}, Gd V b d → Va d v → v + 2 ≤ endB b d
  | _, [], _, _, h => absurd h (by simp)
  | b, x :: d, v, ⟨h1, h2, h3, h4⟩, h => by
    rw [endB_cons]
    have h5 : x.f1 + 2 ≤ endB (x.f1 + 2) d := by
      cases d with
      | nil => simp [endB]
      | cons y d =>
        obtain ⟨k1, k2, k3, k4⟩ := h4
        have := Gd.lt_end (V := V) (b := x.f1 + 2) (d := y :: d) (v := y.f1) ⟨k1, k2, k3, k4⟩ ((Zcm _ _ _).2 (.inl ⟨k2, Int.le_refl _⟩))
        omega
    rcases (Zcm _ _ _).1 h with h | h
    · omega
    exact Gd.lt_end h4 h
theorem Gd.end_ge {V b : Int} {d : List Rg} (h : Gd V b d) : b ≤ endB b d := by
  cases d with
  | nil => simp [endB]
  | cons y d =>
    obtain ⟨k1, k2, k3, k4⟩ := h
    have := Gd.lt_end (V := V) (b := b) (d := y :: d) (v := y.f1) ⟨k1, k2, k3, k4⟩ ((Zcm _ _ _).2 (.inl ⟨k2, Int.le_refl _⟩))
    omega

/-! ### The values as a list -/
def vals : List Rg → List Int
  | [] => []
  | x :: d => upTo (x.f1 + 1 - x.f0).toNat x.f0 x.f1 ++ vals d
theorem Zef : ∀ (r : Nat) (v hi z : Int), z ∈ upTo r v hi ↔ v ≤ z ∧ z ≤ hi ∧ z < v + r
  | 0, v, hi, z => by simp [upTo]; omega
  | r + 1, v, hi, z => by
    unfold upTo
    split
    · rw [List.mem_cons, Zef r (v + 1) hi z]
      omega
    simp
    omega
theorem upTo_ss : ∀ (r : Nat) (v hi : Int), SS (upTo r v hi)
  | 0, v, hi => by simp [upTo]
  | r + 1, v, hi => by
    unfold upTo
    split
    · refine List.pairwise_cons.2 ⟨fun z hz => ?_, upTo_ss r (v + 1) hi⟩
      have := (Zef r (v + 1) hi z).1 hz
      omega
    exact List.Pairwise.nil
theorem Zex : ∀ (r : Nat) (v hi : Int), ((upTo r v hi).length : Int) = min (r : Int) (max 0 (hi + 1 - v))
  | 0, v, hi => by simp [upTo]; omega
  | r + 1, v, hi => by
    unfold upTo
    split
    · have := Zex r (v + 1) hi
      simp
      omega
    simp
    omega
theorem Zds (z : Int) : ∀ d, z ∈ vals d ↔ Va d z
  | [] => by simp [vals]
  | x :: d => by
    rw [vals, List.mem_append, Zds z d, Zcm, Zef]
    have : (x.f0 ≤ z ∧ z ≤ x.f1 ∧ z < x.f0 + ((x.f1 + 1 - x.f0).toNat : Int)) ↔ (x.f0 ≤ z ∧ z ≤ x.f1) := by omega
    rw [this]
theorem Zf0 {V : Int} : ∀ {b : Int} {d : List Rg}, Gd V b d → SS (vals d)
  | _, [], _ => List.Pairwise.nil
  | b, x :: d, ⟨h1, h2, h3, h4⟩ => by
    rw [vals]
    refine List.pairwise_append.2 ⟨upTo_ss _ _ _, Zf0 h4, fun y hy z hz => ?_⟩
    have := (Zef _ _ _ _).1 hy
    have := Gd.ge h4 ((Zds z d).1 hz)
    omega
theorem Zem {V b : Int} {d : List Rg} (h : Gd V b d) : ((vals d).length : Int) ≤ max 0 (V + 1 - b) :=
  ss_length (Zf0 h) (fun x hx => ⟨Gd.ge h ((Zds x d).1 hx), Gd.le h ((Zds x d).1 hx)⟩)
theorem Zc0 {V : Int} : ∀ {b : Int} {d : List Rg}, Gd V b d → d.length ≤ (vals d).length
  | _, [], _ => by simp
  | b, x :: d, ⟨h1, h2, h3, h4⟩ => by
    have h5 := Zc0 h4
    have h6 := Zex (x.f1 + 1 - x.f0).toNat x.f0 x.f1
    rw [vals]
    simp
    omega
/-- The domain of numbers in order. -/
def pack : List Int → List Rg
  | [] => []
  | x :: l => match pack l with
    | [] => [⟨x, x⟩]
    | r :: rs => if r.f0 = x + 1 then ⟨x, r.f1⟩ :: rs else ⟨x, x⟩ :: r :: rs
theorem Zdi {V : Int} : ∀ {b : Int} {l : List Int}, SS l → (∀ x ∈ l, b ≤ x ∧ x ≤ V) → Gd V b (pack l) ∧ ∀ v, Va (pack l) v ↔ v ∈ l
  | b, [], _, _ => ⟨trivial, fun v => by simp [pack]⟩
  | b, x :: l, h, hb => by
    obtain ⟨hx, hl⟩ := List.pairwise_cons.1 h
    obtain ⟨g, m⟩ := Zdi (V := V) (b := x + 1) hl (fun y hy => ⟨by have := hx y hy; omega, (hb y (List.mem_cons_of_mem _ hy)).2⟩)
    obtain ⟨b1, b2⟩ := hb x List.mem_cons_self
    unfold pack
    cases hp : pack l with
    | nil =>
      rw [hp] at m
      refine ⟨⟨b1, Int.le_refl _, b2, trivial⟩, fun v => ?_⟩
      have := m v
      simp at this
      simp [this]
      omega
    | cons r rs =>
      rw [hp] at g m
      obtain ⟨g1, g2, g3, g4⟩ := g
      dsimp only
      split
      · rename_i e
        refine ⟨⟨b1, by show x ≤ r.f1; omega, g3, g4⟩, fun v => ?_⟩
        have := m v
        rw [List.mem_cons, ← this, Zcm, Zcm]
        dsimp only
        constructor
        · rintro (h | h)
          · by_cases e2 : v = x
            · exact .inl e2
            exact .inr (.inl ⟨by omega, h.2⟩)
          exact .inr (.inr h)
        rintro (h | h | h)
        · exact .inl ⟨by omega, by omega⟩
        · exact .inl ⟨by omega, h.2⟩
        exact .inr h
      rename_i e
      refine ⟨⟨b1, Int.le_refl _, b2, by show x + 2 ≤ r.f0; omega, g2, g3, g4⟩, fun v => ?_⟩
      have := m v
      rw [List.mem_cons, ← this, Zcm]
      dsimp only
      constructor
      · rintro (h | h)
        · exact .inl (by omega)
        exact .inr h
      rintro (h | h)
      · exact .inl ⟨by omega, by omega⟩
      exact .inr h
/-- A good list of ranges is the domain of the numbers that are its values. -/
theorem pack_eq {V b : Int} {d : List Rg} {l : List Int} (hd : Gd V b d) (hl : SS l) (h : ∀ v, Va d v ↔ v ∈ l) : d = pack l := by
  obtain ⟨g, m⟩ := Zdi (V := V) (b := b) hl (fun x hx => ⟨Gd.ge hd ((h x).2 hx), Gd.le hd ((h x).2 hx)⟩)
  exact Gd.ext hd g (fun v => (h v).trans (m v).symm)
theorem vals_pack {l : List Int} (hl : SS l) : vals (pack l) = l := by
  have hb : ∃ b V : Int, ∀ x ∈ l, b ≤ x ∧ x ≤ V := by
    clear hl
    induction l with
    | nil => exact ⟨0, 0, fun x hx => by simp at hx⟩
    | cons y l ih =>
      obtain ⟨b, V, ih⟩ := ih
      refine ⟨min b y, max V y, fun x hx => ?_⟩
      rcases List.mem_cons.1 hx with rfl | hx
      · omega
      have := ih x hx; omega
  obtain ⟨b, V, hb⟩ := hb
  obtain ⟨g, m⟩ := Zdi (V := V) (b := b) hl hb
  exact SS.ext (Zf0 g) hl (fun x => (Zds x _).trans (m x))
theorem pack_vals {V b : Int} {d : List Rg} (hd : Gd V b d) : pack (vals d) = d := (pack_eq hd (Zf0 hd) (fun v => (Zds v d).symm)).symm
theorem pack_length_le (l : List Int) : (pack l).length ≤ l.length := by
  induction l with
  | nil => simp [pack]
  | cons x l ih =>
    unfold pack
    cases hp : pack l with
    | nil => simp
    | cons r rs =>
      rw [hp] at ih
      dsimp only
      split
      · simp at *; omega
      simp at *; omega
/-- dom.all's values are all, where there are not too many. -/
theorem upTo_enough {r : Nat} {v hi : Int} (h : hi + 1 - v ≤ r) : upTo r v hi = upTo (hi + 1 - v).toNat v hi :=
  SS.ext (upTo_ss _ _ _) (upTo_ss _ _ _) (fun z => by rw [Zef, Zef]; omega)
theorem allV_vals : ∀ (d : List Rg) (r : Nat), (vals d).length ≤ r → allV r d = vals d
  | [], r, _ => by simp [allV, vals]
  | x :: d, r, h => by
    rw [vals, List.length_append] at h
    have h1 := Zex (x.f1 + 1 - x.f0).toNat x.f0 x.f1
    have e : upTo r x.f0 x.f1 = upTo (x.f1 + 1 - x.f0).toNat x.f0 x.f1 := upTo_enough (by omega)
    rw [allV, vals, e, allV_vals d _ (by omega)]
theorem niceD_good {b : Int} {d : List Rg} (h : Gd 1048576 b d) (hb : -1048576 ≤ b) : niceD d = true := by
  induction d generalizing b with
  | nil => rfl
  | cons x d ih =>
    obtain ⟨h1, h2, h3, h4⟩ := h
    have := ih h4 (by omega)
    unfold niceD at *
    rw [List.all_cons, this]
    simp
    omega
end Go.Proofs.Ytpbcigilipdedaa.P
namespace Go.Proofs.Ytpbcigilipdedaa.P
open Go.RowKit Go.Proofs.YtpbcigilipdedaaW.PrintWords Go.Proofs.YtpbcigilipdedaaW.PrintLast Go.Proofs.YtpbcigilipdedaaW.PrintMore
attribute [local go_sem] Zcv Zcx Zdc Zdd Zcp Zcq Zcw Zcy
set_option linter.unusedVariables false
set_option linter.unusedSimpArgs false
/-! ### Zak: function 29 -/
mutual
def Zak.l0 : Nat → List (S41) → List Int → Int → Option (List Int)
 | 0, _, _, _ => none
 | k + 1, x0, x3, x4 => if x4 < (x0.length : Int) then (if 0 ≤ x4 then (Zak.l1 k x0 x3 x4 ((Zb7 x0 x4).f0)) else (none)) else (some x3)
def Zak.l1 : Nat → List (S41) → List Int → Int → Int → Option (List Int)
 | 0, _, _, _, _ => none
 | k + 1, x0, x3, x4, x5 => if 0 ≤ x4 then (if x4 < (x0.length : Int) then (if x5 ≤ ((Zb7 x0 x4).f1) then (if x3.length < 17592186044416 then (Zak.l1 k x0 (x3 ++ [x5]) x4 (wrap64 (x5 + 1))) else (none)) else (Zak.l0 k x0 x3 (wrap64 (x4 + 1)))) else (none)) else (none)
end
def Zak.f (k : Nat) (l0 : List (S41)) : Option (List Int) := Zak.l0 k l0 (([] : List Int)) 0
theorem Zak.Zb1 : ∀ k, (∀ y0 y1 y2, LeO (Zak.l0 k y0 y1 y2) (Zak.l0 (k + 1) y0 y1 y2)) ∧ (∀ y0 y1 y2 y3, LeO (Zak.l1 k y0 y1 y2 y3) (Zak.l1 (k + 1) y0 y1 y2 y3))
 | 0 => ⟨fun _ _ _ r h => by simp [Zak.l0] at h, fun _ _ _ _ r h => by simp [Zak.l1] at h⟩
 | k + 1 => by
  obtain ⟨ih0, ih1⟩ := Zak.Zb1 k
  refine ⟨?_, ?_⟩
  ·intro y0 y1 y2
   unfold Zak.l0
   repeat' first
   | (with_reducible exact ih0 _ _ _)
   | (with_reducible exact ih1 _ _ _ _)
   | (with_reducible exact LeO.refl _)
   | (with_reducible exact LeO.none _)
   | (with_reducible refine LeO.ite ?_ ?_)
   | (with_reducible refine LeO.bind ?_ (fun _ => ?_))
   | exact ih0 _ _ _
   | exact ih1 _ _ _ _
   | exact LeO.none _
   | refine LeO.ite ?_ ?_
   | refine LeO.bind ?_ (fun _ => ?_)
  intro y0 y1 y2 y3
  unfold Zak.l1
  repeat' first
  | (with_reducible exact ih0 _ _ _)
  | (with_reducible exact ih1 _ _ _ _)
  | (with_reducible exact LeO.refl _)
  | (with_reducible exact LeO.none _)
  | (with_reducible refine LeO.ite ?_ ?_)
  | (with_reducible refine LeO.bind ?_ (fun _ => ?_))
  | exact ih0 _ _ _
  | exact ih1 _ _ _ _
  | exact LeO.none _
  | refine LeO.ite ?_ ?_
  | refine LeO.bind ?_ (fun _ => ?_)
theorem Zak.mono : ∀ a0 k, LeO (Zak.f k a0) (Zak.f (k + 1) a0) := by
 intro a0 k
 obtain ⟨ih0, ih1⟩ := Zak.Zb1 k
 unfold Zak.f
 repeat' first
   | (with_reducible exact ih0 _ _ _)
   | (with_reducible exact ih1 _ _ _ _)
   | (with_reducible exact LeO.refl _)
   | (with_reducible exact LeO.none _)
   | (with_reducible refine LeO.ite ?_ ?_)
   | (with_reducible refine LeO.bind ?_ (fun _ => ?_))
   | exact ih0 _ _ _
   | exact ih1 _ _ _ _
   | exact LeO.none _
   | refine LeO.ite ?_ ?_
   | refine LeO.bind ?_ (fun _ => ?_)
set_option maxHeartbeats 8000000 in
set_option maxRecDepth 100000 in
theorem Zak.calls (k : Nat) (A0 : Option Addr) (c0 : Nat) (l0 : List (S41)) (r : List Int) (w : World) (hr0 : Kd.C k41 w A0 l0.length l0) (hc0 : l0.length ≤ c0) (h : Zak.f k l0 = some r) :
  Calls Try.prog 29 #[.slice A0 l0.length c0] w fun e w' => ∃ v0_ : Value, e = .returned (v0_) ∧ Kd.R (Kd.int .i64) 3 w' w.heap.size (fun _ => True) v0_ r ∧ Below w.heap.size w w' := by
 have HR0 := Zaa.mk hr0
 have HC0 := Zaa.mk hc0
 clear hr0 hc0
 have HB := Zaa.mk (Below.refl w.heap.size w)
 have H : (Zak.l0 k l0 (([] : List Int)) 0) = some r := h
 clear h
 obtain ⟨y399, hy399⟩ : ∃ y_ : List Int, y_ = (([] : List Int)) := ⟨_, rfl⟩
 replace H : (Zak.l0 k l0 y399 0) = some r := by first | (rw [hy399]; with_reducible exact H) | (have H2_ := (Option.bind_some _ _).symm.trans H; rw [hy399]; with_reducible exact H2_) | (have H2_ := (Option.bind_some _ _).symm.trans H; with_reducible exact H2_) | with_reducible exact H | (rw [hy399]; exact H) | exact H
 have Ny399 := Zaa.mk hy399
 clear hy399
 have H' := Zaa.mk H
 clear H
 go_enter Try.func29, Try.ntmps29
 go_wp2_with (first | ((with_reducible refine Zb2 (N := 6) rfl ?_); refine Kd.Zdu (Kd.int .i64) _ 3 ?hg (N := 6) ?hd (xs := ([] : List Int)) (inner := []) (ok := fun _ => True) (okp := fun _ => True) ?hr ?hp (fun _ hk => hk) trivial (Below.refl _ _) (Nat.le_refl _) (by simp) ?_; (case hd => rfl); (case hg => rfl); (case hr => first | (go_simp; done) | (go_simp; rfl)); (case hp => exact (Reps.none _ _)); intro v400 w2 ho3 hb hg_ hnew_; clear hg_ hnew_; (first | rw [← Ny399.out] at ho3 | (simp only [Int.reduceToNat] at ho3; rw [← Ny399.out] at ho3)); have n0_ := Zaa.mk (Kd.Zb9 ho3 (Zal (by repeat (first | (with_reducible first | exact HB.out | apply Zac | apply Za | apply Zab) | exact HB.out)))); have n1_ := Zaa.mk (Zay (by repeat (first | (with_reducible first | exact HB.out | apply Zac | apply Za | apply Zab) | exact HB.out)) hb); clear HB; have HO401 := n0_; have HB := n1_; clear n0_ n1_; clear hb ho3))
 go_loopg [3, 4] k (fun kq v3 v4 w' => ∃ (x3_1 : List Int) (x4_1 : Int), v4 = .int .i64 x4_1 ∧ Zaa (Zak.l0 kq l0 x3_1 x4_1 = some r) ∧ Zaa (kq ≤ k) ∧ Zaa (Kd.R (Kd.int .i64) 3 w' w.heap.size (fun _ => True) v3 x3_1) ∧ Zaa (Below w.heap.size w w'))
 case atStart => exact ⟨(y399), (0), (by first | rfl | (simp; done) | (simp [*]; done)), H', ⟨Nat.le_refl _⟩, ⟨by (with_reducible repeat (first | apply Kd.R_alloc | apply Kd.Zap | apply Kd.Zav)); exact HO401.out⟩, ⟨by repeat (first | (with_reducible first | exact HB.out | apply Zac | apply Za | apply Zab) | exact HB.out)⟩⟩
 case round =>
  clear H'
  try clear c2
  try clear p2
  obtain ⟨x3_1, x4_1, rfl, HA, HK1, HO_3, HB⟩ := hrel
  cases gk with
  | zero => exact absurd HA.out (by simp [Zak.l0])
  | succ k1 =>
   have H := HA.out
   clear HA
   simp only [Zak.l0] at H
   by_cases c4 : x4_1 < (l0.length : Int)
   rotate_left
   ·rw [if_neg c4] at H
    have c4b0 : decide (x4_1 < (l0.length : Int)) = false := decide_eq_false c4
    clear c4
    obtain rfl := Option.some.inj H
    go_wp2
    go_ret
    exact ⟨_, by first | rfl | (simp [Za1, Za2] <;> rfl) | (simp [*, Za1, Za2] <;> rfl), by (with_reducible repeat (first | apply Kd.R_alloc | apply Kd.Zap | apply Kd.Zav)); exact HO_3.out, by repeat (first | (with_reducible first | exact HB.out | apply Zac | apply Za | apply Zab) | exact HB.out)⟩

   rw [if_pos c4] at H
   have c4b0 : decide (x4_1 < (l0.length : Int)) = true := decide_eq_true c4
   clear c4
   by_cases c5 : 0 ≤ x4_1
   rotate_left
   ·rw [if_neg c5] at H
    exact absurd H (by simp)
   rw [if_pos c5] at H
   have c5b0 : decide (0 ≤ x4_1) = true := decide_eq_true c5
   clear c5
   have H' := Zaa.mk H
   clear H
   have p402 : 0 ≤ (x4_1 : Int) := of_decide_eq_true (by first | (with_reducible assumption) | assumption)
   have q402 : x4_1 < (l0.length : Int) := of_decide_eq_true (by first | (with_reducible assumption) | assumption)
   obtain ⟨ad402, e402, hx402_0, hx402_1⟩ := Zdz HR0.out x4_1 p402 q402
   cases e402
   replace hx402_0 := (HB.out.cell (World.block_lt_of_cell? w _ hx402_0)).trans hx402_0
   replace hx402_1 := (HB.out.cell (World.block_lt_of_cell? w _ hx402_1)).trans hx402_1
   replace p402 := eq_true p402
   replace q402 := eq_true q402
   go_wp2
   go_loopg [3, 5] k1 (fun kq v3 v5 w' => ∃ (x3_2 : List Int) (x5_2 : Int), v5 = .int .i64 x5_2 ∧ Zaa (Zak.l1 kq l0 x3_2 x4_1 x5_2 = some r) ∧ Zaa (kq ≤ k1) ∧ Zaa (Kd.R (Kd.int .i64) 3 w' w.heap.size (fun _ => True) v3 x3_2) ∧ Zaa (Below w.heap.size w w'))
   case atStart => exact ⟨(x3_1), ((Zb7 l0 x4_1).f0), (by first | rfl | (simp; done) | (simp [*]; done)), H', ⟨Nat.le_refl _⟩, ⟨by (with_reducible repeat (first | apply Kd.R_alloc | apply Kd.Zap | apply Kd.Zav)); exact HO_3.out⟩, ⟨by repeat (first | (with_reducible first | exact HB.out | apply Zac | apply Za | apply Zab) | exact HB.out)⟩⟩
   case round =>
    clear H'
    try clear c2
    try clear p2
    try clear c4
    try clear c4b0
    try clear p4
    try clear q4
    try clear hx4
    try clear c5
    try clear c5b0
    try clear hx402_0
    try clear hx402_1
    try clear p2
    try clear p402
    try clear q402
    obtain ⟨x3_2, x5_2, rfl, HA, HK2, HO_3, HB⟩ := hrel
    cases gk with
    | zero => exact absurd HA.out (by simp [Zak.l1])
    | succ k2 =>
     have H := HA.out
     clear HA
     simp only [Zak.l1] at H
     by_cases c6 : 0 ≤ x4_1
     rotate_left
     ·rw [if_neg c6] at H
      exact absurd H (by simp)
     rw [if_pos c6] at H
     have c6b0 : decide (0 ≤ x4_1) = true := decide_eq_true c6
     clear c6
     by_cases c7 : x4_1 < (l0.length : Int)
     rotate_left
     ·rw [if_neg c7] at H
      exact absurd H (by simp)
     rw [if_pos c7] at H
     have c7b0 : decide (x4_1 < (l0.length : Int)) = true := decide_eq_true c7
     clear c7
     by_cases c8 : x5_2 ≤ ((Zb7 l0 x4_1).f1)
     rotate_left
     ·rw [if_neg c8] at H
      have c8b0 : decide (x5_2 ≤ ((Zb7 l0 x4_1).f1)) = false := decide_eq_false c8
      clear c8
      have H' := Zaa.mk H
      clear H
      have p403 : 0 ≤ (x4_1 : Int) := of_decide_eq_true (by first | (with_reducible assumption) | assumption)
      have q403 : x4_1 < (l0.length : Int) := of_decide_eq_true (by first | (with_reducible assumption) | assumption)
      obtain ⟨ad403, e403, hx403_0, hx403_1⟩ := Zdz HR0.out x4_1 p403 q403
      obtain rfl : ad402 = ad403 := (by injection e403)
      replace hx403_0 := (HB.out.cell (World.block_lt_of_cell? w _ hx403_0)).trans hx403_0
      replace hx403_1 := (HB.out.cell (World.block_lt_of_cell? w _ hx403_1)).trans hx403_1
      replace p403 := eq_true p403
      replace q403 := eq_true q403
      go_wp2
      go_roundg k2
      case measure => have := HK1.out; have := HK2.out; omega
      case rel => exact ⟨(x3_2), (wrap64 (x4_1 + 1)), (by first | rfl | (simp; done) | (simp [*]; done)), H', ⟨by have := HK1.out; have := HK2.out; omega⟩, ⟨by (with_reducible repeat (first | apply Kd.R_alloc | apply Kd.Zap | apply Kd.Zav)); exact HO_3.out⟩, ⟨by repeat (first | (with_reducible first | exact HB.out | apply Zac | apply Za | apply Zab) | exact HB.out)⟩⟩
     rw [if_pos c8] at H
     have c8b0 : decide (x5_2 ≤ ((Zb7 l0 x4_1).f1)) = true := decide_eq_true c8
     clear c8
     by_cases c9 : x3_2.length < 17592186044416
     rotate_left
     ·rw [if_neg c9] at H
      exact absurd H (by simp)
     rw [if_pos c9] at H
     have LMc9 := Zaa.mk c9
     clear c9
     obtain ⟨y404, hy404⟩ : ∃ y_ : List Int, y_ = (x3_2 ++ [x5_2]) := ⟨_, rfl⟩
     replace H : (Zak.l1 k2 l0 y404 x4_1 (wrap64 (x5_2 + 1))) = some r := by first | (rw [hy404]; with_reducible exact H) | (have H2_ := (Option.bind_some _ _).symm.trans H; rw [hy404]; with_reducible exact H2_) | (have H2_ := (Option.bind_some _ _).symm.trans H; with_reducible exact H2_) | with_reducible exact H | (rw [hy404]; exact H) | exact H
     have Ny404 := Zaa.mk hy404
     clear hy404
     have H' := Zaa.mk H
     clear H
     have p403 : 0 ≤ (x4_1 : Int) := of_decide_eq_true (by first | (with_reducible assumption) | assumption)
     have q403 : x4_1 < (l0.length : Int) := of_decide_eq_true (by first | (with_reducible assumption) | assumption)
     obtain ⟨ad403, e403, hx403_0, hx403_1⟩ := Zdz HR0.out x4_1 p403 q403
     obtain rfl : ad402 = ad403 := (by injection e403)
     replace hx403_0 := (HB.out.cell (World.block_lt_of_cell? w _ hx403_0)).trans hx403_0
     replace hx403_1 := (HB.out.cell (World.block_lt_of_cell? w _ hx403_1)).trans hx403_1
     replace p403 := eq_true p403
     replace q403 := eq_true q403
     go_wp2_with (first | ((with_reducible refine Zbt (b := .append) (xs := #[.tmp 27, .tmp 29]) rfl ?_); at_builtin; refine Kd.Zcj (Kd.int .i64) (w0 := w) w.heap.size rfl (.tmp 27) (.tmp 29) 23 3 (.int .i64 0) 8 rfl Try.underlying23 info3 rfl (by decide) (by omega) u3 x3_2 x5_2 [.int .i64 x5_2] (fun _ => True) (fun _ => False) rfl rfl ?aP (fun _ hk => hk.elim) ?aF ?aO ?aB ?aS ?aL ?_; (case aP => exact rfl); (case aB => exact (by repeat (first | (with_reducible first | exact HB.out | apply Zac | apply Za | apply Zab) | exact HB.out))); (case aF => exact (fun _ _ => trivial)); (case aO => exact (by (with_reducible repeat (first | apply Kd.R_alloc | apply Kd.Zap | apply Kd.Zav)); exact HO_3.out)); (case aS => exact (Zal (by repeat (first | (with_reducible first | exact HB.out | apply Zac | apply Za | apply Zab) | exact HB.out)))); (case aL => have := LMc9.out; omega); intro v405 w10 ho hb hg hat; rw [← Ny404.out] at ho; have n0_ := Zaa.mk (hb); have n1_ := Zaa.mk (ho); clear HB; clear HO_3; have HB := n0_; have HO406 := n1_; clear n0_ n1_; clear ho hb hg hat))
     go_roundg k2
     case measure => have := HK1.out; have := HK2.out; omega
     case rel => exact ⟨(y404), (wrap64 (x5_2 + 1)), (by first | rfl | (simp; done) | (simp [*]; done)), H', ⟨by have := HK1.out; have := HK2.out; omega⟩, ⟨by (with_reducible repeat (first | apply Kd.R_alloc | apply Kd.Zap | apply Kd.Zav)); exact HO406.out⟩, ⟨by repeat (first | (with_reducible first | exact HB.out | apply Zac | apply Za | apply Zab) | exact HB.out)⟩⟩
/-! ### Za8: function 31 -/
def Za8.l0 : Nat → List Int → Int → Int → Option (Bool)
 | 0, _, _, _ => none
 | k + 1, x0, x1, x5 => if x5 < (x0.length : Int) then (if 0 ≤ x5 then (if (rd x0 x5) = x1 then (some true) else (Za8.l0 k x0 x1 (wrap64 (x5 + 1)))) else (none)) else (some false)
def Za8.f (k : Nat) (l0 : List Int) (a1 : Int) : Option (Bool) := Za8.l0 k l0 a1 0
theorem Za8.Zb1 : ∀ k, (∀ y0 y1 y2, LeO (Za8.l0 k y0 y1 y2) (Za8.l0 (k + 1) y0 y1 y2))
 | 0 => fun _ _ _ r h => by simp [Za8.l0] at h
 | k + 1 => by
  have ih0 := Za8.Zb1 k
  intro y0 y1 y2
  unfold Za8.l0
  repeat' first
  | (with_reducible exact ih0 _ _ _)
  | (with_reducible exact LeO.refl _)
  | (with_reducible exact LeO.none _)
  | (with_reducible refine LeO.ite ?_ ?_)
  | (with_reducible refine LeO.bind ?_ (fun _ => ?_))
  | exact ih0 _ _ _
  | exact LeO.none _
  | refine LeO.ite ?_ ?_
  | refine LeO.bind ?_ (fun _ => ?_)
theorem Za8.mono : ∀ a0 a1 k, LeO (Za8.f k a0 a1) (Za8.f (k + 1) a0 a1) := by
 intro a0 a1 k
 have ih0 := Za8.Zb1 k
 unfold Za8.f
 repeat' first
   | (with_reducible exact ih0 _ _ _)
   | (with_reducible exact LeO.refl _)
   | (with_reducible exact LeO.none _)
   | (with_reducible refine LeO.ite ?_ ?_)
   | (with_reducible refine LeO.bind ?_ (fun _ => ?_))
   | exact ih0 _ _ _
   | exact LeO.none _
   | refine LeO.ite ?_ ?_
   | refine LeO.bind ?_ (fun _ => ?_)
set_option maxHeartbeats 8000000 in
set_option maxRecDepth 100000 in
theorem Za8.calls (k : Nat) (A0 : Option Addr) (c0 : Nat) (l0 : List Int) (a1 : Int) (r : Bool) (w : World) (hr0 : Kd.C (Kd.int .i64) w A0 l0.length l0) (hc0 : l0.length ≤ c0) (h : Za8.f k l0 a1 = some r) :
  Calls Try.prog 31 #[.slice A0 l0.length c0, .int .i64 a1] w fun e w' => e = .returned (.bool r) ∧ Zbh w w' := by
 have HR0 := Zaa.mk hr0
 have HC0 := Zaa.mk hc0
 clear hr0 hc0
 have H : (Za8.l0 k l0 a1 0) = some r := h
 clear h
 have H' := Zaa.mk H
 clear H
 go_enter Try.func31, Try.ntmps31
 go_wp2
 go_loopg [5] k (fun kq v5 w' => ∃ (x5_1 : Int), v5 = .int .i64 x5_1 ∧ Zaa (Za8.l0 kq l0 a1 x5_1 = some r) ∧ Zaa (kq ≤ k) ∧ Zbh w w')
 case atStart => exact ⟨(0), (by first | rfl | (simp; done) | (simp [*]; done)), H', ⟨Nat.le_refl _⟩, by repeat (first | exact Zbh.refl _ | apply Zbh.step)⟩
 case round =>
  clear H'
  try clear p2
  obtain ⟨x5_1, rfl, HA, HK1, ⟨m1, rfl⟩⟩ := hrel
  cases gk with
  | zero => exact absurd HA.out (by simp [Za8.l0])
  | succ k1 =>
   have H := HA.out
   clear HA
   simp only [Za8.l0] at H
   by_cases c3 : x5_1 < (l0.length : Int)
   rotate_left
   ·rw [if_neg c3] at H
    have c3b0 : decide (x5_1 < (l0.length : Int)) = false := decide_eq_false c3
    clear c3
    obtain rfl := Option.some.inj H
    go_wp2
    go_ret
    exact ⟨by first | rfl | (simp; done) | (simp [*]; done), by repeat (first | exact Zbh.refl _ | apply Zbh.step)⟩

   rw [if_pos c3] at H
   have c3b0 : decide (x5_1 < (l0.length : Int)) = true := decide_eq_true c3
   clear c3
   by_cases c4 : 0 ≤ x5_1
   rotate_left
   ·rw [if_neg c4] at H
    exact absurd H (by simp)
   rw [if_pos c4] at H
   have c4b0 : decide (0 ≤ x5_1) = true := decide_eq_true c4
   clear c4
   by_cases c5 : (rd l0 x5_1) = a1
   ·rw [if_pos c5] at H
    have c5b0 : ((rd l0 x5_1) == a1) = true := beq_iff_eq.mpr c5
    have c5b1 : ((rd l0 x5_1) != a1) = false := bne_eq_false_iff_eq.mpr c5
    clear c5
    obtain rfl := Option.some.inj H
    have p131 : 0 ≤ (x5_1 : Int) := of_decide_eq_true (by first | (with_reducible assumption) | assumption)
    have q131 : x5_1 < (l0.length : Int) := of_decide_eq_true (by first | (with_reducible assumption) | assumption)
    obtain ⟨ad131, e131, hx131_0⟩ := Kd.Zb6 HR0.out x5_1 p131 q131
    cases e131
    replace p131 := eq_true p131
    replace q131 := eq_true q131
    go_wp2
    go_ret
    exact ⟨by first | rfl | (simp; done) | (simp [*]; done), by repeat (first | exact Zbh.refl _ | apply Zbh.step)⟩
   rw [if_neg c5] at H
   have c5b0 : ((rd l0 x5_1) == a1) = false := beq_eq_false_iff_ne.mpr c5
   have c5b1 : ((rd l0 x5_1) != a1) = true := bne_iff_ne.mpr c5
   have H' := Zaa.mk H
   clear H
   have p131 : 0 ≤ (x5_1 : Int) := of_decide_eq_true (by first | (with_reducible assumption) | assumption)
   have q131 : x5_1 < (l0.length : Int) := of_decide_eq_true (by first | (with_reducible assumption) | assumption)
   obtain ⟨ad131, e131, hx131_0⟩ := Kd.Zb6 HR0.out x5_1 p131 q131
   cases e131
   replace p131 := eq_true p131
   replace q131 := eq_true q131
   go_wp2
   go_roundg k1
   case measure => have := HK1.out; omega
   case rel => exact ⟨(wrap64 (x5_1 + 1)), (by first | rfl | (simp; done) | (simp [*]; done)), H', ⟨by have := HK1.out; omega⟩, by repeat (first | exact Zbh.refl _ | apply Zbh.step)⟩
/-! ### Zai: function 38 -/
mutual
def Zai.l0 : Nat → List Int → List Int → Int → Option (List Int)
 | 0, _, _, _ => none
 | k + 1, x0, x3, x4 => if x4 < (x0.length : Int) then (if 0 ≤ x4 then ((Za8.f k x3 (rd x0 x4)).bind fun t139 => (Zai.l1 k x0 x3 x4 (([] : List Int)) t139 0)) else (none)) else (some x3)
def Zai.l1 : Nat → List Int → List Int → Int → List Int → Bool → Int → Option (List Int)
 | 0, _, _, _, _, _, _ => none
 | k + 1, x0, x3, x4, x5, x6, x7 => if x7 < (x3.length : Int) then (if x6 = true then (if 0 ≤ x7 then (if x5.length < 17592186044416 then (Zai.l1 k x0 x3 x4 (x5 ++ [rd x3 x7]) x6 (wrap64 (x7 + 1))) else (none)) else (none)) else (if 0 ≤ x4 then (if x4 < (x0.length : Int) then (if 0 ≤ x7 then (if (rd x0 x4) < (rd x3 x7) then (if x5.length < 17592186044416 then ((some (x5 ++ [rd x0 x4] : List Int)).bind fun y147 => (if y147.length < 17592186044416 then (Zai.l1 k x0 x3 x4 (y147 ++ [rd x3 x7]) true (wrap64 (x7 + 1))) else (none))) else (none)) else (if x5.length < 17592186044416 then (Zai.l1 k x0 x3 x4 (x5 ++ [rd x3 x7]) x6 (wrap64 (x7 + 1))) else (none))) else (none)) else (none)) else (none))) else (if x6 = true then (Zai.l0 k x0 x5 (wrap64 (x4 + 1))) else (if 0 ≤ x4 then (if x4 < (x0.length : Int) then (if x5.length < 17592186044416 then (Zai.l0 k x0 (x5 ++ [rd x0 x4]) (wrap64 (x4 + 1))) else (none)) else (none)) else (none)))
end
def Zai.f (k : Nat) (l0 : List Int) : Option (List Int) := Zai.l0 k l0 (([] : List Int)) 0
theorem Zai.Zb1 : ∀ k, (∀ y0 y1 y2, LeO (Zai.l0 k y0 y1 y2) (Zai.l0 (k + 1) y0 y1 y2)) ∧ (∀ y0 y1 y2 y3 y4 y5, LeO (Zai.l1 k y0 y1 y2 y3 y4 y5) (Zai.l1 (k + 1) y0 y1 y2 y3 y4 y5))
 | 0 => ⟨fun _ _ _ r h => by simp [Zai.l0] at h, fun _ _ _ _ _ _ r h => by simp [Zai.l1] at h⟩
 | k + 1 => by
  obtain ⟨ih0, ih1⟩ := Zai.Zb1 k
  refine ⟨?_, ?_⟩
  ·intro y0 y1 y2
   unfold Zai.l0
   repeat' first
   | (with_reducible exact ih0 _ _ _)
   | (with_reducible exact ih1 _ _ _ _ _ _)
   | (with_reducible exact Za8.mono _ _ _)
   | (with_reducible exact LeO.refl _)
   | (with_reducible exact LeO.none _)
   | (with_reducible refine LeO.ite ?_ ?_)
   | (with_reducible refine LeO.bind ?_ (fun _ => ?_))
   | exact ih0 _ _ _
   | exact ih1 _ _ _ _ _ _
   | exact Za8.mono _ _ _
   | exact LeO.none _
   | refine LeO.ite ?_ ?_
   | refine LeO.bind ?_ (fun _ => ?_)
  intro y0 y1 y2 y3 y4 y5
  unfold Zai.l1
  repeat' first
  | (with_reducible exact ih0 _ _ _)
  | (with_reducible exact ih1 _ _ _ _ _ _)
  | (with_reducible exact Za8.mono _ _ _)
  | (with_reducible exact LeO.refl _)
  | (with_reducible exact LeO.none _)
  | (with_reducible refine LeO.ite ?_ ?_)
  | (with_reducible refine LeO.bind ?_ (fun _ => ?_))
  | exact ih0 _ _ _
  | exact ih1 _ _ _ _ _ _
  | exact Za8.mono _ _ _
  | exact LeO.none _
  | refine LeO.ite ?_ ?_
  | refine LeO.bind ?_ (fun _ => ?_)
theorem Zai.mono : ∀ a0 k, LeO (Zai.f k a0) (Zai.f (k + 1) a0) := by
 intro a0 k
 obtain ⟨ih0, ih1⟩ := Zai.Zb1 k
 unfold Zai.f
 repeat' first
   | (with_reducible exact ih0 _ _ _)
   | (with_reducible exact ih1 _ _ _ _ _ _)
   | (with_reducible exact Za8.mono _ _ _)
   | (with_reducible exact LeO.refl _)
   | (with_reducible exact LeO.none _)
   | (with_reducible refine LeO.ite ?_ ?_)
   | (with_reducible refine LeO.bind ?_ (fun _ => ?_))
   | exact ih0 _ _ _
   | exact ih1 _ _ _ _ _ _
   | exact Za8.mono _ _ _
   | exact LeO.none _
   | refine LeO.ite ?_ ?_
   | refine LeO.bind ?_ (fun _ => ?_)
set_option maxHeartbeats 8000000 in
set_option maxRecDepth 100000 in
theorem Zai.calls (k : Nat) (A0 : Option Addr) (c0 : Nat) (l0 : List Int) (r : List Int) (w : World) (hr0 : Kd.C (Kd.int .i64) w A0 l0.length l0) (hc0 : l0.length ≤ c0) (h : Zai.f k l0 = some r) :
  Calls Try.prog 38 #[.slice A0 l0.length c0] w fun e w' => ∃ v0_ : Value, e = .returned (v0_) ∧ Kd.R (Kd.int .i64) 3 w' w.heap.size (fun _ => True) v0_ r ∧ Below w.heap.size w w' := by
 have HR0 := Zaa.mk hr0
 have HC0 := Zaa.mk hc0
 clear hr0 hc0
 have HB := Zaa.mk (Below.refl w.heap.size w)
 have H : (Zai.l0 k l0 (([] : List Int)) 0) = some r := h
 clear h
 obtain ⟨y132, hy132⟩ : ∃ y_ : List Int, y_ = (([] : List Int)) := ⟨_, rfl⟩
 replace H : (Zai.l0 k l0 y132 0) = some r := by first | (rw [hy132]; with_reducible exact H) | (have H2_ := (Option.bind_some _ _).symm.trans H; rw [hy132]; with_reducible exact H2_) | (have H2_ := (Option.bind_some _ _).symm.trans H; with_reducible exact H2_) | with_reducible exact H | (rw [hy132]; exact H) | exact H
 have Ny132 := Zaa.mk hy132
 clear hy132
 have H' := Zaa.mk H
 clear H
 go_enter Try.func38, Try.ntmps38
 go_wp2_with (first | ((with_reducible refine Zb2 (N := 8) rfl ?_); refine Kd.Zdu (Kd.int .i64) _ 3 ?hg (N := 8) ?hd (xs := ([] : List Int)) (inner := []) (ok := fun _ => True) (okp := fun _ => True) ?hr ?hp (fun _ hk => hk) trivial (Below.refl _ _) (Nat.le_refl _) (by simp) ?_; (case hd => rfl); (case hg => rfl); (case hr => first | (go_simp; done) | (go_simp; rfl)); (case hp => exact (Reps.none _ _)); intro v133 w2 ho3 hb hg_ hnew_; clear hg_ hnew_; (first | rw [← Ny132.out] at ho3 | (simp only [Int.reduceToNat] at ho3; rw [← Ny132.out] at ho3)); have n0_ := Zaa.mk (Kd.Zb9 ho3 (Zal (by repeat (first | (with_reducible first | exact HB.out | apply Zac | apply Za | apply Zab) | exact HB.out)))); have n1_ := Zaa.mk (Zay (by repeat (first | (with_reducible first | exact HB.out | apply Zac | apply Za | apply Zab) | exact HB.out)) hb); clear HB; have HO134 := n0_; have HB := n1_; clear n0_ n1_; clear hb ho3))
 repeat (go_quiet (first | ((with_reducible refine Zb2 (N := 8) rfl ?_); refine Kd.Zdu (Kd.int .i64) _ 3 ?hg (N := 8) ?hd (xs := ([] : List Int)) (inner := []) (ok := fun _ => True) (okp := fun _ => True) ?hr ?hp (fun _ hk => hk) trivial (Below.refl _ _) (Nat.le_refl _) (by simp) ?_; (case hd => rfl); (case hg => rfl); (case hr => first | (go_simp; done) | (go_simp; rfl)); (case hp => exact (Reps.none _ _)); intro v133 w2 ho3 hb hg_ hnew_; clear hg_ hnew_; (first | rw [← Ny132.out] at ho3 | (simp only [Int.reduceToNat] at ho3; rw [← Ny132.out] at ho3)); have n0_ := Zaa.mk (Kd.Zb9 ho3 (Zal (by repeat (first | (with_reducible first | exact HB.out | apply Zac | apply Za | apply Zab) | exact HB.out)))); have n1_ := Zaa.mk (Zay (by repeat (first | (with_reducible first | exact HB.out | apply Zac | apply Za | apply Zab) | exact HB.out)) hb); clear HB; have HO134 := n0_; have HB := n1_; clear n0_ n1_; clear hb ho3)); try go_wp2_with (first | ((with_reducible refine Zb2 (N := 8) rfl ?_); refine Kd.Zdu (Kd.int .i64) _ 3 ?hg (N := 8) ?hd (xs := ([] : List Int)) (inner := []) (ok := fun _ => True) (okp := fun _ => True) ?hr ?hp (fun _ hk => hk) trivial (Below.refl _ _) (Nat.le_refl _) (by simp) ?_; (case hd => rfl); (case hg => rfl); (case hr => first | (go_simp; done) | (go_simp; rfl)); (case hp => exact (Reps.none _ _)); intro v133 w2 ho3 hb hg_ hnew_; clear hg_ hnew_; (first | rw [← Ny132.out] at ho3 | (simp only [Int.reduceToNat] at ho3; rw [← Ny132.out] at ho3)); have n0_ := Zaa.mk (Kd.Zb9 ho3 (Zal (by repeat (first | (with_reducible first | exact HB.out | apply Zac | apply Za | apply Zab) | exact HB.out)))); have n1_ := Zaa.mk (Zay (by repeat (first | (with_reducible first | exact HB.out | apply Zac | apply Za | apply Zab) | exact HB.out)) hb); clear HB; have HO134 := n0_; have HB := n1_; clear n0_ n1_; clear hb ho3)))
 go_loopg [3, 4] k (fun kq v3 v4 w' => ∃ (x3_1 : List Int) (x4_1 : Int), v4 = .int .i64 x4_1 ∧ Zaa (Zai.l0 kq l0 x3_1 x4_1 = some r) ∧ Zaa (kq ≤ k) ∧ Zaa (Kd.R (Kd.int .i64) 3 w' w.heap.size (fun _ => True) v3 x3_1) ∧ Zaa (Below w.heap.size w w'))
 case atStart => exact ⟨(y132), (0), (by first | rfl | (simp; done) | (simp [*]; done)), H', ⟨Nat.le_refl _⟩, ⟨by (with_reducible repeat (first | apply Kd.R_alloc | apply Kd.Zap | apply Kd.Zav)); exact HO134.out⟩, ⟨by repeat (first | (with_reducible first | exact HB.out | apply Zac | apply Za | apply Zab) | exact HB.out)⟩⟩
 case round =>
  clear H'
  try clear p2
  try clear c3
  obtain ⟨x3_1, x4_1, rfl, HA, HK1, HO_3, HB⟩ := hrel
  cases gk with
  | zero => exact absurd HA.out (by simp [Zai.l0])
  | succ k1 =>
   have H := HA.out
   clear HA
   simp only [Zai.l0] at H
   by_cases c4 : x4_1 < (l0.length : Int)
   rotate_left
   ·rw [if_neg c4] at H
    have c4b0 : decide (x4_1 < (l0.length : Int)) = false := decide_eq_false c4
    clear c4
    obtain rfl := Option.some.inj H
    go_wp2
    repeat (go_quiet (fail); try go_wp2)
    go_ret
    exact ⟨_, by first | rfl | (simp [Za1, Za2] <;> rfl) | (simp [*, Za1, Za2] <;> rfl), by (with_reducible repeat (first | apply Kd.R_alloc | apply Kd.Zap | apply Kd.Zav)); exact HO_3.out, by repeat (first | (with_reducible first | exact HB.out | apply Zac | apply Za | apply Zab) | exact HB.out)⟩

   rw [if_pos c4] at H
   have c4b0 : decide (x4_1 < (l0.length : Int)) = true := decide_eq_true c4
   clear c4
   obtain ⟨y135, hy135⟩ : ∃ y_ : List Int, y_ = (([] : List Int)) := ⟨_, rfl⟩
   replace H : (if 0 ≤ x4_1 then ((Za8.f k1 x3_1 (rd l0 x4_1)).bind fun t139 => (Zai.l1 k1 l0 x3_1 x4_1 y135 t139 0)) else (none)) = some r := by first | (rw [hy135]; with_reducible exact H) | (have H2_ := (Option.bind_some _ _).symm.trans H; rw [hy135]; with_reducible exact H2_) | (have H2_ := (Option.bind_some _ _).symm.trans H; with_reducible exact H2_) | with_reducible exact H | (rw [hy135]; exact H) | exact H
   have Ny135 := Zaa.mk hy135
   clear hy135
   by_cases c5 : 0 ≤ x4_1
   rotate_left
   ·rw [if_neg c5] at H
    exact absurd H (by simp)
   rw [if_pos c5] at H
   have c5b0 : decide (0 ≤ x4_1) = true := decide_eq_true c5
   clear c5
   replace H := Option.bind_eq_some_iff.mp H
   obtain ⟨t139, A60, H⟩ := H
   replace H : (Zai.l1 k1 l0 x3_1 x4_1 y135 t139 0) = some r := H
   have A6 := Zaa.mk A60
   clear A60
   have H' := Zaa.mk H
   clear H
   go_wp2_with (first | ((with_reducible refine Zb2 (N := 15) rfl ?_); refine Kd.Zdu (Kd.int .i64) _ 3 ?hg (N := 15) ?hd (xs := ([] : List Int)) (inner := []) (ok := fun _ => True) (okp := fun _ => True) ?hr ?hp (fun _ hk => hk) trivial (Below.refl _ _) (Nat.le_refl _) (by simp) ?_; (case hd => rfl); (case hg => rfl); (case hr => first | (go_simp; done) | (go_simp; rfl)); (case hp => exact (Reps.none _ _)); intro v136 w7 ho8 hb hg_ hnew_; clear hg_ hnew_; (first | rw [← Ny135.out] at ho8 | (simp only [Int.reduceToNat] at ho8; rw [← Ny135.out] at ho8)); have n0_ := Zaa.mk (Kd.Zcs (by (with_reducible repeat (first | apply Kd.R_alloc | apply Kd.Zap | apply Kd.Zav)); exact HO_3.out) (Kd.Zco ho8) hb); have n1_ := Zaa.mk (Kd.Zb9 (Kd.Zc8 ho8 (Kd.R_lt (by (with_reducible repeat (first | apply Kd.R_alloc | apply Kd.Zap | apply Kd.Zav)); exact HO_3.out))) (Zal (by repeat (first | (with_reducible first | exact HB.out | apply Zac | apply Za | apply Zab) | exact HB.out)))); have n2_ := Zaa.mk (Zay (by repeat (first | (with_reducible first | exact HB.out | apply Zac | apply Za | apply Zab) | exact HB.out)) hb); clear HO_3; clear HB; have HO_3 := n0_; have HO137 := n1_; have HB := n2_; clear n0_ n1_ n2_; clear hb ho8; have p138 : 0 ≤ (x4_1 : Int) := of_decide_eq_true (by first | (with_reducible assumption) | assumption); have q138 : x4_1 < (l0.length : Int) := of_decide_eq_true (by first | (with_reducible assumption) | assumption); obtain ⟨ad138, e138, hx138_0⟩ := Kd.Zb6 HR0.out x4_1 p138 q138; cases e138; replace hx138_0 := (HB.out.cell (World.block_lt_of_cell? w _ hx138_0)).trans hx138_0; replace p138 := eq_true p138; replace q138 := eq_true q138; obtain ⟨Ao9, co9, eo9⟩ := Kd.Zcb HO_3.out; subst eo9) | (go_at_call 31; (with_reducible refine (Za8.calls k1 _ _ x3_1 (rd l0 x4_1) t139 _ ?side1 ?side2 A6.out).mono ?_); (case side1 => repeat (first | exact (Kd.Zbi HO_3.out).2.2 | (with_reducible refine Kd.C_alloc ?_ _) | (with_reducible refine Kd.Za0 ?_ _) | (with_reducible refine Kd.C_drew ?_))); (case side2 => exact (Kd.Zbi HO_3.out).2.1); rintro e w' ⟨rfl, ⟨nd, rfl⟩⟩; (try first | exact ⟨rfl, _, World.drewN_drewN _ _ _⟩ | exact ⟨rfl, _, Eq.trans (World.drewN_drewN _ _ _) (congrArg (World.drewN _) (Nat.add_assoc _ _ _))⟩)))
   repeat (go_quiet (first | ((with_reducible refine Zb2 (N := 15) rfl ?_); refine Kd.Zdu (Kd.int .i64) _ 3 ?hg (N := 15) ?hd (xs := ([] : List Int)) (inner := []) (ok := fun _ => True) (okp := fun _ => True) ?hr ?hp (fun _ hk => hk) trivial (Below.refl _ _) (Nat.le_refl _) (by simp) ?_; (case hd => rfl); (case hg => rfl); (case hr => first | (go_simp; done) | (go_simp; rfl)); (case hp => exact (Reps.none _ _)); intro v136 w7 ho8 hb hg_ hnew_; clear hg_ hnew_; (first | rw [← Ny135.out] at ho8 | (simp only [Int.reduceToNat] at ho8; rw [← Ny135.out] at ho8)); have n0_ := Zaa.mk (Kd.Zcs (by (with_reducible repeat (first | apply Kd.R_alloc | apply Kd.Zap | apply Kd.Zav)); exact HO_3.out) (Kd.Zco ho8) hb); have n1_ := Zaa.mk (Kd.Zb9 (Kd.Zc8 ho8 (Kd.R_lt (by (with_reducible repeat (first | apply Kd.R_alloc | apply Kd.Zap | apply Kd.Zav)); exact HO_3.out))) (Zal (by repeat (first | (with_reducible first | exact HB.out | apply Zac | apply Za | apply Zab) | exact HB.out)))); have n2_ := Zaa.mk (Zay (by repeat (first | (with_reducible first | exact HB.out | apply Zac | apply Za | apply Zab) | exact HB.out)) hb); clear HO_3; clear HB; have HO_3 := n0_; have HO137 := n1_; have HB := n2_; clear n0_ n1_ n2_; clear hb ho8; have p138 : 0 ≤ (x4_1 : Int) := of_decide_eq_true (by first | (with_reducible assumption) | assumption); have q138 : x4_1 < (l0.length : Int) := of_decide_eq_true (by first | (with_reducible assumption) | assumption); obtain ⟨ad138, e138, hx138_0⟩ := Kd.Zb6 HR0.out x4_1 p138 q138; cases e138; replace hx138_0 := (HB.out.cell (World.block_lt_of_cell? w _ hx138_0)).trans hx138_0; replace p138 := eq_true p138; replace q138 := eq_true q138; obtain ⟨Ao9, co9, eo9⟩ := Kd.Zcb HO_3.out; subst eo9) | (go_at_call 31; (with_reducible refine (Za8.calls k1 _ _ x3_1 (rd l0 x4_1) t139 _ ?side1 ?side2 A6.out).mono ?_); (case side1 => repeat (first | exact (Kd.Zbi HO_3.out).2.2 | (with_reducible refine Kd.C_alloc ?_ _) | (with_reducible refine Kd.Za0 ?_ _) | (with_reducible refine Kd.C_drew ?_))); (case side2 => exact (Kd.Zbi HO_3.out).2.1); rintro e w' ⟨rfl, ⟨nd, rfl⟩⟩; (try first | exact ⟨rfl, _, World.drewN_drewN _ _ _⟩ | exact ⟨rfl, _, Eq.trans (World.drewN_drewN _ _ _) (congrArg (World.drewN _) (Nat.add_assoc _ _ _))⟩))); try go_wp2_with (first | ((with_reducible refine Zb2 (N := 15) rfl ?_); refine Kd.Zdu (Kd.int .i64) _ 3 ?hg (N := 15) ?hd (xs := ([] : List Int)) (inner := []) (ok := fun _ => True) (okp := fun _ => True) ?hr ?hp (fun _ hk => hk) trivial (Below.refl _ _) (Nat.le_refl _) (by simp) ?_; (case hd => rfl); (case hg => rfl); (case hr => first | (go_simp; done) | (go_simp; rfl)); (case hp => exact (Reps.none _ _)); intro v136 w7 ho8 hb hg_ hnew_; clear hg_ hnew_; (first | rw [← Ny135.out] at ho8 | (simp only [Int.reduceToNat] at ho8; rw [← Ny135.out] at ho8)); have n0_ := Zaa.mk (Kd.Zcs (by (with_reducible repeat (first | apply Kd.R_alloc | apply Kd.Zap | apply Kd.Zav)); exact HO_3.out) (Kd.Zco ho8) hb); have n1_ := Zaa.mk (Kd.Zb9 (Kd.Zc8 ho8 (Kd.R_lt (by (with_reducible repeat (first | apply Kd.R_alloc | apply Kd.Zap | apply Kd.Zav)); exact HO_3.out))) (Zal (by repeat (first | (with_reducible first | exact HB.out | apply Zac | apply Za | apply Zab) | exact HB.out)))); have n2_ := Zaa.mk (Zay (by repeat (first | (with_reducible first | exact HB.out | apply Zac | apply Za | apply Zab) | exact HB.out)) hb); clear HO_3; clear HB; have HO_3 := n0_; have HO137 := n1_; have HB := n2_; clear n0_ n1_ n2_; clear hb ho8; have p138 : 0 ≤ (x4_1 : Int) := of_decide_eq_true (by first | (with_reducible assumption) | assumption); have q138 : x4_1 < (l0.length : Int) := of_decide_eq_true (by first | (with_reducible assumption) | assumption); obtain ⟨ad138, e138, hx138_0⟩ := Kd.Zb6 HR0.out x4_1 p138 q138; cases e138; replace hx138_0 := (HB.out.cell (World.block_lt_of_cell? w _ hx138_0)).trans hx138_0; replace p138 := eq_true p138; replace q138 := eq_true q138; obtain ⟨Ao9, co9, eo9⟩ := Kd.Zcb HO_3.out; subst eo9) | (go_at_call 31; (with_reducible refine (Za8.calls k1 _ _ x3_1 (rd l0 x4_1) t139 _ ?side1 ?side2 A6.out).mono ?_); (case side1 => repeat (first | exact (Kd.Zbi HO_3.out).2.2 | (with_reducible refine Kd.C_alloc ?_ _) | (with_reducible refine Kd.Za0 ?_ _) | (with_reducible refine Kd.C_drew ?_))); (case side2 => exact (Kd.Zbi HO_3.out).2.1); rintro e w' ⟨rfl, ⟨nd, rfl⟩⟩; (try first | exact ⟨rfl, _, World.drewN_drewN _ _ _⟩ | exact ⟨rfl, _, Eq.trans (World.drewN_drewN _ _ _) (congrArg (World.drewN _) (Nat.add_assoc _ _ _))⟩))))
   go_loopg [5, 6, 7] k1 (fun kq v5 v6 v7 w' => ∃ (x5_2 : List Int) (x6_2 : Bool) (x7_2 : Int), v6 = .bool x6_2 ∧ v7 = .int .i64 x7_2 ∧ Zaa (Zai.l1 kq l0 x3_1 x4_1 x5_2 x6_2 x7_2 = some r) ∧ Zaa (kq ≤ k1) ∧ Zaa (Kd.R (Kd.int .i64) 3 w' w.heap.size (fun k_ => some k_ ≠ (v5 : Value).ownBlock) (.slice Ao9 x3_1.length co9) x3_1) ∧ Zaa (Kd.R (Kd.int .i64) 3 w' w.heap.size (fun k_ => some k_ ≠ ((.slice Ao9 x3_1.length co9) : Value).ownBlock) v5 x5_2) ∧ Zaa (Below w.heap.size w w'))
   case atStart => exact ⟨(y135), (t139), (0), (by first | rfl | (simp; done) | (simp [*]; done)), (by first | rfl | (simp; done) | (simp [*]; done)), H', ⟨Nat.le_refl _⟩, ⟨by (with_reducible repeat (first | apply Kd.R_alloc | apply Kd.Zap | apply Kd.Zav)); exact Kd.Zbs HO_3.out (fun _ hk => hk.2)⟩, ⟨by (with_reducible repeat (first | apply Kd.R_alloc | apply Kd.Zap | apply Kd.Zav)); exact Kd.Zbs HO137.out (fun _ hk => hk.2)⟩, ⟨by repeat (first | (with_reducible first | exact HB.out | apply Zac | apply Za | apply Zab) | exact HB.out)⟩⟩
   case round =>
    clear H'
    try clear p1
    try clear q1
    try clear hx1
    try clear p2
    try clear c3
    try clear c4
    try clear c4b0
    try clear c5
    try clear c5b0
    try clear hx138_0
    try clear p138
    try clear p2
    try clear q138
    obtain ⟨x5_2, x6_2, x7_2, rfl, rfl, HA, HK2, HO_3, HO_5, HB⟩ := hrel
    cases gk with
    | zero => exact absurd HA.out (by simp [Zai.l1])
    | succ k2 =>
     have H := HA.out
     clear HA
     simp only [Zai.l1] at H
     by_cases c10 : x7_2 < (x3_1.length : Int)
     rotate_left
     ·rw [if_neg c10] at H
      have c10b0 : decide (x7_2 < (x3_1.length : Int)) = false := decide_eq_false c10
      clear c10
      by_cases c25 : x6_2 = true
      ·subst c25
       have H1 : (Zai.l0 k2 l0 x5_2 (wrap64 (x4_1 + 1))) = some r := by rw [if_pos rfl] at H; exact H
       clear H
       have H := H1
       clear H1
       have H' := Zaa.mk H
       clear H
       go_wp2
       repeat (go_quiet (fail); try go_wp2)
       go_roundg k2
       case measure => have := HK1.out; have := HK2.out; omega
       case rel => exact ⟨(x5_2), (wrap64 (x4_1 + 1)), (by first | rfl | (simp; done) | (simp [*]; done)), H', ⟨by have := HK1.out; have := HK2.out; omega⟩, ⟨by (with_reducible repeat (first | apply Kd.R_alloc | apply Kd.Zap | apply Kd.Zav)); exact Kd.Zbs HO_5.out (fun _ hk => trivial)⟩, ⟨by repeat (first | (with_reducible first | exact HB.out | apply Zac | apply Za | apply Zab) | exact HB.out)⟩⟩
      replace c25 := Bool.eq_false_iff.mpr c25
      subst c25
      have H1 : (if 0 ≤ x4_1 then (if x4_1 < (l0.length : Int) then (if x5_2.length < 17592186044416 then (Zai.l0 k2 l0 (x5_2 ++ [rd l0 x4_1]) (wrap64 (x4_1 + 1))) else (none)) else (none)) else (none)) = some r := by rw [if_neg (show ¬ (false = true) by decide)] at H; exact H
      clear H
      have H := H1
      clear H1
      by_cases c26 : 0 ≤ x4_1
      rotate_left
      ·rw [if_neg c26] at H
       exact absurd H (by simp)
      rw [if_pos c26] at H
      have c26b0 : decide (0 ≤ x4_1) = true := decide_eq_true c26
      clear c26
      by_cases c27 : x4_1 < (l0.length : Int)
      rotate_left
      ·rw [if_neg c27] at H
       exact absurd H (by simp)
      rw [if_pos c27] at H
      have c27b0 : decide (x4_1 < (l0.length : Int)) = true := decide_eq_true c27
      clear c27
      by_cases c28 : x5_2.length < 17592186044416
      rotate_left
      ·rw [if_neg c28] at H
       exact absurd H (by simp)
      rw [if_pos c28] at H
      have LMc28 := Zaa.mk c28
      clear c28
      obtain ⟨y159, hy159⟩ : ∃ y_ : List Int, y_ = (x5_2 ++ [rd l0 x4_1]) := ⟨_, rfl⟩
      replace H : (Zai.l0 k2 l0 y159 (wrap64 (x4_1 + 1))) = some r := by first | (rw [hy159]; with_reducible exact H) | (have H2_ := (Option.bind_some _ _).symm.trans H; rw [hy159]; with_reducible exact H2_) | (have H2_ := (Option.bind_some _ _).symm.trans H; with_reducible exact H2_) | with_reducible exact H | (rw [hy159]; exact H) | exact H
      have Ny159 := Zaa.mk hy159
      clear hy159
      have H' := Zaa.mk H
      clear H
      have p158 : 0 ≤ (x4_1 : Int) := of_decide_eq_true (by first | (with_reducible assumption) | assumption)
      have q158 : x4_1 < (l0.length : Int) := of_decide_eq_true (by first | (with_reducible assumption) | assumption)
      obtain ⟨ad158, e158, hx158_0⟩ := Kd.Zb6 HR0.out x4_1 p158 q158
      obtain rfl : ad138 = ad158 := (by injection e158)
      replace hx158_0 := (HB.out.cell (World.block_lt_of_cell? w _ hx158_0)).trans hx158_0
      replace p158 := eq_true p158
      replace q158 := eq_true q158
      go_wp2_with (first | ((with_reducible refine Zbt (b := .append) (xs := #[.tmp 57, .tmp 62]) rfl ?_); at_builtin; refine Kd.Zcj (Kd.int .i64) (w0 := w) w.heap.size rfl (.tmp 57) (.tmp 62) 23 3 (.int .i64 0) 8 rfl Try.underlying23 info3 rfl (by decide) (by omega) u5 x5_2 (rd l0 x4_1) [.int .i64 (rd l0 x4_1)] (fun k_ => some k_ ≠ (.slice Ao9 x3_1.length co9 : Value).ownBlock) (fun _ => False) rfl rfl ?aP (fun _ hk => hk.elim) ?aF ?aO ?aB ?aS ?aL ?_; (case aP => exact rfl); (case aB => exact (by repeat (first | (with_reducible first | exact HB.out | apply Zac | apply Za | apply Zab) | exact HB.out))); (case aF => exact (fun k_ hk => Kd.fresh' (Kd.R_lt (by (with_reducible repeat (first | apply Kd.R_alloc | apply Kd.Zap | apply Kd.Zav)); exact HO_3.out)) k_ hk)); (case aO => exact (by (with_reducible repeat (first | apply Kd.R_alloc | apply Kd.Zap | apply Kd.Zav)); exact HO_5.out)); (case aS => exact (Zal (by repeat (first | (with_reducible first | exact HB.out | apply Zac | apply Za | apply Zab) | exact HB.out)))); (case aL => have := LMc28.out; omega); intro v160 w29 ho hb hg hat; rw [← Ny159.out] at ho; have n0_ := Zaa.mk (Kd.Zct (ok := (fun _ => True)) (by (with_reducible repeat (first | apply Kd.R_alloc | apply Kd.Zap | apply Kd.Zav)); exact Kd.Zbs HO_3.out (fun _ hk => ⟨trivial, hk⟩)) hg hat); have n1_ := Zaa.mk (hb); have n2_ := Zaa.mk (ho); clear HO_3; clear HB; clear HO_5; have HO_3 := n0_; have HB := n1_; have HO161 := n2_; clear n0_ n1_ n2_; clear ho hb hg hat))
      repeat (go_quiet (first | ((with_reducible refine Zbt (b := .append) (xs := #[.tmp 57, .tmp 62]) rfl ?_); at_builtin; refine Kd.Zcj (Kd.int .i64) (w0 := w) w.heap.size rfl (.tmp 57) (.tmp 62) 23 3 (.int .i64 0) 8 rfl Try.underlying23 info3 rfl (by decide) (by omega) u5 x5_2 (rd l0 x4_1) [.int .i64 (rd l0 x4_1)] (fun k_ => some k_ ≠ (.slice Ao9 x3_1.length co9 : Value).ownBlock) (fun _ => False) rfl rfl ?aP (fun _ hk => hk.elim) ?aF ?aO ?aB ?aS ?aL ?_; (case aP => exact rfl); (case aB => exact (by repeat (first | (with_reducible first | exact HB.out | apply Zac | apply Za | apply Zab) | exact HB.out))); (case aF => exact (fun k_ hk => Kd.fresh' (Kd.R_lt (by (with_reducible repeat (first | apply Kd.R_alloc | apply Kd.Zap | apply Kd.Zav)); exact HO_3.out)) k_ hk)); (case aO => exact (by (with_reducible repeat (first | apply Kd.R_alloc | apply Kd.Zap | apply Kd.Zav)); exact HO_5.out)); (case aS => exact (Zal (by repeat (first | (with_reducible first | exact HB.out | apply Zac | apply Za | apply Zab) | exact HB.out)))); (case aL => have := LMc28.out; omega); intro v160 w29 ho hb hg hat; rw [← Ny159.out] at ho; have n0_ := Zaa.mk (Kd.Zct (ok := (fun _ => True)) (by (with_reducible repeat (first | apply Kd.R_alloc | apply Kd.Zap | apply Kd.Zav)); exact Kd.Zbs HO_3.out (fun _ hk => ⟨trivial, hk⟩)) hg hat); have n1_ := Zaa.mk (hb); have n2_ := Zaa.mk (ho); clear HO_3; clear HB; clear HO_5; have HO_3 := n0_; have HB := n1_; have HO161 := n2_; clear n0_ n1_ n2_; clear ho hb hg hat)); try go_wp2_with (first | ((with_reducible refine Zbt (b := .append) (xs := #[.tmp 57, .tmp 62]) rfl ?_); at_builtin; refine Kd.Zcj (Kd.int .i64) (w0 := w) w.heap.size rfl (.tmp 57) (.tmp 62) 23 3 (.int .i64 0) 8 rfl Try.underlying23 info3 rfl (by decide) (by omega) u5 x5_2 (rd l0 x4_1) [.int .i64 (rd l0 x4_1)] (fun k_ => some k_ ≠ (.slice Ao9 x3_1.length co9 : Value).ownBlock) (fun _ => False) rfl rfl ?aP (fun _ hk => hk.elim) ?aF ?aO ?aB ?aS ?aL ?_; (case aP => exact rfl); (case aB => exact (by repeat (first | (with_reducible first | exact HB.out | apply Zac | apply Za | apply Zab) | exact HB.out))); (case aF => exact (fun k_ hk => Kd.fresh' (Kd.R_lt (by (with_reducible repeat (first | apply Kd.R_alloc | apply Kd.Zap | apply Kd.Zav)); exact HO_3.out)) k_ hk)); (case aO => exact (by (with_reducible repeat (first | apply Kd.R_alloc | apply Kd.Zap | apply Kd.Zav)); exact HO_5.out)); (case aS => exact (Zal (by repeat (first | (with_reducible first | exact HB.out | apply Zac | apply Za | apply Zab) | exact HB.out)))); (case aL => have := LMc28.out; omega); intro v160 w29 ho hb hg hat; rw [← Ny159.out] at ho; have n0_ := Zaa.mk (Kd.Zct (ok := (fun _ => True)) (by (with_reducible repeat (first | apply Kd.R_alloc | apply Kd.Zap | apply Kd.Zav)); exact Kd.Zbs HO_3.out (fun _ hk => ⟨trivial, hk⟩)) hg hat); have n1_ := Zaa.mk (hb); have n2_ := Zaa.mk (ho); clear HO_3; clear HB; clear HO_5; have HO_3 := n0_; have HB := n1_; have HO161 := n2_; clear n0_ n1_ n2_; clear ho hb hg hat)))
      go_roundg k2
      case measure => have := HK1.out; have := HK2.out; omega
      case rel => exact ⟨(y159), (wrap64 (x4_1 + 1)), (by first | rfl | (simp; done) | (simp [*]; done)), H', ⟨by have := HK1.out; have := HK2.out; omega⟩, ⟨by (with_reducible repeat (first | apply Kd.R_alloc | apply Kd.Zap | apply Kd.Zav)); exact Kd.Zbs HO161.out (fun _ hk => trivial)⟩, ⟨by repeat (first | (with_reducible first | exact HB.out | apply Zac | apply Za | apply Zab) | exact HB.out)⟩⟩
     rw [if_pos c10] at H
     have c10b0 : decide (x7_2 < (x3_1.length : Int)) = true := decide_eq_true c10
     clear c10
     by_cases c11 : x6_2 = true
     ·subst c11
      have H1 : (if 0 ≤ x7_2 then (if x5_2.length < 17592186044416 then (Zai.l1 k2 l0 x3_1 x4_1 (x5_2 ++ [rd x3_1 x7_2]) true (wrap64 (x7_2 + 1))) else (none)) else (none)) = some r := by rw [if_pos rfl] at H; exact H
      clear H
      have H := H1
      clear H1
      by_cases c12 : 0 ≤ x7_2
      rotate_left
      ·rw [if_neg c12] at H
       exact absurd H (by simp)
      rw [if_pos c12] at H
      have c12b0 : decide (0 ≤ x7_2) = true := decide_eq_true c12
      clear c12
      by_cases c13 : x5_2.length < 17592186044416
      rotate_left
      ·rw [if_neg c13] at H
       exact absurd H (by simp)
      rw [if_pos c13] at H
      have LMc13 := Zaa.mk c13
      clear c13
      obtain ⟨y141, hy141⟩ : ∃ y_ : List Int, y_ = (x5_2 ++ [rd x3_1 x7_2]) := ⟨_, rfl⟩
      replace H : (Zai.l1 k2 l0 x3_1 x4_1 y141 true (wrap64 (x7_2 + 1))) = some r := by first | (rw [hy141]; with_reducible exact H) | (have H2_ := (Option.bind_some _ _).symm.trans H; rw [hy141]; with_reducible exact H2_) | (have H2_ := (Option.bind_some _ _).symm.trans H; with_reducible exact H2_) | with_reducible exact H | (rw [hy141]; exact H) | exact H
      have Ny141 := Zaa.mk hy141
      clear hy141
      have H' := Zaa.mk H
      clear H
      have p140 : 0 ≤ (x7_2 : Int) := of_decide_eq_true (by first | (with_reducible assumption) | assumption)
      have q140 : x7_2 < (x3_1.length : Int) := of_decide_eq_true (by first | (with_reducible assumption) | assumption)
      obtain ⟨ad140, e140, hx140_0⟩ := Kd.Zb6 (Kd.Zbi HO_3.out).2.2 x7_2 p140 q140
      cases e140
      replace p140 := eq_true p140
      replace q140 := eq_true q140
      go_wp2_with (first | ((with_reducible refine Zbt (b := .append) (xs := #[.tmp 48, .tmp 53]) rfl ?_); at_builtin; refine Kd.Zcj (Kd.int .i64) (w0 := w) w.heap.size rfl (.tmp 48) (.tmp 53) 23 3 (.int .i64 0) 8 rfl Try.underlying23 info3 rfl (by decide) (by omega) u5 x5_2 (rd x3_1 x7_2) [.int .i64 (rd x3_1 x7_2)] (fun k_ => some k_ ≠ (.slice (some ad140) x3_1.length co9 : Value).ownBlock) (fun _ => False) rfl rfl ?aP (fun _ hk => hk.elim) ?aF ?aO ?aB ?aS ?aL ?_; (case aP => exact rfl); (case aB => exact (by repeat (first | (with_reducible first | exact HB.out | apply Zac | apply Za | apply Zab) | exact HB.out))); (case aF => exact (fun k_ hk => Kd.fresh' (Kd.R_lt (by (with_reducible repeat (first | apply Kd.R_alloc | apply Kd.Zap | apply Kd.Zav)); exact HO_3.out)) k_ hk)); (case aO => exact (by (with_reducible repeat (first | apply Kd.R_alloc | apply Kd.Zap | apply Kd.Zav)); exact HO_5.out)); (case aS => exact (Zal (by repeat (first | (with_reducible first | exact HB.out | apply Zac | apply Za | apply Zab) | exact HB.out)))); (case aL => have := LMc13.out; omega); intro v142 w14 ho hb hg hat; rw [← Ny141.out] at ho; have n0_ := Zaa.mk (Kd.Zct (ok := (fun _ => True)) (by (with_reducible repeat (first | apply Kd.R_alloc | apply Kd.Zap | apply Kd.Zav)); exact Kd.Zbs HO_3.out (fun _ hk => ⟨trivial, hk⟩)) hg hat); have n1_ := Zaa.mk (hb); have n2_ := Zaa.mk (ho); clear HO_3; clear HB; clear HO_5; have HO_3 := n0_; have HB := n1_; have HO143 := n2_; clear n0_ n1_ n2_; clear ho hb hg hat))
      repeat (go_quiet (first | ((with_reducible refine Zbt (b := .append) (xs := #[.tmp 48, .tmp 53]) rfl ?_); at_builtin; refine Kd.Zcj (Kd.int .i64) (w0 := w) w.heap.size rfl (.tmp 48) (.tmp 53) 23 3 (.int .i64 0) 8 rfl Try.underlying23 info3 rfl (by decide) (by omega) u5 x5_2 (rd x3_1 x7_2) [.int .i64 (rd x3_1 x7_2)] (fun k_ => some k_ ≠ (.slice (some ad140) x3_1.length co9 : Value).ownBlock) (fun _ => False) rfl rfl ?aP (fun _ hk => hk.elim) ?aF ?aO ?aB ?aS ?aL ?_; (case aP => exact rfl); (case aB => exact (by repeat (first | (with_reducible first | exact HB.out | apply Zac | apply Za | apply Zab) | exact HB.out))); (case aF => exact (fun k_ hk => Kd.fresh' (Kd.R_lt (by (with_reducible repeat (first | apply Kd.R_alloc | apply Kd.Zap | apply Kd.Zav)); exact HO_3.out)) k_ hk)); (case aO => exact (by (with_reducible repeat (first | apply Kd.R_alloc | apply Kd.Zap | apply Kd.Zav)); exact HO_5.out)); (case aS => exact (Zal (by repeat (first | (with_reducible first | exact HB.out | apply Zac | apply Za | apply Zab) | exact HB.out)))); (case aL => have := LMc13.out; omega); intro v142 w14 ho hb hg hat; rw [← Ny141.out] at ho; have n0_ := Zaa.mk (Kd.Zct (ok := (fun _ => True)) (by (with_reducible repeat (first | apply Kd.R_alloc | apply Kd.Zap | apply Kd.Zav)); exact Kd.Zbs HO_3.out (fun _ hk => ⟨trivial, hk⟩)) hg hat); have n1_ := Zaa.mk (hb); have n2_ := Zaa.mk (ho); clear HO_3; clear HB; clear HO_5; have HO_3 := n0_; have HB := n1_; have HO143 := n2_; clear n0_ n1_ n2_; clear ho hb hg hat)); try go_wp2_with (first | ((with_reducible refine Zbt (b := .append) (xs := #[.tmp 48, .tmp 53]) rfl ?_); at_builtin; refine Kd.Zcj (Kd.int .i64) (w0 := w) w.heap.size rfl (.tmp 48) (.tmp 53) 23 3 (.int .i64 0) 8 rfl Try.underlying23 info3 rfl (by decide) (by omega) u5 x5_2 (rd x3_1 x7_2) [.int .i64 (rd x3_1 x7_2)] (fun k_ => some k_ ≠ (.slice (some ad140) x3_1.length co9 : Value).ownBlock) (fun _ => False) rfl rfl ?aP (fun _ hk => hk.elim) ?aF ?aO ?aB ?aS ?aL ?_; (case aP => exact rfl); (case aB => exact (by repeat (first | (with_reducible first | exact HB.out | apply Zac | apply Za | apply Zab) | exact HB.out))); (case aF => exact (fun k_ hk => Kd.fresh' (Kd.R_lt (by (with_reducible repeat (first | apply Kd.R_alloc | apply Kd.Zap | apply Kd.Zav)); exact HO_3.out)) k_ hk)); (case aO => exact (by (with_reducible repeat (first | apply Kd.R_alloc | apply Kd.Zap | apply Kd.Zav)); exact HO_5.out)); (case aS => exact (Zal (by repeat (first | (with_reducible first | exact HB.out | apply Zac | apply Za | apply Zab) | exact HB.out)))); (case aL => have := LMc13.out; omega); intro v142 w14 ho hb hg hat; rw [← Ny141.out] at ho; have n0_ := Zaa.mk (Kd.Zct (ok := (fun _ => True)) (by (with_reducible repeat (first | apply Kd.R_alloc | apply Kd.Zap | apply Kd.Zav)); exact Kd.Zbs HO_3.out (fun _ hk => ⟨trivial, hk⟩)) hg hat); have n1_ := Zaa.mk (hb); have n2_ := Zaa.mk (ho); clear HO_3; clear HB; clear HO_5; have HO_3 := n0_; have HB := n1_; have HO143 := n2_; clear n0_ n1_ n2_; clear ho hb hg hat)))
      go_roundg k2
      case measure => have := HK1.out; have := HK2.out; omega
      case rel => exact ⟨(y141), (true), (wrap64 (x7_2 + 1)), (by first | rfl | (simp; done) | (simp [*]; done)), (by first | rfl | (simp; done) | (simp [*]; done)), H', ⟨by have := HK1.out; have := HK2.out; omega⟩, ⟨by (with_reducible repeat (first | apply Kd.R_alloc | apply Kd.Zap | apply Kd.Zav)); exact Kd.Zbs HO_3.out (fun _ hk => hk.2)⟩, ⟨by (with_reducible repeat (first | apply Kd.R_alloc | apply Kd.Zap | apply Kd.Zav)); exact HO143.out⟩, ⟨by repeat (first | (with_reducible first | exact HB.out | apply Zac | apply Za | apply Zab) | exact HB.out)⟩⟩
     replace c11 := Bool.eq_false_iff.mpr c11
     subst c11
     have H1 : (if 0 ≤ x4_1 then (if x4_1 < (l0.length : Int) then (if 0 ≤ x7_2 then (if (rd l0 x4_1) < (rd x3_1 x7_2) then (if x5_2.length < 17592186044416 then ((some (x5_2 ++ [rd l0 x4_1] : List Int)).bind fun y147 => (if y147.length < 17592186044416 then (Zai.l1 k2 l0 x3_1 x4_1 (y147 ++ [rd x3_1 x7_2]) true (wrap64 (x7_2 + 1))) else (none))) else (none)) else (if x5_2.length < 17592186044416 then (Zai.l1 k2 l0 x3_1 x4_1 (x5_2 ++ [rd x3_1 x7_2]) false (wrap64 (x7_2 + 1))) else (none))) else (none)) else (none)) else (none)) = some r := by rw [if_neg (show ¬ (false = true) by decide)] at H; exact H
     clear H
     have H := H1
     clear H1
     by_cases c15 : 0 ≤ x4_1
     rotate_left
     ·rw [if_neg c15] at H
      exact absurd H (by simp)
     rw [if_pos c15] at H
     have c15b0 : decide (0 ≤ x4_1) = true := decide_eq_true c15
     clear c15
     by_cases c16 : x4_1 < (l0.length : Int)
     rotate_left
     ·rw [if_neg c16] at H
      exact absurd H (by simp)
     rw [if_pos c16] at H
     have c16b0 : decide (x4_1 < (l0.length : Int)) = true := decide_eq_true c16
     clear c16
     by_cases c17 : 0 ≤ x7_2
     rotate_left
     ·rw [if_neg c17] at H
      exact absurd H (by simp)
     rw [if_pos c17] at H
     have c17b0 : decide (0 ≤ x7_2) = true := decide_eq_true c17
     clear c17
     by_cases c18 : (rd l0 x4_1) < (rd x3_1 x7_2)
     rotate_left
     ·rw [if_neg c18] at H
      have c18b0 : decide ((rd l0 x4_1) < (rd x3_1 x7_2)) = false := decide_eq_false c18
      clear c18
      by_cases c23 : x5_2.length < 17592186044416
      rotate_left
      ·rw [if_neg c23] at H
       exact absurd H (by simp)
      rw [if_pos c23] at H
      have LMc23 := Zaa.mk c23
      clear c23
      obtain ⟨y155, hy155⟩ : ∃ y_ : List Int, y_ = (x5_2 ++ [rd x3_1 x7_2]) := ⟨_, rfl⟩
      replace H : (Zai.l1 k2 l0 x3_1 x4_1 y155 false (wrap64 (x7_2 + 1))) = some r := by first | (rw [hy155]; with_reducible exact H) | (have H2_ := (Option.bind_some _ _).symm.trans H; rw [hy155]; with_reducible exact H2_) | (have H2_ := (Option.bind_some _ _).symm.trans H; with_reducible exact H2_) | with_reducible exact H | (rw [hy155]; exact H) | exact H
      have Ny155 := Zaa.mk hy155
      clear hy155
      have H' := Zaa.mk H
      clear H
      have p144 : 0 ≤ (x4_1 : Int) := of_decide_eq_true (by first | (with_reducible assumption) | assumption)
      have q144 : x4_1 < (l0.length : Int) := of_decide_eq_true (by first | (with_reducible assumption) | assumption)
      obtain ⟨ad144, e144, hx144_0⟩ := Kd.Zb6 HR0.out x4_1 p144 q144
      obtain rfl : ad138 = ad144 := (by injection e144)
      replace hx144_0 := (HB.out.cell (World.block_lt_of_cell? w _ hx144_0)).trans hx144_0
      replace p144 := eq_true p144
      replace q144 := eq_true q144
      have p145 : 0 ≤ (x7_2 : Int) := of_decide_eq_true (by first | (with_reducible assumption) | assumption)
      have q145 : x7_2 < (x3_1.length : Int) := of_decide_eq_true (by first | (with_reducible assumption) | assumption)
      obtain ⟨ad145, e145, hx145_0⟩ := Kd.Zb6 (Kd.Zbi HO_3.out).2.2 x7_2 p145 q145
      cases e145
      replace p145 := eq_true p145
      replace q145 := eq_true q145
      have p154 : 0 ≤ (x7_2 : Int) := of_decide_eq_true (by first | (with_reducible assumption) | assumption)
      have q154 : x7_2 < (x3_1.length : Int) := of_decide_eq_true (by first | (with_reducible assumption) | assumption)
      obtain ⟨ad154, e154, hx154_0⟩ := Kd.Zb6 (Kd.Zbi HO_3.out).2.2 x7_2 p154 q154
      obtain rfl : ad145 = ad154 := (by injection e154)
      replace p154 := eq_true p154
      replace q154 := eq_true q154
      go_wp2_with (first | ((with_reducible refine Zbt (b := .append) (xs := #[.tmp 48, .tmp 53]) rfl ?_); at_builtin; refine Kd.Zcj (Kd.int .i64) (w0 := w) w.heap.size rfl (.tmp 48) (.tmp 53) 23 3 (.int .i64 0) 8 rfl Try.underlying23 info3 rfl (by decide) (by omega) u5 x5_2 (rd x3_1 x7_2) [.int .i64 (rd x3_1 x7_2)] (fun k_ => some k_ ≠ (.slice (some ad145) x3_1.length co9 : Value).ownBlock) (fun _ => False) rfl rfl ?aP (fun _ hk => hk.elim) ?aF ?aO ?aB ?aS ?aL ?_; (case aP => exact rfl); (case aB => exact (by repeat (first | (with_reducible first | exact HB.out | apply Zac | apply Za | apply Zab) | exact HB.out))); (case aF => exact (fun k_ hk => Kd.fresh' (Kd.R_lt (by (with_reducible repeat (first | apply Kd.R_alloc | apply Kd.Zap | apply Kd.Zav)); exact HO_3.out)) k_ hk)); (case aO => exact (by (with_reducible repeat (first | apply Kd.R_alloc | apply Kd.Zap | apply Kd.Zav)); exact HO_5.out)); (case aS => exact (Zal (by repeat (first | (with_reducible first | exact HB.out | apply Zac | apply Za | apply Zab) | exact HB.out)))); (case aL => have := LMc23.out; omega); intro v156 w24 ho hb hg hat; rw [← Ny155.out] at ho; have n0_ := Zaa.mk (Kd.Zct (ok := (fun _ => True)) (by (with_reducible repeat (first | apply Kd.R_alloc | apply Kd.Zap | apply Kd.Zav)); exact Kd.Zbs HO_3.out (fun _ hk => ⟨trivial, hk⟩)) hg hat); have n1_ := Zaa.mk (hb); have n2_ := Zaa.mk (ho); clear HO_3; clear HB; clear HO_5; have HO_3 := n0_; have HB := n1_; have HO157 := n2_; clear n0_ n1_ n2_; clear ho hb hg hat))
      repeat (go_quiet (first | ((with_reducible refine Zbt (b := .append) (xs := #[.tmp 48, .tmp 53]) rfl ?_); at_builtin; refine Kd.Zcj (Kd.int .i64) (w0 := w) w.heap.size rfl (.tmp 48) (.tmp 53) 23 3 (.int .i64 0) 8 rfl Try.underlying23 info3 rfl (by decide) (by omega) u5 x5_2 (rd x3_1 x7_2) [.int .i64 (rd x3_1 x7_2)] (fun k_ => some k_ ≠ (.slice (some ad145) x3_1.length co9 : Value).ownBlock) (fun _ => False) rfl rfl ?aP (fun _ hk => hk.elim) ?aF ?aO ?aB ?aS ?aL ?_; (case aP => exact rfl); (case aB => exact (by repeat (first | (with_reducible first | exact HB.out | apply Zac | apply Za | apply Zab) | exact HB.out))); (case aF => exact (fun k_ hk => Kd.fresh' (Kd.R_lt (by (with_reducible repeat (first | apply Kd.R_alloc | apply Kd.Zap | apply Kd.Zav)); exact HO_3.out)) k_ hk)); (case aO => exact (by (with_reducible repeat (first | apply Kd.R_alloc | apply Kd.Zap | apply Kd.Zav)); exact HO_5.out)); (case aS => exact (Zal (by repeat (first | (with_reducible first | exact HB.out | apply Zac | apply Za | apply Zab) | exact HB.out)))); (case aL => have := LMc23.out; omega); intro v156 w24 ho hb hg hat; rw [← Ny155.out] at ho; have n0_ := Zaa.mk (Kd.Zct (ok := (fun _ => True)) (by (with_reducible repeat (first | apply Kd.R_alloc | apply Kd.Zap | apply Kd.Zav)); exact Kd.Zbs HO_3.out (fun _ hk => ⟨trivial, hk⟩)) hg hat); have n1_ := Zaa.mk (hb); have n2_ := Zaa.mk (ho); clear HO_3; clear HB; clear HO_5; have HO_3 := n0_; have HB := n1_; have HO157 := n2_; clear n0_ n1_ n2_; clear ho hb hg hat)); try go_wp2_with (first | ((with_reducible refine Zbt (b := .append) (xs := #[.tmp 48, .tmp 53]) rfl ?_); at_builtin; refine Kd.Zcj (Kd.int .i64) (w0 := w) w.heap.size rfl (.tmp 48) (.tmp 53) 23 3 (.int .i64 0) 8 rfl Try.underlying23 info3 rfl (by decide) (by omega) u5 x5_2 (rd x3_1 x7_2) [.int .i64 (rd x3_1 x7_2)] (fun k_ => some k_ ≠ (.slice (some ad145) x3_1.length co9 : Value).ownBlock) (fun _ => False) rfl rfl ?aP (fun _ hk => hk.elim) ?aF ?aO ?aB ?aS ?aL ?_; (case aP => exact rfl); (case aB => exact (by repeat (first | (with_reducible first | exact HB.out | apply Zac | apply Za | apply Zab) | exact HB.out))); (case aF => exact (fun k_ hk => Kd.fresh' (Kd.R_lt (by (with_reducible repeat (first | apply Kd.R_alloc | apply Kd.Zap | apply Kd.Zav)); exact HO_3.out)) k_ hk)); (case aO => exact (by (with_reducible repeat (first | apply Kd.R_alloc | apply Kd.Zap | apply Kd.Zav)); exact HO_5.out)); (case aS => exact (Zal (by repeat (first | (with_reducible first | exact HB.out | apply Zac | apply Za | apply Zab) | exact HB.out)))); (case aL => have := LMc23.out; omega); intro v156 w24 ho hb hg hat; rw [← Ny155.out] at ho; have n0_ := Zaa.mk (Kd.Zct (ok := (fun _ => True)) (by (with_reducible repeat (first | apply Kd.R_alloc | apply Kd.Zap | apply Kd.Zav)); exact Kd.Zbs HO_3.out (fun _ hk => ⟨trivial, hk⟩)) hg hat); have n1_ := Zaa.mk (hb); have n2_ := Zaa.mk (ho); clear HO_3; clear HB; clear HO_5; have HO_3 := n0_; have HB := n1_; have HO157 := n2_; clear n0_ n1_ n2_; clear ho hb hg hat)))
      go_roundg k2
      case measure => have := HK1.out; have := HK2.out; omega
      case rel => exact ⟨(y155), (false), (wrap64 (x7_2 + 1)), (by first | rfl | (simp; done) | (simp [*]; done)), (by first | rfl | (simp; done) | (simp [*]; done)), H', ⟨by have := HK1.out; have := HK2.out; omega⟩, ⟨by (with_reducible repeat (first | apply Kd.R_alloc | apply Kd.Zap | apply Kd.Zav)); exact Kd.Zbs HO_3.out (fun _ hk => hk.2)⟩, ⟨by (with_reducible repeat (first | apply Kd.R_alloc | apply Kd.Zap | apply Kd.Zav)); exact HO157.out⟩, ⟨by repeat (first | (with_reducible first | exact HB.out | apply Zac | apply Za | apply Zab) | exact HB.out)⟩⟩
     rw [if_pos c18] at H
     have c18b0 : decide ((rd l0 x4_1) < (rd x3_1 x7_2)) = true := decide_eq_true c18
     clear c18
     by_cases c19 : x5_2.length < 17592186044416
     rotate_left
     ·rw [if_neg c19] at H
      exact absurd H (by simp)
     rw [if_pos c19] at H
     have LMc19 := Zaa.mk c19
     clear c19
     obtain ⟨y147, hy147⟩ : ∃ y_ : List Int, y_ = (x5_2 ++ [rd l0 x4_1]) := ⟨_, rfl⟩
     replace H : (if y147.length < 17592186044416 then (Zai.l1 k2 l0 x3_1 x4_1 (y147 ++ [rd x3_1 x7_2]) true (wrap64 (x7_2 + 1))) else (none)) = some r := by first | (rw [hy147]; with_reducible exact H) | (have H2_ := (Option.bind_some _ _).symm.trans H; rw [hy147]; with_reducible exact H2_) | (have H2_ := (Option.bind_some _ _).symm.trans H; with_reducible exact H2_) | with_reducible exact H | (rw [hy147]; exact H) | exact H
     have Ny147 := Zaa.mk hy147
     clear hy147
     by_cases c20 : y147.length < 17592186044416
     rotate_left
     ·rw [if_neg c20] at H
      exact absurd H (by simp)
     rw [if_pos c20] at H
     have LMc20 := Zaa.mk c20
     clear c20
     obtain ⟨y151, hy151⟩ : ∃ y_ : List Int, y_ = (y147 ++ [rd x3_1 x7_2]) := ⟨_, rfl⟩
     replace H : (Zai.l1 k2 l0 x3_1 x4_1 y151 true (wrap64 (x7_2 + 1))) = some r := by first | (rw [hy151]; with_reducible exact H) | (have H2_ := (Option.bind_some _ _).symm.trans H; rw [hy151]; with_reducible exact H2_) | (have H2_ := (Option.bind_some _ _).symm.trans H; with_reducible exact H2_) | with_reducible exact H | (rw [hy151]; exact H) | exact H
     have Ny151 := Zaa.mk hy151
     clear hy151
     have H' := Zaa.mk H
     clear H
     have p144 : 0 ≤ (x4_1 : Int) := of_decide_eq_true (by first | (with_reducible assumption) | assumption)
     have q144 : x4_1 < (l0.length : Int) := of_decide_eq_true (by first | (with_reducible assumption) | assumption)
     obtain ⟨ad144, e144, hx144_0⟩ := Kd.Zb6 HR0.out x4_1 p144 q144
     obtain rfl : ad138 = ad144 := (by injection e144)
     replace hx144_0 := (HB.out.cell (World.block_lt_of_cell? w _ hx144_0)).trans hx144_0
     replace p144 := eq_true p144
     replace q144 := eq_true q144
     have p145 : 0 ≤ (x7_2 : Int) := of_decide_eq_true (by first | (with_reducible assumption) | assumption)
     have q145 : x7_2 < (x3_1.length : Int) := of_decide_eq_true (by first | (with_reducible assumption) | assumption)
     obtain ⟨ad145, e145, hx145_0⟩ := Kd.Zb6 (Kd.Zbi HO_3.out).2.2 x7_2 p145 q145
     cases e145
     replace p145 := eq_true p145
     replace q145 := eq_true q145
     have p146 : 0 ≤ (x4_1 : Int) := of_decide_eq_true (by first | (with_reducible assumption) | assumption)
     have q146 : x4_1 < (l0.length : Int) := of_decide_eq_true (by first | (with_reducible assumption) | assumption)
     obtain ⟨ad146, e146, hx146_0⟩ := Kd.Zb6 HR0.out x4_1 p146 q146
     obtain rfl : ad138 = ad146 := (by injection e146)
     replace hx146_0 := (HB.out.cell (World.block_lt_of_cell? w _ hx146_0)).trans hx146_0
     replace p146 := eq_true p146
     replace q146 := eq_true q146
     go_wp2_with (first | ((with_reducible refine Zbt (b := .append) (xs := #[.tmp 41, .tmp 46]) rfl ?_); at_builtin; refine Kd.Zcj (Kd.int .i64) (w0 := w) w.heap.size rfl (.tmp 41) (.tmp 46) 23 3 (.int .i64 0) 8 rfl Try.underlying23 info3 rfl (by decide) (by omega) u5 x5_2 (rd l0 x4_1) [.int .i64 (rd l0 x4_1)] (fun k_ => some k_ ≠ (.slice (some ad145) x3_1.length co9 : Value).ownBlock) (fun _ => False) rfl rfl ?aP (fun _ hk => hk.elim) ?aF ?aO ?aB ?aS ?aL ?_; (case aP => exact rfl); (case aB => exact (by repeat (first | (with_reducible first | exact HB.out | apply Zac | apply Za | apply Zab) | exact HB.out))); (case aF => exact (fun k_ hk => Kd.fresh' (Kd.R_lt (by (with_reducible repeat (first | apply Kd.R_alloc | apply Kd.Zap | apply Kd.Zav)); exact HO_3.out)) k_ hk)); (case aO => exact (by (with_reducible repeat (first | apply Kd.R_alloc | apply Kd.Zap | apply Kd.Zav)); exact HO_5.out)); (case aS => exact (Zal (by repeat (first | (with_reducible first | exact HB.out | apply Zac | apply Za | apply Zab) | exact HB.out)))); (case aL => have := LMc19.out; omega); intro v148 w21 ho hb hg hat; rw [← Ny147.out] at ho; have n0_ := Zaa.mk (Kd.Zct (ok := (fun _ => True)) (by (with_reducible repeat (first | apply Kd.R_alloc | apply Kd.Zap | apply Kd.Zav)); exact Kd.Zbs HO_3.out (fun _ hk => ⟨trivial, hk⟩)) hg hat); have n1_ := Zaa.mk (hb); have n2_ := Zaa.mk (ho); clear HO_3; clear HB; clear HO_5; have HO_3 := n0_; have HB := n1_; have HO149 := n2_; clear n0_ n1_ n2_; clear ho hb hg hat; have p150 : 0 ≤ (x7_2 : Int) := of_decide_eq_true (by first | (with_reducible assumption) | assumption); have q150 : x7_2 < (x3_1.length : Int) := of_decide_eq_true (by first | (with_reducible assumption) | assumption); obtain ⟨ad150, e150, hx150_0⟩ := Kd.Zb6 (Kd.Zbi HO_3.out).2.2 x7_2 p150 q150; obtain rfl : ad145 = ad150 := (by injection e150); replace p150 := eq_true p150; replace q150 := eq_true q150) | ((with_reducible refine Zbt (b := .append) (xs := #[.tmp 48, .tmp 53]) rfl ?_); at_builtin; refine Kd.Zcj (Kd.int .i64) (w0 := w) w.heap.size rfl (.tmp 48) (.tmp 53) 23 3 (.int .i64 0) 8 rfl Try.underlying23 info3 rfl (by decide) (by omega) v148 y147 (rd x3_1 x7_2) [.int .i64 (rd x3_1 x7_2)] (fun k_ => some k_ ≠ (.slice (some ad145) x3_1.length co9 : Value).ownBlock) (fun _ => False) rfl rfl ?aP (fun _ hk => hk.elim) ?aF ?aO ?aB ?aS ?aL ?_; (case aP => exact rfl); (case aB => exact (by repeat (first | (with_reducible first | exact HB.out | apply Zac | apply Za | apply Zab) | exact HB.out))); (case aF => exact (fun k_ hk => Kd.fresh' (Kd.R_lt (by (with_reducible repeat (first | apply Kd.R_alloc | apply Kd.Zap | apply Kd.Zav)); exact HO_3.out)) k_ hk)); (case aO => exact (by (with_reducible repeat (first | apply Kd.R_alloc | apply Kd.Zap | apply Kd.Zav)); exact HO149.out)); (case aS => exact (Zal (by repeat (first | (with_reducible first | exact HB.out | apply Zac | apply Za | apply Zab) | exact HB.out)))); (case aL => have := LMc20.out; omega); intro v152 w22 ho hb hg hat; rw [← Ny151.out] at ho; have n0_ := Zaa.mk (Kd.Zct (ok := (fun _ => True)) (by (with_reducible repeat (first | apply Kd.R_alloc | apply Kd.Zap | apply Kd.Zav)); exact HO_3.out) hg hat); have n1_ := Zaa.mk (hb); have n2_ := Zaa.mk (ho); clear HO_3; clear HB; clear HO149; have HO_3 := n0_; have HB := n1_; have HO153 := n2_; clear n0_ n1_ n2_; clear ho hb hg hat))
     repeat (go_quiet (first | ((with_reducible refine Zbt (b := .append) (xs := #[.tmp 41, .tmp 46]) rfl ?_); at_builtin; refine Kd.Zcj (Kd.int .i64) (w0 := w) w.heap.size rfl (.tmp 41) (.tmp 46) 23 3 (.int .i64 0) 8 rfl Try.underlying23 info3 rfl (by decide) (by omega) u5 x5_2 (rd l0 x4_1) [.int .i64 (rd l0 x4_1)] (fun k_ => some k_ ≠ (.slice (some ad145) x3_1.length co9 : Value).ownBlock) (fun _ => False) rfl rfl ?aP (fun _ hk => hk.elim) ?aF ?aO ?aB ?aS ?aL ?_; (case aP => exact rfl); (case aB => exact (by repeat (first | (with_reducible first | exact HB.out | apply Zac | apply Za | apply Zab) | exact HB.out))); (case aF => exact (fun k_ hk => Kd.fresh' (Kd.R_lt (by (with_reducible repeat (first | apply Kd.R_alloc | apply Kd.Zap | apply Kd.Zav)); exact HO_3.out)) k_ hk)); (case aO => exact (by (with_reducible repeat (first | apply Kd.R_alloc | apply Kd.Zap | apply Kd.Zav)); exact HO_5.out)); (case aS => exact (Zal (by repeat (first | (with_reducible first | exact HB.out | apply Zac | apply Za | apply Zab) | exact HB.out)))); (case aL => have := LMc19.out; omega); intro v148 w21 ho hb hg hat; rw [← Ny147.out] at ho; have n0_ := Zaa.mk (Kd.Zct (ok := (fun _ => True)) (by (with_reducible repeat (first | apply Kd.R_alloc | apply Kd.Zap | apply Kd.Zav)); exact Kd.Zbs HO_3.out (fun _ hk => ⟨trivial, hk⟩)) hg hat); have n1_ := Zaa.mk (hb); have n2_ := Zaa.mk (ho); clear HO_3; clear HB; clear HO_5; have HO_3 := n0_; have HB := n1_; have HO149 := n2_; clear n0_ n1_ n2_; clear ho hb hg hat; have p150 : 0 ≤ (x7_2 : Int) := of_decide_eq_true (by first | (with_reducible assumption) | assumption); have q150 : x7_2 < (x3_1.length : Int) := of_decide_eq_true (by first | (with_reducible assumption) | assumption); obtain ⟨ad150, e150, hx150_0⟩ := Kd.Zb6 (Kd.Zbi HO_3.out).2.2 x7_2 p150 q150; obtain rfl : ad145 = ad150 := (by injection e150); replace p150 := eq_true p150; replace q150 := eq_true q150) | ((with_reducible refine Zbt (b := .append) (xs := #[.tmp 48, .tmp 53]) rfl ?_); at_builtin; refine Kd.Zcj (Kd.int .i64) (w0 := w) w.heap.size rfl (.tmp 48) (.tmp 53) 23 3 (.int .i64 0) 8 rfl Try.underlying23 info3 rfl (by decide) (by omega) v148 y147 (rd x3_1 x7_2) [.int .i64 (rd x3_1 x7_2)] (fun k_ => some k_ ≠ (.slice (some ad145) x3_1.length co9 : Value).ownBlock) (fun _ => False) rfl rfl ?aP (fun _ hk => hk.elim) ?aF ?aO ?aB ?aS ?aL ?_; (case aP => exact rfl); (case aB => exact (by repeat (first | (with_reducible first | exact HB.out | apply Zac | apply Za | apply Zab) | exact HB.out))); (case aF => exact (fun k_ hk => Kd.fresh' (Kd.R_lt (by (with_reducible repeat (first | apply Kd.R_alloc | apply Kd.Zap | apply Kd.Zav)); exact HO_3.out)) k_ hk)); (case aO => exact (by (with_reducible repeat (first | apply Kd.R_alloc | apply Kd.Zap | apply Kd.Zav)); exact HO149.out)); (case aS => exact (Zal (by repeat (first | (with_reducible first | exact HB.out | apply Zac | apply Za | apply Zab) | exact HB.out)))); (case aL => have := LMc20.out; omega); intro v152 w22 ho hb hg hat; rw [← Ny151.out] at ho; have n0_ := Zaa.mk (Kd.Zct (ok := (fun _ => True)) (by (with_reducible repeat (first | apply Kd.R_alloc | apply Kd.Zap | apply Kd.Zav)); exact HO_3.out) hg hat); have n1_ := Zaa.mk (hb); have n2_ := Zaa.mk (ho); clear HO_3; clear HB; clear HO149; have HO_3 := n0_; have HB := n1_; have HO153 := n2_; clear n0_ n1_ n2_; clear ho hb hg hat)); try go_wp2_with (first | ((with_reducible refine Zbt (b := .append) (xs := #[.tmp 41, .tmp 46]) rfl ?_); at_builtin; refine Kd.Zcj (Kd.int .i64) (w0 := w) w.heap.size rfl (.tmp 41) (.tmp 46) 23 3 (.int .i64 0) 8 rfl Try.underlying23 info3 rfl (by decide) (by omega) u5 x5_2 (rd l0 x4_1) [.int .i64 (rd l0 x4_1)] (fun k_ => some k_ ≠ (.slice (some ad145) x3_1.length co9 : Value).ownBlock) (fun _ => False) rfl rfl ?aP (fun _ hk => hk.elim) ?aF ?aO ?aB ?aS ?aL ?_; (case aP => exact rfl); (case aB => exact (by repeat (first | (with_reducible first | exact HB.out | apply Zac | apply Za | apply Zab) | exact HB.out))); (case aF => exact (fun k_ hk => Kd.fresh' (Kd.R_lt (by (with_reducible repeat (first | apply Kd.R_alloc | apply Kd.Zap | apply Kd.Zav)); exact HO_3.out)) k_ hk)); (case aO => exact (by (with_reducible repeat (first | apply Kd.R_alloc | apply Kd.Zap | apply Kd.Zav)); exact HO_5.out)); (case aS => exact (Zal (by repeat (first | (with_reducible first | exact HB.out | apply Zac | apply Za | apply Zab) | exact HB.out)))); (case aL => have := LMc19.out; omega); intro v148 w21 ho hb hg hat; rw [← Ny147.out] at ho; have n0_ := Zaa.mk (Kd.Zct (ok := (fun _ => True)) (by (with_reducible repeat (first | apply Kd.R_alloc | apply Kd.Zap | apply Kd.Zav)); exact Kd.Zbs HO_3.out (fun _ hk => ⟨trivial, hk⟩)) hg hat); have n1_ := Zaa.mk (hb); have n2_ := Zaa.mk (ho); clear HO_3; clear HB; clear HO_5; have HO_3 := n0_; have HB := n1_; have HO149 := n2_; clear n0_ n1_ n2_; clear ho hb hg hat; have p150 : 0 ≤ (x7_2 : Int) := of_decide_eq_true (by first | (with_reducible assumption) | assumption); have q150 : x7_2 < (x3_1.length : Int) := of_decide_eq_true (by first | (with_reducible assumption) | assumption); obtain ⟨ad150, e150, hx150_0⟩ := Kd.Zb6 (Kd.Zbi HO_3.out).2.2 x7_2 p150 q150; obtain rfl : ad145 = ad150 := (by injection e150); replace p150 := eq_true p150; replace q150 := eq_true q150) | ((with_reducible refine Zbt (b := .append) (xs := #[.tmp 48, .tmp 53]) rfl ?_); at_builtin; refine Kd.Zcj (Kd.int .i64) (w0 := w) w.heap.size rfl (.tmp 48) (.tmp 53) 23 3 (.int .i64 0) 8 rfl Try.underlying23 info3 rfl (by decide) (by omega) v148 y147 (rd x3_1 x7_2) [.int .i64 (rd x3_1 x7_2)] (fun k_ => some k_ ≠ (.slice (some ad145) x3_1.length co9 : Value).ownBlock) (fun _ => False) rfl rfl ?aP (fun _ hk => hk.elim) ?aF ?aO ?aB ?aS ?aL ?_; (case aP => exact rfl); (case aB => exact (by repeat (first | (with_reducible first | exact HB.out | apply Zac | apply Za | apply Zab) | exact HB.out))); (case aF => exact (fun k_ hk => Kd.fresh' (Kd.R_lt (by (with_reducible repeat (first | apply Kd.R_alloc | apply Kd.Zap | apply Kd.Zav)); exact HO_3.out)) k_ hk)); (case aO => exact (by (with_reducible repeat (first | apply Kd.R_alloc | apply Kd.Zap | apply Kd.Zav)); exact HO149.out)); (case aS => exact (Zal (by repeat (first | (with_reducible first | exact HB.out | apply Zac | apply Za | apply Zab) | exact HB.out)))); (case aL => have := LMc20.out; omega); intro v152 w22 ho hb hg hat; rw [← Ny151.out] at ho; have n0_ := Zaa.mk (Kd.Zct (ok := (fun _ => True)) (by (with_reducible repeat (first | apply Kd.R_alloc | apply Kd.Zap | apply Kd.Zav)); exact HO_3.out) hg hat); have n1_ := Zaa.mk (hb); have n2_ := Zaa.mk (ho); clear HO_3; clear HB; clear HO149; have HO_3 := n0_; have HB := n1_; have HO153 := n2_; clear n0_ n1_ n2_; clear ho hb hg hat)))
     go_roundg k2
     case measure => have := HK1.out; have := HK2.out; omega
     case rel => exact ⟨(y151), (true), (wrap64 (x7_2 + 1)), (by first | rfl | (simp; done) | (simp [*]; done)), (by first | rfl | (simp; done) | (simp [*]; done)), H', ⟨by have := HK1.out; have := HK2.out; omega⟩, ⟨by (with_reducible repeat (first | apply Kd.R_alloc | apply Kd.Zap | apply Kd.Zav)); exact Kd.Zbs HO_3.out (fun _ hk => hk.2)⟩, ⟨by (with_reducible repeat (first | apply Kd.R_alloc | apply Kd.Zap | apply Kd.Zav)); exact HO153.out⟩, ⟨by repeat (first | (with_reducible first | exact HB.out | apply Zac | apply Za | apply Zab) | exact HB.out)⟩⟩
/-! ### Zao: function 58 -/
def Zao.l0 : Nat → List Int → List (S41) → Int → Int → Option ((List (S41)))
 | 0, _, _, _, _ => none
 | k + 1, x0, x3, x4, x5 => if x5 < (x0.length : Int) then (if (wrap64 (x5 + 1)) = (x0.length : Int) then (if 0 ≤ x4 then (if x4 < (x0.length : Int) then (if 0 ≤ x5 then (if x3.length < 8796093022208 then (Zao.l0 k x0 (x3 ++ [(⟨rd x0 x4, rd x0 x5⟩ : S41)]) (wrap64 (x5 + 1)) (wrap64 (x5 + 1))) else (none)) else (none)) else (none)) else (none)) else (if 0 ≤ (wrap64 (x5 + 1)) then (if (wrap64 (x5 + 1)) < (x0.length : Int) then (if 0 ≤ x5 then (if (rd x0 (wrap64 (x5 + 1))) = (wrap64 ((rd x0 x5) + 1)) then (Zao.l0 k x0 x3 x4 (wrap64 (x5 + 1))) else (if 0 ≤ x4 then (if x4 < (x0.length : Int) then (if x3.length < 8796093022208 then (Zao.l0 k x0 (x3 ++ [(⟨rd x0 x4, rd x0 x5⟩ : S41)]) (wrap64 (x5 + 1)) (wrap64 (x5 + 1))) else (none)) else (none)) else (none))) else (none)) else (none)) else (none))) else (some x3)
def Zao.f (k : Nat) (l0 : List Int) : Option ((List (S41))) := Zao.l0 k l0 (([] : List (S41))) 0 0
theorem Zao.Zb1 : ∀ k, (∀ y0 y1 y2 y3, LeO (Zao.l0 k y0 y1 y2 y3) (Zao.l0 (k + 1) y0 y1 y2 y3))
 | 0 => fun _ _ _ _ r h => by simp [Zao.l0] at h
 | k + 1 => by
  have ih0 := Zao.Zb1 k
  intro y0 y1 y2 y3
  unfold Zao.l0
  repeat' first
  | (with_reducible exact ih0 _ _ _ _)
  | (with_reducible exact LeO.refl _)
  | (with_reducible exact LeO.none _)
  | (with_reducible refine LeO.ite ?_ ?_)
  | (with_reducible refine LeO.bind ?_ (fun _ => ?_))
  | exact ih0 _ _ _ _
  | exact LeO.none _
  | refine LeO.ite ?_ ?_
  | refine LeO.bind ?_ (fun _ => ?_)
theorem Zao.mono : ∀ a0 k, LeO (Zao.f k a0) (Zao.f (k + 1) a0) := by
 intro a0 k
 have ih0 := Zao.Zb1 k
 unfold Zao.f
 repeat' first
   | (with_reducible exact ih0 _ _ _ _)
   | (with_reducible exact LeO.refl _)
   | (with_reducible exact LeO.none _)
   | (with_reducible refine LeO.ite ?_ ?_)
   | (with_reducible refine LeO.bind ?_ (fun _ => ?_))
   | exact ih0 _ _ _ _
   | exact LeO.none _
   | refine LeO.ite ?_ ?_
   | refine LeO.bind ?_ (fun _ => ?_)
def Zao.T5 : Bool × List (List Nat × List Nat) := (true, [([], []), ([0], [0]), ([], []), ([2], [2]), ([1, 3], [1, 3]), ([4], [4]), ([5], [5]), ([5], [5]), ([7, 5], [5, 7]), ([6, 8, 5], [5, 6, 8]), ([9, 5], [5, 9]), ([5], [5]), ([5], [5]), ([11, 12, 5], [5, 11, 12]), ([13, 5], [5, 13]), ([14, 5], [5, 14]), ([10, 15, 5], [5, 10, 15]), ([5, 16], [5, 16])])
def Zao.B5 : List Nat := [0, 1, 0, 4, 15, 31, 63, 63, 191, 511, 1023, 63, 63, 6207, 14399, 30783, 65535, 131071]
theorem Zao.tab5 : rtab .any (opsOf Try.f58 5) = Zao.T5 := by kernel_rfl
theorem Zao.bits5 : waitsOk Zao.T5.2 Zao.B5 = true := by kernel_rfl
def Zao.T6 : Bool × List (List Nat × List Nat) := (true, [([], []), ([], []), ([], []), ([1, 2], [1, 2]), ([3], [3]), ([], []), ([], []), ([5, 6], [5, 6]), ([7], [7]), ([4, 8], [4, 8]), ([9], [9]), ([0, 10], [0, 10]), ([11, 11, 0, 1, 2, 3, 4, 5, 6, 7, 8, 9, 10, 11], [0, 11])])
def Zao.B6 : List Nat := [0, 0, 0, 6, 14, 0, 0, 96, 224, 510, 1022, 2047, 4095]
theorem Zao.tab6 : rtab .any (opsOf Try.f58 6) = Zao.T6 := by kernel_rfl
theorem Zao.bits6 : waitsOk Zao.T6.2 Zao.B6 = true := by kernel_rfl
set_option maxHeartbeats 8000000 in
set_option maxRecDepth 100000 in
theorem Zao.calls (k : Nat) (A0 : Option Addr) (c0 : Nat) (l0 : List Int) (r : List (S41)) (w : World) (hr0 : Kd.C (Kd.int .i64) w A0 l0.length l0) (hc0 : l0.length ≤ c0) (h : Zao.f k l0 = some r) :
  Calls Try.prog 58 #[.slice A0 l0.length c0] w fun e w' => ∃ v0_ : Value, e = .returned (v0_) ∧ Kd.R k41 41 w' w.heap.size (fun _ => True) v0_ r ∧ Below w.heap.size w w' := by
 have hu41 := Try.underlying41
 have HR0 := Zaa.mk hr0
 have HC0 := Zaa.mk hc0
 clear hr0 hc0
 have HB := Zaa.mk (Below.refl w.heap.size w)
 have H : (Zao.l0 k l0 (([] : List (S41))) 0 0) = some r := h
 clear h
 obtain ⟨y162, hy162⟩ : ∃ y_ : List (S41), y_ = (([] : List (S41))) := ⟨_, rfl⟩
 replace H : (Zao.l0 k l0 y162 0 0) = some r := by first | (rw [hy162]; with_reducible exact H) | (have H2_ := (Option.bind_some _ _).symm.trans H; rw [hy162]; with_reducible exact H2_) | (have H2_ := (Option.bind_some _ _).symm.trans H; with_reducible exact H2_) | with_reducible exact H | (rw [hy162]; exact H) | exact H
 have Ny162 := Zaa.mk hy162
 clear hy162
 have H' := Zaa.mk H
 clear H
 go_enter Try.func58, Try.ntmps58
 go_wp2_with (first | ((with_reducible refine Zb2 (N := 6) rfl ?_); refine Kd.Zdu k41 _ 41 ?hg (N := 6) ?hd (xs := ([] : List (S41))) (inner := []) (ok := fun _ => True) (okp := fun _ => True) ?hr ?hp (fun _ hk => hk) trivial (Below.refl _ _) (Nat.le_refl _) (by simp) ?_; (case hd => rfl); (case hg => rfl); (case hr => first | (go_simp; done) | (go_simp; rfl)); (case hp => exact (Reps.none _ _)); intro v163 w2 ho3 hb hg_ hnew_; clear hg_ hnew_; (first | rw [← Ny162.out] at ho3 | (simp only [Int.reduceToNat] at ho3; rw [← Ny162.out] at ho3)); have n0_ := Zaa.mk (Kd.Zb9 ho3 (Zal (by repeat (first | (with_reducible first | exact HB.out | apply Zac | apply Za | apply Zab) | exact HB.out)))); have n1_ := Zaa.mk (Zay (by repeat (first | (with_reducible first | exact HB.out | apply Zac | apply Za | apply Zab) | exact HB.out)) hb); clear HB; have HO164 := n0_; have HB := n1_; clear n0_ n1_; clear hb ho3))
 go_loopg [3, 4, 5] k (fun kq v3 v4 v5 w' => ∃ (x3_1 : List (S41)) (x4_1 : Int) (x5_1 : Int), v4 = .int .i64 x4_1 ∧ v5 = .int .i64 x5_1 ∧ Zaa (Zao.l0 kq l0 x3_1 x4_1 x5_1 = some r) ∧ Zaa (kq ≤ k) ∧ Zaa (Kd.R k41 41 w' w.heap.size (fun _ => True) v3 x3_1) ∧ Zaa (Below w.heap.size w w'))
 case atStart => exact ⟨(y162), (0), (0), (by first | rfl | (simp; done) | (simp [*]; done)), (by first | rfl | (simp; done) | (simp [*]; done)), H', ⟨Nat.le_refl _⟩, ⟨by (with_reducible repeat (first | apply Kd.R_alloc | apply Kd.Zap | apply Kd.Zav)); exact HO164.out⟩, ⟨by repeat (first | (with_reducible first | exact HB.out | apply Zac | apply Za | apply Zab) | exact HB.out)⟩⟩
 case round =>
  clear H'
  try clear p2
  obtain ⟨x3_1, x4_1, x5_1, rfl, rfl, HA, HK1, HO_3, HB⟩ := hrel
  cases gk with
  | zero => exact absurd HA.out (by simp [Zao.l0])
  | succ k1 =>
   have H := HA.out
   clear HA
   simp only [Zao.l0] at H
   by_cases c4 : x5_1 < (l0.length : Int)
   rotate_left
   ·rw [if_neg c4] at H
    have c4b0 : decide (x5_1 < (l0.length : Int)) = false := decide_eq_false c4
    clear c4
    obtain rfl := Option.some.inj H
    go_wp2
    go_ret
    exact ⟨_, by first | rfl | (simp [Za1, Za2] <;> rfl) | (simp [*, Za1, Za2] <;> rfl), by (with_reducible repeat (first | apply Kd.R_alloc | apply Kd.Zap | apply Kd.Zav)); exact HO_3.out, by repeat (first | (with_reducible first | exact HB.out | apply Zac | apply Za | apply Zab) | exact HB.out)⟩

   rw [if_pos c4] at H
   have c4b0 : decide (x5_1 < (l0.length : Int)) = true := decide_eq_true c4
   clear c4
   by_cases c5 : (wrap64 (x5_1 + 1)) = (l0.length : Int)
   ·rw [if_pos c5] at H
    have c5b0 : ((wrap64 (x5_1 + 1)) == (l0.length : Int)) = true := beq_iff_eq.mpr c5
    have c5b1 : ((wrap64 (x5_1 + 1)) != (l0.length : Int)) = false := bne_eq_false_iff_eq.mpr c5
    clear c5
    by_cases c6 : 0 ≤ x4_1
    rotate_left
    ·rw [if_neg c6] at H
     exact absurd H (by simp)
    rw [if_pos c6] at H
    have c6b0 : decide (0 ≤ x4_1) = true := decide_eq_true c6
    clear c6
    by_cases c7 : x4_1 < (l0.length : Int)
    rotate_left
    ·rw [if_neg c7] at H
     exact absurd H (by simp)
    rw [if_pos c7] at H
    have c7b0 : decide (x4_1 < (l0.length : Int)) = true := decide_eq_true c7
    clear c7
    by_cases c8 : 0 ≤ x5_1
    rotate_left
    ·rw [if_neg c8] at H
     exact absurd H (by simp)
    rw [if_pos c8] at H
    have c8b0 : decide (0 ≤ x5_1) = true := decide_eq_true c8
    clear c8
    by_cases c9 : x3_1.length < 8796093022208
    rotate_left
    ·rw [if_neg c9] at H
     exact absurd H (by simp)
    rw [if_pos c9] at H
    have LMc9 := Zaa.mk c9
    clear c9
    obtain ⟨y167, hy167⟩ : ∃ y_ : List (S41), y_ = (x3_1 ++ [(⟨rd l0 x4_1, rd l0 x5_1⟩ : S41)]) := ⟨_, rfl⟩
    replace H : (Zao.l0 k1 l0 y167 (wrap64 (x5_1 + 1)) (wrap64 (x5_1 + 1))) = some r := by first | (rw [hy167]; with_reducible exact H) | (have H2_ := (Option.bind_some _ _).symm.trans H; rw [hy167]; with_reducible exact H2_) | (have H2_ := (Option.bind_some _ _).symm.trans H; with_reducible exact H2_) | with_reducible exact H | (rw [hy167]; exact H) | exact H
    have Ny167 := Zaa.mk hy167
    clear hy167
    have H' := Zaa.mk H
    clear H
    try go_wp2
    have n0_ := Zaa.mk (Kd.Zav HO_3.out)
    have n1_ := Zaa.mk (Zab HB.out)
    clear HO_3
    clear HB
    have HO_3 := n0_
    have HB := n1_
    clear n0_ n1_
    refine Zd8 (n := 18) (S := fun w' => True) (ds := []) #[false, false, false, false, false, false, false, false, false, false, false, false, false, false, false, false, false, false] (by kernel_rfl) rfl rfl trivial (fun hHeld => ?_); refine Zcz Zao.tab5 Zao.bits5 (fun HT_ HW_ => ?_)
    generalize wr.drew = w10 at HO_3 HB hHeld ⊢
    refine Zbx (i := 0) (N := some 13) (v := ?_) (a' := ?_) #[true, false, false, false, false, false, false, false, false, false, false, false, false, false, false, false, false, false] rfl rfl (Zbp HT_.out (by kernel_rfl)) (fun _ _ _ h => h) (Or.inl ⟨by rfl, ?_⟩) ?_ ?_
    rotate_left
    ·intro w'
     go_simp
     with_reducible rfl
    rotate_left
    ·simp only [Act.put, List.setIfInBounds_toArray, List.set_cons_zero, List.set_cons_succ, Zbq, Zbr]
     rfl
    refine Zbx (i := 1) (N := some 14) (v := ?_) (a' := ?_) #[true, true, false, false, false, false, false, false, false, false, false, false, false, false, false, false, false, false] rfl rfl (Zbp HT_.out (by kernel_rfl)) (fun _ _ _ h => h) (Or.inl ⟨by rfl, ?_⟩) ?_ ?_
    rotate_left
    ·intro w'
     go_simp
     with_reducible rfl
    rotate_left
    ·simp only [Act.put, List.setIfInBounds_toArray, List.set_cons_zero, List.set_cons_succ, Zbq, Zbr]
     rfl
    refine Zbx (i := 2) (N := some 15) (v := ?_) (a' := ?_) #[true, true, true, false, false, false, false, false, false, false, false, false, false, false, false, false, false, false] rfl rfl (Zbp HT_.out (by kernel_rfl)) (fun _ _ _ h => h) (Or.inl ⟨by rfl, ?_⟩) ?_ ?_
    rotate_left
    ·intro w'
     go_simp
     with_reducible rfl
    rotate_left
    ·simp only [Act.put, List.setIfInBounds_toArray, List.set_cons_zero, List.set_cons_succ, Zbq, Zbr]
     rfl
    refine Zbx (i := 3) (N := some 16) (v := ?_) (a' := ?_) #[true, true, true, true, false, false, false, false, false, false, false, false, false, false, false, false, false, false] rfl rfl (Zbp HT_.out (by kernel_rfl)) (fun _ _ _ h => h) (Or.inl ⟨by rfl, ?_⟩) ?_ ?_
    rotate_left
    ·intro w'
     go_simp
     with_reducible rfl
    rotate_left
    ·simp only [Act.put, List.setIfInBounds_toArray, List.set_cons_zero, List.set_cons_succ, Zbq, Zbr]
     rfl
    refine Zbx (i := 4) (N := some 17) (v := ?_) (a' := ?_) #[true, true, true, true, true, false, false, false, false, false, false, false, false, false, false, false, false, false] rfl rfl (Zbp HT_.out (by kernel_rfl)) (fun _ _ _ h => h) (Or.inl ⟨by rfl, ?_⟩) ?_ ?_
    rotate_left
    ·intro w'
     go_simp
     with_reducible rfl
    rotate_left
    ·simp only [Act.put, List.setIfInBounds_toArray, List.set_cons_zero, List.set_cons_succ, Zbq, Zbr]
     rfl
    refine Zbx (i := 5) (N := some 18) (v := ?_) (a' := ?_) #[true, true, true, true, true, true, false, false, false, false, false, false, false, false, false, false, false, false] rfl rfl (Zbp HT_.out (by kernel_rfl)) (fun _ _ _ h => h) (Or.inl ⟨by rfl, ?_⟩) ?_ ?_
    rotate_left
    ·intro w'
     go_simp
     with_reducible rfl
    rotate_left
    ·simp only [Act.put, List.setIfInBounds_toArray, List.set_cons_zero, List.set_cons_succ, Zbq, Zbr]
     rfl
    refine Zbx (i := 6) (N := some 19) (v := undef) (a' := ?_) #[true, true, true, true, true, true, true, false, false, false, false, false, false, false, false, false, false, false] rfl rfl (Zbp HT_.out (by kernel_rfl)) (fun _ _ _ h => h) (Or.inr ⟨by rfl, rfl⟩) ?_ ?_
    rotate_left
    ·simp only [Act.put, List.setIfInBounds_toArray, List.set_cons_zero, List.set_cons_succ, Zbq, Zbr]
     rfl
    refine Zbx (i := 7) (N := some 20) (v := undef) (a' := ?_) #[true, true, true, true, true, true, true, true, false, false, false, false, false, false, false, false, false, false] rfl rfl (Zbp HT_.out (by kernel_rfl)) (fun _ _ _ h => h) (Or.inr ⟨by rfl, rfl⟩) ?_ ?_
    rotate_left
    ·simp only [Act.put, List.setIfInBounds_toArray, List.set_cons_zero, List.set_cons_succ, Zbq, Zbr]
     rfl
    refine Zbx (i := 8) (N := some 21) (v := undef) (a' := ?_) #[true, true, true, true, true, true, true, true, true, false, false, false, false, false, false, false, false, false] rfl rfl (Zbp HT_.out (by kernel_rfl)) (fun _ _ _ h => h) (Or.inr ⟨by rfl, rfl⟩) ?_ ?_
    rotate_left
    ·simp only [Act.put, List.setIfInBounds_toArray, List.set_cons_zero, List.set_cons_succ, Zbq, Zbr]
     rfl
    refine Zbx (i := 9) (N := some 22) (v := undef) (a' := ?_) #[true, true, true, true, true, true, true, true, true, true, false, false, false, false, false, false, false, false] rfl rfl (Zbp HT_.out (by kernel_rfl)) (fun _ _ _ h => h) (Or.inr ⟨by rfl, rfl⟩) ?_ ?_
    rotate_left
    ·simp only [Act.put, List.setIfInBounds_toArray, List.set_cons_zero, List.set_cons_succ, Zbq, Zbr]
     rfl
    refine Zbx (i := 10) (N := some 23) (v := undef) (a' := ?_) #[true, true, true, true, true, true, true, true, true, true, true, false, false, false, false, false, false, false] rfl rfl (Zbp HT_.out (by kernel_rfl)) (fun _ _ _ h => h) (Or.inr ⟨by rfl, rfl⟩) ?_ ?_
    rotate_left
    ·simp only [Act.put, List.setIfInBounds_toArray, List.set_cons_zero, List.set_cons_succ, Zbq, Zbr]
     rfl
    refine Zbx (i := 11) (N := some 24) (v := undef) (a' := ?_) #[true, true, true, true, true, true, true, true, true, true, true, true, false, false, false, false, false, false] rfl rfl (Zbp HT_.out (by kernel_rfl)) (fun _ _ _ h => h) (Or.inr ⟨by rfl, rfl⟩) ?_ ?_
    rotate_left
    ·simp only [Act.put, List.setIfInBounds_toArray, List.set_cons_zero, List.set_cons_succ, Zbq, Zbr]
     rfl
    refine Zbx (i := 12) (N := some 25) (v := undef) (a' := ?_) #[true, true, true, true, true, true, true, true, true, true, true, true, true, false, false, false, false, false] rfl rfl (Zbp HT_.out (by kernel_rfl)) (fun _ _ _ h => h) (Or.inr ⟨by rfl, rfl⟩) ?_ ?_
    rotate_left
    ·simp only [Act.put, List.setIfInBounds_toArray, List.set_cons_zero, List.set_cons_succ, Zbq, Zbr]
     rfl
    refine Zbx (i := 13) (N := some 26) (v := undef) (a' := ?_) #[true, true, true, true, true, true, true, true, true, true, true, true, true, true, false, false, false, false] rfl rfl (Zbp HT_.out (by kernel_rfl)) (fun _ _ _ h => h) (Or.inr ⟨by rfl, rfl⟩) ?_ ?_
    rotate_left
    ·simp only [Act.put, List.setIfInBounds_toArray, List.set_cons_zero, List.set_cons_succ, Zbq, Zbr]
     rfl
    refine Zbx (i := 14) (N := some 27) (v := undef) (a' := ?_) #[true, true, true, true, true, true, true, true, true, true, true, true, true, true, true, false, false, false] rfl rfl (Zbp HT_.out (by kernel_rfl)) (fun _ _ _ h => h) (Or.inr ⟨by rfl, rfl⟩) ?_ ?_
    rotate_left
    ·simp only [Act.put, List.setIfInBounds_toArray, List.set_cons_zero, List.set_cons_succ, Zbq, Zbr]
     rfl
    refine Zbx (i := 15) (N := some 28) (v := undef) (a' := ?_) #[true, true, true, true, true, true, true, true, true, true, true, true, true, true, true, true, false, false] rfl rfl (Zbp HT_.out (by kernel_rfl)) (fun _ _ _ h => h) (Or.inr ⟨by rfl, rfl⟩) ?_ ?_
    rotate_left
    ·simp only [Act.put, List.setIfInBounds_toArray, List.set_cons_zero, List.set_cons_succ, Zbq, Zbr]
     rfl
    refine Zbx (i := 16) (N := some 29) (v := undef) (a' := ?_) #[true, true, true, true, true, true, true, true, true, true, true, true, true, true, true, true, true, false] rfl rfl (Zbp HT_.out (by kernel_rfl)) (fun _ _ _ h => h) (Or.inr ⟨by rfl, rfl⟩) ?_ ?_
    rotate_left
    ·simp only [Act.put, List.setIfInBounds_toArray, List.set_cons_zero, List.set_cons_succ, Zbq, Zbr]
     rfl
    refine Zbx (i := 17) (N := some 30) (v := ?_) (a' := ?_) #[true, true, true, true, true, true, true, true, true, true, true, true, true, true, true, true, true, true] rfl rfl (Zbp HT_.out (by kernel_rfl)) (fun _ _ _ h => h) (Or.inl ⟨by rfl, ?_⟩) ?_ ?_
    rotate_left
    ·intro w'
     go_simp
     with_reducible rfl
    rotate_left
    ·simp only [Act.put, List.setIfInBounds_toArray, List.set_cons_zero, List.set_cons_succ, Zbq, Zbr]
     rfl
    refine Zfd (Zdk HT_.out (by kernel_rfl)) ?_
    try go_wp2
    have n0_ := Zaa.mk (Kd.Zav HO_3.out)
    have n1_ := Zaa.mk (Zab HB.out)
    clear HO_3
    clear HB
    have HO_3 := n0_
    have HB := n1_
    clear n0_ n1_
    have p165 : 0 ≤ (x4_1 : Int) := of_decide_eq_true (by first | (with_reducible assumption) | assumption)
    have q165 : x4_1 < (l0.length : Int) := of_decide_eq_true (by first | (with_reducible assumption) | assumption)
    obtain ⟨ad165, e165, hx165_0⟩ := Kd.Zb6 HR0.out x4_1 p165 q165
    have hw165_0 := hx165_0
    cases e165
    replace hx165_0 := (HB.out.cell (World.block_lt_of_cell? w _ hx165_0)).trans hx165_0
    replace p165 := eq_true p165
    replace q165 := eq_true q165
    have p166 : 0 ≤ (x5_1 : Int) := of_decide_eq_true (by first | (with_reducible assumption) | assumption)
    have q166 : x5_1 < (l0.length : Int) := of_decide_eq_true (by first | (with_reducible assumption) | assumption)
    obtain ⟨ad166, e166, hx166_0⟩ := Kd.Zb6 HR0.out x5_1 p166 q166
    have hw166_0 := hx166_0
    obtain rfl : ad165 = ad166 := (by injection e166)
    replace hx166_0 := (HB.out.cell (World.block_lt_of_cell? w _ hx166_0)).trans hx166_0
    replace p166 := eq_true p166
    replace q166 := eq_true q166
    refine Zd8 (n := 13) (S := fun w' => w'.cell? (ad165.add (x4_1).toNat) = some (.int .i64 (rd l0 x4_1)) ∧ w'.cell? (ad165.add (x5_1).toNat) = some (.int .i64 (rd l0 x5_1))) (ds := []) #[false, false, false, false, false, false, false, false, false, false, false, false, false] (by kernel_rfl) rfl rfl ⟨((HB.out.cell (World.block_lt_of_cell? w _ hw165_0)).trans hw165_0), ((HB.out.cell (World.block_lt_of_cell? w _ hw166_0)).trans hw166_0)⟩ (fun hHeld => ?_); refine Zcz Zao.tab6 Zao.bits6 (fun HT_ HW_ => ?_)
    generalize w10.drew = w11 at HO_3 HB hx165_0 hx166_0 hHeld ⊢
    refine Zbx (i := 0) (N := some 31) (v := ?_) (a' := ?_) #[true, false, false, false, false, false, false, false, false, false, false, false, false] rfl rfl (Zbp HT_.out (by kernel_rfl)) (fun _ _ _ h => h) (Or.inl ⟨by rfl, ?_⟩) ?_ ?_
    rotate_left
    ·intro w'
     go_simp
     with_reducible rfl
    rotate_left
    ·simp only [Act.put, List.setIfInBounds_toArray, List.set_cons_zero, List.set_cons_succ, Zbq, Zbr]
     rfl
    refine Zbx (i := 1) (N := some 32) (v := ?_) (a' := ?_) #[true, true, false, false, false, false, false, false, false, false, false, false, false] rfl rfl (Zbp HT_.out (by kernel_rfl)) (fun _ _ _ h => h) (Or.inl ⟨by rfl, ?_⟩) ?_ ?_
    rotate_left
    ·intro w'
     go_simp
     with_reducible rfl
    rotate_left
    ·simp only [Act.put, List.setIfInBounds_toArray, List.set_cons_zero, List.set_cons_succ, Zbq, Zbr]
     rfl
    refine Zbx (i := 2) (N := some 33) (v := ?_) (a' := ?_) #[true, true, true, false, false, false, false, false, false, false, false, false, false] rfl rfl (Zbp HT_.out (by kernel_rfl)) (fun _ _ _ h => h) (Or.inl ⟨by rfl, ?_⟩) ?_ ?_
    rotate_left
    ·intro w'
     go_simp
     with_reducible rfl
    rotate_left
    ·simp only [Act.put, List.setIfInBounds_toArray, List.set_cons_zero, List.set_cons_succ, Zbq, Zbr]
     rfl
    refine Zbx (i := 3) (N := some 34) (v := ?_) (a' := ?_) #[true, true, true, true, false, false, false, false, false, false, false, false, false] rfl rfl (Zbp HT_.out (by kernel_rfl)) (fun _ _ _ h => h) (Or.inl ⟨by rfl, ?_⟩) ?_ ?_
    rotate_left
    ·intro w'
     go_simp
     with_reducible rfl
    rotate_left
    ·simp only [Act.put, List.setIfInBounds_toArray, List.set_cons_zero, List.set_cons_succ, Zbq, Zbr]
     rfl
    refine Zbx (i := 5) (N := some 36) (v := ?_) (a' := ?_) #[true, true, true, true, false, true, false, false, false, false, false, false, false] rfl rfl (Zbp HT_.out (by kernel_rfl)) (fun _ _ _ h => h) (Or.inl ⟨by rfl, ?_⟩) ?_ ?_
    rotate_left
    ·intro w'
     go_simp
     with_reducible rfl
    rotate_left
    ·simp only [Act.put, List.setIfInBounds_toArray, List.set_cons_zero, List.set_cons_succ, Zbq, Zbr]
     rfl
    refine Zbx (i := 6) (N := some 37) (v := ?_) (a' := ?_) #[true, true, true, true, false, true, true, false, false, false, false, false, false] rfl rfl (Zbp HT_.out (by kernel_rfl)) (fun _ _ _ h => h) (Or.inl ⟨by rfl, ?_⟩) ?_ ?_
    rotate_left
    ·intro w'
     go_simp
     with_reducible rfl
    rotate_left
    ·simp only [Act.put, List.setIfInBounds_toArray, List.set_cons_zero, List.set_cons_succ, Zbq, Zbr]
     rfl
    refine Zbx (i := 7) (N := some 38) (v := ?_) (a' := ?_) #[true, true, true, true, false, true, true, true, false, false, false, false, false] rfl rfl (Zbp HT_.out (by kernel_rfl)) (fun _ _ _ h => h) (Or.inl ⟨by rfl, ?_⟩) ?_ ?_
    rotate_left
    ·intro w'
     go_simp
     with_reducible rfl
    rotate_left
    ·simp only [Act.put, List.setIfInBounds_toArray, List.set_cons_zero, List.set_cons_succ, Zbq, Zbr]
     rfl
    refine Zdf (i := 4) (N := some 35) (v := ?_) (a' := ?_) #[true, true, true, true, true, true, true, true, false, false, false, false, false] rfl rfl (Zci HT_.out HW_.out (by kernel_rfl)) (fun _ _ _ h => h) (Or.inl ⟨by rfl, ?_⟩) hHeld ?_ ?_
    rotate_left
    ·rintro w' ⟨s0, s1⟩
     go_simp
     with_reducible rfl
    rotate_left
    ·simp only [Act.put, List.setIfInBounds_toArray, List.set_cons_zero, List.set_cons_succ, Zbq, Zbr]
     rfl
    refine Zdf (i := 8) (N := some 39) (v := ?_) (a' := ?_) #[true, true, true, true, true, true, true, true, true, false, false, false, false] rfl rfl (Zci HT_.out HW_.out (by kernel_rfl)) (fun _ _ _ h => h) (Or.inl ⟨by rfl, ?_⟩) hHeld ?_ ?_
    rotate_left
    ·rintro w' ⟨s0, s1⟩
     go_simp
     with_reducible rfl
    rotate_left
    ·simp only [Act.put, List.setIfInBounds_toArray, List.set_cons_zero, List.set_cons_succ, Zbq, Zbr]
     rfl
    refine Zbx (i := 9) (N := some 40) (v := ?_) (a' := ?_) #[true, true, true, true, true, true, true, true, true, true, false, false, false] rfl rfl (Zbp HT_.out (by kernel_rfl)) (fun _ _ _ h => h) (Or.inl ⟨by rfl, ?_⟩) ?_ ?_
    rotate_left
    ·intro w'
     go_simp
     with_reducible rfl
    rotate_left
    ·simp only [Act.put, List.setIfInBounds_toArray, List.set_cons_zero, List.set_cons_succ, Zbq, Zbr]
     rfl
    refine one_ (i := 10) (N := some 41) #[true, true, true, true, true, true, true, true, true, true, true, false, false] rfl rfl (Zdp HT_.out (by kernel_rfl)) (by decide) (fun K hK => ?_)
    refine value_ (w1 := ?_) (v := ?_) (by rfl) rfl ?_ ?_
    rotate_left 2
    ·go_simp
     constructor
     ·rfl
     rfl
    refine hK.out _ _ ⟨(World.cell?_alloc_lt _ _ _ (World.block_lt_of_cell? _ _ (((HB.out.cell (World.block_lt_of_cell? w _ hw165_0)).trans hw165_0)))).trans (((HB.out.cell (World.block_lt_of_cell? w _ hw165_0)).trans hw165_0)), (World.cell?_alloc_lt _ _ _ (World.block_lt_of_cell? _ _ (((HB.out.cell (World.block_lt_of_cell? w _ hw166_0)).trans hw166_0)))).trans (((HB.out.cell (World.block_lt_of_cell? w _ hw166_0)).trans hw166_0))⟩ (fun hHeld => ?_)
    clear hK K
    refine Ze2 (a' := ?_) ?_ ?_
    rotate_left
    ·show Act.put _ (some 41) _ = _
     simp only [Act.put, List.setIfInBounds_toArray, List.set_cons_zero, List.set_cons_succ, Zbq, Zbr]
     rfl
    refine one_ (i := 11) (N := some 42) #[true, true, true, true, true, true, true, true, true, true, true, true, false] rfl rfl (Zdp HT_.out (by kernel_rfl)) (by decide) (fun K hK => ?_)
    refine Kd.Zd4 k41 (w0 := w) w.heap.size (by rfl) (.tmp 31) (.tmp 41) 39 41 (.agg #[(.int .i64 0), (.int .i64 0)]) 16 rfl Try.underlying39 info41 rfl (by decide) (by omega) u3 x3_1 (⟨rd l0 x4_1, rd l0 x5_1⟩ : S41) [.int .i64 (rd l0 x4_1), .int .i64 (rd l0 x5_1)] (fun _ => True) (fun _ => False) rfl rfl ?aP (fun _ hk => hk.elim) ?aF ?aO ?aB ?aS ?aL ?_
    (case aP => exact Zel _ _ _ (⟨rd l0 x4_1, rd l0 x5_1⟩ : S41))
    (case aB => exact (by repeat (first | (with_reducible first | exact HB.out | apply Zac | apply Za | apply Zab) | exact HB.out)))
    (case aF => exact (fun _ _ => trivial))
    (case aO => exact (by (with_reducible repeat (first | apply Kd.R_alloc | apply Kd.Zap | apply Kd.Zav)); exact HO_3.out))
    (case aS => exact (Zal (by repeat (first | (with_reducible first | exact HB.out | apply Zac | apply Za | apply Zab) | exact HB.out))))
    (case aL => have := LMc9.out; omega)
    intro v168 w12 ho hb hg hat
    rw [← Ny167.out] at ho
    have n0_ := Zaa.mk (hb)
    have n1_ := Zaa.mk (ho)
    clear HB
    clear HO_3
    have HB := n0_
    have HO169 := n1_
    clear n0_ n1_
    clear ho hb hg hat
    refine hK.out _ _ ⟨((HB.out.cell (World.block_lt_of_cell? w _ hw165_0)).trans hw165_0), ((HB.out.cell (World.block_lt_of_cell? w _ hw166_0)).trans hw166_0)⟩ (fun hHeld => ?_)
    clear hK K
    refine Ze2 (a' := ?_) ?_ ?_
    rotate_left
    ·show Act.put _ (some 42) _ = _
     simp only [Act.put, List.setIfInBounds_toArray, List.set_cons_zero, List.set_cons_succ, Zbq, Zbr]
     rfl
    refine Zbx (i := 12) (N := some 3) (v := ?_) (a' := ?_) #[true, true, true, true, true, true, true, true, true, true, true, true, true] rfl rfl (Zbp HT_.out (by kernel_rfl)) (fun _ _ _ h => h) (Or.inl ⟨by rfl, ?_⟩) ?_ ?_
    rotate_left
    ·intro w'
     go_simp
     with_reducible rfl
    rotate_left
    ·simp only [Act.put, List.setIfInBounds_toArray, List.set_cons_zero, List.set_cons_succ, Zbq, Zbr]
     rfl
    refine Zfd (Zdk HT_.out (by kernel_rfl)) ?_
    try go_wp2
    go_roundg k1
    case measure => have := HK1.out; omega
    case rel => exact ⟨(y167), (wrap64 (x5_1 + 1)), (wrap64 (x5_1 + 1)), (by first | rfl | (simp; done) | (simp [*]; done)), (by first | rfl | (simp; done) | (simp [*]; done)), H', ⟨by have := HK1.out; omega⟩, ⟨by (with_reducible repeat (first | apply Kd.R_alloc | apply Kd.Zap | apply Kd.Zav)); exact HO169.out⟩, ⟨by repeat (first | (with_reducible first | exact HB.out | apply Zac | apply Za | apply Zab) | exact HB.out)⟩⟩
   rw [if_neg c5] at H
   have c5b0 : ((wrap64 (x5_1 + 1)) == (l0.length : Int)) = false := beq_eq_false_iff_ne.mpr c5
   have c5b1 : ((wrap64 (x5_1 + 1)) != (l0.length : Int)) = true := bne_iff_ne.mpr c5
   obtain ⟨ji13, hji13⟩ : ∃ j_ : Int, (wrap64 (x5_1 + 1)) = j_ := ⟨_, rfl⟩
   replace H : (if 0 ≤ (ji13) then (if (ji13) < (l0.length : Int) then (if 0 ≤ x5_1 then (if (rd l0 (ji13)) = (wrap64 ((rd l0 x5_1) + 1)) then (Zao.l0 k1 l0 x3_1 x4_1 ji13) else (if 0 ≤ x4_1 then (if x4_1 < (l0.length : Int) then (if x3_1.length < 8796093022208 then (Zao.l0 k1 l0 (x3_1 ++ [(⟨rd l0 x4_1, rd l0 x5_1⟩ : S41)]) ji13 ji13) else (none)) else (none)) else (none))) else (none)) else (none)) else (none)) = some r := by first | (rw [hji13] at H; exact H) | (simp only [hji13] at H ⊢; exact H)
   (try rw [hji13] at c5b0)
   (try rw [hji13] at c5b1)
   have hji13w : (IntKind.i64.wrap (x5_1 + 1)) = ji13 := (Zbq _).trans hji13
   by_cases c14 : 0 ≤ (ji13)
   rotate_left
   ·rw [if_neg c14] at H
    exact absurd H (by simp)
   rw [if_pos c14] at H
   have c14b0 : decide (0 ≤ (ji13)) = true := decide_eq_true c14
   clear c14
   by_cases c15 : (ji13) < (l0.length : Int)
   rotate_left
   ·rw [if_neg c15] at H
    exact absurd H (by simp)
   rw [if_pos c15] at H
   have c15b0 : decide ((ji13) < (l0.length : Int)) = true := decide_eq_true c15
   clear c15
   by_cases c16 : 0 ≤ x5_1
   rotate_left
   ·rw [if_neg c16] at H
    exact absurd H (by simp)
   rw [if_pos c16] at H
   have c16b0 : decide (0 ≤ x5_1) = true := decide_eq_true c16
   clear c16
   by_cases c17 : (rd l0 (ji13)) = (wrap64 ((rd l0 x5_1) + 1))
   ·rw [if_pos c17] at H
    have c17b0 : ((rd l0 (ji13)) == (wrap64 ((rd l0 x5_1) + 1))) = true := beq_iff_eq.mpr c17
    have c17b1 : ((rd l0 (ji13)) != (wrap64 ((rd l0 x5_1) + 1))) = false := bne_eq_false_iff_eq.mpr c17
    clear c17
    have H' := Zaa.mk H
    clear H
    try go_wp2
    have n0_ := Zaa.mk (Kd.Zav HO_3.out)
    have n1_ := Zaa.mk (Zab HB.out)
    clear HO_3
    clear HB
    have HO_3 := n0_
    have HB := n1_
    clear n0_ n1_
    have p170 : 0 ≤ ((ji13) : Int) := of_decide_eq_true (by first | (with_reducible assumption) | assumption)
    have q170 : (ji13) < (l0.length : Int) := of_decide_eq_true (by first | (with_reducible assumption) | assumption)
    obtain ⟨ad170, e170, hx170_0⟩ := Kd.Zb6 HR0.out (ji13) p170 q170
    have hw170_0 := hx170_0
    cases e170
    replace hx170_0 := (HB.out.cell (World.block_lt_of_cell? w _ hx170_0)).trans hx170_0
    replace p170 := eq_true p170
    replace q170 := eq_true q170
    have p171 : 0 ≤ (x5_1 : Int) := of_decide_eq_true (by first | (with_reducible assumption) | assumption)
    have q171 : x5_1 < (l0.length : Int) := of_decide_eq_true (by first | (with_reducible assumption) | assumption)
    obtain ⟨ad171, e171, hx171_0⟩ := Kd.Zb6 HR0.out x5_1 p171 q171
    have hw171_0 := hx171_0
    obtain rfl : ad170 = ad171 := (by injection e171)
    replace hx171_0 := (HB.out.cell (World.block_lt_of_cell? w _ hx171_0)).trans hx171_0
    replace p171 := eq_true p171
    replace q171 := eq_true q171
    refine Zd8 (n := 18) (S := fun w' => w'.cell? (ad170.add ((ji13)).toNat) = some (.int .i64 (rd l0 (ji13))) ∧ w'.cell? (ad170.add (x5_1).toNat) = some (.int .i64 (rd l0 x5_1))) (ds := []) #[false, false, false, false, false, false, false, false, false, false, false, false, false, false, false, false, false, false] (by kernel_rfl) rfl rfl ⟨((HB.out.cell (World.block_lt_of_cell? w _ hw170_0)).trans hw170_0), ((HB.out.cell (World.block_lt_of_cell? w _ hw171_0)).trans hw171_0)⟩ (fun hHeld => ?_); refine Zcz Zao.tab5 Zao.bits5 (fun HT_ HW_ => ?_)
    generalize wr.drew = w18 at HO_3 HB hx170_0 hx171_0 hHeld ⊢
    refine Zbx (i := 0) (N := some 13) (v := ?_) (a' := ?_) #[true, false, false, false, false, false, false, false, false, false, false, false, false, false, false, false, false, false] rfl rfl (Zbp HT_.out (by kernel_rfl)) (fun _ _ _ h => h) (Or.inl ⟨by rfl, ?_⟩) ?_ ?_
    rotate_left
    ·intro w'
     go_simp
     with_reducible rfl
    rotate_left
    ·simp only [Act.put, List.setIfInBounds_toArray, List.set_cons_zero, List.set_cons_succ, Zbq, Zbr]
     rfl
    refine Zbx (i := 1) (N := some 14) (v := ?_) (a' := ?_) #[true, true, false, false, false, false, false, false, false, false, false, false, false, false, false, false, false, false] rfl rfl (Zbp HT_.out (by kernel_rfl)) (fun _ _ _ h => h) (Or.inl ⟨by rfl, ?_⟩) ?_ ?_
    rotate_left
    ·intro w'
     go_simp
     with_reducible rfl
    rotate_left
    ·simp only [Act.put, List.setIfInBounds_toArray, List.set_cons_zero, List.set_cons_succ, Zbq, Zbr]
     rfl
    refine Zbx (i := 2) (N := some 15) (v := ?_) (a' := ?_) #[true, true, true, false, false, false, false, false, false, false, false, false, false, false, false, false, false, false] rfl rfl (Zbp HT_.out (by kernel_rfl)) (fun _ _ _ h => h) (Or.inl ⟨by rfl, ?_⟩) ?_ ?_
    rotate_left
    ·intro w'
     go_simp
     with_reducible rfl
    rotate_left
    ·simp only [Act.put, List.setIfInBounds_toArray, List.set_cons_zero, List.set_cons_succ, Zbq, Zbr]
     rfl
    refine Zbx (i := 3) (N := some 16) (v := ?_) (a' := ?_) #[true, true, true, true, false, false, false, false, false, false, false, false, false, false, false, false, false, false] rfl rfl (Zbp HT_.out (by kernel_rfl)) (fun _ _ _ h => h) (Or.inl ⟨by rfl, ?_⟩) ?_ ?_
    rotate_left
    ·intro w'
     go_simp
     with_reducible rfl
    rotate_left
    ·simp only [Act.put, List.setIfInBounds_toArray, List.set_cons_zero, List.set_cons_succ, Zbq, Zbr]
     rfl
    refine Zbx (i := 4) (N := some 17) (v := ?_) (a' := ?_) #[true, true, true, true, true, false, false, false, false, false, false, false, false, false, false, false, false, false] rfl rfl (Zbp HT_.out (by kernel_rfl)) (fun _ _ _ h => h) (Or.inl ⟨by rfl, ?_⟩) ?_ ?_
    rotate_left
    ·intro w'
     go_simp
     with_reducible rfl
    rotate_left
    ·simp only [Act.put, List.setIfInBounds_toArray, List.set_cons_zero, List.set_cons_succ, Zbq, Zbr]
     rfl
    refine Zbx (i := 5) (N := some 18) (v := ?_) (a' := ?_) #[true, true, true, true, true, true, false, false, false, false, false, false, false, false, false, false, false, false] rfl rfl (Zbp HT_.out (by kernel_rfl)) (fun _ _ _ h => h) (Or.inl ⟨by rfl, ?_⟩) ?_ ?_
    rotate_left
    ·intro w'
     go_simp
     with_reducible rfl
    rotate_left
    ·simp only [Act.put, List.setIfInBounds_toArray, List.set_cons_zero, List.set_cons_succ, Zbq, Zbr]
     rfl
    refine Zbx (i := 6) (N := some 19) (v := ?_) (a' := ?_) #[true, true, true, true, true, true, true, false, false, false, false, false, false, false, false, false, false, false] rfl rfl (Zbp HT_.out (by kernel_rfl)) (fun _ _ _ h => h) (Or.inl ⟨by rfl, ?_⟩) ?_ ?_
    rotate_left
    ·intro w'
     go_simp
     with_reducible rfl
    rotate_left
    ·simp only [Act.put, List.setIfInBounds_toArray, List.set_cons_zero, List.set_cons_succ, Zbq, Zbr]
     rfl
    refine Zbx (i := 7) (N := some 20) (v := ?_) (a' := ?_) #[true, true, true, true, true, true, true, true, false, false, false, false, false, false, false, false, false, false] rfl rfl (Zbp HT_.out (by kernel_rfl)) (fun _ _ _ h => h) (Or.inl ⟨by rfl, ?_⟩) ?_ ?_
    rotate_left
    ·intro w'
     go_simp
     with_reducible rfl
    rotate_left
    ·simp only [Act.put, List.setIfInBounds_toArray, List.set_cons_zero, List.set_cons_succ, Zbq, Zbr]
     rfl
    refine Zbx (i := 8) (N := some 21) (v := ?_) (a' := ?_) #[true, true, true, true, true, true, true, true, true, false, false, false, false, false, false, false, false, false] rfl rfl (Zbp HT_.out (by kernel_rfl)) (fun _ _ _ h => h) (Or.inl ⟨by rfl, ?_⟩) ?_ ?_
    rotate_left
    ·intro w'
     go_simp
     with_reducible rfl
    rotate_left
    ·simp only [Act.put, List.setIfInBounds_toArray, List.set_cons_zero, List.set_cons_succ, Zbq, Zbr]
     rfl
    refine Zbx (i := 9) (N := some 22) (v := ?_) (a' := ?_) #[true, true, true, true, true, true, true, true, true, true, false, false, false, false, false, false, false, false] rfl rfl (Zbp HT_.out (by kernel_rfl)) (fun _ _ _ h => h) (Or.inl ⟨by rfl, ?_⟩) ?_ ?_
    rotate_left
    ·intro w'
     go_simp
     with_reducible rfl
    rotate_left
    ·simp only [Act.put, List.setIfInBounds_toArray, List.set_cons_zero, List.set_cons_succ, Zbq, Zbr]
     rfl
    refine Zbx (i := 11) (N := some 24) (v := ?_) (a' := ?_) #[true, true, true, true, true, true, true, true, true, true, false, true, false, false, false, false, false, false] rfl rfl (Zbp HT_.out (by kernel_rfl)) (fun _ _ _ h => h) (Or.inl ⟨by rfl, ?_⟩) ?_ ?_
    rotate_left
    ·intro w'
     go_simp
     with_reducible rfl
    rotate_left
    ·simp only [Act.put, List.setIfInBounds_toArray, List.set_cons_zero, List.set_cons_succ, Zbq, Zbr]
     rfl
    refine Zbx (i := 12) (N := some 25) (v := ?_) (a' := ?_) #[true, true, true, true, true, true, true, true, true, true, false, true, true, false, false, false, false, false] rfl rfl (Zbp HT_.out (by kernel_rfl)) (fun _ _ _ h => h) (Or.inl ⟨by rfl, ?_⟩) ?_ ?_
    rotate_left
    ·intro w'
     go_simp
     with_reducible rfl
    rotate_left
    ·simp only [Act.put, List.setIfInBounds_toArray, List.set_cons_zero, List.set_cons_succ, Zbq, Zbr]
     rfl
    refine Zbx (i := 13) (N := some 26) (v := ?_) (a' := ?_) #[true, true, true, true, true, true, true, true, true, true, false, true, true, true, false, false, false, false] rfl rfl (Zbp HT_.out (by kernel_rfl)) (fun _ _ _ h => h) (Or.inl ⟨by rfl, ?_⟩) ?_ ?_
    rotate_left
    ·intro w'
     go_simp
     with_reducible rfl
    rotate_left
    ·simp only [Act.put, List.setIfInBounds_toArray, List.set_cons_zero, List.set_cons_succ, Zbq, Zbr]
     rfl
    refine Zdf (i := 10) (N := some 23) (v := ?_) (a' := ?_) #[true, true, true, true, true, true, true, true, true, true, true, true, true, true, false, false, false, false] rfl rfl (Zci HT_.out HW_.out (by kernel_rfl)) (fun _ _ _ h => h) (Or.inl ⟨by rfl, ?_⟩) hHeld ?_ ?_
    rotate_left
    ·rintro w' ⟨s0, s1⟩
     go_simp
     with_reducible rfl
    rotate_left
    ·simp only [Act.put, List.setIfInBounds_toArray, List.set_cons_zero, List.set_cons_succ, Zbq, Zbr]
     rfl
    refine Zdf (i := 14) (N := some 27) (v := ?_) (a' := ?_) #[true, true, true, true, true, true, true, true, true, true, true, true, true, true, true, false, false, false] rfl rfl (Zci HT_.out HW_.out (by kernel_rfl)) (fun _ _ _ h => h) (Or.inl ⟨by rfl, ?_⟩) hHeld ?_ ?_
    rotate_left
    ·rintro w' ⟨s0, s1⟩
     go_simp
     with_reducible rfl
    rotate_left
    ·simp only [Act.put, List.setIfInBounds_toArray, List.set_cons_zero, List.set_cons_succ, Zbq, Zbr]
     rfl
    refine Zbx (i := 15) (N := some 28) (v := ?_) (a' := ?_) #[true, true, true, true, true, true, true, true, true, true, true, true, true, true, true, true, false, false] rfl rfl (Zbp HT_.out (by kernel_rfl)) (fun _ _ _ h => h) (Or.inl ⟨by rfl, ?_⟩) ?_ ?_
    rotate_left
    ·intro w'
     go_simp
     with_reducible rfl
    rotate_left
    ·simp only [Act.put, List.setIfInBounds_toArray, List.set_cons_zero, List.set_cons_succ, Zbq, Zbr]
     rfl
    refine Zbx (i := 16) (N := some 29) (v := ?_) (a' := ?_) #[true, true, true, true, true, true, true, true, true, true, true, true, true, true, true, true, true, false] rfl rfl (Zbp HT_.out (by kernel_rfl)) (fun _ _ _ h => h) (Or.inl ⟨by rfl, ?_⟩) ?_ ?_
    rotate_left
    ·intro w'
     go_simp
     with_reducible rfl
    rotate_left
    ·simp only [Act.put, List.setIfInBounds_toArray, List.set_cons_zero, List.set_cons_succ, Zbq, Zbr]
     rfl
    refine Zbx (i := 17) (N := some 30) (v := ?_) (a' := ?_) #[true, true, true, true, true, true, true, true, true, true, true, true, true, true, true, true, true, true] rfl rfl (Zbp HT_.out (by kernel_rfl)) (fun _ _ _ h => h) (Or.inl ⟨by rfl, ?_⟩) ?_ ?_
    rotate_left
    ·intro w'
     go_simp
     with_reducible rfl
    rotate_left
    ·simp only [Act.put, List.setIfInBounds_toArray, List.set_cons_zero, List.set_cons_succ, Zbq, Zbr]
     rfl
    refine Zfd (Zdk HT_.out (by kernel_rfl)) ?_
    try go_wp2
    go_roundg k1
    case measure => have := HK1.out; omega
    case rel => exact ⟨(x3_1), (x4_1), (ji13), (by first | rfl | (simp; done) | (simp [*]; done)), (by first | rfl | (simp; done) | (simp only [← hji13] <;> (first | rfl | simp)) | (simp [*]; done)), H', ⟨by have := HK1.out; omega⟩, ⟨by (with_reducible repeat (first | apply Kd.R_alloc | apply Kd.Zap | apply Kd.Zav)); exact HO_3.out⟩, ⟨by repeat (first | (with_reducible first | exact HB.out | apply Zac | apply Za | apply Zab) | exact HB.out)⟩⟩
   rw [if_neg c17] at H
   have c17b0 : ((rd l0 (ji13)) == (wrap64 ((rd l0 x5_1) + 1))) = false := beq_eq_false_iff_ne.mpr c17
   have c17b1 : ((rd l0 (ji13)) != (wrap64 ((rd l0 x5_1) + 1))) = true := bne_iff_ne.mpr c17
   by_cases c19 : 0 ≤ x4_1
   rotate_left
   ·rw [if_neg c19] at H
    exact absurd H (by simp)
   rw [if_pos c19] at H
   have c19b0 : decide (0 ≤ x4_1) = true := decide_eq_true c19
   clear c19
   by_cases c20 : x4_1 < (l0.length : Int)
   rotate_left
   ·rw [if_neg c20] at H
    exact absurd H (by simp)
   rw [if_pos c20] at H
   have c20b0 : decide (x4_1 < (l0.length : Int)) = true := decide_eq_true c20
   clear c20
   by_cases c21 : x3_1.length < 8796093022208
   rotate_left
   ·rw [if_neg c21] at H
    exact absurd H (by simp)
   rw [if_pos c21] at H
   have LMc21 := Zaa.mk c21
   clear c21
   obtain ⟨y174, hy174⟩ : ∃ y_ : List (S41), y_ = (x3_1 ++ [(⟨rd l0 x4_1, rd l0 x5_1⟩ : S41)]) := ⟨_, rfl⟩
   replace H : (Zao.l0 k1 l0 y174 ji13 ji13) = some r := by first | (rw [hy174]; with_reducible exact H) | (have H2_ := (Option.bind_some _ _).symm.trans H; rw [hy174]; with_reducible exact H2_) | (have H2_ := (Option.bind_some _ _).symm.trans H; with_reducible exact H2_) | with_reducible exact H | (rw [hy174]; exact H) | exact H
   have Ny174 := Zaa.mk hy174
   clear hy174
   have H' := Zaa.mk H
   clear H
   try go_wp2
   have n0_ := Zaa.mk (Kd.Zav HO_3.out)
   have n1_ := Zaa.mk (Zab HB.out)
   clear HO_3
   clear HB
   have HO_3 := n0_
   have HB := n1_
   clear n0_ n1_
   have p170 : 0 ≤ ((ji13) : Int) := of_decide_eq_true (by first | (with_reducible assumption) | assumption)
   have q170 : (ji13) < (l0.length : Int) := of_decide_eq_true (by first | (with_reducible assumption) | assumption)
   obtain ⟨ad170, e170, hx170_0⟩ := Kd.Zb6 HR0.out (ji13) p170 q170
   have hw170_0 := hx170_0
   cases e170
   replace hx170_0 := (HB.out.cell (World.block_lt_of_cell? w _ hx170_0)).trans hx170_0
   replace p170 := eq_true p170
   replace q170 := eq_true q170
   have p171 : 0 ≤ (x5_1 : Int) := of_decide_eq_true (by first | (with_reducible assumption) | assumption)
   have q171 : x5_1 < (l0.length : Int) := of_decide_eq_true (by first | (with_reducible assumption) | assumption)
   obtain ⟨ad171, e171, hx171_0⟩ := Kd.Zb6 HR0.out x5_1 p171 q171
   have hw171_0 := hx171_0
   obtain rfl : ad170 = ad171 := (by injection e171)
   replace hx171_0 := (HB.out.cell (World.block_lt_of_cell? w _ hx171_0)).trans hx171_0
   replace p171 := eq_true p171
   replace q171 := eq_true q171
   refine Zd8 (n := 18) (S := fun w' => w'.cell? (ad170.add ((ji13)).toNat) = some (.int .i64 (rd l0 (ji13))) ∧ w'.cell? (ad170.add (x5_1).toNat) = some (.int .i64 (rd l0 x5_1))) (ds := []) #[false, false, false, false, false, false, false, false, false, false, false, false, false, false, false, false, false, false] (by kernel_rfl) rfl rfl ⟨((HB.out.cell (World.block_lt_of_cell? w _ hw170_0)).trans hw170_0), ((HB.out.cell (World.block_lt_of_cell? w _ hw171_0)).trans hw171_0)⟩ (fun hHeld => ?_); refine Zcz Zao.tab5 Zao.bits5 (fun HT_ HW_ => ?_)
   generalize wr.drew = w22 at HO_3 HB hx170_0 hx171_0 hHeld ⊢
   refine Zbx (i := 0) (N := some 13) (v := ?_) (a' := ?_) #[true, false, false, false, false, false, false, false, false, false, false, false, false, false, false, false, false, false] rfl rfl (Zbp HT_.out (by kernel_rfl)) (fun _ _ _ h => h) (Or.inl ⟨by rfl, ?_⟩) ?_ ?_
   rotate_left
   ·intro w'
    go_simp
    with_reducible rfl
   rotate_left
   ·simp only [Act.put, List.setIfInBounds_toArray, List.set_cons_zero, List.set_cons_succ, Zbq, Zbr]
    rfl
   refine Zbx (i := 1) (N := some 14) (v := ?_) (a' := ?_) #[true, true, false, false, false, false, false, false, false, false, false, false, false, false, false, false, false, false] rfl rfl (Zbp HT_.out (by kernel_rfl)) (fun _ _ _ h => h) (Or.inl ⟨by rfl, ?_⟩) ?_ ?_
   rotate_left
   ·intro w'
    go_simp
    with_reducible rfl
   rotate_left
   ·simp only [Act.put, List.setIfInBounds_toArray, List.set_cons_zero, List.set_cons_succ, Zbq, Zbr]
    rfl
   refine Zbx (i := 2) (N := some 15) (v := ?_) (a' := ?_) #[true, true, true, false, false, false, false, false, false, false, false, false, false, false, false, false, false, false] rfl rfl (Zbp HT_.out (by kernel_rfl)) (fun _ _ _ h => h) (Or.inl ⟨by rfl, ?_⟩) ?_ ?_
   rotate_left
   ·intro w'
    go_simp
    with_reducible rfl
   rotate_left
   ·simp only [Act.put, List.setIfInBounds_toArray, List.set_cons_zero, List.set_cons_succ, Zbq, Zbr]
    rfl
   refine Zbx (i := 3) (N := some 16) (v := ?_) (a' := ?_) #[true, true, true, true, false, false, false, false, false, false, false, false, false, false, false, false, false, false] rfl rfl (Zbp HT_.out (by kernel_rfl)) (fun _ _ _ h => h) (Or.inl ⟨by rfl, ?_⟩) ?_ ?_
   rotate_left
   ·intro w'
    go_simp
    with_reducible rfl
   rotate_left
   ·simp only [Act.put, List.setIfInBounds_toArray, List.set_cons_zero, List.set_cons_succ, Zbq, Zbr]
    rfl
   refine Zbx (i := 4) (N := some 17) (v := ?_) (a' := ?_) #[true, true, true, true, true, false, false, false, false, false, false, false, false, false, false, false, false, false] rfl rfl (Zbp HT_.out (by kernel_rfl)) (fun _ _ _ h => h) (Or.inl ⟨by rfl, ?_⟩) ?_ ?_
   rotate_left
   ·intro w'
    go_simp
    with_reducible rfl
   rotate_left
   ·simp only [Act.put, List.setIfInBounds_toArray, List.set_cons_zero, List.set_cons_succ, Zbq, Zbr]
    rfl
   refine Zbx (i := 5) (N := some 18) (v := ?_) (a' := ?_) #[true, true, true, true, true, true, false, false, false, false, false, false, false, false, false, false, false, false] rfl rfl (Zbp HT_.out (by kernel_rfl)) (fun _ _ _ h => h) (Or.inl ⟨by rfl, ?_⟩) ?_ ?_
   rotate_left
   ·intro w'
    go_simp
    with_reducible rfl
   rotate_left
   ·simp only [Act.put, List.setIfInBounds_toArray, List.set_cons_zero, List.set_cons_succ, Zbq, Zbr]
    rfl
   refine Zbx (i := 6) (N := some 19) (v := ?_) (a' := ?_) #[true, true, true, true, true, true, true, false, false, false, false, false, false, false, false, false, false, false] rfl rfl (Zbp HT_.out (by kernel_rfl)) (fun _ _ _ h => h) (Or.inl ⟨by rfl, ?_⟩) ?_ ?_
   rotate_left
   ·intro w'
    go_simp
    with_reducible rfl
   rotate_left
   ·simp only [Act.put, List.setIfInBounds_toArray, List.set_cons_zero, List.set_cons_succ, Zbq, Zbr]
    rfl
   refine Zbx (i := 7) (N := some 20) (v := ?_) (a' := ?_) #[true, true, true, true, true, true, true, true, false, false, false, false, false, false, false, false, false, false] rfl rfl (Zbp HT_.out (by kernel_rfl)) (fun _ _ _ h => h) (Or.inl ⟨by rfl, ?_⟩) ?_ ?_
   rotate_left
   ·intro w'
    go_simp
    with_reducible rfl
   rotate_left
   ·simp only [Act.put, List.setIfInBounds_toArray, List.set_cons_zero, List.set_cons_succ, Zbq, Zbr]
    rfl
   refine Zbx (i := 8) (N := some 21) (v := ?_) (a' := ?_) #[true, true, true, true, true, true, true, true, true, false, false, false, false, false, false, false, false, false] rfl rfl (Zbp HT_.out (by kernel_rfl)) (fun _ _ _ h => h) (Or.inl ⟨by rfl, ?_⟩) ?_ ?_
   rotate_left
   ·intro w'
    go_simp
    with_reducible rfl
   rotate_left
   ·simp only [Act.put, List.setIfInBounds_toArray, List.set_cons_zero, List.set_cons_succ, Zbq, Zbr]
    rfl
   refine Zbx (i := 9) (N := some 22) (v := ?_) (a' := ?_) #[true, true, true, true, true, true, true, true, true, true, false, false, false, false, false, false, false, false] rfl rfl (Zbp HT_.out (by kernel_rfl)) (fun _ _ _ h => h) (Or.inl ⟨by rfl, ?_⟩) ?_ ?_
   rotate_left
   ·intro w'
    go_simp
    with_reducible rfl
   rotate_left
   ·simp only [Act.put, List.setIfInBounds_toArray, List.set_cons_zero, List.set_cons_succ, Zbq, Zbr]
    rfl
   refine Zbx (i := 11) (N := some 24) (v := ?_) (a' := ?_) #[true, true, true, true, true, true, true, true, true, true, false, true, false, false, false, false, false, false] rfl rfl (Zbp HT_.out (by kernel_rfl)) (fun _ _ _ h => h) (Or.inl ⟨by rfl, ?_⟩) ?_ ?_
   rotate_left
   ·intro w'
    go_simp
    with_reducible rfl
   rotate_left
   ·simp only [Act.put, List.setIfInBounds_toArray, List.set_cons_zero, List.set_cons_succ, Zbq, Zbr]
    rfl
   refine Zbx (i := 12) (N := some 25) (v := ?_) (a' := ?_) #[true, true, true, true, true, true, true, true, true, true, false, true, true, false, false, false, false, false] rfl rfl (Zbp HT_.out (by kernel_rfl)) (fun _ _ _ h => h) (Or.inl ⟨by rfl, ?_⟩) ?_ ?_
   rotate_left
   ·intro w'
    go_simp
    with_reducible rfl
   rotate_left
   ·simp only [Act.put, List.setIfInBounds_toArray, List.set_cons_zero, List.set_cons_succ, Zbq, Zbr]
    rfl
   refine Zbx (i := 13) (N := some 26) (v := ?_) (a' := ?_) #[true, true, true, true, true, true, true, true, true, true, false, true, true, true, false, false, false, false] rfl rfl (Zbp HT_.out (by kernel_rfl)) (fun _ _ _ h => h) (Or.inl ⟨by rfl, ?_⟩) ?_ ?_
   rotate_left
   ·intro w'
    go_simp
    with_reducible rfl
   rotate_left
   ·simp only [Act.put, List.setIfInBounds_toArray, List.set_cons_zero, List.set_cons_succ, Zbq, Zbr]
    rfl
   refine Zdf (i := 10) (N := some 23) (v := ?_) (a' := ?_) #[true, true, true, true, true, true, true, true, true, true, true, true, true, true, false, false, false, false] rfl rfl (Zci HT_.out HW_.out (by kernel_rfl)) (fun _ _ _ h => h) (Or.inl ⟨by rfl, ?_⟩) hHeld ?_ ?_
   rotate_left
   ·rintro w' ⟨s0, s1⟩
    go_simp
    with_reducible rfl
   rotate_left
   ·simp only [Act.put, List.setIfInBounds_toArray, List.set_cons_zero, List.set_cons_succ, Zbq, Zbr]
    rfl
   refine Zdf (i := 14) (N := some 27) (v := ?_) (a' := ?_) #[true, true, true, true, true, true, true, true, true, true, true, true, true, true, true, false, false, false] rfl rfl (Zci HT_.out HW_.out (by kernel_rfl)) (fun _ _ _ h => h) (Or.inl ⟨by rfl, ?_⟩) hHeld ?_ ?_
   rotate_left
   ·rintro w' ⟨s0, s1⟩
    go_simp
    with_reducible rfl
   rotate_left
   ·simp only [Act.put, List.setIfInBounds_toArray, List.set_cons_zero, List.set_cons_succ, Zbq, Zbr]
    rfl
   refine Zbx (i := 15) (N := some 28) (v := ?_) (a' := ?_) #[true, true, true, true, true, true, true, true, true, true, true, true, true, true, true, true, false, false] rfl rfl (Zbp HT_.out (by kernel_rfl)) (fun _ _ _ h => h) (Or.inl ⟨by rfl, ?_⟩) ?_ ?_
   rotate_left
   ·intro w'
    go_simp
    with_reducible rfl
   rotate_left
   ·simp only [Act.put, List.setIfInBounds_toArray, List.set_cons_zero, List.set_cons_succ, Zbq, Zbr]
    rfl
   refine Zbx (i := 16) (N := some 29) (v := ?_) (a' := ?_) #[true, true, true, true, true, true, true, true, true, true, true, true, true, true, true, true, true, false] rfl rfl (Zbp HT_.out (by kernel_rfl)) (fun _ _ _ h => h) (Or.inl ⟨by rfl, ?_⟩) ?_ ?_
   rotate_left
   ·intro w'
    go_simp
    with_reducible rfl
   rotate_left
   ·simp only [Act.put, List.setIfInBounds_toArray, List.set_cons_zero, List.set_cons_succ, Zbq, Zbr]
    rfl
   refine Zbx (i := 17) (N := some 30) (v := ?_) (a' := ?_) #[true, true, true, true, true, true, true, true, true, true, true, true, true, true, true, true, true, true] rfl rfl (Zbp HT_.out (by kernel_rfl)) (fun _ _ _ h => h) (Or.inl ⟨by rfl, ?_⟩) ?_ ?_
   rotate_left
   ·intro w'
    go_simp
    with_reducible rfl
   rotate_left
   ·simp only [Act.put, List.setIfInBounds_toArray, List.set_cons_zero, List.set_cons_succ, Zbq, Zbr]
    rfl
   refine Zfd (Zdk HT_.out (by kernel_rfl)) ?_
   try go_wp2
   have n0_ := Zaa.mk (Kd.Zav HO_3.out)
   have n1_ := Zaa.mk (Zab HB.out)
   clear HO_3
   clear HB
   have HO_3 := n0_
   have HB := n1_
   clear n0_ n1_
   have p172 : 0 ≤ (x4_1 : Int) := of_decide_eq_true (by first | (with_reducible assumption) | assumption)
   have q172 : x4_1 < (l0.length : Int) := of_decide_eq_true (by first | (with_reducible assumption) | assumption)
   obtain ⟨ad172, e172, hx172_0⟩ := Kd.Zb6 HR0.out x4_1 p172 q172
   have hw172_0 := hx172_0
   obtain rfl : ad170 = ad172 := (by injection e172)
   replace hx172_0 := (HB.out.cell (World.block_lt_of_cell? w _ hx172_0)).trans hx172_0
   replace p172 := eq_true p172
   replace q172 := eq_true q172
   have p173 : 0 ≤ (x5_1 : Int) := of_decide_eq_true (by first | (with_reducible assumption) | assumption)
   have q173 : x5_1 < (l0.length : Int) := of_decide_eq_true (by first | (with_reducible assumption) | assumption)
   obtain ⟨ad173, e173, hx173_0⟩ := Kd.Zb6 HR0.out x5_1 p173 q173
   have hw173_0 := hx173_0
   obtain rfl : ad170 = ad173 := (by injection e173)
   replace hx173_0 := (HB.out.cell (World.block_lt_of_cell? w _ hx173_0)).trans hx173_0
   replace p173 := eq_true p173
   replace q173 := eq_true q173
   refine Zd8 (n := 13) (S := fun w' => w'.cell? (ad170.add (x4_1).toNat) = some (.int .i64 (rd l0 x4_1)) ∧ w'.cell? (ad170.add (x5_1).toNat) = some (.int .i64 (rd l0 x5_1))) (ds := []) #[false, false, false, false, false, false, false, false, false, false, false, false, false] (by kernel_rfl) rfl rfl ⟨((HB.out.cell (World.block_lt_of_cell? w _ hw172_0)).trans hw172_0), ((HB.out.cell (World.block_lt_of_cell? w _ hw173_0)).trans hw173_0)⟩ (fun hHeld => ?_); refine Zcz Zao.tab6 Zao.bits6 (fun HT_ HW_ => ?_)
   generalize w22.drew = w23 at HO_3 HB hx172_0 hx173_0 hHeld ⊢
   refine Zbx (i := 0) (N := some 31) (v := ?_) (a' := ?_) #[true, false, false, false, false, false, false, false, false, false, false, false, false] rfl rfl (Zbp HT_.out (by kernel_rfl)) (fun _ _ _ h => h) (Or.inl ⟨by rfl, ?_⟩) ?_ ?_
   rotate_left
   ·intro w'
    go_simp
    with_reducible rfl
   rotate_left
   ·simp only [Act.put, List.setIfInBounds_toArray, List.set_cons_zero, List.set_cons_succ, Zbq, Zbr]
    rfl
   refine Zbx (i := 1) (N := some 32) (v := ?_) (a' := ?_) #[true, true, false, false, false, false, false, false, false, false, false, false, false] rfl rfl (Zbp HT_.out (by kernel_rfl)) (fun _ _ _ h => h) (Or.inl ⟨by rfl, ?_⟩) ?_ ?_
   rotate_left
   ·intro w'
    go_simp
    with_reducible rfl
   rotate_left
   ·simp only [Act.put, List.setIfInBounds_toArray, List.set_cons_zero, List.set_cons_succ, Zbq, Zbr]
    rfl
   refine Zbx (i := 2) (N := some 33) (v := ?_) (a' := ?_) #[true, true, true, false, false, false, false, false, false, false, false, false, false] rfl rfl (Zbp HT_.out (by kernel_rfl)) (fun _ _ _ h => h) (Or.inl ⟨by rfl, ?_⟩) ?_ ?_
   rotate_left
   ·intro w'
    go_simp
    with_reducible rfl
   rotate_left
   ·simp only [Act.put, List.setIfInBounds_toArray, List.set_cons_zero, List.set_cons_succ, Zbq, Zbr]
    rfl
   refine Zbx (i := 3) (N := some 34) (v := ?_) (a' := ?_) #[true, true, true, true, false, false, false, false, false, false, false, false, false] rfl rfl (Zbp HT_.out (by kernel_rfl)) (fun _ _ _ h => h) (Or.inl ⟨by rfl, ?_⟩) ?_ ?_
   rotate_left
   ·intro w'
    go_simp
    with_reducible rfl
   rotate_left
   ·simp only [Act.put, List.setIfInBounds_toArray, List.set_cons_zero, List.set_cons_succ, Zbq, Zbr]
    rfl
   refine Zbx (i := 5) (N := some 36) (v := ?_) (a' := ?_) #[true, true, true, true, false, true, false, false, false, false, false, false, false] rfl rfl (Zbp HT_.out (by kernel_rfl)) (fun _ _ _ h => h) (Or.inl ⟨by rfl, ?_⟩) ?_ ?_
   rotate_left
   ·intro w'
    go_simp
    with_reducible rfl
   rotate_left
   ·simp only [Act.put, List.setIfInBounds_toArray, List.set_cons_zero, List.set_cons_succ, Zbq, Zbr]
    rfl
   refine Zbx (i := 6) (N := some 37) (v := ?_) (a' := ?_) #[true, true, true, true, false, true, true, false, false, false, false, false, false] rfl rfl (Zbp HT_.out (by kernel_rfl)) (fun _ _ _ h => h) (Or.inl ⟨by rfl, ?_⟩) ?_ ?_
   rotate_left
   ·intro w'
    go_simp
    with_reducible rfl
   rotate_left
   ·simp only [Act.put, List.setIfInBounds_toArray, List.set_cons_zero, List.set_cons_succ, Zbq, Zbr]
    rfl
   refine Zbx (i := 7) (N := some 38) (v := ?_) (a' := ?_) #[true, true, true, true, false, true, true, true, false, false, false, false, false] rfl rfl (Zbp HT_.out (by kernel_rfl)) (fun _ _ _ h => h) (Or.inl ⟨by rfl, ?_⟩) ?_ ?_
   rotate_left
   ·intro w'
    go_simp
    with_reducible rfl
   rotate_left
   ·simp only [Act.put, List.setIfInBounds_toArray, List.set_cons_zero, List.set_cons_succ, Zbq, Zbr]
    rfl
   refine Zdf (i := 4) (N := some 35) (v := ?_) (a' := ?_) #[true, true, true, true, true, true, true, true, false, false, false, false, false] rfl rfl (Zci HT_.out HW_.out (by kernel_rfl)) (fun _ _ _ h => h) (Or.inl ⟨by rfl, ?_⟩) hHeld ?_ ?_
   rotate_left
   ·rintro w' ⟨s0, s1⟩
    go_simp
    with_reducible rfl
   rotate_left
   ·simp only [Act.put, List.setIfInBounds_toArray, List.set_cons_zero, List.set_cons_succ, Zbq, Zbr]
    rfl
   refine Zdf (i := 8) (N := some 39) (v := ?_) (a' := ?_) #[true, true, true, true, true, true, true, true, true, false, false, false, false] rfl rfl (Zci HT_.out HW_.out (by kernel_rfl)) (fun _ _ _ h => h) (Or.inl ⟨by rfl, ?_⟩) hHeld ?_ ?_
   rotate_left
   ·rintro w' ⟨s0, s1⟩
    go_simp
    with_reducible rfl
   rotate_left
   ·simp only [Act.put, List.setIfInBounds_toArray, List.set_cons_zero, List.set_cons_succ, Zbq, Zbr]
    rfl
   refine Zbx (i := 9) (N := some 40) (v := ?_) (a' := ?_) #[true, true, true, true, true, true, true, true, true, true, false, false, false] rfl rfl (Zbp HT_.out (by kernel_rfl)) (fun _ _ _ h => h) (Or.inl ⟨by rfl, ?_⟩) ?_ ?_
   rotate_left
   ·intro w'
    go_simp
    with_reducible rfl
   rotate_left
   ·simp only [Act.put, List.setIfInBounds_toArray, List.set_cons_zero, List.set_cons_succ, Zbq, Zbr]
    rfl
   refine one_ (i := 10) (N := some 41) #[true, true, true, true, true, true, true, true, true, true, true, false, false] rfl rfl (Zdp HT_.out (by kernel_rfl)) (by decide) (fun K hK => ?_)
   refine value_ (w1 := ?_) (v := ?_) (by rfl) rfl ?_ ?_
   rotate_left 2
   ·go_simp
    constructor
    ·rfl
    rfl
   refine hK.out _ _ ⟨(World.cell?_alloc_lt _ _ _ (World.block_lt_of_cell? _ _ (((HB.out.cell (World.block_lt_of_cell? w _ hw172_0)).trans hw172_0)))).trans (((HB.out.cell (World.block_lt_of_cell? w _ hw172_0)).trans hw172_0)), (World.cell?_alloc_lt _ _ _ (World.block_lt_of_cell? _ _ (((HB.out.cell (World.block_lt_of_cell? w _ hw173_0)).trans hw173_0)))).trans (((HB.out.cell (World.block_lt_of_cell? w _ hw173_0)).trans hw173_0))⟩ (fun hHeld => ?_)
   clear hK K
   refine Ze2 (a' := ?_) ?_ ?_
   rotate_left
   ·show Act.put _ (some 41) _ = _
    simp only [Act.put, List.setIfInBounds_toArray, List.set_cons_zero, List.set_cons_succ, Zbq, Zbr]
    rfl
   refine one_ (i := 11) (N := some 42) #[true, true, true, true, true, true, true, true, true, true, true, true, false] rfl rfl (Zdp HT_.out (by kernel_rfl)) (by decide) (fun K hK => ?_)
   refine Kd.Zd4 k41 (w0 := w) w.heap.size (by rfl) (.tmp 31) (.tmp 41) 39 41 (.agg #[(.int .i64 0), (.int .i64 0)]) 16 rfl Try.underlying39 info41 rfl (by decide) (by omega) u3 x3_1 (⟨rd l0 x4_1, rd l0 x5_1⟩ : S41) [.int .i64 (rd l0 x4_1), .int .i64 (rd l0 x5_1)] (fun _ => True) (fun _ => False) rfl rfl ?aP (fun _ hk => hk.elim) ?aF ?aO ?aB ?aS ?aL ?_
   (case aP => exact Zel _ _ _ (⟨rd l0 x4_1, rd l0 x5_1⟩ : S41))
   (case aB => exact (by repeat (first | (with_reducible first | exact HB.out | apply Zac | apply Za | apply Zab) | exact HB.out)))
   (case aF => exact (fun _ _ => trivial))
   (case aO => exact (by (with_reducible repeat (first | apply Kd.R_alloc | apply Kd.Zap | apply Kd.Zav)); exact HO_3.out))
   (case aS => exact (Zal (by repeat (first | (with_reducible first | exact HB.out | apply Zac | apply Za | apply Zab) | exact HB.out))))
   (case aL => have := LMc21.out; omega)
   intro v175 w24 ho hb hg hat
   rw [← Ny174.out] at ho
   have n0_ := Zaa.mk (hb)
   have n1_ := Zaa.mk (ho)
   clear HB
   clear HO_3
   have HB := n0_
   have HO176 := n1_
   clear n0_ n1_
   clear ho hb hg hat
   refine hK.out _ _ ⟨((HB.out.cell (World.block_lt_of_cell? w _ hw172_0)).trans hw172_0), ((HB.out.cell (World.block_lt_of_cell? w _ hw173_0)).trans hw173_0)⟩ (fun hHeld => ?_)
   clear hK K
   refine Ze2 (a' := ?_) ?_ ?_
   rotate_left
   ·show Act.put _ (some 42) _ = _
    simp only [Act.put, List.setIfInBounds_toArray, List.set_cons_zero, List.set_cons_succ, Zbq, Zbr]
    rfl
   refine Zbx (i := 12) (N := some 3) (v := ?_) (a' := ?_) #[true, true, true, true, true, true, true, true, true, true, true, true, true] rfl rfl (Zbp HT_.out (by kernel_rfl)) (fun _ _ _ h => h) (Or.inl ⟨by rfl, ?_⟩) ?_ ?_
   rotate_left
   ·intro w'
    go_simp
    with_reducible rfl
   rotate_left
   ·simp only [Act.put, List.setIfInBounds_toArray, List.set_cons_zero, List.set_cons_succ, Zbq, Zbr]
    rfl
   refine Zfd (Zdk HT_.out (by kernel_rfl)) ?_
   try go_wp2
   go_roundg k1
   case measure => have := HK1.out; omega
   case rel => exact ⟨(y174), (ji13), (ji13), (by first | rfl | (simp; done) | (simp only [← hji13] <;> (first | rfl | simp)) | (simp [*]; done)), (by first | rfl | (simp; done) | (simp only [← hji13] <;> (first | rfl | simp)) | (simp [*]; done)), H', ⟨by have := HK1.out; omega⟩, ⟨by (with_reducible repeat (first | apply Kd.R_alloc | apply Kd.Zap | apply Kd.Zav)); exact HO176.out⟩, ⟨by repeat (first | (with_reducible first | exact HB.out | apply Zac | apply Za | apply Zab) | exact HB.out)⟩⟩
/-! ### Zby: function 85 -/
def Zby.f (a0 : Int) : Option (Bool) := if a0 ≥ (-1048576) then (some (decide (a0 ≤ 1048576))) else (some false)
set_option maxHeartbeats 8000000 in
set_option maxRecDepth 100000 in
theorem Zby.calls (a0 : Int) (r : Bool) (w : World) (h : Zby.f a0 = some r) :
  Calls Try.prog 85 #[.int .i64 a0] w fun e w' => e = .returned (.bool r) ∧ Zbh w w' := by
 have H : (if a0 ≥ (-1048576) then (some (decide (a0 ≤ 1048576))) else (some false)) = some r := h
 clear h
 by_cases c2 : a0 ≥ (-1048576)
 ·rw [if_pos c2] at H
  have c2b0 : decide ((-1048576) ≤ a0) = true := decide_eq_true c2
  clear c2
  obtain rfl := Option.some.inj H
  go_enter Try.func85, Try.ntmps85
  go_wp2
  go_ret
  exact ⟨by first | rfl | (simp; done) | (simp [*]; done), by repeat (first | exact Zbh.refl _ | apply Zbh.step)⟩
 rw [if_neg c2] at H
 have c2b0 : decide ((-1048576) ≤ a0) = false := decide_eq_false c2
 clear c2
 obtain rfl := Option.some.inj H
 go_enter Try.func85, Try.ntmps85
 go_wp2
 go_ret
 exact ⟨by first | rfl | (simp; done) | (simp [*]; done), by repeat (first | exact Zbh.refl _ | apply Zbh.step)⟩

end Go.Proofs.Ytpbcigilipdedaa.P
