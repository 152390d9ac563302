/- Proved: what each function of the program that the statements of this seat reach comes to, for whatever memory and arguments it is called with (on condition that its plain text tells a result). -/
import Derived.Test.YtpbcigilipdedaaZ1
import Derived.Test.YtpbcigilipdedaaZ3
import Derived.Laws.BitsLemmas
import Derived.Test.YtpbcigilipdedaaZ2

namespace Go.Proofs.Ytpbcigilipdedaa.P
open Go.RowKit Go.Proofs.YtpbcigilipdedaaW.PrintWords Go.Proofs.YtpbcigilipdedaaW.PrintLast Go.Proofs.YtpbcigilipdedaaW.PrintMore
attribute [local go_sem] Zcv Zcx Zdc Zdd Zcp Zcq Zcw Zcy
set_option linter.unusedVariables false
set_option linter.unusedSimpArgs false
/-! ### Zan: function 14 -/
def Zan.l0 : Nat → Int → List (List (S41)) → Int → List (List Int) → Int → List Int → List Int → Int → Int → List (List Int) → Int → List Int → List Int → Option ((List (List (S41))) × Int × List Int × List Int × Int × Int × (List (List Int)) × Int × Bool)
 | 0, _, _, _, _, _, _, _, _, _, _, _, _, _ => none
 | k + 1, x1, x7, x8, x251000, x251001, x251002, x251003, x251004, x251005, x251006, x251007, x251008, x251009 => if x8 < (x251000.length : Int) then (if x8 < 4 then (if 0 ≤ x8 then (if 0 ≤ (mn ((Zbz x251000 x8).length : Int) 6) then (if (mn ((Zbz x251000 x8).length : Int) 6) ≤ ((Zbz x251000 x8).length : Int) then ((Za5.f k ((Zbz x251000 x8).take ((mn ((Zbz x251000 x8).length : Int) 6) : Int).toNat)).bind fun t258 => (if x7.length < 5864062014805 then (Zan.l0 k x1 (x7 ++ [t258]) (wrap64 (x8 + 1)) x251000 x251001 x251002 x251003 x251004 x251005 x251006 x251007 x251008 x251009) else (none))) else (none)) else (none)) else (none)) else ((Zbc.f k x251001 x251002 x251003 x251004 x251005 x251006 x251007).bind fun bt264 => (if 0 ≤ (mn (bt264.2.2.2.2.2.1.length : Int) 20) then (if (mn (bt264.2.2.2.2.2.1.length : Int) 20) ≤ (bt264.2.2.2.2.2.1.length : Int) then ((some (bt264.2.2.2.2.2.1.take ((mn (bt264.2.2.2.2.2.1.length : Int) 20) : Int).toNat : List (List Int))).bind fun y278 => ((Zas.f k x7 x1 bt264.2.1 bt264.2.2.1 bt264.2.2.2.1 bt264.2.2.2.2.1 y278 bt264.2.2.2.2.2.2).bind fun t281 => (some (x7, x1, bt264.2.1, bt264.2.2.1, bt264.2.2.2.1, bt264.2.2.2.2.1, y278, bt264.2.2.2.2.2.2, (t281 == 0))))) else (none)) else (none)))) else ((Zbc.f k x251001 x251002 x251003 x251004 x251005 x251006 x251007).bind fun bt282 => (if 0 ≤ (mn (bt282.2.2.2.2.2.1.length : Int) 20) then (if (mn (bt282.2.2.2.2.2.1.length : Int) 20) ≤ (bt282.2.2.2.2.2.1.length : Int) then ((some (bt282.2.2.2.2.2.1.take ((mn (bt282.2.2.2.2.2.1.length : Int) 20) : Int).toNat : List (List Int))).bind fun y296 => ((Zas.f k x7 x1 bt282.2.1 bt282.2.2.1 bt282.2.2.2.1 bt282.2.2.2.2.1 y296 bt282.2.2.2.2.2.2).bind fun t299 => (some (x7, x1, bt282.2.1, bt282.2.2.1, bt282.2.2.2.1, bt282.2.2.2.2.1, y296, bt282.2.2.2.2.2.2, (t299 == 0))))) else (none)) else (none)))
def Zan.f (k : Nat) (l0_0 : List (List Int)) (a0_1 : Int) (l0_2 : List Int) (l0_3 : List Int) (a0_4 : Int) (a0_5 : Int) (l0_6 : List (List Int)) (a0_7 : Int) (l0_8 : List Int) (l0_9 : List Int) (a1 : Int) : Option ((List (List (S41))) × Int × List Int × List Int × Int × Int × (List (List Int)) × Int × Bool) := Zan.l0 k a1 (([] : List (List (S41)))) 0 l0_0 a0_1 l0_2 l0_3 a0_4 a0_5 l0_6 a0_7 l0_8 l0_9
theorem Zan.Zb1 : ∀ k, (∀ y0 y1 y2 y3 y4 y5 y6 y7 y8 y9 y10 y11 y12, LeO (Zan.l0 k y0 y1 y2 y3 y4 y5 y6 y7 y8 y9 y10 y11 y12) (Zan.l0 (k + 1) y0 y1 y2 y3 y4 y5 y6 y7 y8 y9 y10 y11 y12))
 | 0 => fun _ _ _ _ _ _ _ _ _ _ _ _ _ r h => by simp [Zan.l0] at h
 | k + 1 => by
  have ih0 := Zan.Zb1 k
  intro y0 y1 y2 y3 y4 y5 y6 y7 y8 y9 y10 y11 y12
  unfold Zan.l0
  repeat' first
  | (with_reducible exact ih0 _ _ _ _ _ _ _ _ _ _ _ _ _)
  | (with_reducible exact Za5.mono _ _)
  | (with_reducible exact Zas.mono _ _ _ _ _ _ _ _ _)
  | (with_reducible exact Zbc.mono _ _ _ _ _ _ _ _)
  | (with_reducible exact LeO.refl _)
  | (with_reducible exact LeO.none _)
  | (with_reducible refine LeO.ite ?_ ?_)
  | (with_reducible refine LeO.bind ?_ (fun _ => ?_))
  | exact ih0 _ _ _ _ _ _ _ _ _ _ _ _ _
  | exact Za5.mono _ _
  | exact Zas.mono _ _ _ _ _ _ _ _ _
  | exact Zbc.mono _ _ _ _ _ _ _ _
  | exact LeO.none _
  | refine LeO.ite ?_ ?_
  | refine LeO.bind ?_ (fun _ => ?_)
theorem Zan.mono : ∀ a0 a1 a2 a3 a4 a5 a6 a7 a8 a9 a10 k, LeO (Zan.f k a0 a1 a2 a3 a4 a5 a6 a7 a8 a9 a10) (Zan.f (k + 1) a0 a1 a2 a3 a4 a5 a6 a7 a8 a9 a10) := by
 intro a0 a1 a2 a3 a4 a5 a6 a7 a8 a9 a10 k
 have ih0 := Zan.Zb1 k
 unfold Zan.f
 repeat' first
   | (with_reducible exact ih0 _ _ _ _ _ _ _ _ _ _ _ _ _)
   | (with_reducible exact Za5.mono _ _)
   | (with_reducible exact Zas.mono _ _ _ _ _ _ _ _ _)
   | (with_reducible exact Zbc.mono _ _ _ _ _ _ _ _)
   | (with_reducible exact LeO.refl _)
   | (with_reducible exact LeO.none _)
   | (with_reducible refine LeO.ite ?_ ?_)
   | (with_reducible refine LeO.bind ?_ (fun _ => ?_))
   | exact ih0 _ _ _ _ _ _ _ _ _ _ _ _ _
   | exact Za5.mono _ _
   | exact Zas.mono _ _ _ _ _ _ _ _ _
   | exact Zbc.mono _ _ _ _ _ _ _ _
   | exact LeO.none _
   | refine LeO.ite ?_ ?_
   | refine LeO.bind ?_ (fun _ => ?_)
def Zan.T5 : Bool × List (List Nat × List Nat) := (true, [([], []), ([], []), ([1], [1]), ([], []), ([2, 3], [2, 3]), ([4], [4]), ([], []), ([6], [6]), ([], []), ([7, 8], [7, 8]), ([9], [9]), ([10], [10]), ([11], [11]), ([5, 12], [5, 12]), ([13], [13]), ([14], [14]), ([0, 15, 14], [0, 15]), ([16, 16, 0, 1, 2, 3, 4, 5, 6, 7, 8, 9, 10, 11, 12, 13, 14, 15, 16], [0, 16])])
def Zan.B5 : List Nat := [0, 0, 2, 0, 14, 30, 0, 64, 0, 448, 960, 1984, 4032, 8190, 16382, 32766, 65535, 131071]
theorem Zan.tab5 : rtab .any (opsOf Try.f14 5) = Zan.T5 := by kernel_rfl
theorem Zan.bits5 : waitsOk Zan.T5.2 Zan.B5 = true := by kernel_rfl
def Zan.T9 : Bool × List (List Nat × List Nat) := (true, [([], []), ([], []), ([], []), ([], []), ([2, 3], [2, 3]), ([4], [4]), ([0, 4, 0], [0]), ([1, 6, 0, 1, 6], [1]), ([5, 7, 0, 1, 2, 3, 4, 5, 6, 7], [5])])
def Zan.B9 : List Nat := [0, 0, 0, 0, 12, 28, 29, 95, 255]
theorem Zan.tab9 : rtab .any (opsOf Try.f14 9) = Zan.T9 := by kernel_rfl
theorem Zan.bits9 : waitsOk Zan.T9.2 Zan.B9 = true := by kernel_rfl
set_option maxHeartbeats 8000000 in
set_option maxRecDepth 100000 in
theorem Zan.calls (k : Nat) (A0_0 : Option Addr) (c0_0 : Nat) (l0_0 : List (List Int)) (a0_1 : Int) (A0_2 : Option Addr) (c0_2 : Nat) (l0_2 : List Int) (A0_3 : Option Addr) (c0_3 : Nat) (l0_3 : List Int) (a0_4 : Int) (a0_5 : Int) (A0_6 : Option Addr) (c0_6 : Nat) (l0_6 : List (List Int)) (a0_7 : Int) (A0_8 : Option Addr) (c0_8 : Nat) (l0_8 : List Int) (A0_9 : Option Addr) (c0_9 : Nat) (l0_9 : List Int) (a1 : Int) (r1 : List (List (S41))) (r2 : Int) (r3 : List Int) (r4 : List Int) (r5 : Int) (r6 : Int) (r7 : List (List Int)) (r8 : Int) (r9 : Bool) (w : World) (hr0_0 : Kd.C (Kd.slice 3 (Kd.int .i64)) w A0_0 l0_0.length l0_0) (hc0_0 : l0_0.length ≤ c0_0) (hr0_2 : Kd.C (Kd.int .i64) w A0_2 l0_2.length l0_2) (hc0_2 : l0_2.length ≤ c0_2) (hr0_3 : Kd.C (Kd.int .i64) w A0_3 l0_3.length l0_3) (hc0_3 : l0_3.length ≤ c0_3) (hr0_6 : Kd.C (Kd.slice 3 (Kd.int .i64)) w A0_6 l0_6.length l0_6) (hc0_6 : l0_6.length ≤ c0_6) (hr0_8 : Kd.C (Kd.int .i64) w A0_8 l0_8.length l0_8) (hc0_8 : l0_8.length ≤ c0_8) (hr0_9 : Kd.C (Kd.int .i64) w A0_9 l0_9.length l0_9) (hc0_9 : l0_9.length ≤ c0_9) (h : Zan.f k l0_0 a0_1 l0_2 l0_3 a0_4 a0_5 l0_6 a0_7 l0_8 l0_9 a1 = some (r1, r2, r3, r4, r5, r6, r7, r8, r9)) :
  Calls Try.prog 14 #[.agg #[.slice A0_0 l0_0.length c0_0, .int .i64 a0_1, .slice A0_2 l0_2.length c0_2, .slice A0_3 l0_3.length c0_3, .int .i64 a0_4, .int .i64 a0_5, .slice A0_6 l0_6.length c0_6, .int .i64 a0_7, .slice A0_8 l0_8.length c0_8, .slice A0_9 l0_9.length c0_9], .int .i64 a1] w fun e w' => ∃ v0_ v2_ v3_ v6_ : Value, e = .returned (.tuple #[v0_, .agg #[.int .i64 r2, v2_, v3_, .int .i64 r5, .int .i64 r6, v6_, .int .i64 r8], .bool r9]) ∧ Kd.S (Kd.slice 41 k41) 39 w' w.heap.size (fun _ => True) v0_ r1 ∧ Kd.R (Kd.int .i64) 3 w' w.heap.size (fun k_ => some k_ ≠ (v3_ : Value).ownBlock) v2_ r3 ∧ Kd.R (Kd.int .i64) 3 w' w.heap.size (fun k_ => some k_ ≠ (v2_ : Value).ownBlock) v3_ r4 ∧ Kd.S (Kd.slice 3 (Kd.int .i64)) 23 w' w.heap.size (fun k_ => some k_ ≠ (v2_ : Value).ownBlock ∧ some k_ ≠ (v3_ : Value).ownBlock) v6_ r7 ∧ Below w.heap.size w w' := by
 have hu27 := Try.underlying27
 have hu25 := Try.underlying25
 have HR0_0 := Zaa.mk hr0_0
 have HC0_0 := Zaa.mk hc0_0
 clear hr0_0 hc0_0
 have HR0_2 := Zaa.mk hr0_2
 have HC0_2 := Zaa.mk hc0_2
 clear hr0_2 hc0_2
 have HR0_3 := Zaa.mk hr0_3
 have HC0_3 := Zaa.mk hc0_3
 clear hr0_3 hc0_3
 have HR0_6 := Zaa.mk hr0_6
 have HC0_6 := Zaa.mk hc0_6
 clear hr0_6 hc0_6
 have HR0_8 := Zaa.mk hr0_8
 have HC0_8 := Zaa.mk hc0_8
 clear hr0_8 hc0_8
 have HR0_9 := Zaa.mk hr0_9
 have HC0_9 := Zaa.mk hc0_9
 clear hr0_9 hc0_9
 have HB := Zaa.mk (Below.refl w.heap.size w)
 have H : (Zan.l0 k a1 (([] : List (List (S41)))) 0 l0_0 a0_1 l0_2 l0_3 a0_4 a0_5 l0_6 a0_7 l0_8 l0_9) = some (r1, r2, r3, r4, r5, r6, r7, r8, r9) := h
 clear h
 obtain ⟨y252, hy252⟩ : ∃ y_ : List (List (S41)), y_ = (([] : List (List (S41)))) := ⟨_, rfl⟩
 replace H : (Zan.l0 k a1 y252 0 l0_0 a0_1 l0_2 l0_3 a0_4 a0_5 l0_6 a0_7 l0_8 l0_9) = some (r1, r2, r3, r4, r5, r6, r7, r8, r9) := by first | (rw [hy252]; with_reducible exact H) | (have H2_ := (Option.bind_some _ _).symm.trans H; rw [hy252]; with_reducible exact H2_) | (have H2_ := (Option.bind_some _ _).symm.trans H; with_reducible exact H2_) | with_reducible exact H | (rw [hy252]; exact H) | exact H
 have Ny252 := Zaa.mk hy252
 clear hy252
 have H' := Zaa.mk H
 clear H
 go_enter Try.func14, Try.ntmps14
 go_wp2_with (first | ((with_reducible refine Zb2 (N := 2) rfl ?_); refine Zcd ?hg (N := 2) ?hd (cs := #[.slice A0_0 l0_0.length c0_0, .int .i64 a0_1, .slice A0_2 l0_2.length c0_2, .slice A0_3 l0_3.length c0_3, .int .i64 a0_4, .int .i64 a0_5, .slice A0_6 l0_6.length c0_6, .int .i64 a0_7, .slice A0_8 l0_8.length c0_8, .slice A0_9 l0_9.length c0_9]) (t := 27) ?hr ?_; (case hd => rfl); (case hg => rfl); (case hr => first | (go_simp; done) | (go_simp; rfl)); intro gb250 hg w3 hbox hb; have n0_ := Zaa.mk (Zay (by repeat (first | (with_reducible first | exact HB.out | apply Zac | apply Za | apply Zab) | exact HB.out)) hb); have n1_ := Zaa.mk (hbox); have n2_ := Zaa.mk ((by rw [hg]; exact (Zal (by repeat (first | (with_reducible first | exact HB.out | apply Zac | apply Za | apply Zab) | exact HB.out))) : w.heap.size ≤ gb250)); have n3_ := Zaa.mk ((by rw [hg]; exact (Zal (by repeat (first | (with_reducible first | exact HB.out | apply Zac | apply Za | apply Zab) | exact HB.out))) : w.heap.size ≤ gb250)); clear HB; have HB := n0_; have BK250 := n1_; have GW250 := n2_; have GE250 := n3_; clear n0_ n1_ n2_ n3_; clear hb hbox hg) | ((with_reducible refine Zb2 (N := 5) rfl ?_); refine Zcd ?hg (N := 5) ?hd (cs := #[.int .i64 0, .slice none 0 0, .slice none 0 0, .int .i64 0, .int .i64 0, .slice none 0 0, .int .i64 0]) (t := 25) ?hr ?_; (case hd => rfl); (case hg => rfl); (case hr => first | (go_simp; done) | (go_simp; rfl)); intro gb251 hg w4 hbox hb; have n0_ := Zaa.mk (Zbb (g := gb250) (o := .cells #[.slice A0_0 l0_0.length c0_0, .int .i64 a0_1, .slice A0_2 l0_2.length c0_2, .slice A0_3 l0_3.length c0_3, .int .i64 a0_4, .int .i64 a0_5, .slice A0_6 l0_6.length c0_6, .int .i64 a0_7, .slice A0_8 l0_8.length c0_8, .slice A0_9 l0_9.length c0_9] 27 (0, 0)) (mvK BK250.out) hb); have n1_ := Zaa.mk (Zay (by repeat (first | (with_reducible first | exact HB.out | apply Zac | apply Za | apply Zab | refine Zaf ?_ GE250.out) | exact HB.out)) hb); have n2_ := Zaa.mk (hbox); have n3_ := Zaa.mk ((by rw [hg]; exact (Zal (by repeat (first | (with_reducible first | exact HB.out | apply Zac | apply Za | apply Zab | refine Zaf ?_ GE250.out) | exact HB.out))) : w.heap.size ≤ gb251)); have n4_ := Zaa.mk ((by rw [hg]; exact (Zal (by repeat (first | (with_reducible first | exact HB.out | apply Zac | apply Za | apply Zab | refine Zaf ?_ GE250.out) | exact HB.out))) : w.heap.size ≤ gb251)); have n5_ := Zaa.mk ((by rw [hg]; exact Nat.ne_of_lt (Zc1 (g := gb250) (o := .cells #[.slice A0_0 l0_0.length c0_0, .int .i64 a0_1, .slice A0_2 l0_2.length c0_2, .slice A0_3 l0_3.length c0_3, .int .i64 a0_4, .int .i64 a0_5, .slice A0_6 l0_6.length c0_6, .int .i64 a0_7, .slice A0_8 l0_8.length c0_8, .slice A0_9 l0_9.length c0_9] 27 (0, 0)) (mvK BK250.out)) : gb250 ≠ gb251)); have n6_ := Zaa.mk ((by rw [hg]; exact Nat.ne_of_gt (Zc1 (g := gb250) (o := .cells #[.slice A0_0 l0_0.length c0_0, .int .i64 a0_1, .slice A0_2 l0_2.length c0_2, .slice A0_3 l0_3.length c0_3, .int .i64 a0_4, .int .i64 a0_5, .slice A0_6 l0_6.length c0_6, .int .i64 a0_7, .slice A0_8 l0_8.length c0_8, .slice A0_9 l0_9.length c0_9] 27 (0, 0)) (mvK BK250.out)) : gb251 ≠ gb250)); clear BK250; clear HB; have BK250 := n0_; have HB := n1_; have BK251 := n2_; have GW251 := n3_; have GE251 := n4_; have NB250_251 := n5_; have NB251_250 := n6_; clear n0_ n1_ n2_ n3_ n4_ n5_ n6_; clear hb hbox hg) | ((with_reducible refine Zb2 (N := 10) rfl ?_); refine Kd.S_lit (Kd.slice 41 k41) _ 39 ?hg (N := 10) ?hd (xs := ([] : List (List (S41)))) (inner := []) (ok := fun _ => True) (okp := fun _ => True) ?hr ?hp (fun _ hk => hk) trivial (Below.refl _ _) (Nat.le_refl _) (by simp) ?_; (case hd => rfl); (case hg => rfl); (case hr => first | (go_simp; done) | (go_simp; rfl)); (case hp => exact (Reps.none _ _)); intro v253 w5 ho6 hb hg_ hnew_; clear hg_ hnew_; (first | rw [← Ny252.out] at ho6 | (simp only [Int.reduceToNat] at ho6; rw [← Ny252.out] at ho6)); have n0_ := Zaa.mk (Kd.Zc2 ho6 (Zal (by repeat (first | (with_reducible first | exact HB.out | apply Zac | apply Za | apply Zab | refine Zaf ?_ GE250.out | refine Zaf ?_ GE251.out) | exact HB.out)))); have n1_ := Zaa.mk (Zbb (g := gb250) (o := .cells #[.slice A0_0 l0_0.length c0_0, .int .i64 a0_1, .slice A0_2 l0_2.length c0_2, .slice A0_3 l0_3.length c0_3, .int .i64 a0_4, .int .i64 a0_5, .slice A0_6 l0_6.length c0_6, .int .i64 a0_7, .slice A0_8 l0_8.length c0_8, .slice A0_9 l0_9.length c0_9] 27 (0, 0)) (mvK BK250.out) hb); have n2_ := Zaa.mk (Zbb (g := gb251) (o := .cells #[.int .i64 0, .slice none 0 0, .slice none 0 0, .int .i64 0, .int .i64 0, .slice none 0 0, .int .i64 0] 25 (0, 0)) (mvK BK251.out) hb); have n3_ := Zaa.mk (Zay (by repeat (first | (with_reducible first | exact HB.out | apply Zac | apply Za | apply Zab | refine Zaf ?_ GE250.out | refine Zaf ?_ GE251.out) | exact HB.out)) hb); clear BK250; clear BK251; clear HB; have HO254 := n0_; have BK250 := n1_; have BK251 := n2_; have HB := n3_; clear n0_ n1_ n2_ n3_; clear hb ho6))
 go_loopg [7, 8] k (fun kq v7 v8 w' => ∃ (x7_1 : List (List (S41))) (x8_1 : Int), v8 = .int .i64 x8_1 ∧ Zaa (Zan.l0 kq a1 x7_1 x8_1 l0_0 a0_1 l0_2 l0_3 a0_4 a0_5 l0_6 a0_7 l0_8 l0_9 = some (r1, r2, r3, r4, r5, r6, r7, r8, r9)) ∧ Zaa (kq ≤ k) ∧ Zaa (Kd.S (Kd.slice 41 k41) 39 w' w.heap.size (fun _ => True) v7 x7_1) ∧ Zaa (w'.heap[gb250]? = some (.cells #[(.slice A0_0 l0_0.length c0_0), .int .i64 a0_1, (.slice A0_2 l0_2.length c0_2), (.slice A0_3 l0_3.length c0_3), .int .i64 a0_4, .int .i64 a0_5, (.slice A0_6 l0_6.length c0_6), .int .i64 a0_7, (.slice A0_8 l0_8.length c0_8), (.slice A0_9 l0_9.length c0_9)] 27 (0, 0))) ∧ Zaa (w'.heap[gb251]? = some (.cells #[.int .i64 0, (.slice none 0 0), (.slice none 0 0), .int .i64 0, .int .i64 0, (.slice none 0 0), .int .i64 0] 25 (0, 0))) ∧ Zaa (Below w.heap.size w w'))
 case atStart => exact ⟨(y252), (0), (by first | rfl | (simp; done) | (simp [*]; done)), H', ⟨Nat.le_refl _⟩, ⟨by (with_reducible repeat (first | apply Kd.S_alloc | apply Kd.Zbe | apply Kd.Zbk)); exact HO254.out⟩, ⟨by (with_reducible repeat (first | refine Zag ?_ _ | refine Zah ?_ | refine Zae ?_ _)); exact BK250.out⟩, ⟨by (with_reducible repeat (first | refine Zag ?_ _ | refine Zah ?_ | refine Zae ?_ _)); exact BK251.out⟩, ⟨by repeat (first | (with_reducible first | exact HB.out | apply Zac | apply Za | apply Zab | refine Zaf ?_ GE250.out | refine Zaf ?_ GE251.out) | exact HB.out)⟩⟩
 case round =>
  clear H'
  try clear c1
  try clear p2
  obtain ⟨x7_1, x8_1, rfl, HA, HK1, HO_7, BK250, BK251, HB⟩ := hrel
  cases gk with
  | zero => exact absurd HA.out (by simp [Zan.l0])
  | succ k1 =>
   have H := HA.out
   clear HA
   simp only [Zan.l0] at H
   by_cases c7 : x8_1 < (l0_0.length : Int)
   rotate_left
   ·rw [if_neg c7] at H
    have c7b0 : decide (x8_1 < (l0_0.length : Int)) = false := decide_eq_false c7
    clear c7
    replace H := Option.bind_eq_some_iff.mp H
    obtain ⟨⟨t282, t283, t286, t289, t290, t291, t294⟩, A530, H⟩ := H
    replace H : (if 0 ≤ (mn (t291.length : Int) 20) then (if (mn (t291.length : Int) 20) ≤ (t291.length : Int) then ((some (t291.take ((mn (t291.length : Int) 20) : Int).toNat : List (List Int))).bind fun y296 => ((Zas.f k1 x7_1 a1 t283 t286 t289 t290 y296 t294).bind fun t299 => (some (x7_1, a1, t283, t286, t289, t290, y296, t294, (t299 == 0))))) else (none)) else (none)) = some (r1, r2, r3, r4, r5, r6, r7, r8, r9) := H
    have A53 := Zaa.mk A530
    clear A530
    obtain ⟨ji54, hji54⟩ : ∃ j_ : Int, (mn (t291.length : Int) 20) = j_ := ⟨_, rfl⟩
    replace H : (if 0 ≤ (ji54) then (if (ji54) ≤ (t291.length : Int) then ((some (t291.take ((ji54) : Int).toNat : List (List Int))).bind fun y296 => ((Zas.f k1 x7_1 a1 t283 t286 t289 t290 y296 t294).bind fun t299 => (some (x7_1, a1, t283, t286, t289, t290, y296, t294, (t299 == 0))))) else (none)) else (none)) = some (r1, r2, r3, r4, r5, r6, r7, r8, r9) := by first | (rw [hji54] at H; exact H) | (simp only [hji54] at H ⊢; exact H)
    (try rw [hji54] at A53)
    (try (have hji54h : ji54 ≤ 20 := by (rw [← hji54]; unfold mn; (repeat' split) <;> omega)))
    (try (have hji54g : ji54 ≤ 64 := by omega))
    (try (have hji54l : 0 ≤ ji54 := by (rw [← hji54]; unfold mn; (repeat' split) <;> omega)))
    (try (have hji54m : 0 ≤ ji54 := by omega))
    have hji54_ : (if 20 < (t291.length : Int) then 20 else (t291.length : Int)) = ji54 := hji54
    by_cases c55 : 0 ≤ (ji54)
    rotate_left
    ·rw [if_neg c55] at H
     exact absurd H (by simp)

    rw [if_pos c55] at H
    have c55b0 := eq_true c55
    have c55b1 : decide (0 ≤ (ji54)) = true := decide_eq_true c55
    clear c55
    by_cases c56 : (ji54) ≤ (t291.length : Int)
    rotate_left
    ·rw [if_neg c56] at H
     exact absurd H (by simp)
    rw [if_pos c56] at H
    have c56b0 := eq_true c56
    have c56b1 : decide ((ji54) ≤ (t291.length : Int)) = true := decide_eq_true c56
    clear c56
    obtain ⟨y296, hy296⟩ : ∃ y_ : List (List Int), y_ = (t291.take ((ji54) : Int).toNat) := ⟨_, rfl⟩
    replace H : ((Zas.f k1 x7_1 a1 t283 t286 t289 t290 y296 t294).bind fun t299 => (some (x7_1, a1, t283, t286, t289, t290, y296, t294, (t299 == 0)))) = some (r1, r2, r3, r4, r5, r6, r7, r8, r9) := by first | (rw [hy296]; with_reducible exact H) | (have H2_ := (Option.bind_some _ _).symm.trans H; rw [hy296]; with_reducible exact H2_) | (have H2_ := (Option.bind_some _ _).symm.trans H; with_reducible exact H2_) | with_reducible exact H | (rw [hy296]; exact H) | exact H
    have Ny296 := Zaa.mk hy296
    clear hy296
    replace H := Option.bind_eq_some_iff.mp H
    obtain ⟨t299, A570, H⟩ := H
    replace H : (some (x7_1, a1, t283, t286, t289, t290, y296, t294, (t299 == 0))) = some (r1, r2, r3, r4, r5, r6, r7, r8, r9) := H
    have A57 := Zaa.mk A570
    clear A570
    simp only [Option.some.injEq, Prod.mk.injEq] at H
    obtain ⟨rfl, rfl, rfl, rfl, rfl, rfl, rfl, rfl, rfl⟩ := H
    have hnb58 := NB250_251.out
    have hnc58 := NB251_250.out
    obtain ⟨hcz59_0, hcz59_1, hcz59_2, hcz59_3, hcz59_4, hcz59_5, hcz59_6, hcz59_7, hcz59_8, hcz59_9, hfz59_0, hfz59_1, hfz59_2, hfz59_3, hfz59_4, hfz59_5, hfz59_6, hfz59_7, hfz59_8, hfz59_9⟩ := blks10 BK250.out
    try go_wp2_with (first | ((with_reducible refine Zbn (f := 26) rfl ?_); refine Zcf (some 41) rfl rfl Try.func26 (by kernel_rfl) rfl #[.agg #[.int .i64 a0_1, .slice A0_2 l0_2.length c0_2, .slice A0_3 l0_3.length c0_3, .int .i64 a0_4, .int .i64 a0_5, .slice A0_6 l0_6.length c0_6, .int .i64 a0_7]] rfl (by (try simp only [List.map_toArray, List.map_cons, List.map_nil]); first | done | rfl | (simp only [List.length_drop, List.length_take]; rfl)) ?_; (with_reducible refine (Zbc.calls k1 a0_1 _ _ l0_2 _ _ l0_3 a0_4 a0_5 _ _ l0_6 a0_7 t282 t283 t286 t289 t290 t291 t294 _ ?side1 ?side2 ?side3 ?side4 ?side5 ?side6 A53.out).mono ?_); (case side1 => repeat (first | exact (Kd.Zbj HR0_2.out HB.out) | (with_reducible refine Kd.C_alloc ?_ _) | (with_reducible refine Kd.Za0 ?_ _) | (with_reducible refine Kd.C_drew ?_))); (case side2 => exact HC0_2.out); (case side3 => repeat (first | exact (Kd.Zbj HR0_3.out HB.out) | (with_reducible refine Kd.C_alloc ?_ _) | (with_reducible refine Kd.Za0 ?_ _) | (with_reducible refine Kd.C_drew ?_))); (case side4 => exact HC0_3.out); (case side5 => repeat (first | exact (Kd.Zbj HR0_6.out HB.out) | (with_reducible refine Kd.C_alloc ?_ _) | (with_reducible refine Kd.Za0 ?_ _) | (with_reducible refine Kd.C_drew ?_))); (case side6 => exact HC0_6.out); rintro e w60 ⟨v284, v287, v292, rfl, ho0, ho1, ho2, hb⟩; refine ⟨_, rfl, ?_⟩; have n0_ := Zaa.mk (Kd.Zb8 (mvS HO_7.out) hb); have n1_ := Zaa.mk (Kd.Zb9 ho0 (Zal (by repeat (first | (with_reducible first | exact HB.out | apply Zac | apply Za | apply Zab | refine Zaf ?_ GE250.out | refine Zaf ?_ GE251.out) | exact HB.out)))); have n2_ := Zaa.mk (Kd.Zb9 ho1 (Zal (by repeat (first | (with_reducible first | exact HB.out | apply Zac | apply Za | apply Zab | refine Zaf ?_ GE250.out | refine Zaf ?_ GE251.out) | exact HB.out)))); have n3_ := Zaa.mk (Kd.Zc2 ho2 (Zal (by repeat (first | (with_reducible first | exact HB.out | apply Zac | apply Za | apply Zab | refine Zaf ?_ GE250.out | refine Zaf ?_ GE251.out) | exact HB.out)))); have n4_ := Zaa.mk (Zbb (g := gb250) (o := .cells #[.slice A0_0 l0_0.length c0_0, .int .i64 a0_1, .slice A0_2 l0_2.length c0_2, .slice A0_3 l0_3.length c0_3, .int .i64 a0_4, .int .i64 a0_5, .slice A0_6 l0_6.length c0_6, .int .i64 a0_7, .slice A0_8 l0_8.length c0_8, .slice A0_9 l0_9.length c0_9] 27 (0, 0)) (mvK BK250.out) hb); have n5_ := Zaa.mk (Zbb (g := gb251) (o := .cells #[.int .i64 0, .slice none 0 0, .slice none 0 0, .int .i64 0, .int .i64 0, .slice none 0 0, .int .i64 0] 25 (0, 0)) (mvK BK251.out) hb); have n6_ := Zaa.mk (Zay (by repeat (first | (with_reducible first | exact HB.out | apply Zac | apply Za | apply Zab | refine Zaf ?_ GE250.out | refine Zaf ?_ GE251.out) | exact HB.out)) hb); clear HO_7; clear BK250; clear BK251; clear HB; have HO_7 := n0_; have HO285 := n1_; have HO288 := n2_; have HO293 := n3_; have BK250 := n4_; have BK251 := n5_; have HB := n6_; clear n0_ n1_ n2_ n3_ n4_ n5_ n6_; (try clear hb); (try clear hb2); (try clear hk); (try clear hi); (try clear ho0); (try clear ho1); (try clear ho2)) | ((with_reducible refine Zb2 (N := 9) rfl ?_); refine Zcd ?hg (N := 9) ?hd (cs := #[.int .i64 0, .slice none 0 0, .slice none 0 0, .int .i64 0, .int .i64 0, .slice none 0 0, .int .i64 0]) (t := 25) ?hr ?_; (case hd => rfl); (case hg => rfl); (case hr => first | (go_simp; done) | (go_simp; rfl)); intro gb295 hg w61 hbox hb; have n0_ := Zaa.mk (Kd.Zb8 (mvS HO_7.out) hb); have n1_ := Zaa.mk (Kd.Zb3 (mvR HO285.out) hb); have n2_ := Zaa.mk (Kd.Zb3 (mvR HO288.out) hb); have n3_ := Zaa.mk (Kd.Zb8 (mvS HO293.out) hb); have n4_ := Zaa.mk (Zbb (g := gb250) (o := .cells #[.slice A0_0 l0_0.length c0_0, .int .i64 a0_1, .slice A0_2 l0_2.length c0_2, .slice A0_3 l0_3.length c0_3, .int .i64 a0_4, .int .i64 a0_5, .slice A0_6 l0_6.length c0_6, .int .i64 a0_7, .slice A0_8 l0_8.length c0_8, .slice A0_9 l0_9.length c0_9] 27 (0, 0)) (mvK BK250.out) hb); have n5_ := Zaa.mk (Zbb (g := gb251) (o := .cells #[.int .i64 0, .slice none 0 0, .slice none 0 0, .int .i64 0, .int .i64 0, .slice none 0 0, .int .i64 0] 25 (0, 0)) (mvK BK251.out) hb); have n6_ := Zaa.mk (Zay (by repeat (first | (with_reducible first | exact HB.out | apply Zac | apply Za | apply Zab | refine Zaf ?_ GE250.out | refine Zaf ?_ GE251.out) | exact HB.out)) hb); have n7_ := Zaa.mk (hbox); have n8_ := Zaa.mk ((by rw [hg]; exact (Zal (by repeat (first | (with_reducible first | exact HB.out | apply Zac | apply Za | apply Zab | refine Zaf ?_ GE250.out | refine Zaf ?_ GE251.out) | exact HB.out))) : w.heap.size ≤ gb295)); have n9_ := Zaa.mk ((by rw [hg]; exact (Zal (by repeat (first | (with_reducible first | exact HB.out | apply Zac | apply Za | apply Zab | refine Zaf ?_ GE250.out | refine Zaf ?_ GE251.out) | exact HB.out))) : w.heap.size ≤ gb295)); have n10_ := Zaa.mk ((by rw [hg]; exact Nat.ne_of_lt (Zc1 (g := gb250) (o := .cells #[.slice A0_0 l0_0.length c0_0, .int .i64 a0_1, .slice A0_2 l0_2.length c0_2, .slice A0_3 l0_3.length c0_3, .int .i64 a0_4, .int .i64 a0_5, .slice A0_6 l0_6.length c0_6, .int .i64 a0_7, .slice A0_8 l0_8.length c0_8, .slice A0_9 l0_9.length c0_9] 27 (0, 0)) (mvK BK250.out)) : gb250 ≠ gb295)); have n11_ := Zaa.mk ((by rw [hg]; exact Nat.ne_of_gt (Zc1 (g := gb250) (o := .cells #[.slice A0_0 l0_0.length c0_0, .int .i64 a0_1, .slice A0_2 l0_2.length c0_2, .slice A0_3 l0_3.length c0_3, .int .i64 a0_4, .int .i64 a0_5, .slice A0_6 l0_6.length c0_6, .int .i64 a0_7, .slice A0_8 l0_8.length c0_8, .slice A0_9 l0_9.length c0_9] 27 (0, 0)) (mvK BK250.out)) : gb295 ≠ gb250)); have n12_ := Zaa.mk ((by rw [hg]; exact Nat.ne_of_lt (Zc1 (g := gb251) (o := .cells #[.int .i64 0, .slice none 0 0, .slice none 0 0, .int .i64 0, .int .i64 0, .slice none 0 0, .int .i64 0] 25 (0, 0)) (mvK BK251.out)) : gb251 ≠ gb295)); have n13_ := Zaa.mk ((by rw [hg]; exact Nat.ne_of_gt (Zc1 (g := gb251) (o := .cells #[.int .i64 0, .slice none 0 0, .slice none 0 0, .int .i64 0, .int .i64 0, .slice none 0 0, .int .i64 0] 25 (0, 0)) (mvK BK251.out)) : gb295 ≠ gb251)); clear HO_7; clear HO285; clear HO288; clear HO293; clear BK250; clear BK251; clear HB; have HO_7 := n0_; have HO285 := n1_; have HO288 := n2_; have HO293 := n3_; have BK250 := n4_; have BK251 := n5_; have HB := n6_; have BK295 := n7_; have GW295 := n8_; have GE295 := n9_; have NB250_295 := n10_; have NB295_250 := n11_; have NB251_295 := n12_; have NB295_251 := n13_; clear n0_ n1_ n2_ n3_ n4_ n5_ n6_ n7_ n8_ n9_ n10_ n11_ n12_ n13_; clear hb hbox hg; have hnb62 := NB295_250.out; have hnc62 := NB250_295.out; have hnb63 := NB295_251.out; have hnc63 := NB251_295.out; obtain ⟨hcz64_0, hcz64_1, hcz64_2, hcz64_3, hcz64_4, hcz64_5, hcz64_6, hfz64_0, hfz64_1, hfz64_2, hfz64_3, hfz64_4, hfz64_5, hfz64_6⟩ := Zch BK295.out; obtain ⟨Ao65, co65, eo65⟩ := Kd.Zcb HO285.out; subst eo65; obtain ⟨Ao66, co66, eo66⟩ := Kd.Zcb HO288.out; subst eo66; obtain ⟨Ao67, co67, eo67⟩ := Kd.Zc6 HO293.out; subst eo67) | ((with_reducible refine Zdm (t := 25) (p := 9) rfl ?_); refine Zdg (t := 25) (p := 9) (v := ?vo_w68) (w1 := (((((((w61.setCell ⟨gb295, 0, none⟩ (.int .i64 t282)).setCell ⟨gb295, 1, none⟩ (.slice Ao65 t283.length co65)).setCell ⟨gb295, 2, none⟩ (.slice Ao66 t286.length co66)).setCell ⟨gb295, 3, none⟩ (.int .i64 t289)).setCell ⟨gb295, 4, none⟩ (.int .i64 t290)).setCell ⟨gb295, 5, none⟩ (.slice Ao67 t291.length co67)).setCell ⟨gb295, 6, none⟩ (.int .i64 t294))) ?hg ?ho ?hn ?hr ?_; (case ho => rfl); (case hg => rfl); (case hn => rfl); (case hr => first | (go_simp; done) | (go_simp; rfl)); intro w68 hw; have n0_ : Zaa (Kd.S (Kd.slice 41 k41) 39 w68 w.heap.size (fun _ => True) u7 x7_1) := ⟨(by rw [hw]; exact (by (with_reducible repeat (first | apply Kd.S_alloc | apply Kd.Zbe | apply Kd.Zbk)); exact Kd.Zb4 (Kd.Zbm (p := ⟨gb295, 6, none⟩) (Kd.Zbm (p := ⟨gb295, 5, none⟩) (Kd.Zbm (p := ⟨gb295, 4, none⟩) (Kd.Zbm (p := ⟨gb295, 3, none⟩) (Kd.Zbm (p := ⟨gb295, 2, none⟩) (Kd.Zbm (p := ⟨gb295, 1, none⟩) (Kd.Zbm (p := ⟨gb295, 0, none⟩) (Kd.Zcc HO_7.out BK295.out (by decide)) (fun _ hk => hk.2) (.int .i64 t282)) (fun _ hk => hk.2) (.slice Ao65 t283.length co65)) (fun _ hk => hk.2) (.slice Ao66 t286.length co66)) (fun _ hk => hk.2) (.int .i64 t289)) (fun _ hk => hk.2) (.int .i64 t290)) (fun _ hk => hk.2) (.slice Ao67 t291.length co67)) (fun _ hk => hk.2) (.int .i64 t294)) (fun _ hk => trivial)))⟩; have n1_ : Zaa (Kd.R (Kd.int .i64) 3 w68 w.heap.size (fun k_ => some k_ ≠ (.slice Ao66 t286.length co66 : Value).ownBlock) (.slice Ao65 t283.length co65) t283) := ⟨(by rw [hw]; exact (by (with_reducible repeat (first | apply Kd.R_alloc | apply Kd.Zap | apply Kd.Zav)); exact Kd.Zbs (Kd.Zbo (p := ⟨gb295, 6, none⟩) (Kd.Zbo (p := ⟨gb295, 5, none⟩) (Kd.Zbo (p := ⟨gb295, 4, none⟩) (Kd.Zbo (p := ⟨gb295, 3, none⟩) (Kd.Zbo (p := ⟨gb295, 2, none⟩) (Kd.Zbo (p := ⟨gb295, 1, none⟩) (Kd.Zbo (p := ⟨gb295, 0, none⟩) (Kd.Zca HO285.out BK295.out (by decide)) (fun _ hk => hk.2) (.int .i64 t282)) (fun _ hk => hk.2) (.slice Ao65 t283.length co65)) (fun _ hk => hk.2) (.slice Ao66 t286.length co66)) (fun _ hk => hk.2) (.int .i64 t289)) (fun _ hk => hk.2) (.int .i64 t290)) (fun _ hk => hk.2) (.slice Ao67 t291.length co67)) (fun _ hk => hk.2) (.int .i64 t294)) (fun _ hk => hk.1)))⟩; have n2_ : Zaa (Kd.R (Kd.int .i64) 3 w68 w.heap.size (fun k_ => some k_ ≠ (.slice Ao65 t283.length co65 : Value).ownBlock) (.slice Ao66 t286.length co66) t286) := ⟨(by rw [hw]; exact (by (with_reducible repeat (first | apply Kd.R_alloc | apply Kd.Zap | apply Kd.Zav)); exact Kd.Zbs (Kd.Zbo (p := ⟨gb295, 6, none⟩) (Kd.Zbo (p := ⟨gb295, 5, none⟩) (Kd.Zbo (p := ⟨gb295, 4, none⟩) (Kd.Zbo (p := ⟨gb295, 3, none⟩) (Kd.Zbo (p := ⟨gb295, 2, none⟩) (Kd.Zbo (p := ⟨gb295, 1, none⟩) (Kd.Zbo (p := ⟨gb295, 0, none⟩) (Kd.Zca HO288.out BK295.out (by decide)) (fun _ hk => hk.2) (.int .i64 t282)) (fun _ hk => hk.2) (.slice Ao65 t283.length co65)) (fun _ hk => hk.2) (.slice Ao66 t286.length co66)) (fun _ hk => hk.2) (.int .i64 t289)) (fun _ hk => hk.2) (.int .i64 t290)) (fun _ hk => hk.2) (.slice Ao67 t291.length co67)) (fun _ hk => hk.2) (.int .i64 t294)) (fun _ hk => hk.1)))⟩; have n3_ : Zaa (Kd.S (Kd.slice 3 (Kd.int .i64)) 23 w68 w.heap.size (fun k_ => some k_ ≠ (.slice Ao65 t283.length co65 : Value).ownBlock ∧ some k_ ≠ (.slice Ao66 t286.length co66 : Value).ownBlock) (.slice Ao67 t291.length co67) t291) := ⟨(by rw [hw]; exact (by (with_reducible repeat (first | apply Kd.S_alloc | apply Kd.Zbe | apply Kd.Zbk)); exact Kd.Zb4 (Kd.Zbm (p := ⟨gb295, 6, none⟩) (Kd.Zbm (p := ⟨gb295, 5, none⟩) (Kd.Zbm (p := ⟨gb295, 4, none⟩) (Kd.Zbm (p := ⟨gb295, 3, none⟩) (Kd.Zbm (p := ⟨gb295, 2, none⟩) (Kd.Zbm (p := ⟨gb295, 1, none⟩) (Kd.Zbm (p := ⟨gb295, 0, none⟩) (Kd.Zcc HO293.out BK295.out (by decide)) (fun _ hk => hk.2) (.int .i64 t282)) (fun _ hk => hk.2) (.slice Ao65 t283.length co65)) (fun _ hk => hk.2) (.slice Ao66 t286.length co66)) (fun _ hk => hk.2) (.int .i64 t289)) (fun _ hk => hk.2) (.int .i64 t290)) (fun _ hk => hk.2) (.slice Ao67 t291.length co67)) (fun _ hk => hk.2) (.int .i64 t294)) (fun _ hk => ⟨hk.1.1, hk.1.2⟩)))⟩; have n4_ : Zaa (w68.heap[gb250]? = some (.cells #[.slice A0_0 l0_0.length c0_0, .int .i64 a0_1, .slice A0_2 l0_2.length c0_2, .slice A0_3 l0_3.length c0_3, .int .i64 a0_4, .int .i64 a0_5, .slice A0_6 l0_6.length c0_6, .int .i64 a0_7, .slice A0_8 l0_8.length c0_8, .slice A0_9 l0_9.length c0_9] 27 (0, 0))) := ⟨(by rw [hw]; exact (by (with_reducible repeat (first | refine Zag ?_ _ | refine Zah ?_ | refine Zae ?_ _)); refine Zbv ?_ NB250_295.out _; (with_reducible repeat (first | refine Zag ?_ _ | refine Zah ?_ | refine Zae ?_ _)); refine Zbv ?_ NB250_295.out _; (with_reducible repeat (first | refine Zag ?_ _ | refine Zah ?_ | refine Zae ?_ _)); refine Zbv ?_ NB250_295.out _; (with_reducible repeat (first | refine Zag ?_ _ | refine Zah ?_ | refine Zae ?_ _)); refine Zbv ?_ NB250_295.out _; (with_reducible repeat (first | refine Zag ?_ _ | refine Zah ?_ | refine Zae ?_ _)); refine Zbv ?_ NB250_295.out _; (with_reducible repeat (first | refine Zag ?_ _ | refine Zah ?_ | refine Zae ?_ _)); refine Zbv ?_ NB250_295.out _; (with_reducible repeat (first | refine Zag ?_ _ | refine Zah ?_ | refine Zae ?_ _)); refine Zbv ?_ NB250_295.out _; (with_reducible repeat (first | refine Zag ?_ _ | refine Zah ?_ | refine Zae ?_ _)); exact BK250.out))⟩; have n5_ : Zaa (w68.heap[gb251]? = some (.cells #[.int .i64 0, .slice none 0 0, .slice none 0 0, .int .i64 0, .int .i64 0, .slice none 0 0, .int .i64 0] 25 (0, 0))) := ⟨(by rw [hw]; exact (by (with_reducible repeat (first | refine Zag ?_ _ | refine Zah ?_ | refine Zae ?_ _)); refine Zbv ?_ NB251_295.out _; (with_reducible repeat (first | refine Zag ?_ _ | refine Zah ?_ | refine Zae ?_ _)); refine Zbv ?_ NB251_295.out _; (with_reducible repeat (first | refine Zag ?_ _ | refine Zah ?_ | refine Zae ?_ _)); refine Zbv ?_ NB251_295.out _; (with_reducible repeat (first | refine Zag ?_ _ | refine Zah ?_ | refine Zae ?_ _)); refine Zbv ?_ NB251_295.out _; (with_reducible repeat (first | refine Zag ?_ _ | refine Zah ?_ | refine Zae ?_ _)); refine Zbv ?_ NB251_295.out _; (with_reducible repeat (first | refine Zag ?_ _ | refine Zah ?_ | refine Zae ?_ _)); refine Zbv ?_ NB251_295.out _; (with_reducible repeat (first | refine Zag ?_ _ | refine Zah ?_ | refine Zae ?_ _)); refine Zbv ?_ NB251_295.out _; (with_reducible repeat (first | refine Zag ?_ _ | refine Zah ?_ | refine Zae ?_ _)); exact BK251.out))⟩; have n6_ : Zaa (w68.heap[gb295]? = some (.cells #[.int .i64 t282, .slice Ao65 t283.length co65, .slice Ao66 t286.length co66, .int .i64 t289, .int .i64 t290, .slice Ao67 t291.length co67, .int .i64 t294] 25 (0, 0))) := ⟨(by rw [hw]; exact (by (with_reducible repeat (first | refine Zag ?_ _ | refine Zah ?_ | refine Zae ?_ _)); refine Zbu (cs := #[.int .i64 t282, .slice Ao65 t283.length co65, .slice Ao66 t286.length co66, .int .i64 t289, .int .i64 t290, .slice Ao67 t291.length co67, .int .i64 0]) ?_ 6 _ rfl; (with_reducible repeat (first | refine Zag ?_ _ | refine Zah ?_ | refine Zae ?_ _)); refine Zbu (cs := #[.int .i64 t282, .slice Ao65 t283.length co65, .slice Ao66 t286.length co66, .int .i64 t289, .int .i64 t290, .slice none 0 0, .int .i64 0]) ?_ 5 _ rfl; (with_reducible repeat (first | refine Zag ?_ _ | refine Zah ?_ | refine Zae ?_ _)); refine Zbu (cs := #[.int .i64 t282, .slice Ao65 t283.length co65, .slice Ao66 t286.length co66, .int .i64 t289, .int .i64 0, .slice none 0 0, .int .i64 0]) ?_ 4 _ rfl; (with_reducible repeat (first | refine Zag ?_ _ | refine Zah ?_ | refine Zae ?_ _)); refine Zbu (cs := #[.int .i64 t282, .slice Ao65 t283.length co65, .slice Ao66 t286.length co66, .int .i64 0, .int .i64 0, .slice none 0 0, .int .i64 0]) ?_ 3 _ rfl; (with_reducible repeat (first | refine Zag ?_ _ | refine Zah ?_ | refine Zae ?_ _)); refine Zbu (cs := #[.int .i64 t282, .slice Ao65 t283.length co65, .slice none 0 0, .int .i64 0, .int .i64 0, .slice none 0 0, .int .i64 0]) ?_ 2 _ rfl; (with_reducible repeat (first | refine Zag ?_ _ | refine Zah ?_ | refine Zae ?_ _)); refine Zbu (cs := #[.int .i64 t282, .slice none 0 0, .slice none 0 0, .int .i64 0, .int .i64 0, .slice none 0 0, .int .i64 0]) ?_ 1 _ rfl; (with_reducible repeat (first | refine Zag ?_ _ | refine Zah ?_ | refine Zae ?_ _)); refine Zbu (cs := #[.int .i64 0, .slice none 0 0, .slice none 0 0, .int .i64 0, .int .i64 0, .slice none 0 0, .int .i64 0]) ?_ 0 _ rfl; (with_reducible repeat (first | refine Zag ?_ _ | refine Zah ?_ | refine Zae ?_ _)); exact BK295.out))⟩; have n7_ : Zaa (Below w.heap.size w w68) := ⟨(by rw [hw]; exact (by repeat (first | (with_reducible first | exact HB.out | apply Zac | apply Za | apply Zab | refine Zaf ?_ GE250.out | refine Zaf ?_ GE251.out | refine Zaf ?_ GE295.out) | exact HB.out)))⟩; clear hw; clear HO_7; clear HO285; clear HO288; clear HO293; clear BK250; clear BK251; clear BK295; clear HB; have HO_7 := n0_; have HO285 := n1_; have HO288 := n2_; have HO293 := n3_; have BK250 := n4_; have BK251 := n5_; have BK295 := n6_; have HB := n7_; clear n0_ n1_ n2_ n3_ n4_ n5_ n6_ n7_; obtain ⟨hcz69_0, hcz69_1, hcz69_2, hcz69_3, hcz69_4, hcz69_5, hcz69_6, hfz69_0, hfz69_1, hfz69_2, hfz69_3, hfz69_4, hfz69_5, hfz69_6⟩ := Zch BK295.out) | ((with_reducible refine Zdm (t := 3) (p := 43) rfl ?_); refine Zdg (t := 3) (p := 43) (v := ?vo_w70) (w1 := (w68.setCell ⟨gb295, 0, none⟩ (.int .i64 a1))) ?hg ?ho ?hn ?hr ?_; (case ho => rfl); (case hg => rfl); (case hn => rfl); (case hr => first | (go_simp; done) | (go_simp; rfl)); intro w70 hw; have n0_ : Zaa (Kd.S (Kd.slice 41 k41) 39 w70 w.heap.size (fun _ => True) u7 x7_1) := ⟨(by rw [hw]; exact (by (with_reducible repeat (first | apply Kd.S_alloc | apply Kd.Zbe | apply Kd.Zbk)); exact Kd.Zb4 (Kd.Zbm (p := ⟨gb295, 0, none⟩) (Kd.Zcc HO_7.out BK295.out (by decide)) (fun _ hk => hk.2) (.int .i64 a1)) (fun _ hk => trivial)))⟩; have n1_ : Zaa (Kd.R (Kd.int .i64) 3 w70 w.heap.size (fun k_ => some k_ ≠ (.slice Ao66 t286.length co66 : Value).ownBlock) (.slice Ao65 t283.length co65) t283) := ⟨(by rw [hw]; exact (by (with_reducible repeat (first | apply Kd.R_alloc | apply Kd.Zap | apply Kd.Zav)); exact Kd.Zbs (Kd.Zbo (p := ⟨gb295, 0, none⟩) (Kd.Zca HO285.out BK295.out (by decide)) (fun _ hk => hk.2) (.int .i64 a1)) (fun _ hk => hk.1)))⟩; have n2_ : Zaa (Kd.R (Kd.int .i64) 3 w70 w.heap.size (fun k_ => some k_ ≠ (.slice Ao65 t283.length co65 : Value).ownBlock) (.slice Ao66 t286.length co66) t286) := ⟨(by rw [hw]; exact (by (with_reducible repeat (first | apply Kd.R_alloc | apply Kd.Zap | apply Kd.Zav)); exact Kd.Zbs (Kd.Zbo (p := ⟨gb295, 0, none⟩) (Kd.Zca HO288.out BK295.out (by decide)) (fun _ hk => hk.2) (.int .i64 a1)) (fun _ hk => hk.1)))⟩; have n3_ : Zaa (Kd.S (Kd.slice 3 (Kd.int .i64)) 23 w70 w.heap.size (fun k_ => some k_ ≠ (.slice Ao65 t283.length co65 : Value).ownBlock ∧ some k_ ≠ (.slice Ao66 t286.length co66 : Value).ownBlock) (.slice Ao67 t291.length co67) t291) := ⟨(by rw [hw]; exact (by (with_reducible repeat (first | apply Kd.S_alloc | apply Kd.Zbe | apply Kd.Zbk)); exact Kd.Zb4 (Kd.Zbm (p := ⟨gb295, 0, none⟩) (Kd.Zcc HO293.out BK295.out (by decide)) (fun _ hk => hk.2) (.int .i64 a1)) (fun _ hk => ⟨hk.1.1, hk.1.2⟩)))⟩; have n4_ : Zaa (w70.heap[gb250]? = some (.cells #[.slice A0_0 l0_0.length c0_0, .int .i64 a0_1, .slice A0_2 l0_2.length c0_2, .slice A0_3 l0_3.length c0_3, .int .i64 a0_4, .int .i64 a0_5, .slice A0_6 l0_6.length c0_6, .int .i64 a0_7, .slice A0_8 l0_8.length c0_8, .slice A0_9 l0_9.length c0_9] 27 (0, 0))) := ⟨(by rw [hw]; exact (by (with_reducible repeat (first | refine Zag ?_ _ | refine Zah ?_ | refine Zae ?_ _)); refine Zbv ?_ NB250_295.out _; (with_reducible repeat (first | refine Zag ?_ _ | refine Zah ?_ | refine Zae ?_ _)); exact BK250.out))⟩; have n5_ : Zaa (w70.heap[gb251]? = some (.cells #[.int .i64 0, .slice none 0 0, .slice none 0 0, .int .i64 0, .int .i64 0, .slice none 0 0, .int .i64 0] 25 (0, 0))) := ⟨(by rw [hw]; exact (by (with_reducible repeat (first | refine Zag ?_ _ | refine Zah ?_ | refine Zae ?_ _)); refine Zbv ?_ NB251_295.out _; (with_reducible repeat (first | refine Zag ?_ _ | refine Zah ?_ | refine Zae ?_ _)); exact BK251.out))⟩; have n6_ : Zaa (w70.heap[gb295]? = some (.cells #[.int .i64 a1, .slice Ao65 t283.length co65, .slice Ao66 t286.length co66, .int .i64 t289, .int .i64 t290, .slice Ao67 t291.length co67, .int .i64 t294] 25 (0, 0))) := ⟨(by rw [hw]; exact (by (with_reducible repeat (first | refine Zag ?_ _ | refine Zah ?_ | refine Zae ?_ _)); refine Zbu (cs := #[.int .i64 t282, .slice Ao65 t283.length co65, .slice Ao66 t286.length co66, .int .i64 t289, .int .i64 t290, .slice Ao67 t291.length co67, .int .i64 t294]) ?_ 0 _ rfl; (with_reducible repeat (first | refine Zag ?_ _ | refine Zah ?_ | refine Zae ?_ _)); exact BK295.out))⟩; have n7_ : Zaa (Below w.heap.size w w70) := ⟨(by rw [hw]; exact (by repeat (first | (with_reducible first | exact HB.out | apply Zac | apply Za | apply Zab | refine Zaf ?_ GE250.out | refine Zaf ?_ GE251.out | refine Zaf ?_ GE295.out) | exact HB.out)))⟩; clear hw; clear HO_7; clear HO285; clear HO288; clear HO293; clear BK250; clear BK251; clear BK295; clear HB; have HO_7 := n0_; have HO285 := n1_; have HO288 := n2_; have HO293 := n3_; have BK250 := n4_; have BK251 := n5_; have BK295 := n6_; have HB := n7_; clear n0_ n1_ n2_ n3_ n4_ n5_ n6_ n7_; obtain ⟨hcz71_0, hcz71_1, hcz71_2, hcz71_3, hcz71_4, hcz71_5, hcz71_6, hfz71_0, hfz71_1, hfz71_2, hfz71_3, hfz71_4, hfz71_5, hfz71_6⟩ := Zch BK295.out; have q72 : ((ji54) : Int) ≤ ((t291.length : Int) : Int) := of_decide_eq_true (by first | (with_reducible assumption) | assumption); obtain ⟨i072, hi072, _, hsz72, _⟩ := info_parts Zfo; have hcut72 := cut_to (P := Try.prog) 22 23 .i64 Try.underlying22 hi072 Ao67 t291.length co67 (ji54) (of_decide_eq_true (by first | (with_reducible assumption) | assumption)) q72 (Kd.Zb5 HO293.out).2.1; have hr72 := Kd.S_take (m := ((ji54) : Int).toNat) HO293.out (by omega); have hy72 : y296.length = ((ji54) : Int).toNat := (by rw [Ny296.out, List.length_take]; omega); rw [← Ny296.out] at hr72; rw [← hy72] at hr72 hcut72; clear hy72 hi072 hsz72 HO293; have HO298 := Zaa.mk hr72; clear hr72; replace q72 := eq_true q72))
    have n0_ : Zaa (Kd.S (Kd.slice 41 k41) 39 (w70.setCell ⟨gb295, 5, none⟩ (.slice Ao67 y296.length co67)) w.heap.size (fun _ => True) u7 x7_1) := ⟨by (with_reducible repeat (first | apply Kd.S_alloc | apply Kd.Zbe | apply Kd.Zbk)); exact Kd.Zb4 (Kd.Zbm (p := ⟨gb295, 5, none⟩) (Kd.Zcc HO_7.out BK295.out (by decide)) (fun _ hk => hk.2) (.slice Ao67 y296.length co67)) (fun _ hk => trivial)⟩
    have n1_ : Zaa (Kd.R (Kd.int .i64) 3 (w70.setCell ⟨gb295, 5, none⟩ (.slice Ao67 y296.length co67)) w.heap.size (fun k_ => some k_ ≠ (.slice Ao66 t286.length co66 : Value).ownBlock) (.slice Ao65 t283.length co65) t283) := ⟨by (with_reducible repeat (first | apply Kd.R_alloc | apply Kd.Zap | apply Kd.Zav)); exact Kd.Zbs (Kd.Zbo (p := ⟨gb295, 5, none⟩) (Kd.Zca HO285.out BK295.out (by decide)) (fun _ hk => hk.2) (.slice Ao67 y296.length co67)) (fun _ hk => hk.1)⟩
    have n2_ : Zaa (Kd.R (Kd.int .i64) 3 (w70.setCell ⟨gb295, 5, none⟩ (.slice Ao67 y296.length co67)) w.heap.size (fun k_ => some k_ ≠ (.slice Ao65 t283.length co65 : Value).ownBlock) (.slice Ao66 t286.length co66) t286) := ⟨by (with_reducible repeat (first | apply Kd.R_alloc | apply Kd.Zap | apply Kd.Zav)); exact Kd.Zbs (Kd.Zbo (p := ⟨gb295, 5, none⟩) (Kd.Zca HO288.out BK295.out (by decide)) (fun _ hk => hk.2) (.slice Ao67 y296.length co67)) (fun _ hk => hk.1)⟩
    have n3_ : Zaa (Kd.S (Kd.slice 3 (Kd.int .i64)) 23 (w70.setCell ⟨gb295, 5, none⟩ (.slice Ao67 y296.length co67)) w.heap.size (fun k_ => some k_ ≠ (.slice Ao65 t283.length co65 : Value).ownBlock ∧ some k_ ≠ (.slice Ao66 t286.length co66 : Value).ownBlock) (.slice Ao67 y296.length co67) y296) := ⟨by (with_reducible repeat (first | apply Kd.S_alloc | apply Kd.Zbe | apply Kd.Zbk)); exact Kd.Zb4 (Kd.Zbm (p := ⟨gb295, 5, none⟩) (Kd.Zcc HO298.out BK295.out (by decide)) (fun _ hk => hk.2) (.slice Ao67 y296.length co67)) (fun _ hk => ⟨hk.1.1, hk.1.2⟩)⟩
    have n4_ : Zaa ((w70.setCell ⟨gb295, 5, none⟩ (.slice Ao67 y296.length co67)).heap[gb250]? = some (.cells #[.slice A0_0 l0_0.length c0_0, .int .i64 a0_1, .slice A0_2 l0_2.length c0_2, .slice A0_3 l0_3.length c0_3, .int .i64 a0_4, .int .i64 a0_5, .slice A0_6 l0_6.length c0_6, .int .i64 a0_7, .slice A0_8 l0_8.length c0_8, .slice A0_9 l0_9.length c0_9] 27 (0, 0))) := ⟨by (with_reducible repeat (first | refine Zag ?_ _ | refine Zah ?_ | refine Zae ?_ _)); refine Zbv ?_ NB250_295.out _; (with_reducible repeat (first | refine Zag ?_ _ | refine Zah ?_ | refine Zae ?_ _)); exact BK250.out⟩
    have n5_ : Zaa ((w70.setCell ⟨gb295, 5, none⟩ (.slice Ao67 y296.length co67)).heap[gb251]? = some (.cells #[.int .i64 0, .slice none 0 0, .slice none 0 0, .int .i64 0, .int .i64 0, .slice none 0 0, .int .i64 0] 25 (0, 0))) := ⟨by (with_reducible repeat (first | refine Zag ?_ _ | refine Zah ?_ | refine Zae ?_ _)); refine Zbv ?_ NB251_295.out _; (with_reducible repeat (first | refine Zag ?_ _ | refine Zah ?_ | refine Zae ?_ _)); exact BK251.out⟩
    have n6_ : Zaa ((w70.setCell ⟨gb295, 5, none⟩ (.slice Ao67 y296.length co67)).heap[gb295]? = some (.cells #[.int .i64 a1, .slice Ao65 t283.length co65, .slice Ao66 t286.length co66, .int .i64 t289, .int .i64 t290, .slice Ao67 y296.length co67, .int .i64 t294] 25 (0, 0))) := ⟨by (with_reducible repeat (first | refine Zag ?_ _ | refine Zah ?_ | refine Zae ?_ _)); refine Zbu (cs := #[.int .i64 a1, .slice Ao65 t283.length co65, .slice Ao66 t286.length co66, .int .i64 t289, .int .i64 t290, .slice Ao67 t291.length co67, .int .i64 t294]) ?_ 5 _ rfl; (with_reducible repeat (first | refine Zag ?_ _ | refine Zah ?_ | refine Zae ?_ _)); exact BK295.out⟩
    have n7_ : Zaa (Below w.heap.size w (w70.setCell ⟨gb295, 5, none⟩ (.slice Ao67 y296.length co67))) := ⟨by repeat (first | (with_reducible first | exact HB.out | apply Zac | apply Za | apply Zab | refine Zaf ?_ GE250.out | refine Zaf ?_ GE251.out | refine Zaf ?_ GE295.out) | exact HB.out)⟩
    (try clear HO_7)
    (try clear HO285)
    (try clear HO288)
    (try clear HO298)
    (try clear BK250)
    (try clear BK251)
    (try clear BK295)
    (try clear HB)
    generalize (w70.setCell ⟨gb295, 5, none⟩ (.slice Ao67 y296.length co67)) = w73 at n0_ n1_ n2_ n3_ n4_ n5_ n6_ n7_ ⊢
    have HO_7 := n0_
    have HO285 := n1_
    have HO288 := n2_
    have HO298 := n3_
    have BK250 := n4_
    have BK251 := n5_
    have BK295 := n6_
    have HB := n7_
    clear n0_ n1_ n2_ n3_ n4_ n5_ n6_ n7_
    have n0_ := Zaa.mk (Kd.Zbk HO_7.out)
    have n1_ := Zaa.mk (Kd.Zav HO285.out)
    have n2_ := Zaa.mk (Kd.Zav HO288.out)
    have n3_ := Zaa.mk (Kd.Zbk HO298.out)
    have n4_ := Zaa.mk (Zah BK250.out)
    have n5_ := Zaa.mk (Zah BK251.out)
    have n6_ := Zaa.mk (Zah BK295.out)
    have n7_ := Zaa.mk (Zab HB.out)
    clear HO_7
    clear HO285
    clear HO288
    clear HO298
    clear BK250
    clear BK251
    clear BK295
    clear HB
    have HO_7 := n0_
    have HO285 := n1_
    have HO288 := n2_
    have HO298 := n3_
    have BK250 := n4_
    have BK251 := n5_
    have BK295 := n6_
    have HB := n7_
    clear n0_ n1_ n2_ n3_ n4_ n5_ n6_ n7_
    obtain ⟨Ao75, co75, eo75⟩ := Kd.Zc6 HO_7.out
    (first | subst eo75 | (injection eo75 with f1_ f2_ f3_; have f4_ := f1_.symm; have f5_ := f3_.symm; clear f1_ f2_ f3_; subst f4_; subst f5_))
    refine Zd8 (n := 9) (S := fun w' => w'.cell? ⟨gb295, 0, none⟩ = some (.int .i64 a1) ∧ w'.cell? ⟨gb295, 1, none⟩ = some (.slice Ao65 t283.length co65) ∧ w'.cell? ⟨gb295, 2, none⟩ = some (.slice Ao66 t286.length co66) ∧ w'.cell? ⟨gb295, 3, none⟩ = some (.int .i64 t289) ∧ w'.cell? ⟨gb295, 4, none⟩ = some (.int .i64 t290) ∧ w'.cell? ⟨gb295, 5, none⟩ = some (.slice Ao67 y296.length co67) ∧ w'.cell? ⟨gb295, 6, none⟩ = some (.int .i64 t294)) (ds := []) #[false, false, false, false, false, false, false, false, false] (by kernel_rfl) rfl rfl ⟨(Zax BK295.out 0).trans rfl, (Zax BK295.out 1).trans rfl, (Zax BK295.out 2).trans rfl, (Zax BK295.out 3).trans rfl, (Zax BK295.out 4).trans rfl, (Zax BK295.out 5).trans rfl, (Zax BK295.out 6).trans rfl⟩ (fun hHeld => ?_); refine Zcz Zan.tab9 Zan.bits9 (fun HT_ HW_ => ?_)
    generalize w73.drew = w74 at HO_7 HO285 HO288 HO298 BK250 BK251 BK295 HB hHeld ⊢
    refine Zbx (i := 0) (N := some 52) (v := ?_) (a' := ?_) #[true, false, false, false, false, false, false, false, false] rfl rfl (Zbp HT_.out (by kernel_rfl)) (fun _ _ _ h => h) (Or.inl ⟨by rfl, ?_⟩) ?_ ?_
    rotate_left
    ·intro w'
     go_simp
     with_reducible rfl
    rotate_left
    ·simp only [Act.put, List.setIfInBounds_toArray, List.set_cons_zero, List.set_cons_succ, Zbq, Zbr]
     rfl
    refine Zbx (i := 2) (N := some 54) (v := ?_) (a' := ?_) #[true, false, true, false, false, false, false, false, false] rfl rfl (Zbp HT_.out (by kernel_rfl)) (fun _ _ _ h => h) (Or.inl ⟨by rfl, ?_⟩) ?_ ?_
    rotate_left
    ·intro w'
     go_simp
     with_reducible rfl
    rotate_left
    ·simp only [Act.put, List.setIfInBounds_toArray, List.set_cons_zero, List.set_cons_succ, Zbq, Zbr]
     rfl
    refine Zdf (i := 1) (N := some 53) (v := ?_) (a' := ?_) #[true, true, true, false, false, false, false, false, false] rfl rfl (Zci HT_.out HW_.out (by kernel_rfl)) (fun _ _ _ h => h) (Or.inl ⟨by rfl, ?_⟩) hHeld ?_ ?_
    rotate_left
    ·rintro w' ⟨s0, s1, s2, s3, s4, s5, s6⟩
     go_simp
     with_reducible rfl
    rotate_left
    ·simp only [Act.put, List.setIfInBounds_toArray, List.set_cons_zero, List.set_cons_succ, Zbq, Zbr]
     rfl
    refine Zdf (i := 3) (N := some 55) (v := ?_) (a' := ?_) #[true, true, true, true, false, false, false, false, false] rfl rfl (Zci HT_.out HW_.out (by kernel_rfl)) (fun _ _ _ h => h) (Or.inl ⟨by rfl, ?_⟩) hHeld ?_ ?_
    rotate_left
    ·rintro w' ⟨s0, s1, s2, s3, s4, s5, s6⟩
     go_simp
     with_reducible rfl
    rotate_left
    ·simp only [Act.put, List.setIfInBounds_toArray, List.set_cons_zero, List.set_cons_succ, Zbq, Zbr]
     rfl
    refine one_ (i := 4) (N := some 56) #[true, true, true, true, true, false, false, false, false] rfl rfl (Zdp HT_.out (by kernel_rfl)) (by decide) (fun K hK => ?_)
    refine goes_ Try.func41 (by kernel_rfl) rfl #[.slice Ao75 x7_1.length co75, .agg #[.int .i64 a1, .slice Ao65 t283.length co65, .slice Ao66 t286.length co66, .int .i64 t289, .int .i64 t290, .slice Ao67 y296.length co67, .int .i64 t294]] (by rfl) rfl rfl (by (try simp only [List.map_toArray, List.map_cons, List.map_nil]); first | done | rfl | (simp only [List.length_drop, List.length_take]; rfl)) ?_
    with_reducible refine (Zas.calls k1 _ _ x7_1 a1 _ _ t283 _ _ t286 t289 t290 _ _ y296 t294 t299 _ ?side1 ?side2 ?side3 ?side4 ?side5 ?side6 ?side7 ?side8 A57.out).mono ?_
    (case side1 => repeat (first | exact (Kd.Zb5 HO_7.out).2.2 | (with_reducible refine Kd.C_alloc ?_ _) | (with_reducible refine Kd.Za0 ?_ _) | (with_reducible refine Kd.C_drew ?_)))
    (case side2 => exact (Kd.Zb5 HO_7.out).2.1)
    (case side3 => repeat (first | exact (Kd.Zbi HO285.out).2.2 | (with_reducible refine Kd.C_alloc ?_ _) | (with_reducible refine Kd.Za0 ?_ _) | (with_reducible refine Kd.C_drew ?_)))
    (case side4 => exact (Kd.Zbi HO285.out).2.1)
    (case side5 => repeat (first | exact (Kd.Zbi HO288.out).2.2 | (with_reducible refine Kd.C_alloc ?_ _) | (with_reducible refine Kd.Za0 ?_ _) | (with_reducible refine Kd.C_drew ?_)))
    (case side6 => exact (Kd.Zbi HO288.out).2.1)
    (case side7 => repeat (first | exact (Kd.Zb5 HO298.out).2.2 | (with_reducible refine Kd.C_alloc ?_ _) | (with_reducible refine Kd.Za0 ?_ _) | (with_reducible refine Kd.C_drew ?_)))
    (case side8 => exact (Kd.Zb5 HO298.out).2.1)
    rintro e w76 ⟨rfl, hb⟩
    refine ⟨_, rfl, ?_⟩
    have n0_ := Zaa.mk (Kd.Zb8 (mvS HO_7.out) hb)
    have n1_ := Zaa.mk (Kd.Zb3 (mvR HO285.out) hb)
    have n2_ := Zaa.mk (Kd.Zb3 (mvR HO288.out) hb)
    have n3_ := Zaa.mk (Kd.Zb8 (mvS HO298.out) hb)
    have n4_ := Zaa.mk (Zbb (g := gb250) (o := .cells #[.slice A0_0 l0_0.length c0_0, .int .i64 a0_1, .slice A0_2 l0_2.length c0_2, .slice A0_3 l0_3.length c0_3, .int .i64 a0_4, .int .i64 a0_5, .slice A0_6 l0_6.length c0_6, .int .i64 a0_7, .slice A0_8 l0_8.length c0_8, .slice A0_9 l0_9.length c0_9] 27 (0, 0)) (mvK BK250.out) hb)
    have n5_ := Zaa.mk (Zbb (g := gb251) (o := .cells #[.int .i64 0, .slice none 0 0, .slice none 0 0, .int .i64 0, .int .i64 0, .slice none 0 0, .int .i64 0] 25 (0, 0)) (mvK BK251.out) hb)
    have n6_ := Zaa.mk (Zbb (g := gb295) (o := .cells #[.int .i64 a1, .slice Ao65 t283.length co65, .slice Ao66 t286.length co66, .int .i64 t289, .int .i64 t290, .slice Ao67 y296.length co67, .int .i64 t294] 25 (0, 0)) (mvK BK295.out) hb)
    have n7_ := Zaa.mk (Zay (mvB HB.out) hb)
    clear HO_7
    clear HO285
    clear HO288
    clear HO298
    clear BK250
    clear BK251
    clear BK295
    clear HB
    have HO_7 := n0_
    have HO285 := n1_
    have HO288 := n2_
    have HO298 := n3_
    have BK250 := n4_
    have BK251 := n5_
    have BK295 := n6_
    have HB := n7_
    clear n0_ n1_ n2_ n3_ n4_ n5_ n6_ n7_
    (try clear hb)
    (try clear hb2)
    (try clear hk)
    (try clear hi)
    refine hK.out _ _ ⟨(Zax BK295.out 0).trans rfl, (Zax BK295.out 1).trans rfl, (Zax BK295.out 2).trans rfl, (Zax BK295.out 3).trans rfl, (Zax BK295.out 4).trans rfl, (Zax BK295.out 5).trans rfl, (Zax BK295.out 6).trans rfl⟩ (fun hHeld => ?_)
    clear hK K
    refine Ze2 (a' := ?_) ?_ ?_
    rotate_left
    ·show Act.put _ (some 56) _ = _
     simp only [Act.put, List.setIfInBounds_toArray, List.set_cons_zero, List.set_cons_succ, Zbq, Zbr]
     rfl
    refine Zbx (i := 5) (N := some 57) (v := ?_) (a' := ?_) #[true, true, true, true, true, true, false, false, false] rfl rfl (Zbp HT_.out (by kernel_rfl)) (fun _ _ _ h => h) (Or.inl ⟨by rfl, ?_⟩) ?_ ?_
    rotate_left
    ·intro w'
     go_simp
     with_reducible rfl
    rotate_left
    ·simp only [Act.put, List.setIfInBounds_toArray, List.set_cons_zero, List.set_cons_succ, Zbq, Zbr]
     rfl
    refine Zbx (i := 6) (N := some 4) (v := ?_) (a' := ?_) #[true, true, true, true, true, true, true, false, false] rfl rfl (Zbp HT_.out (by kernel_rfl)) (fun _ _ _ h => h) (Or.inl ⟨by rfl, ?_⟩) ?_ ?_
    rotate_left
    ·intro w'
     go_simp
     with_reducible rfl
    rotate_left
    ·simp only [Act.put, List.setIfInBounds_toArray, List.set_cons_zero, List.set_cons_succ, Zbq, Zbr]
     rfl
    refine one_ (i := 7) (N := none) #[true, true, true, true, true, true, true, true, false] rfl rfl (Zdp HT_.out (by kernel_rfl)) (by decide) (fun K hK => ?_)
    have hs77 : w76.cell? ⟨gb251, 0, none⟩ = some (.int .i64 0) := (Zax BK251.out 0).trans rfl
    have hfs77 := Zb0 BK251.out 0
    have hns77_0 := NB250_251.out
    have hns77_2 := NB295_251.out
    have hms77_0 := NB251_250.out
    have hms77_2 := NB251_295.out
    have hs78 : w76.cell? ⟨gb251, 1, none⟩ = some (.slice none 0 0) := (Zax BK251.out 1).trans rfl
    have hfs78 := Zb0 BK251.out 1
    have hns78_0 := NB250_251.out
    have hns78_2 := NB295_251.out
    have hms78_0 := NB251_250.out
    have hms78_2 := NB251_295.out
    have hs79 : w76.cell? ⟨gb251, 2, none⟩ = some (.slice none 0 0) := (Zax BK251.out 2).trans rfl
    have hfs79 := Zb0 BK251.out 2
    have hns79_0 := NB250_251.out
    have hns79_2 := NB295_251.out
    have hms79_0 := NB251_250.out
    have hms79_2 := NB251_295.out
    have hs80 : w76.cell? ⟨gb251, 3, none⟩ = some (.int .i64 0) := (Zax BK251.out 3).trans rfl
    have hfs80 := Zb0 BK251.out 3
    have hns80_0 := NB250_251.out
    have hns80_2 := NB295_251.out
    have hms80_0 := NB251_250.out
    have hms80_2 := NB251_295.out
    have hs81 : w76.cell? ⟨gb251, 4, none⟩ = some (.int .i64 0) := (Zax BK251.out 4).trans rfl
    have hfs81 := Zb0 BK251.out 4
    have hns81_0 := NB250_251.out
    have hns81_2 := NB295_251.out
    have hms81_0 := NB251_250.out
    have hms81_2 := NB251_295.out
    have hs82 : w76.cell? ⟨gb251, 5, none⟩ = some (.slice none 0 0) := (Zax BK251.out 5).trans rfl
    have hfs82 := Zb0 BK251.out 5
    have hns82_0 := NB250_251.out
    have hns82_2 := NB295_251.out
    have hms82_0 := NB251_250.out
    have hms82_2 := NB251_295.out
    have hs83 : w76.cell? ⟨gb251, 6, none⟩ = some (.int .i64 0) := (Zax BK251.out 6).trans rfl
    have hfs83 := Zb0 BK251.out 6
    have hns83_0 := NB250_251.out
    have hns83_2 := NB295_251.out
    have hms83_0 := NB251_250.out
    have hms83_2 := NB251_295.out
    refine skip_ (w1 := ?_) (by rfl) rfl ?_ ?_
    rotate_left
    ·go_simp
     rfl
    refine hK.out _ _ ⟨((cell_far (p := ⟨gb251, _, none⟩) NB295_251.out _).trans (((cell_far (p := ⟨gb251, _, none⟩) NB295_251.out _).trans (((cell_far (p := ⟨gb251, _, none⟩) NB295_251.out _).trans (((cell_far (p := ⟨gb251, _, none⟩) NB295_251.out _).trans (((cell_far (p := ⟨gb251, _, none⟩) NB295_251.out _).trans (((cell_far (p := ⟨gb251, _, none⟩) NB295_251.out _).trans (((cell_far (p := ⟨gb251, _, none⟩) NB295_251.out _).trans (hHeld.1)))))))))))))), ((cell_far (p := ⟨gb251, _, none⟩) NB295_251.out _).trans (((cell_far (p := ⟨gb251, _, none⟩) NB295_251.out _).trans (((cell_far (p := ⟨gb251, _, none⟩) NB295_251.out _).trans (((cell_far (p := ⟨gb251, _, none⟩) NB295_251.out _).trans (((cell_far (p := ⟨gb251, _, none⟩) NB295_251.out _).trans (((cell_far (p := ⟨gb251, _, none⟩) NB295_251.out _).trans (((cell_far (p := ⟨gb251, _, none⟩) NB295_251.out _).trans (hHeld.2.1)))))))))))))), ((cell_far (p := ⟨gb251, _, none⟩) NB295_251.out _).trans (((cell_far (p := ⟨gb251, _, none⟩) NB295_251.out _).trans (((cell_far (p := ⟨gb251, _, none⟩) NB295_251.out _).trans (((cell_far (p := ⟨gb251, _, none⟩) NB295_251.out _).trans (((cell_far (p := ⟨gb251, _, none⟩) NB295_251.out _).trans (((cell_far (p := ⟨gb251, _, none⟩) NB295_251.out _).trans (((cell_far (p := ⟨gb251, _, none⟩) NB295_251.out _).trans (hHeld.2.2.1)))))))))))))), ((cell_far (p := ⟨gb251, _, none⟩) NB295_251.out _).trans (((cell_far (p := ⟨gb251, _, none⟩) NB295_251.out _).trans (((cell_far (p := ⟨gb251, _, none⟩) NB295_251.out _).trans (((cell_far (p := ⟨gb251, _, none⟩) NB295_251.out _).trans (((cell_far (p := ⟨gb251, _, none⟩) NB295_251.out _).trans (((cell_far (p := ⟨gb251, _, none⟩) NB295_251.out _).trans (((cell_far (p := ⟨gb251, _, none⟩) NB295_251.out _).trans (hHeld.2.2.2.1)))))))))))))), ((cell_far (p := ⟨gb251, _, none⟩) NB295_251.out _).trans (((cell_far (p := ⟨gb251, _, none⟩) NB295_251.out _).trans (((cell_far (p := ⟨gb251, _, none⟩) NB295_251.out _).trans (((cell_far (p := ⟨gb251, _, none⟩) NB295_251.out _).trans (((cell_far (p := ⟨gb251, _, none⟩) NB295_251.out _).trans (((cell_far (p := ⟨gb251, _, none⟩) NB295_251.out _).trans (((cell_far (p := ⟨gb251, _, none⟩) NB295_251.out _).trans (hHeld.2.2.2.2.1)))))))))))))), ((cell_far (p := ⟨gb251, _, none⟩) NB295_251.out _).trans (((cell_far (p := ⟨gb251, _, none⟩) NB295_251.out _).trans (((cell_far (p := ⟨gb251, _, none⟩) NB295_251.out _).trans (((cell_far (p := ⟨gb251, _, none⟩) NB295_251.out _).trans (((cell_far (p := ⟨gb251, _, none⟩) NB295_251.out _).trans (((cell_far (p := ⟨gb251, _, none⟩) NB295_251.out _).trans (((cell_far (p := ⟨gb251, _, none⟩) NB295_251.out _).trans (hHeld.2.2.2.2.2.1)))))))))))))), ((cell_far (p := ⟨gb251, _, none⟩) NB295_251.out _).trans (((cell_far (p := ⟨gb251, _, none⟩) NB295_251.out _).trans (((cell_far (p := ⟨gb251, _, none⟩) NB295_251.out _).trans (((cell_far (p := ⟨gb251, _, none⟩) NB295_251.out _).trans (((cell_far (p := ⟨gb251, _, none⟩) NB295_251.out _).trans (((cell_far (p := ⟨gb251, _, none⟩) NB295_251.out _).trans (((cell_far (p := ⟨gb251, _, none⟩) NB295_251.out _).trans (hHeld.2.2.2.2.2.2))))))))))))))⟩ (fun hHeld => ?_)
    clear hK K
    refine Zbx (i := 8) (N := some 6) (v := ?_) (a' := ?_) #[true, true, true, true, true, true, true, true, true] rfl rfl (Zbp HT_.out (by kernel_rfl)) (fun _ _ _ h => h) (Or.inl ⟨by rfl, ?_⟩) ?_ ?_
    rotate_left
    ·intro w'
     go_simp
     with_reducible rfl
    rotate_left
    ·simp only [Act.put, List.setIfInBounds_toArray, List.set_cons_zero, List.set_cons_succ, Zbq, Zbr]
     rfl
    refine Zfd (Zdk HT_.out (by kernel_rfl)) ?_
    try go_wp2
    refine bodyPost_ret (Zeb (rs := [.tmp 4, .cell 5 25, .tmp 6]) rfl (by simp) (.tmp (.cell gb251 25 #[.int .i64 a1, .slice Ao65 t283.length co65, .slice Ao66 t286.length co66, .int .i64 t289, .int .i64 t290, .slice Ao67 y296.length co67, .int .i64 t294] (0, 0) _ rfl (by (with_reducible repeat (first | refine Zag ?_ _ | refine Zah ?_ | refine Zae ?_ _)); refine Zbu (cs := #[.int .i64 a1, .slice Ao65 t283.length co65, .slice Ao66 t286.length co66, .int .i64 t289, .int .i64 t290, .slice Ao67 y296.length co67, .int .i64 0]) ?_ 6 _ rfl; (with_reducible repeat (first | refine Zag ?_ _ | refine Zah ?_ | refine Zae ?_ _)); refine Zbu (cs := #[.int .i64 a1, .slice Ao65 t283.length co65, .slice Ao66 t286.length co66, .int .i64 t289, .int .i64 t290, .slice none 0 0, .int .i64 0]) ?_ 5 _ rfl; (with_reducible repeat (first | refine Zag ?_ _ | refine Zah ?_ | refine Zae ?_ _)); refine Zbu (cs := #[.int .i64 a1, .slice Ao65 t283.length co65, .slice Ao66 t286.length co66, .int .i64 t289, .int .i64 0, .slice none 0 0, .int .i64 0]) ?_ 4 _ rfl; (with_reducible repeat (first | refine Zag ?_ _ | refine Zah ?_ | refine Zae ?_ _)); refine Zbu (cs := #[.int .i64 a1, .slice Ao65 t283.length co65, .slice Ao66 t286.length co66, .int .i64 0, .int .i64 0, .slice none 0 0, .int .i64 0]) ?_ 3 _ rfl; (with_reducible repeat (first | refine Zag ?_ _ | refine Zah ?_ | refine Zae ?_ _)); refine Zbu (cs := #[.int .i64 a1, .slice Ao65 t283.length co65, .slice none 0 0, .int .i64 0, .int .i64 0, .slice none 0 0, .int .i64 0]) ?_ 2 _ rfl; (with_reducible repeat (first | refine Zag ?_ _ | refine Zah ?_ | refine Zae ?_ _)); refine Zbu (cs := #[.int .i64 a1, .slice none 0 0, .slice none 0 0, .int .i64 0, .int .i64 0, .slice none 0 0, .int .i64 0]) ?_ 1 _ rfl; (with_reducible repeat (first | refine Zag ?_ _ | refine Zah ?_ | refine Zae ?_ _)); refine Zbu (cs := #[.int .i64 0, .slice none 0 0, .slice none 0 0, .int .i64 0, .int .i64 0, .slice none 0 0, .int .i64 0]) ?_ 0 _ rfl; (with_reducible repeat (first | refine Zag ?_ _ | refine Zah ?_ | refine Zae ?_ _)); exact BK251.out) Try.underlying25 rfl (by kernel_rfl) (.tmp .nil)))) rfl ?_
    exact ⟨_, _, _, _, by first | rfl | (simp [Za1, Za2] <;> rfl) | (simp only [← hji54]; first | rfl | (simp [Za1, Za2] <;> rfl)) | (simp [*, Za1, Za2] <;> rfl), by (with_reducible repeat (first | apply Kd.S_alloc | apply Kd.Zbe | apply Kd.Zbk)); exact Kd.Zb4 (Kd.Zbm (p := ⟨gb251, 6, none⟩) (Kd.Zbm (p := ⟨gb251, 5, none⟩) (Kd.Zbm (p := ⟨gb251, 4, none⟩) (Kd.Zbm (p := ⟨gb251, 3, none⟩) (Kd.Zbm (p := ⟨gb251, 2, none⟩) (Kd.Zbm (p := ⟨gb251, 1, none⟩) (Kd.Zbm (p := ⟨gb251, 0, none⟩) (Kd.Zcc HO_7.out BK251.out (by decide)) (fun _ hk => hk.2) (.int .i64 a1)) (fun _ hk => hk.2) (.slice Ao65 t283.length co65)) (fun _ hk => hk.2) (.slice Ao66 t286.length co66)) (fun _ hk => hk.2) (.int .i64 t289)) (fun _ hk => hk.2) (.int .i64 t290)) (fun _ hk => hk.2) (.slice Ao67 y296.length co67)) (fun _ hk => hk.2) (.int .i64 t294)) (fun _ hk => trivial), by (with_reducible repeat (first | apply Kd.R_alloc | apply Kd.Zap | apply Kd.Zav)); exact Kd.Zbs (Kd.Zbo (p := ⟨gb251, 6, none⟩) (Kd.Zbo (p := ⟨gb251, 5, none⟩) (Kd.Zbo (p := ⟨gb251, 4, none⟩) (Kd.Zbo (p := ⟨gb251, 3, none⟩) (Kd.Zbo (p := ⟨gb251, 2, none⟩) (Kd.Zbo (p := ⟨gb251, 1, none⟩) (Kd.Zbo (p := ⟨gb251, 0, none⟩) (Kd.Zca HO285.out BK251.out (by decide)) (fun _ hk => hk.2) (.int .i64 a1)) (fun _ hk => hk.2) (.slice Ao65 t283.length co65)) (fun _ hk => hk.2) (.slice Ao66 t286.length co66)) (fun _ hk => hk.2) (.int .i64 t289)) (fun _ hk => hk.2) (.int .i64 t290)) (fun _ hk => hk.2) (.slice Ao67 y296.length co67)) (fun _ hk => hk.2) (.int .i64 t294)) (fun _ hk => hk.1), by (with_reducible repeat (first | apply Kd.R_alloc | apply Kd.Zap | apply Kd.Zav)); exact Kd.Zbs (Kd.Zbo (p := ⟨gb251, 6, none⟩) (Kd.Zbo (p := ⟨gb251, 5, none⟩) (Kd.Zbo (p := ⟨gb251, 4, none⟩) (Kd.Zbo (p := ⟨gb251, 3, none⟩) (Kd.Zbo (p := ⟨gb251, 2, none⟩) (Kd.Zbo (p := ⟨gb251, 1, none⟩) (Kd.Zbo (p := ⟨gb251, 0, none⟩) (Kd.Zca HO288.out BK251.out (by decide)) (fun _ hk => hk.2) (.int .i64 a1)) (fun _ hk => hk.2) (.slice Ao65 t283.length co65)) (fun _ hk => hk.2) (.slice Ao66 t286.length co66)) (fun _ hk => hk.2) (.int .i64 t289)) (fun _ hk => hk.2) (.int .i64 t290)) (fun _ hk => hk.2) (.slice Ao67 y296.length co67)) (fun _ hk => hk.2) (.int .i64 t294)) (fun _ hk => hk.1), by (with_reducible repeat (first | apply Kd.S_alloc | apply Kd.Zbe | apply Kd.Zbk)); exact Kd.Zb4 (Kd.Zbm (p := ⟨gb251, 6, none⟩) (Kd.Zbm (p := ⟨gb251, 5, none⟩) (Kd.Zbm (p := ⟨gb251, 4, none⟩) (Kd.Zbm (p := ⟨gb251, 3, none⟩) (Kd.Zbm (p := ⟨gb251, 2, none⟩) (Kd.Zbm (p := ⟨gb251, 1, none⟩) (Kd.Zbm (p := ⟨gb251, 0, none⟩) (Kd.Zcc HO298.out BK251.out (by decide)) (fun _ hk => hk.2) (.int .i64 a1)) (fun _ hk => hk.2) (.slice Ao65 t283.length co65)) (fun _ hk => hk.2) (.slice Ao66 t286.length co66)) (fun _ hk => hk.2) (.int .i64 t289)) (fun _ hk => hk.2) (.int .i64 t290)) (fun _ hk => hk.2) (.slice Ao67 y296.length co67)) (fun _ hk => hk.2) (.int .i64 t294)) (fun _ hk => ⟨hk.1.1, hk.1.2⟩), by repeat (first | (with_reducible first | exact HB.out | apply Zac | apply Za | apply Zab | refine Zaf ?_ GE250.out | refine Zaf ?_ GE251.out | refine Zaf ?_ GE295.out) | exact HB.out)⟩
   rw [if_pos c7] at H
   have c7b0 : decide (x8_1 < (l0_0.length : Int)) = true := decide_eq_true c7
   clear c7
   by_cases c8 : x8_1 < 4
   ·rw [if_pos c8] at H
    have c8b0 : decide (x8_1 < 4) = true := decide_eq_true c8
    clear c8
    by_cases c9 : 0 ≤ x8_1
    rotate_left
    ·rw [if_neg c9] at H
     exact absurd H (by simp)
    rw [if_pos c9] at H
    have c9b0 : decide (0 ≤ x8_1) = true := decide_eq_true c9
    clear c9
    obtain ⟨ji10, hji10⟩ : ∃ j_ : Int, (mn ((Zbz l0_0 x8_1).length : Int) 6) = j_ := ⟨_, rfl⟩
    replace H : (if 0 ≤ (ji10) then (if (ji10) ≤ ((Zbz l0_0 x8_1).length : Int) then ((Za5.f k1 ((Zbz l0_0 x8_1).take ((ji10) : Int).toNat)).bind fun t258 => (if x7_1.length < 5864062014805 then (Zan.l0 k1 a1 (x7_1 ++ [t258]) (wrap64 (x8_1 + 1)) l0_0 a0_1 l0_2 l0_3 a0_4 a0_5 l0_6 a0_7 l0_8 l0_9) else (none))) else (none)) else (none)) = some (r1, r2, r3, r4, r5, r6, r7, r8, r9) := by first | (rw [hji10] at H; exact H) | (simp only [hji10] at H ⊢; exact H)
    have hji10_ : (if 6 < ((Zbz l0_0 x8_1).length : Int) then 6 else ((Zbz l0_0 x8_1).length : Int)) = ji10 := hji10
    by_cases c11 : 0 ≤ (ji10)
    rotate_left
    ·rw [if_neg c11] at H
     exact absurd H (by simp)
    rw [if_pos c11] at H
    have c11b0 := eq_true c11
    have c11b1 : decide (0 ≤ (ji10)) = true := decide_eq_true c11
    clear c11
    by_cases c12 : (ji10) ≤ ((Zbz l0_0 x8_1).length : Int)
    rotate_left
    ·rw [if_neg c12] at H
     exact absurd H (by simp)
    rw [if_pos c12] at H
    have c12b0 := eq_true c12
    have c12b1 : decide ((ji10) ≤ ((Zbz l0_0 x8_1).length : Int)) = true := decide_eq_true c12
    clear c12
    replace H := Option.bind_eq_some_iff.mp H
    obtain ⟨t258, A130, H⟩ := H
    replace H : (if x7_1.length < 5864062014805 then (Zan.l0 k1 a1 (x7_1 ++ [t258]) (wrap64 (x8_1 + 1)) l0_0 a0_1 l0_2 l0_3 a0_4 a0_5 l0_6 a0_7 l0_8 l0_9) else (none)) = some (r1, r2, r3, r4, r5, r6, r7, r8, r9) := H
    have A13 := Zaa.mk A130
    clear A130
    by_cases c14 : x7_1.length < 5864062014805
    rotate_left
    ·rw [if_neg c14] at H
     exact absurd H (by simp)
    rw [if_pos c14] at H
    have LMc14 := Zaa.mk c14
    clear c14
    obtain ⟨y261, hy261⟩ : ∃ y_ : List (List (S41)), y_ = (x7_1 ++ [t258]) := ⟨_, rfl⟩
    replace H : (Zan.l0 k1 a1 y261 (wrap64 (x8_1 + 1)) l0_0 a0_1 l0_2 l0_3 a0_4 a0_5 l0_6 a0_7 l0_8 l0_9) = some (r1, r2, r3, r4, r5, r6, r7, r8, r9) := by first | (rw [hy261]; with_reducible exact H) | (have H2_ := (Option.bind_some _ _).symm.trans H; rw [hy261]; with_reducible exact H2_) | (have H2_ := (Option.bind_some _ _).symm.trans H; with_reducible exact H2_) | with_reducible exact H | (rw [hy261]; exact H) | exact H
    have Ny261 := Zaa.mk hy261
    clear hy261
    have H' := Zaa.mk H
    clear H
    have hnb15 := NB250_251.out
    have hnc15 := NB251_250.out
    obtain ⟨hcz16_0, hcz16_1, hcz16_2, hcz16_3, hcz16_4, hcz16_5, hcz16_6, hcz16_7, hcz16_8, hcz16_9, hfz16_0, hfz16_1, hfz16_2, hfz16_3, hfz16_4, hfz16_5, hfz16_6, hfz16_7, hfz16_8, hfz16_9⟩ := blks10 BK250.out
    try go_wp2
    have n0_ := Zaa.mk (Kd.Zbk HO_7.out)
    have n1_ := Zaa.mk (Zah BK250.out)
    have n2_ := Zaa.mk (Zah BK251.out)
    have n3_ := Zaa.mk (Zab HB.out)
    clear HO_7
    clear BK250
    clear BK251
    clear HB
    have HO_7 := n0_
    have BK250 := n1_
    have BK251 := n2_
    have HB := n3_
    clear n0_ n1_ n2_ n3_
    have p255 : 0 ≤ (x8_1 : Int) := of_decide_eq_true (by first | (with_reducible assumption) | assumption)
    have q255 : x8_1 < (l0_0.length : Int) := of_decide_eq_true (by first | (with_reducible assumption) | assumption)
    obtain ⟨ad255, A255_0, c255_0, e255, hx255_0, hl255_0, hi255_0⟩ := Zdy HR0_0.out x8_1 p255 q255
    have hw255_0 := hx255_0
    cases e255
    replace hx255_0 := (HB.out.cell (World.block_lt_of_cell? w _ hx255_0)).trans hx255_0
    have HR255_0 := Zaa.mk hi255_0
    have HC255_0 := Zaa.mk hl255_0
    clear hi255_0 hl255_0
    replace p255 := eq_true p255
    replace q255 := eq_true q255
    have p256 : 0 ≤ (x8_1 : Int) := of_decide_eq_true (by first | (with_reducible assumption) | assumption)
    have q256 : x8_1 < (l0_0.length : Int) := of_decide_eq_true (by first | (with_reducible assumption) | assumption)
    obtain ⟨ad256, A256_0, c256_0, e256, hx256_0, hl256_0, hi256_0⟩ := Zdy HR0_0.out x8_1 p256 q256
    have hw256_0 := hx256_0
    obtain rfl : ad255 = ad256 := (by injection e256)
    replace hx256_0 := (HB.out.cell (World.block_lt_of_cell? w _ hx256_0)).trans hx256_0
    have HR256_0 := Zaa.mk hi256_0
    have HC256_0 := Zaa.mk hl256_0
    clear hi256_0 hl256_0
    replace p256 := eq_true p256
    replace q256 := eq_true q256
    have ea_ := Option.some.inj (hx255_0.symm.trans hx256_0)
    injection ea_ with ea_ en_ ec_
    subst ea_
    subst ec_
    clear en_
    obtain ⟨i018, hi018, _, hsz18, _⟩ := info_parts info3
    obtain ⟨hcut18, hA18, hC18⟩ := print_take_of (P := Try.prog) (Value.int .i64) 0 23 3 .i64 Try.underlying23 hi018 hsz18 A255_0 c255_0 (Zbz l0_0 x8_1) (ji10) (of_decide_eq_true (by first | (with_reducible assumption) | assumption)) (of_decide_eq_true (by first | (with_reducible assumption) | assumption)) HC255_0.out
    have HR257 := Zaa.mk (Kd.C_of_reads (h1 := fun _ => rfl) (hA18 _ (Kd.Zgb HR255_0.out)))
    have HC257 := Zaa.mk hC18
    clear hA18 hC18 hi018 hsz18
    refine Zd8 (n := 18) (S := fun w' => w'.cell? ⟨gb250, 0, none⟩ = some (.slice (some ad255) l0_0.length c0_0) ∧ w'.cell? ⟨gb250, 1, none⟩ = some (.int .i64 a0_1) ∧ w'.cell? ⟨gb250, 2, none⟩ = some (.slice A0_2 l0_2.length c0_2) ∧ w'.cell? ⟨gb250, 3, none⟩ = some (.slice A0_3 l0_3.length c0_3) ∧ w'.cell? ⟨gb250, 4, none⟩ = some (.int .i64 a0_4) ∧ w'.cell? ⟨gb250, 5, none⟩ = some (.int .i64 a0_5) ∧ w'.cell? ⟨gb250, 6, none⟩ = some (.slice A0_6 l0_6.length c0_6) ∧ w'.cell? ⟨gb250, 7, none⟩ = some (.int .i64 a0_7) ∧ w'.cell? ⟨gb250, 8, none⟩ = some (.slice A0_8 l0_8.length c0_8) ∧ w'.cell? ⟨gb250, 9, none⟩ = some (.slice A0_9 l0_9.length c0_9) ∧ w'.cell? (ad255.add (x8_1).toNat) = some (.slice A255_0 (Zbz l0_0 x8_1).length c255_0) ∧ w'.cell? (ad255.add (x8_1).toNat) = some (.slice A255_0 (Zbz l0_0 x8_1).length c255_0)) (ds := []) #[false, false, false, false, false, false, false, false, false, false, false, false, false, false, false, false, false, false] (by kernel_rfl) rfl rfl ⟨(Zax BK250.out 0).trans rfl, (Zax BK250.out 1).trans rfl, (Zax BK250.out 2).trans rfl, (Zax BK250.out 3).trans rfl, (Zax BK250.out 4).trans rfl, (Zax BK250.out 5).trans rfl, (Zax BK250.out 6).trans rfl, (Zax BK250.out 7).trans rfl, (Zax BK250.out 8).trans rfl, (Zax BK250.out 9).trans rfl, ((HB.out.cell (World.block_lt_of_cell? w _ hw255_0)).trans hw255_0), ((HB.out.cell (World.block_lt_of_cell? w _ hw256_0)).trans hw256_0)⟩ (fun hHeld => ?_); refine Zcz Zan.tab5 Zan.bits5 (fun HT_ HW_ => ?_)
    generalize wr.drew = w17 at HO_7 BK250 BK251 HB HR255_0 HR256_0 HR257 hx255_0 hx256_0 hHeld ⊢
    refine Zbx (i := 0) (N := some 22) (v := ?_) (a' := ?_) #[true, false, false, false, false, false, false, false, false, false, false, false, false, false, false, false, false, false] rfl rfl (Zbp HT_.out (by kernel_rfl)) (fun _ _ _ h => h) (Or.inl ⟨by rfl, ?_⟩) ?_ ?_
    rotate_left
    ·intro w'
     go_simp
     with_reducible rfl
    rotate_left
    ·simp only [Act.put, List.setIfInBounds_toArray, List.set_cons_zero, List.set_cons_succ, Zbq, Zbr]
     rfl
    refine Zbx (i := 1) (N := some 23) (v := ?_) (a' := ?_) #[true, true, false, false, false, false, false, false, false, false, false, false, false, false, false, false, false, false] rfl rfl (Zbp HT_.out (by kernel_rfl)) (fun _ _ _ h => h) (Or.inl ⟨by rfl, ?_⟩) ?_ ?_
    rotate_left
    ·intro w'
     go_simp
     with_reducible rfl
    rotate_left
    ·simp only [Act.put, List.setIfInBounds_toArray, List.set_cons_zero, List.set_cons_succ, Zbq, Zbr]
     rfl
    refine Zbx (i := 3) (N := some 25) (v := ?_) (a' := ?_) #[true, true, false, true, false, false, false, false, false, false, false, false, false, false, false, false, false, false] rfl rfl (Zbp HT_.out (by kernel_rfl)) (fun _ _ _ h => h) (Or.inl ⟨by rfl, ?_⟩) ?_ ?_
    rotate_left
    ·intro w'
     go_simp
     with_reducible rfl
    rotate_left
    ·simp only [Act.put, List.setIfInBounds_toArray, List.set_cons_zero, List.set_cons_succ, Zbq, Zbr]
     rfl
    refine Zbx (i := 6) (N := some 28) (v := ?_) (a' := ?_) #[true, true, false, true, false, false, true, false, false, false, false, false, false, false, false, false, false, false] rfl rfl (Zbp HT_.out (by kernel_rfl)) (fun _ _ _ h => h) (Or.inl ⟨by rfl, ?_⟩) ?_ ?_
    rotate_left
    ·intro w'
     go_simp
     with_reducible rfl
    rotate_left
    ·simp only [Act.put, List.setIfInBounds_toArray, List.set_cons_zero, List.set_cons_succ, Zbq, Zbr]
     rfl
    refine Zbx (i := 8) (N := some 30) (v := ?_) (a' := ?_) #[true, true, false, true, false, false, true, false, true, false, false, false, false, false, false, false, false, false] rfl rfl (Zbp HT_.out (by kernel_rfl)) (fun _ _ _ h => h) (Or.inl ⟨by rfl, ?_⟩) ?_ ?_
    rotate_left
    ·intro w'
     go_simp
     with_reducible rfl
    rotate_left
    ·simp only [Act.put, List.setIfInBounds_toArray, List.set_cons_zero, List.set_cons_succ, Zbq, Zbr]
     rfl
    refine Zdf (i := 2) (N := some 24) (v := ?_) (a' := ?_) #[true, true, true, true, false, false, true, false, true, false, false, false, false, false, false, false, false, false] rfl rfl (Zci HT_.out HW_.out (by kernel_rfl)) (fun _ _ _ h => h) (Or.inl ⟨by rfl, ?_⟩) hHeld ?_ ?_
    rotate_left
    ·rintro w' ⟨s0, s1, s2, s3, s4, s5, s6, s7, s8, s9, s10, s11⟩
     go_simp
     with_reducible rfl
    rotate_left
    ·simp only [Act.put, List.setIfInBounds_toArray, List.set_cons_zero, List.set_cons_succ, Zbq, Zbr]
     rfl
    refine Zbx (i := 4) (N := some 26) (v := ?_) (a' := ?_) #[true, true, true, true, true, false, true, false, true, false, false, false, false, false, false, false, false, false] rfl rfl (Zbp HT_.out (by kernel_rfl)) (fun _ _ _ h => h) (Or.inl ⟨by rfl, ?_⟩) ?_ ?_
    rotate_left
    ·intro w'
     go_simp
     with_reducible rfl
    rotate_left
    ·simp only [Act.put, List.setIfInBounds_toArray, List.set_cons_zero, List.set_cons_succ, Zbq, Zbr]
     rfl
    refine Zdf (i := 5) (N := some 27) (v := ?_) (a' := ?_) #[true, true, true, true, true, true, true, false, true, false, false, false, false, false, false, false, false, false] rfl rfl (Zci HT_.out HW_.out (by kernel_rfl)) (fun _ _ _ h => h) (Or.inl ⟨by rfl, ?_⟩) hHeld ?_ ?_
    rotate_left
    ·rintro w' ⟨s0, s1, s2, s3, s4, s5, s6, s7, s8, s9, s10, s11⟩
     go_simp
     with_reducible rfl
    rotate_left
    ·simp only [Act.put, List.setIfInBounds_toArray, List.set_cons_zero, List.set_cons_succ, Zbq, Zbr]
     rfl
    refine Zdf (i := 7) (N := some 29) (v := ?_) (a' := ?_) #[true, true, true, true, true, true, true, true, true, false, false, false, false, false, false, false, false, false] rfl rfl (Zci HT_.out HW_.out (by kernel_rfl)) (fun _ _ _ h => h) (Or.inl ⟨by rfl, ?_⟩) hHeld ?_ ?_
    rotate_left
    ·rintro w' ⟨s0, s1, s2, s3, s4, s5, s6, s7, s8, s9, s10, s11⟩
     go_simp
     with_reducible rfl
    rotate_left
    ·simp only [Act.put, List.setIfInBounds_toArray, List.set_cons_zero, List.set_cons_succ, Zbq, Zbr]
     rfl
    refine Zbx (i := 9) (N := some 31) (v := ?_) (a' := ?_) #[true, true, true, true, true, true, true, true, true, true, false, false, false, false, false, false, false, false] rfl rfl (Zbp HT_.out (by kernel_rfl)) (fun _ _ _ h => h) (Or.inl ⟨by rfl, ?_⟩) ?_ ?_
    rotate_left
    ·intro w'
     go_simp
     with_reducible rfl
    rotate_left
    ·simp only [Act.put, List.setIfInBounds_toArray, List.set_cons_zero, List.set_cons_succ, Zbq, Zbr]
     rfl
    refine Zdf (i := 10) (N := some 32) (v := ?_) (a' := ?_) #[true, true, true, true, true, true, true, true, true, true, true, false, false, false, false, false, false, false] rfl rfl (Zci HT_.out HW_.out (by kernel_rfl)) (fun _ _ _ h => h) (Or.inl ⟨by rfl, ?_⟩) hHeld ?_ ?_
    rotate_left
    ·rintro w' ⟨s0, s1, s2, s3, s4, s5, s6, s7, s8, s9, s10, s11⟩
     go_simp
     with_reducible rfl
    rotate_left
    ·simp only [Act.put, List.setIfInBounds_toArray, List.set_cons_zero, List.set_cons_succ, Zbq, Zbr]
     rfl
    refine Zbx (i := 11) (N := some 33) (v := ?_) (a' := ?_) #[true, true, true, true, true, true, true, true, true, true, true, true, false, false, false, false, false, false] rfl rfl (Zbp HT_.out (by kernel_rfl)) (fun _ _ _ h => h) (Or.inl ⟨by rfl, ?_⟩) ?_ ?_
    rotate_left
    ·intro w'
     go_simp
     with_reducible rfl
    rotate_left
    ·simp only [Act.put, List.setIfInBounds_toArray, List.set_cons_zero, List.set_cons_succ, Zbq, Zbr]
     rfl
    refine Zbx (i := 12) (N := some 34) (v := ?_) (a' := ?_) #[true, true, true, true, true, true, true, true, true, true, true, true, true, false, false, false, false, false] rfl rfl (Zbp HT_.out (by kernel_rfl)) (fun _ _ _ h => h) (Or.inl ⟨by rfl, ?_⟩) ?_ ?_
    rotate_left
    ·intro w'
     go_simp
     with_reducible rfl
    rotate_left
    ·simp only [Act.put, List.setIfInBounds_toArray, List.set_cons_zero, List.set_cons_succ, Zbq, Zbr]
     rfl
    refine Zbx (i := 13) (N := some 35) (v := ?_) (a' := ?_) #[true, true, true, true, true, true, true, true, true, true, true, true, true, true, false, false, false, false] rfl rfl (Zbp HT_.out (by kernel_rfl)) (fun _ _ _ h => h) (Or.inl ⟨by rfl, ?_⟩) ?_ ?_
    rotate_left
    ·intro w'
     go_simp
     with_reducible rfl
    rotate_left
    ·simp only [Act.put, List.setIfInBounds_toArray, List.set_cons_zero, List.set_cons_succ, Zbq, Zbr]
     rfl
    refine one_ (i := 14) (N := some 36) #[true, true, true, true, true, true, true, true, true, true, true, true, true, true, true, false, false, false] rfl rfl (Zdp HT_.out (by kernel_rfl)) (by decide) (fun K hK => ?_)
    refine goes_ Try.func40 (by kernel_rfl) rfl #[.slice A255_0 ((Zbz l0_0 x8_1).take ((ji10) : Int).toNat).length c255_0] (by rfl) rfl rfl (by (try simp only [List.map_toArray, List.map_cons, List.map_nil]); first | done | (rw [show ((Zbz l0_0 x8_1).take ((ji10) : Int).toNat).length = (ji10).toNat from (by rw [List.length_take]; have h_ : ((ji10) : Int) ≤ ((Zbz l0_0 x8_1).length : Int) := of_decide_eq_true (by first | (with_reducible assumption) | assumption); omega)] <;> rfl) | (simp only [hji10]; rfl) | rfl | (simp only [List.length_drop, List.length_take]; rfl)) ?_
    with_reducible refine (Za5.calls k1 _ _ ((Zbz l0_0 x8_1).take ((ji10) : Int).toNat) t258 _ ?side1 ?side2 A13.out).mono ?_
    (case side1 => repeat (first | exact (Kd.Zbj HR257.out HB.out) | (with_reducible refine Kd.C_alloc ?_ _) | (with_reducible refine Kd.Za0 ?_ _) | (with_reducible refine Kd.C_drew ?_)))
    (case side2 => exact HC257.out)
    rintro e w19 ⟨v259, rfl, ho0, hb⟩
    refine ⟨_, rfl, ?_⟩
    have n0_ := Zaa.mk (Kd.Zc5 (mvS HO_7.out) (Kd.Zco ho0) hb)
    have n1_ := Zaa.mk (Kd.Zb9 ho0 (Zal (mvB HB.out)))
    have n2_ := Zaa.mk (Zbb (g := gb250) (o := .cells #[.slice (some ad255) l0_0.length c0_0, .int .i64 a0_1, .slice A0_2 l0_2.length c0_2, .slice A0_3 l0_3.length c0_3, .int .i64 a0_4, .int .i64 a0_5, .slice A0_6 l0_6.length c0_6, .int .i64 a0_7, .slice A0_8 l0_8.length c0_8, .slice A0_9 l0_9.length c0_9] 27 (0, 0)) (mvK BK250.out) hb)
    have n3_ := Zaa.mk (Zbb (g := gb251) (o := .cells #[.int .i64 0, .slice none 0 0, .slice none 0 0, .int .i64 0, .int .i64 0, .slice none 0 0, .int .i64 0] 25 (0, 0)) (mvK BK251.out) hb)
    have n4_ := Zaa.mk (Zay (mvB HB.out) hb)
    clear HO_7
    clear BK250
    clear BK251
    clear HB
    have HO_7 := n0_
    have HO260 := n1_
    have BK250 := n2_
    have BK251 := n3_
    have HB := n4_
    clear n0_ n1_ n2_ n3_ n4_
    (try clear hb)
    (try clear hb2)
    (try clear hk)
    (try clear hi)
    (try clear ho0)
    obtain ⟨Ao21, co21, eo21⟩ := Kd.Zcb HO260.out
    (first | subst eo21 | (injection eo21 with f1_ f2_ f3_; have f4_ := f1_.symm; have f5_ := f3_.symm; clear f1_ f2_ f3_; subst f4_; subst f5_))
    refine hK.out _ _ ⟨(Zax BK250.out 0).trans rfl, (Zax BK250.out 1).trans rfl, (Zax BK250.out 2).trans rfl, (Zax BK250.out 3).trans rfl, (Zax BK250.out 4).trans rfl, (Zax BK250.out 5).trans rfl, (Zax BK250.out 6).trans rfl, (Zax BK250.out 7).trans rfl, (Zax BK250.out 8).trans rfl, (Zax BK250.out 9).trans rfl, ((HB.out.cell (World.block_lt_of_cell? w _ hw255_0)).trans hw255_0), ((HB.out.cell (World.block_lt_of_cell? w _ hw256_0)).trans hw256_0)⟩ (fun hHeld => ?_)
    clear hK K
    refine Ze2 (a' := ?_) ?_ ?_
    rotate_left
    ·show Act.put _ (some 36) _ = _
     simp only [Act.put, List.setIfInBounds_toArray, List.set_cons_zero, List.set_cons_succ, Zbq, Zbr]
     rfl
    refine one_ (i := 15) (N := some 37) #[true, true, true, true, true, true, true, true, true, true, true, true, true, true, true, true, false, false] rfl rfl (Zdp HT_.out (by kernel_rfl)) (by decide) (fun K hK => ?_)
    refine value_ (w1 := ?_) (v := ?_) (by rfl) rfl ?_ ?_
    rotate_left 2
    ·go_simp
     constructor
     ·rfl
     rfl
    refine hK.out _ _ ⟨(Zax (Zae BK250.out _) 0).trans rfl, (Zax (Zae BK250.out _) 1).trans rfl, (Zax (Zae BK250.out _) 2).trans rfl, (Zax (Zae BK250.out _) 3).trans rfl, (Zax (Zae BK250.out _) 4).trans rfl, (Zax (Zae BK250.out _) 5).trans rfl, (Zax (Zae BK250.out _) 6).trans rfl, (Zax (Zae BK250.out _) 7).trans rfl, (Zax (Zae BK250.out _) 8).trans rfl, (Zax (Zae BK250.out _) 9).trans rfl, (World.cell?_alloc_lt _ _ _ (World.block_lt_of_cell? _ _ (((HB.out.cell (World.block_lt_of_cell? w _ hw255_0)).trans hw255_0)))).trans (((HB.out.cell (World.block_lt_of_cell? w _ hw255_0)).trans hw255_0)), (World.cell?_alloc_lt _ _ _ (World.block_lt_of_cell? _ _ (((HB.out.cell (World.block_lt_of_cell? w _ hw256_0)).trans hw256_0)))).trans (((HB.out.cell (World.block_lt_of_cell? w _ hw256_0)).trans hw256_0))⟩ (fun hHeld => ?_)
    clear hK K
    refine Ze2 (a' := ?_) ?_ ?_
    rotate_left
    ·show Act.put _ (some 37) _ = _
     simp only [Act.put, List.setIfInBounds_toArray, List.set_cons_zero, List.set_cons_succ, Zbq, Zbr]
     rfl
    refine one_ (i := 16) (N := some 38) #[true, true, true, true, true, true, true, true, true, true, true, true, true, true, true, true, true, false] rfl rfl (Zdp HT_.out (by kernel_rfl)) (by decide) (fun K hK => ?_)
    refine Kd.S_append_step (Kd.slice 41 k41) (w0 := w) w.heap.size (by rfl) (.tmp 22) (.tmp 37) 28 39 (.slice none 0 0) 24 rfl Try.underlying28 info39 rfl (by decide) (by omega) u7 x7_1 t258 [.slice Ao21 t258.length co21] (fun _ => True) (fun k_ => some k_ = (.slice Ao21 t258.length co21 : Value).ownBlock) rfl rfl ?aP (fun k_ hk_ => ((Kd.Zbs (ok' := fun k_ => ((fun _ => True)) k_ ∧ some k_ ≠ (u7 : Value).ownBlock) (Kd.Zc9 (HO260.out) (Kd.Zd HO_7.out) (by decide)) (fun k_ hk => ⟨trivial, hk.2⟩))).1 k_ hk_.symm) ?aF ?aO ?aB ?aS ?aL ?_
    (case aP => exact Kd.M_row (Kd.Zbs (Kd.Ze0 rfl (Kd.Zbs (ok' := fun k_ => ((fun _ => True)) k_ ∧ some k_ ≠ (u7 : Value).ownBlock) (Kd.Zc9 (HO260.out) (Kd.Zd HO_7.out) (by decide)) (fun k_ hk => ⟨trivial, hk.2⟩))) (fun _ h_ => h_)))
    (case aB => exact (mvB HB.out))
    (case aF => exact (fun _ _ => trivial))
    (case aO => exact (by (with_reducible repeat (first | apply Kd.S_alloc | apply Kd.Zbe | apply Kd.Zbk)); exact Kd.Zb4 HO_7.out (fun k_ hk => ⟨trivial, fun e_ => hk.2 e_⟩)))
    (case aS => exact (Zal (mvB HB.out)))
    (case aL => have := LMc14.out; omega)
    intro v262 w20 ho hb hg hat
    rw [← Ny261.out] at ho
    have n0_ := Zaa.mk (Zcu (g := gb250) (o := .cells #[.slice (some ad255) l0_0.length c0_0, .int .i64 a0_1, .slice A0_2 l0_2.length c0_2, .slice A0_3 l0_3.length c0_3, .int .i64 a0_4, .int .i64 a0_5, .slice A0_6 l0_6.length c0_6, .int .i64 a0_7, .slice A0_8 l0_8.length c0_8, .slice A0_9 l0_9.length c0_9] 27 (0, 0)) (mvK BK250.out) hg (Kd.S_ne HO_7.out BK250.out (by decide)))
    have n1_ := Zaa.mk (Zcu (g := gb251) (o := .cells #[.int .i64 0, .slice none 0 0, .slice none 0 0, .int .i64 0, .int .i64 0, .slice none 0 0, .int .i64 0] 25 (0, 0)) (mvK BK251.out) hg (Kd.S_ne HO_7.out BK251.out (by decide)))
    have n2_ := Zaa.mk (hb)
    have n3_ := Zaa.mk (ho)
    clear BK250
    clear BK251
    clear HB
    clear HO_7
    clear HO260
    have BK250 := n0_
    have BK251 := n1_
    have HB := n2_
    have HO263 := n3_
    clear n0_ n1_ n2_ n3_
    clear ho hb hg hat
    refine hK.out _ _ ⟨(Zax BK250.out 0).trans rfl, (Zax BK250.out 1).trans rfl, (Zax BK250.out 2).trans rfl, (Zax BK250.out 3).trans rfl, (Zax BK250.out 4).trans rfl, (Zax BK250.out 5).trans rfl, (Zax BK250.out 6).trans rfl, (Zax BK250.out 7).trans rfl, (Zax BK250.out 8).trans rfl, (Zax BK250.out 9).trans rfl, ((HB.out.cell (World.block_lt_of_cell? w _ hw255_0)).trans hw255_0), ((HB.out.cell (World.block_lt_of_cell? w _ hw256_0)).trans hw256_0)⟩ (fun hHeld => ?_)
    clear hK K
    refine Ze2 (a' := ?_) ?_ ?_
    rotate_left
    ·show Act.put _ (some 38) _ = _
     simp only [Act.put, List.setIfInBounds_toArray, List.set_cons_zero, List.set_cons_succ, Zbq, Zbr]
     rfl
    refine Zbx (i := 17) (N := some 7) (v := ?_) (a' := ?_) #[true, true, true, true, true, true, true, true, true, true, true, true, true, true, true, true, true, true] rfl rfl (Zbp HT_.out (by kernel_rfl)) (fun _ _ _ h => h) (Or.inl ⟨by rfl, ?_⟩) ?_ ?_
    rotate_left
    ·intro w'
     go_simp
     with_reducible rfl
    rotate_left
    ·simp only [Act.put, List.setIfInBounds_toArray, List.set_cons_zero, List.set_cons_succ, Zbq, Zbr]
     rfl
    refine Zfd (Zdk HT_.out (by kernel_rfl)) ?_
    try go_wp2
    go_roundg k1
    case measure => have := HK1.out; omega
    case rel => exact ⟨(y261), (wrap64 (x8_1 + 1)), (by first | rfl | (simp; done) | (simp [*]; done)), H', ⟨by have := HK1.out; omega⟩, ⟨by (with_reducible repeat (first | apply Kd.S_alloc | apply Kd.Zbe | apply Kd.Zbk)); exact HO263.out⟩, ⟨by (with_reducible repeat (first | refine Zag ?_ _ | refine Zah ?_ | refine Zae ?_ _)); exact BK250.out⟩, ⟨by (with_reducible repeat (first | refine Zag ?_ _ | refine Zah ?_ | refine Zae ?_ _)); exact BK251.out⟩, ⟨by repeat (first | (with_reducible first | exact HB.out | apply Zac | apply Za | apply Zab | refine Zaf ?_ GE250.out | refine Zaf ?_ GE251.out) | exact HB.out)⟩⟩
   rw [if_neg c8] at H
   have c8b0 : decide (x8_1 < 4) = false := decide_eq_false c8
   clear c8
   replace H := Option.bind_eq_some_iff.mp H
   obtain ⟨⟨t264, t265, t268, t271, t272, t273, t276⟩, A220, H⟩ := H
   replace H : (if 0 ≤ (mn (t273.length : Int) 20) then (if (mn (t273.length : Int) 20) ≤ (t273.length : Int) then ((some (t273.take ((mn (t273.length : Int) 20) : Int).toNat : List (List Int))).bind fun y278 => ((Zas.f k1 x7_1 a1 t265 t268 t271 t272 y278 t276).bind fun t281 => (some (x7_1, a1, t265, t268, t271, t272, y278, t276, (t281 == 0))))) else (none)) else (none)) = some (r1, r2, r3, r4, r5, r6, r7, r8, r9) := H
   have A22 := Zaa.mk A220
   clear A220
   obtain ⟨ji23, hji23⟩ : ∃ j_ : Int, (mn (t273.length : Int) 20) = j_ := ⟨_, rfl⟩
   replace H : (if 0 ≤ (ji23) then (if (ji23) ≤ (t273.length : Int) then ((some (t273.take ((ji23) : Int).toNat : List (List Int))).bind fun y278 => ((Zas.f k1 x7_1 a1 t265 t268 t271 t272 y278 t276).bind fun t281 => (some (x7_1, a1, t265, t268, t271, t272, y278, t276, (t281 == 0))))) else (none)) else (none)) = some (r1, r2, r3, r4, r5, r6, r7, r8, r9) := by first | (rw [hji23] at H; exact H) | (simp only [hji23] at H ⊢; exact H)
   (try rw [hji23] at A22)
   (try (have hji23h : ji23 ≤ 20 := by (rw [← hji23]; unfold mn; (repeat' split) <;> omega)))
   (try (have hji23g : ji23 ≤ 64 := by omega))
   (try (have hji23l : 0 ≤ ji23 := by (rw [← hji23]; unfold mn; (repeat' split) <;> omega)))
   (try (have hji23m : 0 ≤ ji23 := by omega))
   have hji23_ : (if 20 < (t273.length : Int) then 20 else (t273.length : Int)) = ji23 := hji23
   by_cases c24 : 0 ≤ (ji23)
   rotate_left
   ·rw [if_neg c24] at H
    exact absurd H (by simp)
   rw [if_pos c24] at H
   have c24b0 := eq_true c24
   have c24b1 : decide (0 ≤ (ji23)) = true := decide_eq_true c24
   clear c24
   by_cases c25 : (ji23) ≤ (t273.length : Int)
   rotate_left
   ·rw [if_neg c25] at H
    exact absurd H (by simp)
   rw [if_pos c25] at H
   have c25b0 := eq_true c25
   have c25b1 : decide ((ji23) ≤ (t273.length : Int)) = true := decide_eq_true c25
   clear c25
   obtain ⟨y278, hy278⟩ : ∃ y_ : List (List Int), y_ = (t273.take ((ji23) : Int).toNat) := ⟨_, rfl⟩
   replace H : ((Zas.f k1 x7_1 a1 t265 t268 t271 t272 y278 t276).bind fun t281 => (some (x7_1, a1, t265, t268, t271, t272, y278, t276, (t281 == 0)))) = some (r1, r2, r3, r4, r5, r6, r7, r8, r9) := by first | (rw [hy278]; with_reducible exact H) | (have H2_ := (Option.bind_some _ _).symm.trans H; rw [hy278]; with_reducible exact H2_) | (have H2_ := (Option.bind_some _ _).symm.trans H; with_reducible exact H2_) | with_reducible exact H | (rw [hy278]; exact H) | exact H
   have Ny278 := Zaa.mk hy278
   clear hy278
   replace H := Option.bind_eq_some_iff.mp H
   obtain ⟨t281, A260, H⟩ := H
   replace H : (some (x7_1, a1, t265, t268, t271, t272, y278, t276, (t281 == 0))) = some (r1, r2, r3, r4, r5, r6, r7, r8, r9) := H
   have A26 := Zaa.mk A260
   clear A260
   simp only [Option.some.injEq, Prod.mk.injEq] at H
   obtain ⟨rfl, rfl, rfl, rfl, rfl, rfl, rfl, rfl, rfl⟩ := H
   have hnb27 := NB250_251.out
   have hnc27 := NB251_250.out
   obtain ⟨hcz28_0, hcz28_1, hcz28_2, hcz28_3, hcz28_4, hcz28_5, hcz28_6, hcz28_7, hcz28_8, hcz28_9, hfz28_0, hfz28_1, hfz28_2, hfz28_3, hfz28_4, hfz28_5, hfz28_6, hfz28_7, hfz28_8, hfz28_9⟩ := blks10 BK250.out
   try go_wp2_with (first | ((with_reducible refine Zbn (f := 26) rfl ?_); refine Zcf (some 41) rfl rfl Try.func26 (by kernel_rfl) rfl #[.agg #[.int .i64 a0_1, .slice A0_2 l0_2.length c0_2, .slice A0_3 l0_3.length c0_3, .int .i64 a0_4, .int .i64 a0_5, .slice A0_6 l0_6.length c0_6, .int .i64 a0_7]] rfl (by (try simp only [List.map_toArray, List.map_cons, List.map_nil]); first | done | rfl | (simp only [List.length_drop, List.length_take]; rfl)) ?_; (with_reducible refine (Zbc.calls k1 a0_1 _ _ l0_2 _ _ l0_3 a0_4 a0_5 _ _ l0_6 a0_7 t264 t265 t268 t271 t272 t273 t276 _ ?side1 ?side2 ?side3 ?side4 ?side5 ?side6 A22.out).mono ?_); (case side1 => repeat (first | exact (Kd.Zbj HR0_2.out HB.out) | (with_reducible refine Kd.C_alloc ?_ _) | (with_reducible refine Kd.Za0 ?_ _) | (with_reducible refine Kd.C_drew ?_))); (case side2 => exact HC0_2.out); (case side3 => repeat (first | exact (Kd.Zbj HR0_3.out HB.out) | (with_reducible refine Kd.C_alloc ?_ _) | (with_reducible refine Kd.Za0 ?_ _) | (with_reducible refine Kd.C_drew ?_))); (case side4 => exact HC0_3.out); (case side5 => repeat (first | exact (Kd.Zbj HR0_6.out HB.out) | (with_reducible refine Kd.C_alloc ?_ _) | (with_reducible refine Kd.Za0 ?_ _) | (with_reducible refine Kd.C_drew ?_))); (case side6 => exact HC0_6.out); rintro e w29 ⟨v266, v269, v274, rfl, ho0, ho1, ho2, hb⟩; refine ⟨_, rfl, ?_⟩; have n0_ := Zaa.mk (Kd.Zb8 (mvS HO_7.out) hb); have n1_ := Zaa.mk (Kd.Zb9 ho0 (Zal (by repeat (first | (with_reducible first | exact HB.out | apply Zac | apply Za | apply Zab | refine Zaf ?_ GE250.out | refine Zaf ?_ GE251.out) | exact HB.out)))); have n2_ := Zaa.mk (Kd.Zb9 ho1 (Zal (by repeat (first | (with_reducible first | exact HB.out | apply Zac | apply Za | apply Zab | refine Zaf ?_ GE250.out | refine Zaf ?_ GE251.out) | exact HB.out)))); have n3_ := Zaa.mk (Kd.Zc2 ho2 (Zal (by repeat (first | (with_reducible first | exact HB.out | apply Zac | apply Za | apply Zab | refine Zaf ?_ GE250.out | refine Zaf ?_ GE251.out) | exact HB.out)))); have n4_ := Zaa.mk (Zbb (g := gb250) (o := .cells #[.slice A0_0 l0_0.length c0_0, .int .i64 a0_1, .slice A0_2 l0_2.length c0_2, .slice A0_3 l0_3.length c0_3, .int .i64 a0_4, .int .i64 a0_5, .slice A0_6 l0_6.length c0_6, .int .i64 a0_7, .slice A0_8 l0_8.length c0_8, .slice A0_9 l0_9.length c0_9] 27 (0, 0)) (mvK BK250.out) hb); have n5_ := Zaa.mk (Zbb (g := gb251) (o := .cells #[.int .i64 0, .slice none 0 0, .slice none 0 0, .int .i64 0, .int .i64 0, .slice none 0 0, .int .i64 0] 25 (0, 0)) (mvK BK251.out) hb); have n6_ := Zaa.mk (Zay (by repeat (first | (with_reducible first | exact HB.out | apply Zac | apply Za | apply Zab | refine Zaf ?_ GE250.out | refine Zaf ?_ GE251.out) | exact HB.out)) hb); clear HO_7; clear BK250; clear BK251; clear HB; have HO_7 := n0_; have HO267 := n1_; have HO270 := n2_; have HO275 := n3_; have BK250 := n4_; have BK251 := n5_; have HB := n6_; clear n0_ n1_ n2_ n3_ n4_ n5_ n6_; (try clear hb); (try clear hb2); (try clear hk); (try clear hi); (try clear ho0); (try clear ho1); (try clear ho2)) | ((with_reducible refine Zb2 (N := 9) rfl ?_); refine Zcd ?hg (N := 9) ?hd (cs := #[.int .i64 0, .slice none 0 0, .slice none 0 0, .int .i64 0, .int .i64 0, .slice none 0 0, .int .i64 0]) (t := 25) ?hr ?_; (case hd => rfl); (case hg => rfl); (case hr => first | (go_simp; done) | (go_simp; rfl)); intro gb277 hg w30 hbox hb; have n0_ := Zaa.mk (Kd.Zb8 (mvS HO_7.out) hb); have n1_ := Zaa.mk (Kd.Zb3 (mvR HO267.out) hb); have n2_ := Zaa.mk (Kd.Zb3 (mvR HO270.out) hb); have n3_ := Zaa.mk (Kd.Zb8 (mvS HO275.out) hb); have n4_ := Zaa.mk (Zbb (g := gb250) (o := .cells #[.slice A0_0 l0_0.length c0_0, .int .i64 a0_1, .slice A0_2 l0_2.length c0_2, .slice A0_3 l0_3.length c0_3, .int .i64 a0_4, .int .i64 a0_5, .slice A0_6 l0_6.length c0_6, .int .i64 a0_7, .slice A0_8 l0_8.length c0_8, .slice A0_9 l0_9.length c0_9] 27 (0, 0)) (mvK BK250.out) hb); have n5_ := Zaa.mk (Zbb (g := gb251) (o := .cells #[.int .i64 0, .slice none 0 0, .slice none 0 0, .int .i64 0, .int .i64 0, .slice none 0 0, .int .i64 0] 25 (0, 0)) (mvK BK251.out) hb); have n6_ := Zaa.mk (Zay (by repeat (first | (with_reducible first | exact HB.out | apply Zac | apply Za | apply Zab | refine Zaf ?_ GE250.out | refine Zaf ?_ GE251.out) | exact HB.out)) hb); have n7_ := Zaa.mk (hbox); have n8_ := Zaa.mk ((by rw [hg]; exact (Zal (by repeat (first | (with_reducible first | exact HB.out | apply Zac | apply Za | apply Zab | refine Zaf ?_ GE250.out | refine Zaf ?_ GE251.out) | exact HB.out))) : w.heap.size ≤ gb277)); have n9_ := Zaa.mk ((by rw [hg]; exact (Zal (by repeat (first | (with_reducible first | exact HB.out | apply Zac | apply Za | apply Zab | refine Zaf ?_ GE250.out | refine Zaf ?_ GE251.out) | exact HB.out))) : w.heap.size ≤ gb277)); have n10_ := Zaa.mk ((by rw [hg]; exact Nat.ne_of_lt (Zc1 (g := gb250) (o := .cells #[.slice A0_0 l0_0.length c0_0, .int .i64 a0_1, .slice A0_2 l0_2.length c0_2, .slice A0_3 l0_3.length c0_3, .int .i64 a0_4, .int .i64 a0_5, .slice A0_6 l0_6.length c0_6, .int .i64 a0_7, .slice A0_8 l0_8.length c0_8, .slice A0_9 l0_9.length c0_9] 27 (0, 0)) (mvK BK250.out)) : gb250 ≠ gb277)); have n11_ := Zaa.mk ((by rw [hg]; exact Nat.ne_of_gt (Zc1 (g := gb250) (o := .cells #[.slice A0_0 l0_0.length c0_0, .int .i64 a0_1, .slice A0_2 l0_2.length c0_2, .slice A0_3 l0_3.length c0_3, .int .i64 a0_4, .int .i64 a0_5, .slice A0_6 l0_6.length c0_6, .int .i64 a0_7, .slice A0_8 l0_8.length c0_8, .slice A0_9 l0_9.length c0_9] 27 (0, 0)) (mvK BK250.out)) : gb277 ≠ gb250)); have n12_ := Zaa.mk ((by rw [hg]; exact Nat.ne_of_lt (Zc1 (g := gb251) (o := .cells #[.int .i64 0, .slice none 0 0, .slice none 0 0, .int .i64 0, .int .i64 0, .slice none 0 0, .int .i64 0] 25 (0, 0)) (mvK BK251.out)) : gb251 ≠ gb277)); have n13_ := Zaa.mk ((by rw [hg]; exact Nat.ne_of_gt (Zc1 (g := gb251) (o := .cells #[.int .i64 0, .slice none 0 0, .slice none 0 0, .int .i64 0, .int .i64 0, .slice none 0 0, .int .i64 0] 25 (0, 0)) (mvK BK251.out)) : gb277 ≠ gb251)); clear HO_7; clear HO267; clear HO270; clear HO275; clear BK250; clear BK251; clear HB; have HO_7 := n0_; have HO267 := n1_; have HO270 := n2_; have HO275 := n3_; have BK250 := n4_; have BK251 := n5_; have HB := n6_; have BK277 := n7_; have GW277 := n8_; have GE277 := n9_; have NB250_277 := n10_; have NB277_250 := n11_; have NB251_277 := n12_; have NB277_251 := n13_; clear n0_ n1_ n2_ n3_ n4_ n5_ n6_ n7_ n8_ n9_ n10_ n11_ n12_ n13_; clear hb hbox hg; have hnb31 := NB277_250.out; have hnc31 := NB250_277.out; have hnb32 := NB277_251.out; have hnc32 := NB251_277.out; obtain ⟨hcz33_0, hcz33_1, hcz33_2, hcz33_3, hcz33_4, hcz33_5, hcz33_6, hfz33_0, hfz33_1, hfz33_2, hfz33_3, hfz33_4, hfz33_5, hfz33_6⟩ := Zch BK277.out; obtain ⟨Ao34, co34, eo34⟩ := Kd.Zcb HO267.out; subst eo34; obtain ⟨Ao35, co35, eo35⟩ := Kd.Zcb HO270.out; subst eo35; obtain ⟨Ao36, co36, eo36⟩ := Kd.Zc6 HO275.out; subst eo36) | ((with_reducible refine Zdm (t := 25) (p := 9) rfl ?_); refine Zdg (t := 25) (p := 9) (v := ?vo_w37) (w1 := (((((((w30.setCell ⟨gb277, 0, none⟩ (.int .i64 t264)).setCell ⟨gb277, 1, none⟩ (.slice Ao34 t265.length co34)).setCell ⟨gb277, 2, none⟩ (.slice Ao35 t268.length co35)).setCell ⟨gb277, 3, none⟩ (.int .i64 t271)).setCell ⟨gb277, 4, none⟩ (.int .i64 t272)).setCell ⟨gb277, 5, none⟩ (.slice Ao36 t273.length co36)).setCell ⟨gb277, 6, none⟩ (.int .i64 t276))) ?hg ?ho ?hn ?hr ?_; (case ho => rfl); (case hg => rfl); (case hn => rfl); (case hr => first | (go_simp; done) | (go_simp; rfl)); intro w37 hw; have n0_ : Zaa (Kd.S (Kd.slice 41 k41) 39 w37 w.heap.size (fun _ => True) u7 x7_1) := ⟨(by rw [hw]; exact (by (with_reducible repeat (first | apply Kd.S_alloc | apply Kd.Zbe | apply Kd.Zbk)); exact Kd.Zb4 (Kd.Zbm (p := ⟨gb277, 6, none⟩) (Kd.Zbm (p := ⟨gb277, 5, none⟩) (Kd.Zbm (p := ⟨gb277, 4, none⟩) (Kd.Zbm (p := ⟨gb277, 3, none⟩) (Kd.Zbm (p := ⟨gb277, 2, none⟩) (Kd.Zbm (p := ⟨gb277, 1, none⟩) (Kd.Zbm (p := ⟨gb277, 0, none⟩) (Kd.Zcc HO_7.out BK277.out (by decide)) (fun _ hk => hk.2) (.int .i64 t264)) (fun _ hk => hk.2) (.slice Ao34 t265.length co34)) (fun _ hk => hk.2) (.slice Ao35 t268.length co35)) (fun _ hk => hk.2) (.int .i64 t271)) (fun _ hk => hk.2) (.int .i64 t272)) (fun _ hk => hk.2) (.slice Ao36 t273.length co36)) (fun _ hk => hk.2) (.int .i64 t276)) (fun _ hk => trivial)))⟩; have n1_ : Zaa (Kd.R (Kd.int .i64) 3 w37 w.heap.size (fun k_ => some k_ ≠ (.slice Ao35 t268.length co35 : Value).ownBlock) (.slice Ao34 t265.length co34) t265) := ⟨(by rw [hw]; exact (by (with_reducible repeat (first | apply Kd.R_alloc | apply Kd.Zap | apply Kd.Zav)); exact Kd.Zbs (Kd.Zbo (p := ⟨gb277, 6, none⟩) (Kd.Zbo (p := ⟨gb277, 5, none⟩) (Kd.Zbo (p := ⟨gb277, 4, none⟩) (Kd.Zbo (p := ⟨gb277, 3, none⟩) (Kd.Zbo (p := ⟨gb277, 2, none⟩) (Kd.Zbo (p := ⟨gb277, 1, none⟩) (Kd.Zbo (p := ⟨gb277, 0, none⟩) (Kd.Zca HO267.out BK277.out (by decide)) (fun _ hk => hk.2) (.int .i64 t264)) (fun _ hk => hk.2) (.slice Ao34 t265.length co34)) (fun _ hk => hk.2) (.slice Ao35 t268.length co35)) (fun _ hk => hk.2) (.int .i64 t271)) (fun _ hk => hk.2) (.int .i64 t272)) (fun _ hk => hk.2) (.slice Ao36 t273.length co36)) (fun _ hk => hk.2) (.int .i64 t276)) (fun _ hk => hk.1)))⟩; have n2_ : Zaa (Kd.R (Kd.int .i64) 3 w37 w.heap.size (fun k_ => some k_ ≠ (.slice Ao34 t265.length co34 : Value).ownBlock) (.slice Ao35 t268.length co35) t268) := ⟨(by rw [hw]; exact (by (with_reducible repeat (first | apply Kd.R_alloc | apply Kd.Zap | apply Kd.Zav)); exact Kd.Zbs (Kd.Zbo (p := ⟨gb277, 6, none⟩) (Kd.Zbo (p := ⟨gb277, 5, none⟩) (Kd.Zbo (p := ⟨gb277, 4, none⟩) (Kd.Zbo (p := ⟨gb277, 3, none⟩) (Kd.Zbo (p := ⟨gb277, 2, none⟩) (Kd.Zbo (p := ⟨gb277, 1, none⟩) (Kd.Zbo (p := ⟨gb277, 0, none⟩) (Kd.Zca HO270.out BK277.out (by decide)) (fun _ hk => hk.2) (.int .i64 t264)) (fun _ hk => hk.2) (.slice Ao34 t265.length co34)) (fun _ hk => hk.2) (.slice Ao35 t268.length co35)) (fun _ hk => hk.2) (.int .i64 t271)) (fun _ hk => hk.2) (.int .i64 t272)) (fun _ hk => hk.2) (.slice Ao36 t273.length co36)) (fun _ hk => hk.2) (.int .i64 t276)) (fun _ hk => hk.1)))⟩; have n3_ : Zaa (Kd.S (Kd.slice 3 (Kd.int .i64)) 23 w37 w.heap.size (fun k_ => some k_ ≠ (.slice Ao34 t265.length co34 : Value).ownBlock ∧ some k_ ≠ (.slice Ao35 t268.length co35 : Value).ownBlock) (.slice Ao36 t273.length co36) t273) := ⟨(by rw [hw]; exact (by (with_reducible repeat (first | apply Kd.S_alloc | apply Kd.Zbe | apply Kd.Zbk)); exact Kd.Zb4 (Kd.Zbm (p := ⟨gb277, 6, none⟩) (Kd.Zbm (p := ⟨gb277, 5, none⟩) (Kd.Zbm (p := ⟨gb277, 4, none⟩) (Kd.Zbm (p := ⟨gb277, 3, none⟩) (Kd.Zbm (p := ⟨gb277, 2, none⟩) (Kd.Zbm (p := ⟨gb277, 1, none⟩) (Kd.Zbm (p := ⟨gb277, 0, none⟩) (Kd.Zcc HO275.out BK277.out (by decide)) (fun _ hk => hk.2) (.int .i64 t264)) (fun _ hk => hk.2) (.slice Ao34 t265.length co34)) (fun _ hk => hk.2) (.slice Ao35 t268.length co35)) (fun _ hk => hk.2) (.int .i64 t271)) (fun _ hk => hk.2) (.int .i64 t272)) (fun _ hk => hk.2) (.slice Ao36 t273.length co36)) (fun _ hk => hk.2) (.int .i64 t276)) (fun _ hk => ⟨hk.1.1, hk.1.2⟩)))⟩; have n4_ : Zaa (w37.heap[gb250]? = some (.cells #[.slice A0_0 l0_0.length c0_0, .int .i64 a0_1, .slice A0_2 l0_2.length c0_2, .slice A0_3 l0_3.length c0_3, .int .i64 a0_4, .int .i64 a0_5, .slice A0_6 l0_6.length c0_6, .int .i64 a0_7, .slice A0_8 l0_8.length c0_8, .slice A0_9 l0_9.length c0_9] 27 (0, 0))) := ⟨(by rw [hw]; exact (by (with_reducible repeat (first | refine Zag ?_ _ | refine Zah ?_ | refine Zae ?_ _)); refine Zbv ?_ NB250_277.out _; (with_reducible repeat (first | refine Zag ?_ _ | refine Zah ?_ | refine Zae ?_ _)); refine Zbv ?_ NB250_277.out _; (with_reducible repeat (first | refine Zag ?_ _ | refine Zah ?_ | refine Zae ?_ _)); refine Zbv ?_ NB250_277.out _; (with_reducible repeat (first | refine Zag ?_ _ | refine Zah ?_ | refine Zae ?_ _)); refine Zbv ?_ NB250_277.out _; (with_reducible repeat (first | refine Zag ?_ _ | refine Zah ?_ | refine Zae ?_ _)); refine Zbv ?_ NB250_277.out _; (with_reducible repeat (first | refine Zag ?_ _ | refine Zah ?_ | refine Zae ?_ _)); refine Zbv ?_ NB250_277.out _; (with_reducible repeat (first | refine Zag ?_ _ | refine Zah ?_ | refine Zae ?_ _)); refine Zbv ?_ NB250_277.out _; (with_reducible repeat (first | refine Zag ?_ _ | refine Zah ?_ | refine Zae ?_ _)); exact BK250.out))⟩; have n5_ : Zaa (w37.heap[gb251]? = some (.cells #[.int .i64 0, .slice none 0 0, .slice none 0 0, .int .i64 0, .int .i64 0, .slice none 0 0, .int .i64 0] 25 (0, 0))) := ⟨(by rw [hw]; exact (by (with_reducible repeat (first | refine Zag ?_ _ | refine Zah ?_ | refine Zae ?_ _)); refine Zbv ?_ NB251_277.out _; (with_reducible repeat (first | refine Zag ?_ _ | refine Zah ?_ | refine Zae ?_ _)); refine Zbv ?_ NB251_277.out _; (with_reducible repeat (first | refine Zag ?_ _ | refine Zah ?_ | refine Zae ?_ _)); refine Zbv ?_ NB251_277.out _; (with_reducible repeat (first | refine Zag ?_ _ | refine Zah ?_ | refine Zae ?_ _)); refine Zbv ?_ NB251_277.out _; (with_reducible repeat (first | refine Zag ?_ _ | refine Zah ?_ | refine Zae ?_ _)); refine Zbv ?_ NB251_277.out _; (with_reducible repeat (first | refine Zag ?_ _ | refine Zah ?_ | refine Zae ?_ _)); refine Zbv ?_ NB251_277.out _; (with_reducible repeat (first | refine Zag ?_ _ | refine Zah ?_ | refine Zae ?_ _)); refine Zbv ?_ NB251_277.out _; (with_reducible repeat (first | refine Zag ?_ _ | refine Zah ?_ | refine Zae ?_ _)); exact BK251.out))⟩; have n6_ : Zaa (w37.heap[gb277]? = some (.cells #[.int .i64 t264, .slice Ao34 t265.length co34, .slice Ao35 t268.length co35, .int .i64 t271, .int .i64 t272, .slice Ao36 t273.length co36, .int .i64 t276] 25 (0, 0))) := ⟨(by rw [hw]; exact (by (with_reducible repeat (first | refine Zag ?_ _ | refine Zah ?_ | refine Zae ?_ _)); refine Zbu (cs := #[.int .i64 t264, .slice Ao34 t265.length co34, .slice Ao35 t268.length co35, .int .i64 t271, .int .i64 t272, .slice Ao36 t273.length co36, .int .i64 0]) ?_ 6 _ rfl; (with_reducible repeat (first | refine Zag ?_ _ | refine Zah ?_ | refine Zae ?_ _)); refine Zbu (cs := #[.int .i64 t264, .slice Ao34 t265.length co34, .slice Ao35 t268.length co35, .int .i64 t271, .int .i64 t272, .slice none 0 0, .int .i64 0]) ?_ 5 _ rfl; (with_reducible repeat (first | refine Zag ?_ _ | refine Zah ?_ | refine Zae ?_ _)); refine Zbu (cs := #[.int .i64 t264, .slice Ao34 t265.length co34, .slice Ao35 t268.length co35, .int .i64 t271, .int .i64 0, .slice none 0 0, .int .i64 0]) ?_ 4 _ rfl; (with_reducible repeat (first | refine Zag ?_ _ | refine Zah ?_ | refine Zae ?_ _)); refine Zbu (cs := #[.int .i64 t264, .slice Ao34 t265.length co34, .slice Ao35 t268.length co35, .int .i64 0, .int .i64 0, .slice none 0 0, .int .i64 0]) ?_ 3 _ rfl; (with_reducible repeat (first | refine Zag ?_ _ | refine Zah ?_ | refine Zae ?_ _)); refine Zbu (cs := #[.int .i64 t264, .slice Ao34 t265.length co34, .slice none 0 0, .int .i64 0, .int .i64 0, .slice none 0 0, .int .i64 0]) ?_ 2 _ rfl; (with_reducible repeat (first | refine Zag ?_ _ | refine Zah ?_ | refine Zae ?_ _)); refine Zbu (cs := #[.int .i64 t264, .slice none 0 0, .slice none 0 0, .int .i64 0, .int .i64 0, .slice none 0 0, .int .i64 0]) ?_ 1 _ rfl; (with_reducible repeat (first | refine Zag ?_ _ | refine Zah ?_ | refine Zae ?_ _)); refine Zbu (cs := #[.int .i64 0, .slice none 0 0, .slice none 0 0, .int .i64 0, .int .i64 0, .slice none 0 0, .int .i64 0]) ?_ 0 _ rfl; (with_reducible repeat (first | refine Zag ?_ _ | refine Zah ?_ | refine Zae ?_ _)); exact BK277.out))⟩; have n7_ : Zaa (Below w.heap.size w w37) := ⟨(by rw [hw]; exact (by repeat (first | (with_reducible first | exact HB.out | apply Zac | apply Za | apply Zab | refine Zaf ?_ GE250.out | refine Zaf ?_ GE251.out | refine Zaf ?_ GE277.out) | exact HB.out)))⟩; clear hw; clear HO_7; clear HO267; clear HO270; clear HO275; clear BK250; clear BK251; clear BK277; clear HB; have HO_7 := n0_; have HO267 := n1_; have HO270 := n2_; have HO275 := n3_; have BK250 := n4_; have BK251 := n5_; have BK277 := n6_; have HB := n7_; clear n0_ n1_ n2_ n3_ n4_ n5_ n6_ n7_; obtain ⟨hcz38_0, hcz38_1, hcz38_2, hcz38_3, hcz38_4, hcz38_5, hcz38_6, hfz38_0, hfz38_1, hfz38_2, hfz38_3, hfz38_4, hfz38_5, hfz38_6⟩ := Zch BK277.out) | ((with_reducible refine Zdm (t := 3) (p := 43) rfl ?_); refine Zdg (t := 3) (p := 43) (v := ?vo_w39) (w1 := (w37.setCell ⟨gb277, 0, none⟩ (.int .i64 a1))) ?hg ?ho ?hn ?hr ?_; (case ho => rfl); (case hg => rfl); (case hn => rfl); (case hr => first | (go_simp; done) | (go_simp; rfl)); intro w39 hw; have n0_ : Zaa (Kd.S (Kd.slice 41 k41) 39 w39 w.heap.size (fun _ => True) u7 x7_1) := ⟨(by rw [hw]; exact (by (with_reducible repeat (first | apply Kd.S_alloc | apply Kd.Zbe | apply Kd.Zbk)); exact Kd.Zb4 (Kd.Zbm (p := ⟨gb277, 0, none⟩) (Kd.Zcc HO_7.out BK277.out (by decide)) (fun _ hk => hk.2) (.int .i64 a1)) (fun _ hk => trivial)))⟩; have n1_ : Zaa (Kd.R (Kd.int .i64) 3 w39 w.heap.size (fun k_ => some k_ ≠ (.slice Ao35 t268.length co35 : Value).ownBlock) (.slice Ao34 t265.length co34) t265) := ⟨(by rw [hw]; exact (by (with_reducible repeat (first | apply Kd.R_alloc | apply Kd.Zap | apply Kd.Zav)); exact Kd.Zbs (Kd.Zbo (p := ⟨gb277, 0, none⟩) (Kd.Zca HO267.out BK277.out (by decide)) (fun _ hk => hk.2) (.int .i64 a1)) (fun _ hk => hk.1)))⟩; have n2_ : Zaa (Kd.R (Kd.int .i64) 3 w39 w.heap.size (fun k_ => some k_ ≠ (.slice Ao34 t265.length co34 : Value).ownBlock) (.slice Ao35 t268.length co35) t268) := ⟨(by rw [hw]; exact (by (with_reducible repeat (first | apply Kd.R_alloc | apply Kd.Zap | apply Kd.Zav)); exact Kd.Zbs (Kd.Zbo (p := ⟨gb277, 0, none⟩) (Kd.Zca HO270.out BK277.out (by decide)) (fun _ hk => hk.2) (.int .i64 a1)) (fun _ hk => hk.1)))⟩; have n3_ : Zaa (Kd.S (Kd.slice 3 (Kd.int .i64)) 23 w39 w.heap.size (fun k_ => some k_ ≠ (.slice Ao34 t265.length co34 : Value).ownBlock ∧ some k_ ≠ (.slice Ao35 t268.length co35 : Value).ownBlock) (.slice Ao36 t273.length co36) t273) := ⟨(by rw [hw]; exact (by (with_reducible repeat (first | apply Kd.S_alloc | apply Kd.Zbe | apply Kd.Zbk)); exact Kd.Zb4 (Kd.Zbm (p := ⟨gb277, 0, none⟩) (Kd.Zcc HO275.out BK277.out (by decide)) (fun _ hk => hk.2) (.int .i64 a1)) (fun _ hk => ⟨hk.1.1, hk.1.2⟩)))⟩; have n4_ : Zaa (w39.heap[gb250]? = some (.cells #[.slice A0_0 l0_0.length c0_0, .int .i64 a0_1, .slice A0_2 l0_2.length c0_2, .slice A0_3 l0_3.length c0_3, .int .i64 a0_4, .int .i64 a0_5, .slice A0_6 l0_6.length c0_6, .int .i64 a0_7, .slice A0_8 l0_8.length c0_8, .slice A0_9 l0_9.length c0_9] 27 (0, 0))) := ⟨(by rw [hw]; exact (by (with_reducible repeat (first | refine Zag ?_ _ | refine Zah ?_ | refine Zae ?_ _)); refine Zbv ?_ NB250_277.out _; (with_reducible repeat (first | refine Zag ?_ _ | refine Zah ?_ | refine Zae ?_ _)); exact BK250.out))⟩; have n5_ : Zaa (w39.heap[gb251]? = some (.cells #[.int .i64 0, .slice none 0 0, .slice none 0 0, .int .i64 0, .int .i64 0, .slice none 0 0, .int .i64 0] 25 (0, 0))) := ⟨(by rw [hw]; exact (by (with_reducible repeat (first | refine Zag ?_ _ | refine Zah ?_ | refine Zae ?_ _)); refine Zbv ?_ NB251_277.out _; (with_reducible repeat (first | refine Zag ?_ _ | refine Zah ?_ | refine Zae ?_ _)); exact BK251.out))⟩; have n6_ : Zaa (w39.heap[gb277]? = some (.cells #[.int .i64 a1, .slice Ao34 t265.length co34, .slice Ao35 t268.length co35, .int .i64 t271, .int .i64 t272, .slice Ao36 t273.length co36, .int .i64 t276] 25 (0, 0))) := ⟨(by rw [hw]; exact (by (with_reducible repeat (first | refine Zag ?_ _ | refine Zah ?_ | refine Zae ?_ _)); refine Zbu (cs := #[.int .i64 t264, .slice Ao34 t265.length co34, .slice Ao35 t268.length co35, .int .i64 t271, .int .i64 t272, .slice Ao36 t273.length co36, .int .i64 t276]) ?_ 0 _ rfl; (with_reducible repeat (first | refine Zag ?_ _ | refine Zah ?_ | refine Zae ?_ _)); exact BK277.out))⟩; have n7_ : Zaa (Below w.heap.size w w39) := ⟨(by rw [hw]; exact (by repeat (first | (with_reducible first | exact HB.out | apply Zac | apply Za | apply Zab | refine Zaf ?_ GE250.out | refine Zaf ?_ GE251.out | refine Zaf ?_ GE277.out) | exact HB.out)))⟩; clear hw; clear HO_7; clear HO267; clear HO270; clear HO275; clear BK250; clear BK251; clear BK277; clear HB; have HO_7 := n0_; have HO267 := n1_; have HO270 := n2_; have HO275 := n3_; have BK250 := n4_; have BK251 := n5_; have BK277 := n6_; have HB := n7_; clear n0_ n1_ n2_ n3_ n4_ n5_ n6_ n7_; obtain ⟨hcz40_0, hcz40_1, hcz40_2, hcz40_3, hcz40_4, hcz40_5, hcz40_6, hfz40_0, hfz40_1, hfz40_2, hfz40_3, hfz40_4, hfz40_5, hfz40_6⟩ := Zch BK277.out; have q41 : ((ji23) : Int) ≤ ((t273.length : Int) : Int) := of_decide_eq_true (by first | (with_reducible assumption) | assumption); obtain ⟨i041, hi041, _, hsz41, _⟩ := info_parts Zfo; have hcut41 := cut_to (P := Try.prog) 22 23 .i64 Try.underlying22 hi041 Ao36 t273.length co36 (ji23) (of_decide_eq_true (by first | (with_reducible assumption) | assumption)) q41 (Kd.Zb5 HO275.out).2.1; have hr41 := Kd.S_take (m := ((ji23) : Int).toNat) HO275.out (by omega); have hy41 : y278.length = ((ji23) : Int).toNat := (by rw [Ny278.out, List.length_take]; omega); rw [← Ny278.out] at hr41; rw [← hy41] at hr41 hcut41; clear hy41 hi041 hsz41 HO275; have HO280 := Zaa.mk hr41; clear hr41; replace q41 := eq_true q41))
   have n0_ : Zaa (Kd.S (Kd.slice 41 k41) 39 (w39.setCell ⟨gb277, 5, none⟩ (.slice Ao36 y278.length co36)) w.heap.size (fun _ => True) u7 x7_1) := ⟨by (with_reducible repeat (first | apply Kd.S_alloc | apply Kd.Zbe | apply Kd.Zbk)); exact Kd.Zb4 (Kd.Zbm (p := ⟨gb277, 5, none⟩) (Kd.Zcc HO_7.out BK277.out (by decide)) (fun _ hk => hk.2) (.slice Ao36 y278.length co36)) (fun _ hk => trivial)⟩
   have n1_ : Zaa (Kd.R (Kd.int .i64) 3 (w39.setCell ⟨gb277, 5, none⟩ (.slice Ao36 y278.length co36)) w.heap.size (fun k_ => some k_ ≠ (.slice Ao35 t268.length co35 : Value).ownBlock) (.slice Ao34 t265.length co34) t265) := ⟨by (with_reducible repeat (first | apply Kd.R_alloc | apply Kd.Zap | apply Kd.Zav)); exact Kd.Zbs (Kd.Zbo (p := ⟨gb277, 5, none⟩) (Kd.Zca HO267.out BK277.out (by decide)) (fun _ hk => hk.2) (.slice Ao36 y278.length co36)) (fun _ hk => hk.1)⟩
   have n2_ : Zaa (Kd.R (Kd.int .i64) 3 (w39.setCell ⟨gb277, 5, none⟩ (.slice Ao36 y278.length co36)) w.heap.size (fun k_ => some k_ ≠ (.slice Ao34 t265.length co34 : Value).ownBlock) (.slice Ao35 t268.length co35) t268) := ⟨by (with_reducible repeat (first | apply Kd.R_alloc | apply Kd.Zap | apply Kd.Zav)); exact Kd.Zbs (Kd.Zbo (p := ⟨gb277, 5, none⟩) (Kd.Zca HO270.out BK277.out (by decide)) (fun _ hk => hk.2) (.slice Ao36 y278.length co36)) (fun _ hk => hk.1)⟩
   have n3_ : Zaa (Kd.S (Kd.slice 3 (Kd.int .i64)) 23 (w39.setCell ⟨gb277, 5, none⟩ (.slice Ao36 y278.length co36)) w.heap.size (fun k_ => some k_ ≠ (.slice Ao34 t265.length co34 : Value).ownBlock ∧ some k_ ≠ (.slice Ao35 t268.length co35 : Value).ownBlock) (.slice Ao36 y278.length co36) y278) := ⟨by (with_reducible repeat (first | apply Kd.S_alloc | apply Kd.Zbe | apply Kd.Zbk)); exact Kd.Zb4 (Kd.Zbm (p := ⟨gb277, 5, none⟩) (Kd.Zcc HO280.out BK277.out (by decide)) (fun _ hk => hk.2) (.slice Ao36 y278.length co36)) (fun _ hk => ⟨hk.1.1, hk.1.2⟩)⟩
   have n4_ : Zaa ((w39.setCell ⟨gb277, 5, none⟩ (.slice Ao36 y278.length co36)).heap[gb250]? = some (.cells #[.slice A0_0 l0_0.length c0_0, .int .i64 a0_1, .slice A0_2 l0_2.length c0_2, .slice A0_3 l0_3.length c0_3, .int .i64 a0_4, .int .i64 a0_5, .slice A0_6 l0_6.length c0_6, .int .i64 a0_7, .slice A0_8 l0_8.length c0_8, .slice A0_9 l0_9.length c0_9] 27 (0, 0))) := ⟨by (with_reducible repeat (first | refine Zag ?_ _ | refine Zah ?_ | refine Zae ?_ _)); refine Zbv ?_ NB250_277.out _; (with_reducible repeat (first | refine Zag ?_ _ | refine Zah ?_ | refine Zae ?_ _)); exact BK250.out⟩
   have n5_ : Zaa ((w39.setCell ⟨gb277, 5, none⟩ (.slice Ao36 y278.length co36)).heap[gb251]? = some (.cells #[.int .i64 0, .slice none 0 0, .slice none 0 0, .int .i64 0, .int .i64 0, .slice none 0 0, .int .i64 0] 25 (0, 0))) := ⟨by (with_reducible repeat (first | refine Zag ?_ _ | refine Zah ?_ | refine Zae ?_ _)); refine Zbv ?_ NB251_277.out _; (with_reducible repeat (first | refine Zag ?_ _ | refine Zah ?_ | refine Zae ?_ _)); exact BK251.out⟩
   have n6_ : Zaa ((w39.setCell ⟨gb277, 5, none⟩ (.slice Ao36 y278.length co36)).heap[gb277]? = some (.cells #[.int .i64 a1, .slice Ao34 t265.length co34, .slice Ao35 t268.length co35, .int .i64 t271, .int .i64 t272, .slice Ao36 y278.length co36, .int .i64 t276] 25 (0, 0))) := ⟨by (with_reducible repeat (first | refine Zag ?_ _ | refine Zah ?_ | refine Zae ?_ _)); refine Zbu (cs := #[.int .i64 a1, .slice Ao34 t265.length co34, .slice Ao35 t268.length co35, .int .i64 t271, .int .i64 t272, .slice Ao36 t273.length co36, .int .i64 t276]) ?_ 5 _ rfl; (with_reducible repeat (first | refine Zag ?_ _ | refine Zah ?_ | refine Zae ?_ _)); exact BK277.out⟩
   have n7_ : Zaa (Below w.heap.size w (w39.setCell ⟨gb277, 5, none⟩ (.slice Ao36 y278.length co36))) := ⟨by repeat (first | (with_reducible first | exact HB.out | apply Zac | apply Za | apply Zab | refine Zaf ?_ GE250.out | refine Zaf ?_ GE251.out | refine Zaf ?_ GE277.out) | exact HB.out)⟩
   (try clear HO_7)
   (try clear HO267)
   (try clear HO270)
   (try clear HO280)
   (try clear BK250)
   (try clear BK251)
   (try clear BK277)
   (try clear HB)
   generalize (w39.setCell ⟨gb277, 5, none⟩ (.slice Ao36 y278.length co36)) = w42 at n0_ n1_ n2_ n3_ n4_ n5_ n6_ n7_ ⊢
   have HO_7 := n0_
   have HO267 := n1_
   have HO270 := n2_
   have HO280 := n3_
   have BK250 := n4_
   have BK251 := n5_
   have BK277 := n6_
   have HB := n7_
   clear n0_ n1_ n2_ n3_ n4_ n5_ n6_ n7_
   have n0_ := Zaa.mk (Kd.Zbk HO_7.out)
   have n1_ := Zaa.mk (Kd.Zav HO267.out)
   have n2_ := Zaa.mk (Kd.Zav HO270.out)
   have n3_ := Zaa.mk (Kd.Zbk HO280.out)
   have n4_ := Zaa.mk (Zah BK250.out)
   have n5_ := Zaa.mk (Zah BK251.out)
   have n6_ := Zaa.mk (Zah BK277.out)
   have n7_ := Zaa.mk (Zab HB.out)
   clear HO_7
   clear HO267
   clear HO270
   clear HO280
   clear BK250
   clear BK251
   clear BK277
   clear HB
   have HO_7 := n0_
   have HO267 := n1_
   have HO270 := n2_
   have HO280 := n3_
   have BK250 := n4_
   have BK251 := n5_
   have BK277 := n6_
   have HB := n7_
   clear n0_ n1_ n2_ n3_ n4_ n5_ n6_ n7_
   obtain ⟨Ao44, co44, eo44⟩ := Kd.Zc6 HO_7.out
   (first | subst eo44 | (injection eo44 with f1_ f2_ f3_; have f4_ := f1_.symm; have f5_ := f3_.symm; clear f1_ f2_ f3_; subst f4_; subst f5_))
   refine Zd8 (n := 9) (S := fun w' => w'.cell? ⟨gb277, 0, none⟩ = some (.int .i64 a1) ∧ w'.cell? ⟨gb277, 1, none⟩ = some (.slice Ao34 t265.length co34) ∧ w'.cell? ⟨gb277, 2, none⟩ = some (.slice Ao35 t268.length co35) ∧ w'.cell? ⟨gb277, 3, none⟩ = some (.int .i64 t271) ∧ w'.cell? ⟨gb277, 4, none⟩ = some (.int .i64 t272) ∧ w'.cell? ⟨gb277, 5, none⟩ = some (.slice Ao36 y278.length co36) ∧ w'.cell? ⟨gb277, 6, none⟩ = some (.int .i64 t276)) (ds := []) #[false, false, false, false, false, false, false, false, false] (by kernel_rfl) rfl rfl ⟨(Zax BK277.out 0).trans rfl, (Zax BK277.out 1).trans rfl, (Zax BK277.out 2).trans rfl, (Zax BK277.out 3).trans rfl, (Zax BK277.out 4).trans rfl, (Zax BK277.out 5).trans rfl, (Zax BK277.out 6).trans rfl⟩ (fun hHeld => ?_); refine Zcz Zan.tab9 Zan.bits9 (fun HT_ HW_ => ?_)
   generalize w42.drew = w43 at HO_7 HO267 HO270 HO280 BK250 BK251 BK277 HB hHeld ⊢
   refine Zbx (i := 0) (N := some 52) (v := ?_) (a' := ?_) #[true, false, false, false, false, false, false, false, false] rfl rfl (Zbp HT_.out (by kernel_rfl)) (fun _ _ _ h => h) (Or.inl ⟨by rfl, ?_⟩) ?_ ?_
   rotate_left
   ·intro w'
    go_simp
    with_reducible rfl
   rotate_left
   ·simp only [Act.put, List.setIfInBounds_toArray, List.set_cons_zero, List.set_cons_succ, Zbq, Zbr]
    rfl
   refine Zbx (i := 2) (N := some 54) (v := ?_) (a' := ?_) #[true, false, true, false, false, false, false, false, false] rfl rfl (Zbp HT_.out (by kernel_rfl)) (fun _ _ _ h => h) (Or.inl ⟨by rfl, ?_⟩) ?_ ?_
   rotate_left
   ·intro w'
    go_simp
    with_reducible rfl
   rotate_left
   ·simp only [Act.put, List.setIfInBounds_toArray, List.set_cons_zero, List.set_cons_succ, Zbq, Zbr]
    rfl
   refine Zdf (i := 1) (N := some 53) (v := ?_) (a' := ?_) #[true, true, true, false, false, false, false, false, false] rfl rfl (Zci HT_.out HW_.out (by kernel_rfl)) (fun _ _ _ h => h) (Or.inl ⟨by rfl, ?_⟩) hHeld ?_ ?_
   rotate_left
   ·rintro w' ⟨s0, s1, s2, s3, s4, s5, s6⟩
    go_simp
    with_reducible rfl
   rotate_left
   ·simp only [Act.put, List.setIfInBounds_toArray, List.set_cons_zero, List.set_cons_succ, Zbq, Zbr]
    rfl
   refine Zdf (i := 3) (N := some 55) (v := ?_) (a' := ?_) #[true, true, true, true, false, false, false, false, false] rfl rfl (Zci HT_.out HW_.out (by kernel_rfl)) (fun _ _ _ h => h) (Or.inl ⟨by rfl, ?_⟩) hHeld ?_ ?_
   rotate_left
   ·rintro w' ⟨s0, s1, s2, s3, s4, s5, s6⟩
    go_simp
    with_reducible rfl
   rotate_left
   ·simp only [Act.put, List.setIfInBounds_toArray, List.set_cons_zero, List.set_cons_succ, Zbq, Zbr]
    rfl
   refine one_ (i := 4) (N := some 56) #[true, true, true, true, true, false, false, false, false] rfl rfl (Zdp HT_.out (by kernel_rfl)) (by decide) (fun K hK => ?_)
   refine goes_ Try.func41 (by kernel_rfl) rfl #[.slice Ao44 x7_1.length co44, .agg #[.int .i64 a1, .slice Ao34 t265.length co34, .slice Ao35 t268.length co35, .int .i64 t271, .int .i64 t272, .slice Ao36 y278.length co36, .int .i64 t276]] (by rfl) rfl rfl (by (try simp only [List.map_toArray, List.map_cons, List.map_nil]); first | done | rfl | (simp only [List.length_drop, List.length_take]; rfl)) ?_
   with_reducible refine (Zas.calls k1 _ _ x7_1 a1 _ _ t265 _ _ t268 t271 t272 _ _ y278 t276 t281 _ ?side1 ?side2 ?side3 ?side4 ?side5 ?side6 ?side7 ?side8 A26.out).mono ?_
   (case side1 => repeat (first | exact (Kd.Zb5 HO_7.out).2.2 | (with_reducible refine Kd.C_alloc ?_ _) | (with_reducible refine Kd.Za0 ?_ _) | (with_reducible refine Kd.C_drew ?_)))
   (case side2 => exact (Kd.Zb5 HO_7.out).2.1)
   (case side3 => repeat (first | exact (Kd.Zbi HO267.out).2.2 | (with_reducible refine Kd.C_alloc ?_ _) | (with_reducible refine Kd.Za0 ?_ _) | (with_reducible refine Kd.C_drew ?_)))
   (case side4 => exact (Kd.Zbi HO267.out).2.1)
   (case side5 => repeat (first | exact (Kd.Zbi HO270.out).2.2 | (with_reducible refine Kd.C_alloc ?_ _) | (with_reducible refine Kd.Za0 ?_ _) | (with_reducible refine Kd.C_drew ?_)))
   (case side6 => exact (Kd.Zbi HO270.out).2.1)
   (case side7 => repeat (first | exact (Kd.Zb5 HO280.out).2.2 | (with_reducible refine Kd.C_alloc ?_ _) | (with_reducible refine Kd.Za0 ?_ _) | (with_reducible refine Kd.C_drew ?_)))
   (case side8 => exact (Kd.Zb5 HO280.out).2.1)
   rintro e w45 ⟨rfl, hb⟩
   refine ⟨_, rfl, ?_⟩
   have n0_ := Zaa.mk (Kd.Zb8 (mvS HO_7.out) hb)
   have n1_ := Zaa.mk (Kd.Zb3 (mvR HO267.out) hb)
   have n2_ := Zaa.mk (Kd.Zb3 (mvR HO270.out) hb)
   have n3_ := Zaa.mk (Kd.Zb8 (mvS HO280.out) hb)
   have n4_ := Zaa.mk (Zbb (g := gb250) (o := .cells #[.slice A0_0 l0_0.length c0_0, .int .i64 a0_1, .slice A0_2 l0_2.length c0_2, .slice A0_3 l0_3.length c0_3, .int .i64 a0_4, .int .i64 a0_5, .slice A0_6 l0_6.length c0_6, .int .i64 a0_7, .slice A0_8 l0_8.length c0_8, .slice A0_9 l0_9.length c0_9] 27 (0, 0)) (mvK BK250.out) hb)
   have n5_ := Zaa.mk (Zbb (g := gb251) (o := .cells #[.int .i64 0, .slice none 0 0, .slice none 0 0, .int .i64 0, .int .i64 0, .slice none 0 0, .int .i64 0] 25 (0, 0)) (mvK BK251.out) hb)
   have n6_ := Zaa.mk (Zbb (g := gb277) (o := .cells #[.int .i64 a1, .slice Ao34 t265.length co34, .slice Ao35 t268.length co35, .int .i64 t271, .int .i64 t272, .slice Ao36 y278.length co36, .int .i64 t276] 25 (0, 0)) (mvK BK277.out) hb)
   have n7_ := Zaa.mk (Zay (mvB HB.out) hb)
   clear HO_7
   clear HO267
   clear HO270
   clear HO280
   clear BK250
   clear BK251
   clear BK277
   clear HB
   have HO_7 := n0_
   have HO267 := n1_
   have HO270 := n2_
   have HO280 := n3_
   have BK250 := n4_
   have BK251 := n5_
   have BK277 := n6_
   have HB := n7_
   clear n0_ n1_ n2_ n3_ n4_ n5_ n6_ n7_
   (try clear hb)
   (try clear hb2)
   (try clear hk)
   (try clear hi)
   refine hK.out _ _ ⟨(Zax BK277.out 0).trans rfl, (Zax BK277.out 1).trans rfl, (Zax BK277.out 2).trans rfl, (Zax BK277.out 3).trans rfl, (Zax BK277.out 4).trans rfl, (Zax BK277.out 5).trans rfl, (Zax BK277.out 6).trans rfl⟩ (fun hHeld => ?_)
   clear hK K
   refine Ze2 (a' := ?_) ?_ ?_
   rotate_left
   ·show Act.put _ (some 56) _ = _
    simp only [Act.put, List.setIfInBounds_toArray, List.set_cons_zero, List.set_cons_succ, Zbq, Zbr]
    rfl
   refine Zbx (i := 5) (N := some 57) (v := ?_) (a' := ?_) #[true, true, true, true, true, true, false, false, false] rfl rfl (Zbp HT_.out (by kernel_rfl)) (fun _ _ _ h => h) (Or.inl ⟨by rfl, ?_⟩) ?_ ?_
   rotate_left
   ·intro w'
    go_simp
    with_reducible rfl
   rotate_left
   ·simp only [Act.put, List.setIfInBounds_toArray, List.set_cons_zero, List.set_cons_succ, Zbq, Zbr]
    rfl
   refine Zbx (i := 6) (N := some 4) (v := ?_) (a' := ?_) #[true, true, true, true, true, true, true, false, false] rfl rfl (Zbp HT_.out (by kernel_rfl)) (fun _ _ _ h => h) (Or.inl ⟨by rfl, ?_⟩) ?_ ?_
   rotate_left
   ·intro w'
    go_simp
    with_reducible rfl
   rotate_left
   ·simp only [Act.put, List.setIfInBounds_toArray, List.set_cons_zero, List.set_cons_succ, Zbq, Zbr]
    rfl
   refine one_ (i := 7) (N := none) #[true, true, true, true, true, true, true, true, false] rfl rfl (Zdp HT_.out (by kernel_rfl)) (by decide) (fun K hK => ?_)
   have hs46 : w45.cell? ⟨gb251, 0, none⟩ = some (.int .i64 0) := (Zax BK251.out 0).trans rfl
   have hfs46 := Zb0 BK251.out 0
   have hns46_0 := NB250_251.out
   have hns46_2 := NB277_251.out
   have hms46_0 := NB251_250.out
   have hms46_2 := NB251_277.out
   have hs47 : w45.cell? ⟨gb251, 1, none⟩ = some (.slice none 0 0) := (Zax BK251.out 1).trans rfl
   have hfs47 := Zb0 BK251.out 1
   have hns47_0 := NB250_251.out
   have hns47_2 := NB277_251.out
   have hms47_0 := NB251_250.out
   have hms47_2 := NB251_277.out
   have hs48 : w45.cell? ⟨gb251, 2, none⟩ = some (.slice none 0 0) := (Zax BK251.out 2).trans rfl
   have hfs48 := Zb0 BK251.out 2
   have hns48_0 := NB250_251.out
   have hns48_2 := NB277_251.out
   have hms48_0 := NB251_250.out
   have hms48_2 := NB251_277.out
   have hs49 : w45.cell? ⟨gb251, 3, none⟩ = some (.int .i64 0) := (Zax BK251.out 3).trans rfl
   have hfs49 := Zb0 BK251.out 3
   have hns49_0 := NB250_251.out
   have hns49_2 := NB277_251.out
   have hms49_0 := NB251_250.out
   have hms49_2 := NB251_277.out
   have hs50 : w45.cell? ⟨gb251, 4, none⟩ = some (.int .i64 0) := (Zax BK251.out 4).trans rfl
   have hfs50 := Zb0 BK251.out 4
   have hns50_0 := NB250_251.out
   have hns50_2 := NB277_251.out
   have hms50_0 := NB251_250.out
   have hms50_2 := NB251_277.out
   have hs51 : w45.cell? ⟨gb251, 5, none⟩ = some (.slice none 0 0) := (Zax BK251.out 5).trans rfl
   have hfs51 := Zb0 BK251.out 5
   have hns51_0 := NB250_251.out
   have hns51_2 := NB277_251.out
   have hms51_0 := NB251_250.out
   have hms51_2 := NB251_277.out
   have hs52 : w45.cell? ⟨gb251, 6, none⟩ = some (.int .i64 0) := (Zax BK251.out 6).trans rfl
   have hfs52 := Zb0 BK251.out 6
   have hns52_0 := NB250_251.out
   have hns52_2 := NB277_251.out
   have hms52_0 := NB251_250.out
   have hms52_2 := NB251_277.out
   refine skip_ (w1 := ?_) (by rfl) rfl ?_ ?_
   rotate_left
   ·go_simp
    rfl
   refine hK.out _ _ ⟨((cell_far (p := ⟨gb251, _, none⟩) NB277_251.out _).trans (((cell_far (p := ⟨gb251, _, none⟩) NB277_251.out _).trans (((cell_far (p := ⟨gb251, _, none⟩) NB277_251.out _).trans (((cell_far (p := ⟨gb251, _, none⟩) NB277_251.out _).trans (((cell_far (p := ⟨gb251, _, none⟩) NB277_251.out _).trans (((cell_far (p := ⟨gb251, _, none⟩) NB277_251.out _).trans (((cell_far (p := ⟨gb251, _, none⟩) NB277_251.out _).trans (hHeld.1)))))))))))))), ((cell_far (p := ⟨gb251, _, none⟩) NB277_251.out _).trans (((cell_far (p := ⟨gb251, _, none⟩) NB277_251.out _).trans (((cell_far (p := ⟨gb251, _, none⟩) NB277_251.out _).trans (((cell_far (p := ⟨gb251, _, none⟩) NB277_251.out _).trans (((cell_far (p := ⟨gb251, _, none⟩) NB277_251.out _).trans (((cell_far (p := ⟨gb251, _, none⟩) NB277_251.out _).trans (((cell_far (p := ⟨gb251, _, none⟩) NB277_251.out _).trans (hHeld.2.1)))))))))))))), ((cell_far (p := ⟨gb251, _, none⟩) NB277_251.out _).trans (((cell_far (p := ⟨gb251, _, none⟩) NB277_251.out _).trans (((cell_far (p := ⟨gb251, _, none⟩) NB277_251.out _).trans (((cell_far (p := ⟨gb251, _, none⟩) NB277_251.out _).trans (((cell_far (p := ⟨gb251, _, none⟩) NB277_251.out _).trans (((cell_far (p := ⟨gb251, _, none⟩) NB277_251.out _).trans (((cell_far (p := ⟨gb251, _, none⟩) NB277_251.out _).trans (hHeld.2.2.1)))))))))))))), ((cell_far (p := ⟨gb251, _, none⟩) NB277_251.out _).trans (((cell_far (p := ⟨gb251, _, none⟩) NB277_251.out _).trans (((cell_far (p := ⟨gb251, _, none⟩) NB277_251.out _).trans (((cell_far (p := ⟨gb251, _, none⟩) NB277_251.out _).trans (((cell_far (p := ⟨gb251, _, none⟩) NB277_251.out _).trans (((cell_far (p := ⟨gb251, _, none⟩) NB277_251.out _).trans (((cell_far (p := ⟨gb251, _, none⟩) NB277_251.out _).trans (hHeld.2.2.2.1)))))))))))))), ((cell_far (p := ⟨gb251, _, none⟩) NB277_251.out _).trans (((cell_far (p := ⟨gb251, _, none⟩) NB277_251.out _).trans (((cell_far (p := ⟨gb251, _, none⟩) NB277_251.out _).trans (((cell_far (p := ⟨gb251, _, none⟩) NB277_251.out _).trans (((cell_far (p := ⟨gb251, _, none⟩) NB277_251.out _).trans (((cell_far (p := ⟨gb251, _, none⟩) NB277_251.out _).trans (((cell_far (p := ⟨gb251, _, none⟩) NB277_251.out _).trans (hHeld.2.2.2.2.1)))))))))))))), ((cell_far (p := ⟨gb251, _, none⟩) NB277_251.out _).trans (((cell_far (p := ⟨gb251, _, none⟩) NB277_251.out _).trans (((cell_far (p := ⟨gb251, _, none⟩) NB277_251.out _).trans (((cell_far (p := ⟨gb251, _, none⟩) NB277_251.out _).trans (((cell_far (p := ⟨gb251, _, none⟩) NB277_251.out _).trans (((cell_far (p := ⟨gb251, _, none⟩) NB277_251.out _).trans (((cell_far (p := ⟨gb251, _, none⟩) NB277_251.out _).trans (hHeld.2.2.2.2.2.1)))))))))))))), ((cell_far (p := ⟨gb251, _, none⟩) NB277_251.out _).trans (((cell_far (p := ⟨gb251, _, none⟩) NB277_251.out _).trans (((cell_far (p := ⟨gb251, _, none⟩) NB277_251.out _).trans (((cell_far (p := ⟨gb251, _, none⟩) NB277_251.out _).trans (((cell_far (p := ⟨gb251, _, none⟩) NB277_251.out _).trans (((cell_far (p := ⟨gb251, _, none⟩) NB277_251.out _).trans (((cell_far (p := ⟨gb251, _, none⟩) NB277_251.out _).trans (hHeld.2.2.2.2.2.2))))))))))))))⟩ (fun hHeld => ?_)
   clear hK K
   refine Zbx (i := 8) (N := some 6) (v := ?_) (a' := ?_) #[true, true, true, true, true, true, true, true, true] rfl rfl (Zbp HT_.out (by kernel_rfl)) (fun _ _ _ h => h) (Or.inl ⟨by rfl, ?_⟩) ?_ ?_
   rotate_left
   ·intro w'
    go_simp
    with_reducible rfl
   rotate_left
   ·simp only [Act.put, List.setIfInBounds_toArray, List.set_cons_zero, List.set_cons_succ, Zbq, Zbr]
    rfl
   refine Zfd (Zdk HT_.out (by kernel_rfl)) ?_
   try go_wp2
   refine bodyPost_ret (Zeb (rs := [.tmp 4, .cell 5 25, .tmp 6]) rfl (by simp) (.tmp (.cell gb251 25 #[.int .i64 a1, .slice Ao34 t265.length co34, .slice Ao35 t268.length co35, .int .i64 t271, .int .i64 t272, .slice Ao36 y278.length co36, .int .i64 t276] (0, 0) _ rfl (by (with_reducible repeat (first | refine Zag ?_ _ | refine Zah ?_ | refine Zae ?_ _)); refine Zbu (cs := #[.int .i64 a1, .slice Ao34 t265.length co34, .slice Ao35 t268.length co35, .int .i64 t271, .int .i64 t272, .slice Ao36 y278.length co36, .int .i64 0]) ?_ 6 _ rfl; (with_reducible repeat (first | refine Zag ?_ _ | refine Zah ?_ | refine Zae ?_ _)); refine Zbu (cs := #[.int .i64 a1, .slice Ao34 t265.length co34, .slice Ao35 t268.length co35, .int .i64 t271, .int .i64 t272, .slice none 0 0, .int .i64 0]) ?_ 5 _ rfl; (with_reducible repeat (first | refine Zag ?_ _ | refine Zah ?_ | refine Zae ?_ _)); refine Zbu (cs := #[.int .i64 a1, .slice Ao34 t265.length co34, .slice Ao35 t268.length co35, .int .i64 t271, .int .i64 0, .slice none 0 0, .int .i64 0]) ?_ 4 _ rfl; (with_reducible repeat (first | refine Zag ?_ _ | refine Zah ?_ | refine Zae ?_ _)); refine Zbu (cs := #[.int .i64 a1, .slice Ao34 t265.length co34, .slice Ao35 t268.length co35, .int .i64 0, .int .i64 0, .slice none 0 0, .int .i64 0]) ?_ 3 _ rfl; (with_reducible repeat (first | refine Zag ?_ _ | refine Zah ?_ | refine Zae ?_ _)); refine Zbu (cs := #[.int .i64 a1, .slice Ao34 t265.length co34, .slice none 0 0, .int .i64 0, .int .i64 0, .slice none 0 0, .int .i64 0]) ?_ 2 _ rfl; (with_reducible repeat (first | refine Zag ?_ _ | refine Zah ?_ | refine Zae ?_ _)); refine Zbu (cs := #[.int .i64 a1, .slice none 0 0, .slice none 0 0, .int .i64 0, .int .i64 0, .slice none 0 0, .int .i64 0]) ?_ 1 _ rfl; (with_reducible repeat (first | refine Zag ?_ _ | refine Zah ?_ | refine Zae ?_ _)); refine Zbu (cs := #[.int .i64 0, .slice none 0 0, .slice none 0 0, .int .i64 0, .int .i64 0, .slice none 0 0, .int .i64 0]) ?_ 0 _ rfl; (with_reducible repeat (first | refine Zag ?_ _ | refine Zah ?_ | refine Zae ?_ _)); exact BK251.out) Try.underlying25 rfl (by kernel_rfl) (.tmp .nil)))) rfl ?_
   exact ⟨_, _, _, _, by first | rfl | (simp [Za1, Za2] <;> rfl) | (simp only [← hji23]; first | rfl | (simp [Za1, Za2] <;> rfl)) | (simp [*, Za1, Za2] <;> rfl), by (with_reducible repeat (first | apply Kd.S_alloc | apply Kd.Zbe | apply Kd.Zbk)); exact Kd.Zb4 (Kd.Zbm (p := ⟨gb251, 6, none⟩) (Kd.Zbm (p := ⟨gb251, 5, none⟩) (Kd.Zbm (p := ⟨gb251, 4, none⟩) (Kd.Zbm (p := ⟨gb251, 3, none⟩) (Kd.Zbm (p := ⟨gb251, 2, none⟩) (Kd.Zbm (p := ⟨gb251, 1, none⟩) (Kd.Zbm (p := ⟨gb251, 0, none⟩) (Kd.Zcc HO_7.out BK251.out (by decide)) (fun _ hk => hk.2) (.int .i64 a1)) (fun _ hk => hk.2) (.slice Ao34 t265.length co34)) (fun _ hk => hk.2) (.slice Ao35 t268.length co35)) (fun _ hk => hk.2) (.int .i64 t271)) (fun _ hk => hk.2) (.int .i64 t272)) (fun _ hk => hk.2) (.slice Ao36 y278.length co36)) (fun _ hk => hk.2) (.int .i64 t276)) (fun _ hk => trivial), by (with_reducible repeat (first | apply Kd.R_alloc | apply Kd.Zap | apply Kd.Zav)); exact Kd.Zbs (Kd.Zbo (p := ⟨gb251, 6, none⟩) (Kd.Zbo (p := ⟨gb251, 5, none⟩) (Kd.Zbo (p := ⟨gb251, 4, none⟩) (Kd.Zbo (p := ⟨gb251, 3, none⟩) (Kd.Zbo (p := ⟨gb251, 2, none⟩) (Kd.Zbo (p := ⟨gb251, 1, none⟩) (Kd.Zbo (p := ⟨gb251, 0, none⟩) (Kd.Zca HO267.out BK251.out (by decide)) (fun _ hk => hk.2) (.int .i64 a1)) (fun _ hk => hk.2) (.slice Ao34 t265.length co34)) (fun _ hk => hk.2) (.slice Ao35 t268.length co35)) (fun _ hk => hk.2) (.int .i64 t271)) (fun _ hk => hk.2) (.int .i64 t272)) (fun _ hk => hk.2) (.slice Ao36 y278.length co36)) (fun _ hk => hk.2) (.int .i64 t276)) (fun _ hk => hk.1), by (with_reducible repeat (first | apply Kd.R_alloc | apply Kd.Zap | apply Kd.Zav)); exact Kd.Zbs (Kd.Zbo (p := ⟨gb251, 6, none⟩) (Kd.Zbo (p := ⟨gb251, 5, none⟩) (Kd.Zbo (p := ⟨gb251, 4, none⟩) (Kd.Zbo (p := ⟨gb251, 3, none⟩) (Kd.Zbo (p := ⟨gb251, 2, none⟩) (Kd.Zbo (p := ⟨gb251, 1, none⟩) (Kd.Zbo (p := ⟨gb251, 0, none⟩) (Kd.Zca HO270.out BK251.out (by decide)) (fun _ hk => hk.2) (.int .i64 a1)) (fun _ hk => hk.2) (.slice Ao34 t265.length co34)) (fun _ hk => hk.2) (.slice Ao35 t268.length co35)) (fun _ hk => hk.2) (.int .i64 t271)) (fun _ hk => hk.2) (.int .i64 t272)) (fun _ hk => hk.2) (.slice Ao36 y278.length co36)) (fun _ hk => hk.2) (.int .i64 t276)) (fun _ hk => hk.1), by (with_reducible repeat (first | apply Kd.S_alloc | apply Kd.Zbe | apply Kd.Zbk)); exact Kd.Zb4 (Kd.Zbm (p := ⟨gb251, 6, none⟩) (Kd.Zbm (p := ⟨gb251, 5, none⟩) (Kd.Zbm (p := ⟨gb251, 4, none⟩) (Kd.Zbm (p := ⟨gb251, 3, none⟩) (Kd.Zbm (p := ⟨gb251, 2, none⟩) (Kd.Zbm (p := ⟨gb251, 1, none⟩) (Kd.Zbm (p := ⟨gb251, 0, none⟩) (Kd.Zcc HO280.out BK251.out (by decide)) (fun _ hk => hk.2) (.int .i64 a1)) (fun _ hk => hk.2) (.slice Ao34 t265.length co34)) (fun _ hk => hk.2) (.slice Ao35 t268.length co35)) (fun _ hk => hk.2) (.int .i64 t271)) (fun _ hk => hk.2) (.int .i64 t272)) (fun _ hk => hk.2) (.slice Ao36 y278.length co36)) (fun _ hk => hk.2) (.int .i64 t276)) (fun _ hk => ⟨hk.1.1, hk.1.2⟩), by repeat (first | (with_reducible first | exact HB.out | apply Zac | apply Za | apply Zab | refine Zaf ?_ GE250.out | refine Zaf ?_ GE251.out | refine Zaf ?_ GE277.out) | exact HB.out)⟩
end Go.Proofs.Ytpbcigilipdedaa.P
/- Plain: whether a constraint may be, by the document (of a table, of an element); a case that is laid. -/
namespace Go.Proofs.Ytpbcigilipdedaa.P
open Go.RowKit Go.Proofs.YtpbcigilipdedaaW.PrintWords Go.Proofs.YtpbcigilipdedaaW.PrintLast Go.Proofs.YtpbcigilipdedaaW.PrintMore
set_option linter.unusedVariables false
set_option linter.unusedSimpArgs false

theorem mn_len2 {n m : Nat} : mn (n : Int) (m : Int) = ((min n m : Nat) : Int) := by unfold mn; omega
/-! ### others -/
theorem nodup_snoc {l : List Int} {n : Nat} (hn : n < l.length) (h : (l.take n).Nodup) (hd : ∀ j (hj : j < n), l[n] ≠ l[j]'(by omega)) : (l.take (n + 1)).Nodup := by
  rw [List.take_succ_eq_append_getElem hn, List.nodup_append]
  refine ⟨h, by simp, fun a ha b hb => ?_⟩
  obtain rfl := List.mem_singleton.1 hb
  obtain ⟨j, hj, rfl⟩ := List.mem_take_iff_getElem.1 ha
  exact fun e => hd j (by omega) e.symm
theorem others_l0 (l : List Int) (hl : l.length < 4611686018427387904) : ∀ (m n : Nat), n + m = l.length → (l.take n).Nodup → Ev (fun k => Zaq.l0 k l (n : Int)) (decide l.Nodup) := by
  intro m
  induction m with
  | zero =>
    intro n h hn
    rw [List.take_of_length_le (by omega)] at hn
    exact Ev.step (G := fun _ => some true) (fun k => by rw [Zaq.l0, if_neg (by omega)]) (Ev.const (by simp [hn]))
  | succ m ih =>
    intro n h hn
    have hlt : n < l.length := by omega
    have inner : ∀ (r q : Nat) (hq : q + r = n), (∀ j (hj : j < q), l[n] ≠ l[j]'(by omega)) → Ev (fun k => Zaq.l1 k l (n : Int) (q : Int)) (decide l.Nodup) := by
      intro r
      induction r with
      | zero =>
        intro q hq hd
        obtain rfl : q = n := by omega
        exact Ev.step (fun k => by rw [Zaq.l1, if_neg (by omega), w1 (by omega)]) (ih (q + 1) (by omega) (nodup_snoc hlt hn hd))
      | succ r ihr =>
        intro q hq hd
        have hql : q < l.length := by omega
        by_cases e : l[n] = l[q]
        rotate_left
        · refine Ev.step (fun k => by rw [Zaq.l1, if_pos (by omega), if_pos (by omega), if_pos (by omega), if_pos (by omega), if_pos (by omega), Zck l n hlt, Zck l q hql, if_neg e, w1 (by omega)]) (ihr (q + 1) (by omega) (fun j hj => ?_))
          by_cases hjq : j = q
          · subst hjq; exact e
          exact hd j (by omega)
        have hnn : ¬ l.Nodup := fun hN => by
          exact List.pairwise_iff_getElem.1 hN q n hql hlt (by omega) e.symm
        rw [decide_eq_false hnn]
        exact Ev.step (G := fun _ => some false) (fun k => by rw [Zaq.l1, if_pos (by omega), if_pos (by omega), if_pos (by omega), if_pos (by omega), if_pos (by omega), Zck l n hlt, Zck l q hql, if_pos e]) (Ev.pure _)
    exact Ev.step (fun k => by rw [Zaq.l0, if_pos (by omega)]; rfl) (inner n 0 (by omega) (fun j hj => absurd hj (Nat.not_lt_zero j)))
theorem others_ev (l : List Int) (hl : l.length < 4611686018427387904) : Ev (fun k => Zaq.f k l) (decide l.Nodup) := others_l0 l hl l.length 0 (by omega) (by simp)

/-! ### rows -/
/-- A table's rows may be. -/
def rowsOK (vars : List Int) (rows : List (List Int)) : Bool := (rows.all fun r => decide (r.length = vars.length) && r.all isVal) && decide (rows.length ≤ 1024)
theorem rows_l0 (kd : Int) (vars coefs : List Int) (op rhs : Int) (rows : List (List Int)) (b : Int) (hr : rows.length < 4611686018427387904) (hin : ∀ x ∈ rows, x.length < 4611686018427387904) : ∀ (m n : Nat), n + m = rows.length →
    Ev (fun k => Zat.l0 k (n : Int) kd vars coefs op rhs rows b) (((rows.drop n).all fun r => decide (r.length = vars.length) && r.all isVal) && decide (rows.length ≤ 1024)) := by
  intro m
  induction m with
  | zero =>
    intro n h
    rw [List.drop_of_length_le (by omega)]
    exact Ev.step (G := fun _ => some (decide ((rows.length : Int) ≤ 1024))) (fun k => by rw [Zat.l0, if_neg (by omega)]) (Ev.const (by simp; omega))
  | succ m ih =>
    intro n h
    have hn : n < rows.length := by omega
    have hx := hin _ (List.getElem_mem hn)
    rw [List.drop_eq_getElem_cons hn, List.all_cons]
    have inner : ∀ (r q : Nat), q + r = rows[n].length → Ev (fun k => Zat.l1 k (n : Int) (q : Int) kd vars coefs op rhs rows b) (((rows[n].drop q).all isVal && (rows.drop (n + 1)).all fun r => decide (r.length = vars.length) && r.all isVal) && decide (rows.length ≤ 1024)) := by
      intro r
      induction r with
      | zero =>
        intro q hq
        rw [List.drop_of_length_le (show rows[n].length ≤ q by omega)]
        refine Ev.step (fun k => by rw [Zat.l1, if_pos (by omega), if_pos (by omega), Zdq rows n hn, if_neg (by omega), w1 (by omega)]) ?_
        simpa using ih (n + 1) (by omega)
      | succ r ihr =>
        intro q hq
        have hql : q < rows[n].length := by omega
        refine Ev.step (fun k => by rw [Zat.l1, if_pos (by omega), if_pos (by omega), Zdq rows n hn, if_pos (by omega), if_pos (by omega), Zck _ q hql, Ze3, Option.bind_some, w1 (by omega)]) ?_
        rw [List.drop_eq_getElem_cons hql, List.all_cons]
        cases hv : isVal rows[n][q] with
        | true => simpa using ihr (q + 1) (by omega)
        | false => simpa using Ev.pure false
    by_cases e : rows[n].length = vars.length
    rotate_left
    · refine Ev.step (G := fun _ => some false) (fun k => by rw [Zat.l0, if_pos (by omega), if_pos (by omega), Zdq rows n hn, if_neg (by omega)]) ?_
      simpa [e] using Ev.pure false
    refine Ev.step (fun k => by rw [Zat.l0, if_pos (by omega), if_pos (by omega), Zdq rows n hn, if_pos (by omega)]) ?_
    have := inner rows[n].length 0 (by omega)
    simpa [e] using this
theorem rows_ev (kd : Int) (vars coefs : List Int) (op rhs : Int) (rows : List (List Int)) (b : Int) (hr : rows.length < 4611686018427387904) (hin : ∀ x ∈ rows, x.length < 4611686018427387904) :
    Ev (fun k => Zat.f k kd vars coefs op rhs rows b) (rowsOK vars rows) := rows_l0 kd vars coefs op rhs rows b hr hin rows.length 0 (by omega)

/-! ### right, Con: a table (2), an element (3) -/
def plainB (coefs : List Int) (op rhs b : Int) : Bool := decide (op = 0) && decide (rhs = 0) && decide (b = 0) && decide (coefs = [])
def manyB (vars : List Int) : Bool := decide (vars ≠ []) && decide vars.Nodup
/-- Its row is kept. -/
def rightB (kd : Int) (vars coefs : List Int) (op rhs : Int) (rows : List (List Int)) (b : Int) : Bool :=
  plainB coefs op rhs b && manyB vars && (if kd = 2 then rowsOK vars rows else decide (rows = []) && decide (3 ≤ vars.length))
section
variable (d : List (List Rg)) (kd : Int) (vars coefs : List Int) (op rhs : Int) (rows : List (List Int)) (b : Int) (hk : kd = 2 ∨ kd = 3)
  (hv : vars.length < 4611686018427387904) (hr : rows.length < 4611686018427387904) (hin : ∀ x ∈ rows, x.length < 4611686018427387904)
include hk hv hr hin
theorem right_j3 (x6 x8 : Bool) : Ev (fun k => Zaj.j3 k x6 x8 kd vars coefs op rhs rows b) (x6 && x8 && (if kd = 2 then rowsOK vars rows else decide (rows = []) && decide (3 ≤ vars.length))) := by
  rcases hk with rfl | rfl
  · refine Ev.step (fun k => by rw [Zaj.j3, if_neg (by omega), if_neg (by omega), if_pos rfl]) ?_
    cases x6 with
    | false => simpa using Ev.pure false
    | true =>
      cases x8 with
      | false => simpa using Ev.pure false
      | true => simpa using Ev.bind (rows_ev 2 vars coefs op rhs rows b hr hin) (Ev.pure _)
  refine Ev.step (fun k => by rw [Zaj.j3, if_neg (by omega), if_neg (by omega), if_neg (by omega), if_pos rfl]) ?_
  by_cases h0 : rows = []
  rotate_left
  · have hne : ¬ (rows.length : Int) = 0 := by
      intro e
      exact h0 (List.length_eq_zero_iff.1 (by omega))
    simp only [if_neg hne]
    simpa [h0] using Ev.pure false
  subst h0
  cases x6 with
  | false => simpa using Ev.pure false
  | true =>
    cases x8 with
    | false => simpa using Ev.pure false
    | true =>
      have e : (decide ((vars.length : Int) ≥ 3)) = decide (3 ≤ vars.length) := decide_eq_decide.2 (by omega)
      simpa [e] using Ev.pure (decide (3 ≤ vars.length))
theorem right_j2 (x6 : Bool) : Ev (fun k => Zaj.j2 k x6 kd vars coefs op rhs rows b) (x6 && manyB vars && (if kd = 2 then rowsOK vars rows else decide (rows = []) && decide (3 ≤ vars.length))) := by
  by_cases h0 : vars = []
  · subst h0
    refine Ev.step (fun k => by rw [Zaj.j2, if_neg (by simp)]) ?_
    have := right_j3 kd [] coefs op rhs rows b hk hv hr hin x6 false
    simpa [manyB] using this
  have hpos : (vars.length : Int) > 0 := by
    have : vars.length ≠ 0 := fun e => h0 (List.length_eq_zero_iff.1 e)
    omega
  refine Ev.step (fun k => by rw [Zaj.j2, if_pos hpos]) (Ev.bind (others_ev vars hv) ?_)
  have := right_j3 kd vars coefs op rhs rows b hk hv hr hin x6 (decide vars.Nodup)
  simpa [manyB, h0] using this
theorem right_j0 (x5 : Bool) : Ev (fun k => Zaj.j0 k x5 kd vars coefs op rhs rows b) (x5 && decide (coefs = []) && manyB vars && (if kd = 2 then rowsOK vars rows else decide (rows = []) && decide (3 ≤ vars.length))) := by
  have j1 : ∀ x6 : Bool, Ev (fun k => Zaj.j1 k x6 kd vars coefs op rhs rows b) (x6 && manyB vars && (if kd = 2 then rowsOK vars rows else decide (rows = []) && decide (3 ≤ vars.length))) := fun x6 => by
    by_cases h : op ≥ 0
    · exact Ev.step (fun k => by rw [Zaj.j1, if_pos h]) (right_j2 kd vars coefs op rhs rows b hk hv hr hin x6)
    exact Ev.step (fun k => by rw [Zaj.j1, if_neg h]) (right_j2 kd vars coefs op rhs rows b hk hv hr hin x6)
  cases x5 with
  | false => exact Ev.step (fun k => by rw [Zaj.j0, if_neg (by simp)]) (by simpa using j1 false)
  | true =>
    have e : ((coefs.length : Int) == 0) = decide (coefs = []) := by
      rw [Bool.eq_iff_iff, decide_eq_true_iff, beq_iff_eq]
      constructor
      · intro h; exact List.length_eq_zero_iff.1 (by omega)
      rintro rfl; rfl
    refine Ev.step (fun k => by rw [Zaj.j0, if_pos rfl, e]) ?_
    simpa using j1 (decide (coefs = []))
theorem right_ev : Ev (fun k => Zaj.f k d kd vars coefs op rhs rows b) (rightB kd vars coefs op rhs rows b) := by
  unfold Zaj.f rightB plainB
  by_cases h1 : op = 0
  rotate_left
  · have := right_j0 kd vars coefs op rhs rows b hk hv hr hin false
    simp only [if_neg h1]
    simpa [h1] using this
  by_cases h2 : rhs = 0
  rotate_left
  · have := right_j0 kd vars coefs op rhs rows b hk hv hr hin false
    simp only [if_pos h1, if_neg h2]
    simpa [h1, h2] using this
  have := right_j0 kd vars coefs op rhs rows b hk hv hr hin (b == 0)
  have e : (b == 0) = decide (b = 0) := by rw [Bool.eq_iff_iff, decide_eq_true_iff, beq_iff_eq]
  rw [e] at this
  simp only [if_pos h1, if_pos h2, e]
  simpa [h1, h2] using this
/-- Con tells something; if it tells nothing wrong, the variables are there and the row is kept. -/
theorem con_ev (hv2 : vars.length < 17592186044000) (hd : d.length < 4611686018427387904) : ∃ e : Int, Ev (fun k => Zas.f k d kd vars coefs op rhs rows b) e ∧ (e = 0 → (∀ v ∈ vars, 0 ≤ v ∧ v < (d.length : Int)) ∧ rightB kd vars coefs op rhs rows b = true) := by
  have hsl := Zec vars
  have hR := right_ev d kd vars coefs op rhs rows b hk hv hr hin
  have loop : ∀ (m n : Nat), n + m = (sd vars).length → (∀ v ∈ (sd vars).take n, 0 ≤ v ∧ v < (d.length : Int)) →
      ∃ e : Int, Ev (fun k => Zas.l0 k d (sd vars) (n : Int) kd vars coefs op rhs rows b) e ∧ (e = 0 → (∀ v ∈ sd vars, 0 ≤ v ∧ v < (d.length : Int)) ∧ rightB kd vars coefs op rhs rows b = true) := by
    intro m
    induction m with
    | zero =>
      intro n h ha
      rw [List.take_of_length_le (by omega)] at ha
      cases hB : rightB kd vars coefs op rhs rows b with
      | false =>
        rw [hB] at hR
        refine ⟨44, Ev.step (fun k => by rw [Zas.l0, if_neg (by omega)]) (Ev.bind hR (Ev.Zc7 Bool.false_ne_true (Ev.pure _))), fun e => by omega⟩
      | true =>
        rw [hB] at hR
        have hp : coefs = [] ∧ rhs = 0 := by
          unfold rightB plainB at hB
          simp at hB
          exact ⟨hB.1.1.2, hB.1.1.1.1.2⟩
        obtain ⟨rfl, rfl⟩ := hp
        have hbig : Ev (fun k => Zar.f k [] 0) false := by
          unfold Zar.f
          refine Ev.Zc7 (by omega) ?_
          refine Ev.step (fun k => by rw [Zar.j0, if_neg (by simp)]) ?_
          exact Ev.step (fun k => by rw [Zar.l0, if_neg (show ¬ ((0 : Int) < (([] : List Int).length : Int)) from Int.lt_irrefl 0)]) (Ev.pure _)
        refine ⟨0, Ev.step (fun k => by rw [Zas.l0, if_neg (by omega)]) (Ev.bind hR ?_), fun _ => ⟨ha, rfl⟩⟩
        refine Ev.Zcl (c := true = true) rfl ?_
        refine Ev.bind hbig ?_
        exact Ev.Zc7 (c := false = true) Bool.false_ne_true (Ev.pure _)
    | succ m ih =>
      intro n h ha
      have hn : n < (sd vars).length := by omega
      by_cases h1 : (sd vars)[n] < 0
      · exact ⟨43, Ev.step (fun k => by rw [Zas.l0, if_pos (by omega), if_pos (by omega), Zck _ n hn, if_pos h1]) (Ev.pure _), fun e => by omega⟩
      by_cases h2 : (sd vars)[n] ≥ (d.length : Int)
      · exact ⟨43, Ev.step (fun k => by rw [Zas.l0, if_pos (by omega), if_pos (by omega), Zck _ n hn, if_neg h1, if_pos h2]) (Ev.pure _), fun e => by omega⟩
      obtain ⟨e, he, hg⟩ := ih (n + 1) (by omega) (fun v hv' => by
        rw [List.take_succ_eq_append_getElem hn, List.mem_append, List.mem_singleton] at hv'
        rcases hv' with hv' | rfl
        · exact ha v hv'
        omega)
      exact ⟨e, Ev.step (fun k => by rw [Zas.l0, if_pos (by omega), if_pos (by omega), Zck _ n hn, if_neg h1, if_neg h2, w1 (by omega)]) he, hg⟩
  obtain ⟨e, he, hg⟩ := loop (sd vars).length 0 (by omega) (fun v hv' => by rw [List.take_zero] at hv'; cases hv')
  refine ⟨e, ?_, fun h0 => ⟨fun v hv' => (hg h0).1 v ((Zdo v vars).2 hv'), (hg h0).2⟩⟩
  have hU : Ev (fun k => Zbw.f k kd vars coefs op rhs rows b) (sd vars) := by
    unfold Zbw.f
    refine Ev.bind (Ev.pure _) (Ev.Zcl (by simp; omega) (Ev.bind (Ev.pure _) (Ev.Zc7 (by omega) ?_)))
    rw [List.nil_append]
    exact Ev.bind (Zgc vars hv2) (Ev.pure _)
  unfold Zas.f
  refine Ev.Zc7 (by omega) ?_
  have e6 : decide (kd > 6) = false := decide_eq_false (by omega)
  rw [e6]
  exact Ev.step (fun k => by rw [Zas.j0, if_neg (by simp)]) (Ev.bind hU he)
end

/-! ### Laid -/
/-- The domains of a case: at most four, of at most six values. -/
def domsC (D : List (List Int)) : List (List Rg) := (D.take 4).map fun x => dsm (x.take 6)
theorem Zdr (D : List (List Int)) : (domsC D).length ≤ 4 := by simp [domsC]; omega
theorem Zfu (xs : List (List Rg)) (n : Nat) (h : n < xs.length) : Zcn xs (n : Int) = xs[n] := by simp [Zcn, List.getD_eq_getElem?_getD, List.getElem?_eq_getElem h]
/-- What comes of a constraint that is laid for kind kd. -/
structure ConOK (kd : Int) (n : Nat) (vars coefs : List Int) (op rhs : Int) (rows : List (List Int)) (b : Int) : Prop where
  mem : ∀ v ∈ vars, 0 ≤ v ∧ v < (n : Int)
  right : rightB kd vars coefs op rhs rows b = true
section
variable (D : List (List Int)) (x1 : Int) (vars coefs : List Int) (op rhs : Int) (rows : List (List Int)) (b : Int) (A Tk : List Int) (kd : Int) (hk : kd = 2 ∨ kd = 3)
  (hv : vars.length * 8 ≤ 140737488351232) (hc : coefs.length * 8 ≤ 140737488351232) (hr : rows.length * 24 ≤ 140737488351232) (hin : ∀ x ∈ rows, x.length * 8 ≤ 140737488351232)
include hk hv hc hr hin
theorem laid_ev : ∃ ok : Bool, Ev (fun k => Zan.f k D x1 vars coefs op rhs rows b A Tk kd) (domsC D, kd, vars, coefs, op, rhs, rows.take 20, b, ok) ∧ (ok = true → ConOK kd (domsC D).length vars coefs op rhs (rows.take 20) b) := by
  have hdl := Zdr D
  obtain ⟨e, he, hg⟩ := con_ev (domsC D) kd vars coefs op rhs (rows.take 20) b hk (by omega) (by rw [List.length_take]; omega) (fun x hx => by have := hin x (List.mem_of_mem_take hx); omega) (by omega) (by omega)
  have hown : Ev (fun k => Zbc.f k x1 vars coefs op rhs rows b) (x1, vars, coefs, op, rhs, rows, b) := by
    unfold Zbc.f
    refine Ev.bind (Ev.pure _) (Ev.Zcl (by simp; omega) (Ev.bind (Ev.pure _) (Ev.Zcl (by simp; omega) ?_)))
    exact Ev.bind (ref_Copy rows (by omega) (fun x hx => by have := hin x hx; omega)) (by simpa using Ev.pure _)
  have e20 : mn (rows.length : Int) 20 = ((min rows.length 20 : Nat) : Int) := mn_len2 (m := 20)
  have loop : ∀ (m n : Nat), n + m = min D.length 4 → Ev (fun k => Zan.l0 k kd (domsC (D.take n)) (n : Int) D x1 vars coefs op rhs rows b A Tk) (domsC D, kd, vars, coefs, op, rhs, rows.take 20, b, (e == 0)) := by
    have last : ∀ n, n = min D.length 4 → domsC (D.take n) = domsC D := fun n hn => by
      unfold domsC
      rw [List.take_take, hn]
      congr 1
      rcases Nat.le_total D.length 4 with h | h
      · rw [Nat.min_eq_left h, List.take_of_length_le h, List.take_of_length_le (by omega)]
      rw [Nat.min_eq_right h, Nat.min_self]
    intro m
    induction m with
    | zero =>
      intro n h
      rw [last n (by omega)]
      have fin : Ev (fun k => (Zbc.f k x1 vars coefs op rhs rows b).bind fun bt271 => (if 0 ≤ (mn (bt271.2.2.2.2.2.1.length : Int) 20) then (if (mn (bt271.2.2.2.2.2.1.length : Int) 20) ≤ (bt271.2.2.2.2.2.1.length : Int) then ((some (bt271.2.2.2.2.2.1.take ((mn (bt271.2.2.2.2.2.1.length : Int) 20) : Int).toNat : List (List Int))).bind fun y285 => ((Zas.f k (domsC D) kd bt271.2.1 bt271.2.2.1 bt271.2.2.2.1 bt271.2.2.2.2.1 y285 bt271.2.2.2.2.2.2).bind fun t288 => (some (domsC D, kd, bt271.2.1, bt271.2.2.1, bt271.2.2.2.1, bt271.2.2.2.2.1, y285, bt271.2.2.2.2.2.2, (t288 == 0))))) else (none)) else (none))) (domsC D, kd, vars, coefs, op, rhs, rows.take 20, b, (e == 0)) := by
        refine Ev.bind hown (Ev.Zcl (by show 0 ≤ mn (rows.length : Int) 20; rw [e20]; omega) (Ev.Zcl (by show mn (rows.length : Int) 20 ≤ (rows.length : Int); rw [e20]; omega) (Ev.bind (Ev.pure _) ?_)))
        have et : rows.take (mn (rows.length : Int) 20).toNat = rows.take 20 := by
          rw [e20, Int.toNat_natCast]
          rcases Nat.le_total rows.length 20 with h | h
          · rw [Nat.min_eq_left h, List.take_of_length_le (Nat.le_refl _), List.take_of_length_le h]
          rw [Nat.min_eq_right h]
        show Ev (fun k => (Zas.f k (domsC D) kd vars coefs op rhs (rows.take (mn (rows.length : Int) 20).toNat) b).bind fun t288 => some (domsC D, kd, vars, coefs, op, rhs, rows.take (mn (rows.length : Int) 20).toNat, b, (t288 == 0))) _
        rw [et]
        exact Ev.bind he (Ev.pure _)
      by_cases hlt : n < D.length
      rotate_left
      · exact Ev.step (fun k => by rw [Zan.l0, if_neg (by omega)]) fin
      exact Ev.step (fun k => by rw [Zan.l0, if_pos (by omega), if_neg (by omega)]) fin
    | succ m ih =>
      intro n h
      have hn : n < D.length := by omega
      have e6 : mn (D[n].length : Int) 6 = ((min D[n].length 6 : Nat) : Int) := mn_len2 (m := 6)
      have et : D[n].take (mn (D[n].length : Int) 6).toNat = D[n].take 6 := by
        rw [e6, Int.toNat_natCast]
        rcases Nat.le_total D[n].length 6 with h | h
        · rw [Nat.min_eq_left h, List.take_of_length_le (Nat.le_refl _), List.take_of_length_le h]
        rw [Nat.min_eq_right h]
      have hstep := ih (n + 1) (by omega)
      have hsn : domsC (D.take (n + 1)) = domsC (D.take n) ++ [dsm (D[n].take 6)] := by
        unfold domsC
        rw [List.take_take, List.take_take, Nat.min_eq_right (by omega), Nat.min_eq_right (by omega), List.take_succ_eq_append_getElem hn, List.map_append]
        rfl
      rw [hsn] at hstep
      have hl4 := Zdr (D.take n)
      refine Ev.step (fun k => by rw [Zan.l0, if_pos (by omega), if_pos (by omega), if_pos (by omega), Zdq D n hn, if_pos (by rw [e6]; omega), if_pos (by rw [e6]; omega), et]) (Ev.bind (Small_ev (D[n].take 6) (by rw [List.length_take]; omega)) ?_)
      refine Ev.Zcl (by omega) ?_
      simp only [w1 (show n < 4611686018427387904 by omega)]
      exact hstep
  refine ⟨e == 0, loop (min D.length 4) 0 (by omega), fun h => ?_⟩
  have := hg (by simpa using h)
  exact ⟨this.1, this.2⟩
end
end Go.Proofs.Ytpbcigilipdedaa.P
/- Lists of good domains. -/
namespace Go.Proofs.Ytpbcigilipdedaa.P
open Go.RowKit Go.Proofs.YtpbcigilipdedaaW.PrintWords Go.Proofs.YtpbcigilipdedaaW.PrintLast Go.Proofs.YtpbcigilipdedaaW.PrintMore
set_option linter.unusedVariables false
set_option linter.unusedSimpArgs false

def dv (d : List (List Rg)) (v : Int) : List Rg := d.getD v.toNat []
theorem and16 (x : Int) : 0 ≤ Go.bits .and .i64 x 65535 ∧ Go.bits .and .i64 x 65535 ≤ 65535 := by
  have h : ((BitVec.ofInt IntKind.i64.bits x &&& BitVec.ofInt IntKind.i64.bits 65535).toNat : Int) ≤ 65535 := by
    rw [BitVec.toNat_and]
    have h1 := Nat.and_le_right (n := (BitVec.ofInt IntKind.i64.bits x).toNat) (m := (BitVec.ofInt IntKind.i64.bits 65535).toNat)
    have h2 : (BitVec.ofInt IntKind.i64.bits 65535).toNat = 65535 := by decide
    omega
  have e : Go.bits .and .i64 x 65535 = IntKind.i64.wrap ((BitVec.ofInt IntKind.i64.bits x &&& BitVec.ofInt IntKind.i64.bits 65535).toNat : Int) := rfl
  rw [e, Zbq, w64 (by omega) (by omega)]
  omega
theorem tmod_in {n : Int} {m : Nat} (hn : 0 ≤ n) (hm : 0 < m) : 0 ≤ Int.tmod n (m : Int) ∧ Int.tmod n (m : Int) < (m : Int) := by
  rw [Int.tmod_eq_emod_of_nonneg hn]
  exact ⟨Int.emod_nonneg _ (by omega), Int.emod_lt_of_pos _ (by omega)⟩
/-- Domains as a case has them. -/
def Doms (d : List (List Rg)) : Prop := d.length ≤ 64 ∧ ∀ x ∈ d, Gd 1048576 (-1048576) x ∧ (vals x).length ≤ 4096
theorem domsC_doms (D : List (List Int)) : Doms (domsC D) := by
  refine ⟨Nat.le_trans (Zdr D) (by omega), fun x hx => ?_⟩
  obtain ⟨y, _, rfl⟩ := List.mem_map.1 hx
  exact ⟨dsm_gd _, Nat.le_trans (dsm_vlen _) (by omega)⟩
end Go.Proofs.Ytpbcigilipdedaa.P
namespace Go.Proofs.Ytpbcigilipdedaa.P
open Go.RowKit Go.Proofs.YtpbcigilipdedaaW.PrintWords Go.Proofs.YtpbcigilipdedaaW.PrintLast Go.Proofs.YtpbcigilipdedaaW.PrintMore
attribute [local go_sem] Zcv Zcx Zdc Zdd Zcp Zcq Zcw Zcy
set_option linter.unusedVariables false
set_option linter.unusedSimpArgs false
/-! ### Zce: function 52 -/
def Zce.f (l0 : List Int) (a1 : Int) : Option (Int) := if a1 < 0 then (some 0) else (if a1 ≥ (l0.length : Int) then (some 0) else (if 0 ≤ a1 then (if a1 < (l0.length : Int) then (some (rd l0 a1)) else (none)) else (none)))
set_option maxHeartbeats 8000000 in
set_option maxRecDepth 100000 in
theorem Zce.calls (A0 : Option Addr) (c0 : Nat) (l0 : List Int) (a1 : Int) (r : Int) (w : World) (hr0 : Kd.C (Kd.int .i64) w A0 l0.length l0) (hc0 : l0.length ≤ c0) (h : Zce.f l0 a1 = some r) :
  Calls Try.prog 52 #[.slice A0 l0.length c0, .int .i64 a1] w fun e w' => e = .returned (.int .i64 r) ∧ Zbh w w' := by
 have HR0 := Zaa.mk hr0
 have HC0 := Zaa.mk hc0
 clear hr0 hc0
 have H : (if a1 < 0 then (some 0) else (if a1 ≥ (l0.length : Int) then (some 0) else (if 0 ≤ a1 then (if a1 < (l0.length : Int) then (some (rd l0 a1)) else (none)) else (none)))) = some r := h
 clear h
 by_cases c3 : a1 < 0
 ·rw [if_pos c3] at H
  have c3b0 : decide (a1 < 0) = true := decide_eq_true c3
  clear c3
  obtain rfl := Option.some.inj H
  go_enter Try.func52, Try.ntmps52
  go_wp2
  go_ret
  exact ⟨by first | rfl | (simp; done) | (simp [*]; done), by repeat (first | exact Zbh.refl _ | apply Zbh.step)⟩
 rw [if_neg c3] at H
 have c3b0 : decide (a1 < 0) = false := decide_eq_false c3
 clear c3
 by_cases c4 : a1 ≥ (l0.length : Int)
 ·rw [if_pos c4] at H
  have c4b0 : decide ((l0.length : Int) ≤ a1) = true := decide_eq_true c4
  clear c4
  obtain rfl := Option.some.inj H
  go_enter Try.func52, Try.ntmps52
  go_wp2
  go_ret
  exact ⟨by first | rfl | (simp; done) | (simp [*]; done), by repeat (first | exact Zbh.refl _ | apply Zbh.step)⟩
 rw [if_neg c4] at H
 have c4b0 : decide ((l0.length : Int) ≤ a1) = false := decide_eq_false c4
 clear c4
 by_cases c5 : 0 ≤ a1
 rotate_left
 ·rw [if_neg c5] at H
  exact absurd H (by simp)

 rw [if_pos c5] at H
 have c5b0 : decide (0 ≤ a1) = true := decide_eq_true c5
 clear c5
 by_cases c6 : a1 < (l0.length : Int)
 rotate_left
 ·rw [if_neg c6] at H
  exact absurd H (by simp)
 rw [if_pos c6] at H
 have c6b0 : decide (a1 < (l0.length : Int)) = true := decide_eq_true c6
 clear c6
 obtain rfl := Option.some.inj H
 have p378 : 0 ≤ (a1 : Int) := of_decide_eq_true (by first | (with_reducible assumption) | assumption)
 have q378 : a1 < (l0.length : Int) := of_decide_eq_true (by first | (with_reducible assumption) | assumption)
 obtain ⟨ad378, e378, hx378_0⟩ := Kd.Zb6 HR0.out a1 p378 q378
 cases e378
 replace p378 := eq_true p378
 replace q378 := eq_true q378
 go_enter Try.func52, Try.ntmps52
 go_wp2
 go_ret
 exact ⟨by first | rfl | (simp; done) | (simp [*]; done), by repeat (first | exact Zbh.refl _ | apply Zbh.step)⟩
/-! ### Zaz: function 49 -/
def Zaz.l0 : Nat → List Int → List Int → List Int → Int → Option (List Int)
 | 0, _, _, _, _ => none
 | k + 1, x0, x1, x5, x6 => if x6 < (x0.length : Int) then (if 0 ≤ x6 then ((Zce.f x1 (rd x0 x6)).bind fun t383 => (if x5.length < 17592186044416 then (Zaz.l0 k x0 x1 (x5 ++ [t383]) (wrap64 (x6 + 1))) else (none))) else (none)) else (some x5)
def Zaz.f (k : Nat) (l0 : List Int) (l1 : List Int) : Option (List Int) := Zaz.l0 k l0 l1 (([] : List Int)) 0
theorem Zaz.Zb1 : ∀ k, (∀ y0 y1 y2 y3, LeO (Zaz.l0 k y0 y1 y2 y3) (Zaz.l0 (k + 1) y0 y1 y2 y3))
 | 0 => fun _ _ _ _ r h => by simp [Zaz.l0] at h
 | k + 1 => by
  have ih0 := Zaz.Zb1 k
  intro y0 y1 y2 y3
  unfold Zaz.l0
  repeat' first
  | (with_reducible exact ih0 _ _ _ _)
  | (with_reducible exact LeO.refl _)
  | (with_reducible exact LeO.none _)
  | (with_reducible refine LeO.ite ?_ ?_)
  | (with_reducible refine LeO.bind ?_ (fun _ => ?_))
  | exact ih0 _ _ _ _
  | exact LeO.none _
  | refine LeO.ite ?_ ?_
  | refine LeO.bind ?_ (fun _ => ?_)
theorem Zaz.mono : ∀ a0 a1 k, LeO (Zaz.f k a0 a1) (Zaz.f (k + 1) a0 a1) := by
 intro a0 a1 k
 have ih0 := Zaz.Zb1 k
 unfold Zaz.f
 repeat' first
   | (with_reducible exact ih0 _ _ _ _)
   | (with_reducible exact LeO.refl _)
   | (with_reducible exact LeO.none _)
   | (with_reducible refine LeO.ite ?_ ?_)
   | (with_reducible refine LeO.bind ?_ (fun _ => ?_))
   | exact ih0 _ _ _ _
   | exact LeO.none _
   | refine LeO.ite ?_ ?_
   | refine LeO.bind ?_ (fun _ => ?_)
set_option maxHeartbeats 8000000 in
set_option maxRecDepth 100000 in
theorem Zaz.calls (k : Nat) (A0 : Option Addr) (c0 : Nat) (l0 : List Int) (A1 : Option Addr) (c1 : Nat) (l1 : List Int) (r : List Int) (w : World) (hr0 : Kd.C (Kd.int .i64) w A0 l0.length l0) (hc0 : l0.length ≤ c0) (hr1 : Kd.C (Kd.int .i64) w A1 l1.length l1) (hc1 : l1.length ≤ c1) (h : Zaz.f k l0 l1 = some r) :
  Calls Try.prog 49 #[.slice A0 l0.length c0, .slice A1 l1.length c1] w fun e w' => ∃ v0_ : Value, e = .returned (v0_) ∧ Kd.R (Kd.int .i64) 3 w' w.heap.size (fun _ => True) v0_ r ∧ Below w.heap.size w w' := by
 have HR0 := Zaa.mk hr0
 have HC0 := Zaa.mk hc0
 clear hr0 hc0
 have HR1 := Zaa.mk hr1
 have HC1 := Zaa.mk hc1
 clear hr1 hc1
 have HB := Zaa.mk (Below.refl w.heap.size w)
 have H : (Zaz.l0 k l0 l1 (([] : List Int)) 0) = some r := h
 clear h
 obtain ⟨y379, hy379⟩ : ∃ y_ : List Int, y_ = (([] : List Int)) := ⟨_, rfl⟩
 replace H : (Zaz.l0 k l0 l1 y379 0) = some r := by first | (rw [hy379]; with_reducible exact H) | (have H2_ := (Option.bind_some _ _).symm.trans H; rw [hy379]; with_reducible exact H2_) | (have H2_ := (Option.bind_some _ _).symm.trans H; with_reducible exact H2_) | with_reducible exact H | (rw [hy379]; exact H) | exact H
 have Ny379 := Zaa.mk hy379
 clear hy379
 have H' := Zaa.mk H
 clear H
 go_enter Try.func49, Try.ntmps49
 go_wp2_with (first | ((with_reducible refine Zb2 (N := 7) rfl ?_); refine Kd.Zdu (Kd.int .i64) _ 3 ?hg (N := 7) ?hd (xs := ([] : List Int)) (inner := []) (ok := fun _ => True) (okp := fun _ => True) ?hr ?hp (fun _ hk => hk) trivial (Below.refl _ _) (Nat.le_refl _) (by simp) ?_; (case hd => rfl); (case hg => rfl); (case hr => first | (go_simp; done) | (go_simp; rfl)); (case hp => exact (Reps.none _ _)); intro v380 w3 ho4 hb hg_ hnew_; clear hg_ hnew_; (first | rw [← Ny379.out] at ho4 | (simp only [Int.reduceToNat] at ho4; rw [← Ny379.out] at ho4)); have n0_ := Zaa.mk (Kd.Zb9 ho4 (Zal (by repeat (first | (with_reducible first | exact HB.out | apply Zac | apply Za | apply Zab) | exact HB.out)))); have n1_ := Zaa.mk (Zay (by repeat (first | (with_reducible first | exact HB.out | apply Zac | apply Za | apply Zab) | exact HB.out)) hb); clear HB; have HO381 := n0_; have HB := n1_; clear n0_ n1_; clear hb ho4))
 go_loopg [5, 6] k (fun kq v5 v6 w' => ∃ (x5_1 : List Int) (x6_1 : Int), v6 = .int .i64 x6_1 ∧ Zaa (Zaz.l0 kq l0 l1 x5_1 x6_1 = some r) ∧ Zaa (kq ≤ k) ∧ Zaa (Kd.R (Kd.int .i64) 3 w' w.heap.size (fun _ => True) v5 x5_1) ∧ Zaa (Below w.heap.size w w'))
 case atStart => exact ⟨(y379), (0), (by first | rfl | (simp; done) | (simp [*]; done)), H', ⟨Nat.le_refl _⟩, ⟨by (with_reducible repeat (first | apply Kd.R_alloc | apply Kd.Zap | apply Kd.Zav)); exact HO381.out⟩, ⟨by repeat (first | (with_reducible first | exact HB.out | apply Zac | apply Za | apply Zab) | exact HB.out)⟩⟩
 case round =>
  clear H'
  try clear c1
  try clear p2
  try clear c4
  obtain ⟨x5_1, x6_1, rfl, HA, HK1, HO_5, HB⟩ := hrel
  cases gk with
  | zero => exact absurd HA.out (by simp [Zaz.l0])
  | succ k1 =>
   have H := HA.out
   clear HA
   simp only [Zaz.l0] at H
   by_cases c5 : x6_1 < (l0.length : Int)
   rotate_left
   ·rw [if_neg c5] at H
    have c5b0 : decide (x6_1 < (l0.length : Int)) = false := decide_eq_false c5
    clear c5
    obtain rfl := Option.some.inj H
    go_wp2
    go_ret
    exact ⟨_, by first | rfl | (simp [Za1, Za2] <;> rfl) | (simp [*, Za1, Za2] <;> rfl), by (with_reducible repeat (first | apply Kd.R_alloc | apply Kd.Zap | apply Kd.Zav)); exact HO_5.out, by repeat (first | (with_reducible first | exact HB.out | apply Zac | apply Za | apply Zab) | exact HB.out)⟩

   rw [if_pos c5] at H
   have c5b0 : decide (x6_1 < (l0.length : Int)) = true := decide_eq_true c5
   clear c5
   by_cases c6 : 0 ≤ x6_1
   rotate_left
   ·rw [if_neg c6] at H
    exact absurd H (by simp)
   rw [if_pos c6] at H
   have c6b0 : decide (0 ≤ x6_1) = true := decide_eq_true c6
   clear c6
   replace H := Option.bind_eq_some_iff.mp H
   obtain ⟨t383, A70, H⟩ := H
   replace H : (if x5_1.length < 17592186044416 then (Zaz.l0 k1 l0 l1 (x5_1 ++ [t383]) (wrap64 (x6_1 + 1))) else (none)) = some r := H
   have A7 := Zaa.mk A70
   clear A70
   by_cases c8 : x5_1.length < 17592186044416
   rotate_left
   ·rw [if_neg c8] at H
    exact absurd H (by simp)
   rw [if_pos c8] at H
   have LMc8 := Zaa.mk c8
   clear c8
   obtain ⟨y384, hy384⟩ : ∃ y_ : List Int, y_ = (x5_1 ++ [t383]) := ⟨_, rfl⟩
   replace H : (Zaz.l0 k1 l0 l1 y384 (wrap64 (x6_1 + 1))) = some r := by first | (rw [hy384]; with_reducible exact H) | (have H2_ := (Option.bind_some _ _).symm.trans H; rw [hy384]; with_reducible exact H2_) | (have H2_ := (Option.bind_some _ _).symm.trans H; with_reducible exact H2_) | with_reducible exact H | (rw [hy384]; exact H) | exact H
   have Ny384 := Zaa.mk hy384
   clear hy384
   have H' := Zaa.mk H
   clear H
   have p382 : 0 ≤ (x6_1 : Int) := of_decide_eq_true (by first | (with_reducible assumption) | assumption)
   have q382 : x6_1 < (l0.length : Int) := of_decide_eq_true (by first | (with_reducible assumption) | assumption)
   obtain ⟨ad382, e382, hx382_0⟩ := Kd.Zb6 HR0.out x6_1 p382 q382
   cases e382
   replace hx382_0 := (HB.out.cell (World.block_lt_of_cell? w _ hx382_0)).trans hx382_0
   replace p382 := eq_true p382
   replace q382 := eq_true q382
   go_wp2_with (first | ((with_reducible refine Zbn (f := 52) rfl ?_); refine Zcf (some 20) rfl rfl Try.func52 (by kernel_rfl) rfl #[.slice A1 l1.length c1, .int .i64 (rd l0 x6_1)] rfl (by (try simp only [List.map_toArray, List.map_cons, List.map_nil]); first | done | rfl | (simp only [List.length_drop, List.length_take]; rfl)) ?_; (with_reducible refine (Zce.calls _ _ l1 (rd l0 x6_1) t383 _ ?side1 ?side2 A7.out).mono ?_); (case side1 => repeat (first | exact (Kd.Zbj HR1.out HB.out) | (with_reducible refine Kd.C_alloc ?_ _) | (with_reducible refine Kd.Za0 ?_ _) | (with_reducible refine Kd.C_drew ?_))); (case side2 => exact HC1.out); rintro e w' ⟨rfl, ⟨nd, rfl⟩⟩; refine ⟨_, rfl, ?_⟩) | ((with_reducible refine Zbt (b := .append) (xs := #[.tmp 14, .tmp 21]) rfl ?_); at_builtin; refine Kd.Zcj (Kd.int .i64) (w0 := w) w.heap.size rfl (.tmp 14) (.tmp 21) 23 3 (.int .i64 0) 8 rfl Try.underlying23 info3 rfl (by decide) (by omega) u5 x5_1 t383 [.int .i64 t383] (fun _ => True) (fun _ => False) rfl rfl ?aP (fun _ hk => hk.elim) ?aF ?aO ?aB ?aS ?aL ?_; (case aP => exact rfl); (case aB => exact (by repeat (first | (with_reducible first | exact HB.out | apply Zac | apply Za | apply Zab) | exact HB.out))); (case aF => exact (fun _ _ => trivial)); (case aO => exact (by (with_reducible repeat (first | apply Kd.R_alloc | apply Kd.Zap | apply Kd.Zav)); exact HO_5.out)); (case aS => exact (Zal (by repeat (first | (with_reducible first | exact HB.out | apply Zac | apply Za | apply Zab) | exact HB.out)))); (case aL => have := LMc8.out; omega); intro v385 w9 ho hb hg hat; rw [← Ny384.out] at ho; have n0_ := Zaa.mk (hb); have n1_ := Zaa.mk (ho); clear HB; clear HO_5; have HB := n0_; have HO386 := n1_; clear n0_ n1_; clear ho hb hg hat))
   go_roundg k1
   case measure => have := HK1.out; omega
   case rel => exact ⟨(y384), (wrap64 (x6_1 + 1)), (by first | rfl | (simp; done) | (simp [*]; done)), H', ⟨by have := HK1.out; omega⟩, ⟨by (with_reducible repeat (first | apply Kd.R_alloc | apply Kd.Zap | apply Kd.Zav)); exact HO386.out⟩, ⟨by repeat (first | (with_reducible first | exact HB.out | apply Zac | apply Za | apply Zab) | exact HB.out)⟩⟩
/-! ### Zc: function 50 -/
def Zc.f (a0 : Int) (a1 : Int) (a2 : Int) : Option (Bool) := if a0 = 0 then (some (decide (a1 ≤ a2))) else (some ((a1 == a2) == (a0 == 1)))
set_option maxHeartbeats 8000000 in
set_option maxRecDepth 100000 in
theorem Zc.calls (a0 : Int) (a1 : Int) (a2 : Int) (r : Bool) (w : World) (h : Zc.f a0 a1 a2 = some r) :
  Calls Try.prog 50 #[.int .i64 a0, .int .i64 a1, .int .i64 a2] w fun e w' => e = .returned (.bool r) ∧ Zbh w w' := by
 have H : (if a0 = 0 then (some (decide (a1 ≤ a2))) else (some ((a1 == a2) == (a0 == 1)))) = some r := h
 clear h
 by_cases c4 : a0 = 0
 rotate_left
 ·rw [if_neg c4] at H
  have c4b0 : (a0 == 0) = false := beq_eq_false_iff_ne.mpr c4
  have c4b1 : (a0 != 0) = true := bne_iff_ne.mpr c4
  obtain rfl := Option.some.inj H
  go_enter Try.func50, Try.ntmps50
  go_wp2
  go_ret
  exact ⟨by first | rfl | (simp; done) | (simp [*]; done), by repeat (first | exact Zbh.refl _ | apply Zbh.step)⟩

 rw [if_pos c4] at H
 have c4b0 : (a0 == 0) = true := beq_iff_eq.mpr c4
 have c4b1 : (a0 != 0) = false := bne_eq_false_iff_eq.mpr c4
 clear c4
 obtain rfl := Option.some.inj H
 go_enter Try.func50, Try.ntmps50
 go_wp2
 go_ret
 exact ⟨by first | rfl | (simp; done) | (simp [*]; done), by repeat (first | exact Zbh.refl _ | apply Zbh.step)⟩
/-! ### Za9: function 51 -/
def Za9.l0 : Nat → List Int → List Int → List Int → Int → Int → Option (Int)
 | 0, _, _, _, _, _ => none
 | k + 1, x0, x1, x2, x7, x8 => if x8 < (x0.length : Int) then (if x8 < (x1.length : Int) then (if 0 ≤ x8 then ((Zce.f x2 (rd x0 x8)).bind fun t389 => (Za9.l0 k x0 x1 x2 (wrap64 (x7 + (wrap64 ((rd x1 x8) * t389)))) (wrap64 (x8 + 1)))) else (none)) else (some x7)) else (some x7)
def Za9.f (k : Nat) (l0 : List Int) (l1 : List Int) (l2 : List Int) : Option (Int) := Za9.l0 k l0 l1 l2 0 0
theorem Za9.Zb1 : ∀ k, (∀ y0 y1 y2 y3 y4, LeO (Za9.l0 k y0 y1 y2 y3 y4) (Za9.l0 (k + 1) y0 y1 y2 y3 y4))
 | 0 => fun _ _ _ _ _ r h => by simp [Za9.l0] at h
 | k + 1 => by
  have ih0 := Za9.Zb1 k
  intro y0 y1 y2 y3 y4
  unfold Za9.l0
  repeat' first
  | (with_reducible exact ih0 _ _ _ _ _)
  | (with_reducible exact LeO.refl _)
  | (with_reducible exact LeO.none _)
  | (with_reducible refine LeO.ite ?_ ?_)
  | (with_reducible refine LeO.bind ?_ (fun _ => ?_))
  | exact ih0 _ _ _ _ _
  | exact LeO.none _
  | refine LeO.ite ?_ ?_
  | refine LeO.bind ?_ (fun _ => ?_)
theorem Za9.mono : ∀ a0 a1 a2 k, LeO (Za9.f k a0 a1 a2) (Za9.f (k + 1) a0 a1 a2) := by
 intro a0 a1 a2 k
 have ih0 := Za9.Zb1 k
 unfold Za9.f
 repeat' first
   | (with_reducible exact ih0 _ _ _ _ _)
   | (with_reducible exact LeO.refl _)
   | (with_reducible exact LeO.none _)
   | (with_reducible refine LeO.ite ?_ ?_)
   | (with_reducible refine LeO.bind ?_ (fun _ => ?_))
   | exact ih0 _ _ _ _ _
   | exact LeO.none _
   | refine LeO.ite ?_ ?_
   | refine LeO.bind ?_ (fun _ => ?_)
set_option maxHeartbeats 8000000 in
set_option maxRecDepth 100000 in
theorem Za9.calls (k : Nat) (A0 : Option Addr) (c0 : Nat) (l0 : List Int) (A1 : Option Addr) (c1 : Nat) (l1 : List Int) (A2 : Option Addr) (c2 : Nat) (l2 : List Int) (r : Int) (w : World) (hr0 : Kd.C (Kd.int .i64) w A0 l0.length l0) (hc0 : l0.length ≤ c0) (hr1 : Kd.C (Kd.int .i64) w A1 l1.length l1) (hc1 : l1.length ≤ c1) (hr2 : Kd.C (Kd.int .i64) w A2 l2.length l2) (hc2 : l2.length ≤ c2) (h : Za9.f k l0 l1 l2 = some r) :
  Calls Try.prog 51 #[.slice A0 l0.length c0, .slice A1 l1.length c1, .slice A2 l2.length c2] w fun e w' => e = .returned (.int .i64 r) ∧ Zbh w w' := by
 have HR0 := Zaa.mk hr0
 have HC0 := Zaa.mk hc0
 clear hr0 hc0
 have HR1 := Zaa.mk hr1
 have HC1 := Zaa.mk hc1
 clear hr1 hc1
 have HR2 := Zaa.mk hr2
 have HC2 := Zaa.mk hc2
 clear hr2 hc2
 have H : (Za9.l0 k l0 l1 l2 0 0) = some r := h
 clear h
 have H' := Zaa.mk H
 clear H
 go_enter Try.func51, Try.ntmps51
 go_wp2
 repeat (go_quiet (fail); try go_wp2)
 go_loopg [7, 8] k (fun kq v7 v8 w' => ∃ (x7_1 : Int) (x8_1 : Int), v7 = .int .i64 x7_1 ∧ v8 = .int .i64 x8_1 ∧ Zaa (Za9.l0 kq l0 l1 l2 x7_1 x8_1 = some r) ∧ Zaa (kq ≤ k) ∧ Zbh w w')
 case atStart => exact ⟨(0), (0), (by first | rfl | (simp; done) | (simp [*]; done)), (by first | rfl | (simp; done) | (simp [*]; done)), H', ⟨Nat.le_refl _⟩, by repeat (first | exact Zbh.refl _ | apply Zbh.step)⟩
 case round =>
  clear H'
  try clear c1
  try clear c2
  try clear p2
  obtain ⟨x7_1, x8_1, rfl, rfl, HA, HK1, ⟨m1, rfl⟩⟩ := hrel
  cases gk with
  | zero => exact absurd HA.out (by simp [Za9.l0])
  | succ k1 =>
   have H := HA.out
   clear HA
   simp only [Za9.l0] at H
   by_cases c4 : x8_1 < (l0.length : Int)
   rotate_left
   ·rw [if_neg c4] at H
    have c4b0 : decide (x8_1 < (l0.length : Int)) = false := decide_eq_false c4
    clear c4
    obtain rfl := Option.some.inj H
    go_wp2
    repeat (go_quiet (fail); try go_wp2)
    go_ret
    exact ⟨by first | rfl | (simp; done) | (simp [*]; done), by repeat (first | exact Zbh.refl _ | apply Zbh.step)⟩

   rw [if_pos c4] at H
   have c4b0 : decide (x8_1 < (l0.length : Int)) = true := decide_eq_true c4
   clear c4
   by_cases c5 : x8_1 < (l1.length : Int)
   rotate_left
   ·rw [if_neg c5] at H
    have c5b0 : decide (x8_1 < (l1.length : Int)) = false := decide_eq_false c5
    clear c5
    obtain rfl := Option.some.inj H
    go_wp2
    repeat (go_quiet (fail); try go_wp2)
    go_ret
    exact ⟨by first | rfl | (simp; done) | (simp [*]; done), by repeat (first | exact Zbh.refl _ | apply Zbh.step)⟩
   rw [if_pos c5] at H
   have c5b0 : decide (x8_1 < (l1.length : Int)) = true := decide_eq_true c5
   clear c5
   by_cases c6 : 0 ≤ x8_1
   rotate_left
   ·rw [if_neg c6] at H
    exact absurd H (by simp)
   rw [if_pos c6] at H
   have c6b0 : decide (0 ≤ x8_1) = true := decide_eq_true c6
   clear c6
   replace H := Option.bind_eq_some_iff.mp H
   obtain ⟨t389, A70, H⟩ := H
   replace H : (Za9.l0 k1 l0 l1 l2 (wrap64 (x7_1 + (wrap64 ((rd l1 x8_1) * t389)))) (wrap64 (x8_1 + 1))) = some r := H
   have A7 := Zaa.mk A70
   clear A70
   have H' := Zaa.mk H
   clear H
   have p387 : 0 ≤ (x8_1 : Int) := of_decide_eq_true (by first | (with_reducible assumption) | assumption)
   have q387 : x8_1 < (l1.length : Int) := of_decide_eq_true (by first | (with_reducible assumption) | assumption)
   obtain ⟨ad387, e387, hx387_0⟩ := Kd.Zb6 HR1.out x8_1 p387 q387
   cases e387
   replace p387 := eq_true p387
   replace q387 := eq_true q387
   have p388 : 0 ≤ (x8_1 : Int) := of_decide_eq_true (by first | (with_reducible assumption) | assumption)
   have q388 : x8_1 < (l0.length : Int) := of_decide_eq_true (by first | (with_reducible assumption) | assumption)
   obtain ⟨ad388, e388, hx388_0⟩ := Kd.Zb6 HR0.out x8_1 p388 q388
   cases e388
   replace p388 := eq_true p388
   replace q388 := eq_true q388
   go_wp2_with (first | (go_at_call 52; (with_reducible refine (Zce.calls _ _ l2 (rd l0 x8_1) t389 _ ?side1 ?side2 A7.out).mono ?_); (case side1 => repeat (first | exact HR2.out | (with_reducible refine Kd.C_alloc ?_ _) | (with_reducible refine Kd.Za0 ?_ _) | (with_reducible refine Kd.C_drew ?_))); (case side2 => exact HC2.out); rintro e w' ⟨rfl, ⟨nd, rfl⟩⟩; (try first | exact ⟨rfl, _, World.drewN_drewN _ _ _⟩ | exact ⟨rfl, _, Eq.trans (World.drewN_drewN _ _ _) (congrArg (World.drewN _) (Nat.add_assoc _ _ _))⟩)))
   repeat (go_quiet (first | (go_at_call 52; (with_reducible refine (Zce.calls _ _ l2 (rd l0 x8_1) t389 _ ?side1 ?side2 A7.out).mono ?_); (case side1 => repeat (first | exact HR2.out | (with_reducible refine Kd.C_alloc ?_ _) | (with_reducible refine Kd.Za0 ?_ _) | (with_reducible refine Kd.C_drew ?_))); (case side2 => exact HC2.out); rintro e w' ⟨rfl, ⟨nd, rfl⟩⟩; (try first | exact ⟨rfl, _, World.drewN_drewN _ _ _⟩ | exact ⟨rfl, _, Eq.trans (World.drewN_drewN _ _ _) (congrArg (World.drewN _) (Nat.add_assoc _ _ _))⟩))); try go_wp2_with (first | (go_at_call 52; (with_reducible refine (Zce.calls _ _ l2 (rd l0 x8_1) t389 _ ?side1 ?side2 A7.out).mono ?_); (case side1 => repeat (first | exact HR2.out | (with_reducible refine Kd.C_alloc ?_ _) | (with_reducible refine Kd.Za0 ?_ _) | (with_reducible refine Kd.C_drew ?_))); (case side2 => exact HC2.out); rintro e w' ⟨rfl, ⟨nd, rfl⟩⟩; (try first | exact ⟨rfl, _, World.drewN_drewN _ _ _⟩ | exact ⟨rfl, _, Eq.trans (World.drewN_drewN _ _ _) (congrArg (World.drewN _) (Nat.add_assoc _ _ _))⟩))))
   go_roundg k1
   case measure => have := HK1.out; omega
   case rel => exact ⟨(wrap64 (x7_1 + (wrap64 ((rd l1 x8_1) * t389)))), (wrap64 (x8_1 + 1)), (by first | rfl | (simp; done) | (simp [*]; done)), (by first | rfl | (simp; done) | (simp [*]; done)), H', ⟨by have := HK1.out; omega⟩, by repeat (first | exact Zbh.refl _ | apply Zbh.step)⟩
/-! ### Zba: function 32 -/
def Zba.l0 : Nat → List Int → Int → Int → List Int → List Int → Int → Int → List (List Int) → Int → Option (Bool)
 | 0, _, _, _, _, _, _, _, _, _ => none
 | k + 1, x5, x7, x391000, x391001, x391002, x391003, x391004, x391005, x391006 => if x7 < (x391005.length : Int) then (if 0 ≤ x7 then ((Zam.f k (Zbz x391005 x7) x5).bind fun t397 => (if t397 = true then (some true) else (Zba.l0 k x5 (wrap64 (x7 + 1)) x391000 x391001 x391002 x391003 x391004 x391005 x391006))) else (none)) else (some false)
def Zba.f (k : Nat) (a0_0 : Int) (l0_1 : List Int) (l0_2 : List Int) (a0_3 : Int) (a0_4 : Int) (l0_5 : List (List Int)) (a0_6 : Int) (l1 : List Int) : Option (Bool) := (Zaz.f k l0_1 l1).bind fun t391 => ((Za9.f k l0_1 l0_2 l1).bind fun t394 => ((Zc.f a0_3 t394 a0_4).bind fun t395 => (if a0_0 = 0 then (none) else (if a0_0 = 1 then (none) else (if a0_0 = 2 then (Zba.l0 k t391 0 a0_0 l0_1 l0_2 a0_3 a0_4 l0_5 a0_6) else (none))))))
theorem Zba.Zb1 : ∀ k, (∀ y0 y1 y2 y3 y4 y5 y6 y7 y8, LeO (Zba.l0 k y0 y1 y2 y3 y4 y5 y6 y7 y8) (Zba.l0 (k + 1) y0 y1 y2 y3 y4 y5 y6 y7 y8))
 | 0 => fun _ _ _ _ _ _ _ _ _ r h => by simp [Zba.l0] at h
 | k + 1 => by
  have ih0 := Zba.Zb1 k
  intro y0 y1 y2 y3 y4 y5 y6 y7 y8
  unfold Zba.l0
  repeat' first
  | (with_reducible exact ih0 _ _ _ _ _ _ _ _ _)
  | (with_reducible exact Zam.mono _ _ _)
  | (with_reducible exact Za9.mono _ _ _ _)
  | (with_reducible exact Zaz.mono _ _ _)
  | (with_reducible exact LeO.refl _)
  | (with_reducible exact LeO.none _)
  | (with_reducible refine LeO.ite ?_ ?_)
  | (with_reducible refine LeO.bind ?_ (fun _ => ?_))
  | exact ih0 _ _ _ _ _ _ _ _ _
  | exact Zam.mono _ _ _
  | exact Za9.mono _ _ _ _
  | exact Zaz.mono _ _ _
  | exact LeO.none _
  | refine LeO.ite ?_ ?_
  | refine LeO.bind ?_ (fun _ => ?_)
theorem Zba.mono : ∀ a0 a1 a2 a3 a4 a5 a6 a7 k, LeO (Zba.f k a0 a1 a2 a3 a4 a5 a6 a7) (Zba.f (k + 1) a0 a1 a2 a3 a4 a5 a6 a7) := by
 intro a0 a1 a2 a3 a4 a5 a6 a7 k
 have ih0 := Zba.Zb1 k
 unfold Zba.f
 repeat' first
   | (with_reducible exact ih0 _ _ _ _ _ _ _ _ _)
   | (with_reducible exact Zam.mono _ _ _)
   | (with_reducible exact Za9.mono _ _ _ _)
   | (with_reducible exact Zaz.mono _ _ _)
   | (with_reducible exact LeO.refl _)
   | (with_reducible exact LeO.none _)
   | (with_reducible refine LeO.ite ?_ ?_)
   | (with_reducible refine LeO.bind ?_ (fun _ => ?_))
   | exact ih0 _ _ _ _ _ _ _ _ _
   | exact Zam.mono _ _ _
   | exact Za9.mono _ _ _ _
   | exact Zaz.mono _ _ _
   | exact LeO.none _
   | refine LeO.ite ?_ ?_
   | refine LeO.bind ?_ (fun _ => ?_)
set_option maxHeartbeats 8000000 in
set_option maxRecDepth 100000 in
theorem Zba.calls (k : Nat) (a0_0 : Int) (A0_1 : Option Addr) (c0_1 : Nat) (l0_1 : List Int) (A0_2 : Option Addr) (c0_2 : Nat) (l0_2 : List Int) (a0_3 : Int) (a0_4 : Int) (A0_5 : Option Addr) (c0_5 : Nat) (l0_5 : List (List Int)) (a0_6 : Int) (A1 : Option Addr) (c1 : Nat) (l1 : List Int) (r : Bool) (w : World) (hr0_1 : Kd.C (Kd.int .i64) w A0_1 l0_1.length l0_1) (hc0_1 : l0_1.length ≤ c0_1) (hr0_2 : Kd.C (Kd.int .i64) w A0_2 l0_2.length l0_2) (hc0_2 : l0_2.length ≤ c0_2) (hr0_5 : Kd.C (Kd.slice 3 (Kd.int .i64)) w A0_5 l0_5.length l0_5) (hc0_5 : l0_5.length ≤ c0_5) (hr1 : Kd.C (Kd.int .i64) w A1 l1.length l1) (hc1 : l1.length ≤ c1) (h : Zba.f k a0_0 l0_1 l0_2 a0_3 a0_4 l0_5 a0_6 l1 = some r) :
  Calls Try.prog 32 #[.agg #[.int .i64 a0_0, .slice A0_1 l0_1.length c0_1, .slice A0_2 l0_2.length c0_2, .int .i64 a0_3, .int .i64 a0_4, .slice A0_5 l0_5.length c0_5, .int .i64 a0_6], .slice A1 l1.length c1] w fun e w' => e = .returned (.bool r) ∧ Below w.heap.size w w' := by
 have hu25 := Try.underlying25
 have HR0_1 := Zaa.mk hr0_1
 have HC0_1 := Zaa.mk hc0_1
 clear hr0_1 hc0_1
 have HR0_2 := Zaa.mk hr0_2
 have HC0_2 := Zaa.mk hc0_2
 clear hr0_2 hc0_2
 have HR0_5 := Zaa.mk hr0_5
 have HC0_5 := Zaa.mk hc0_5
 clear hr0_5 hc0_5
 have HR1 := Zaa.mk hr1
 have HC1 := Zaa.mk hc1
 clear hr1 hc1
 have HB := Zaa.mk (Below.refl w.heap.size w)
 have H : ((Zaz.f k l0_1 l1).bind fun t391 => ((Za9.f k l0_1 l0_2 l1).bind fun t394 => ((Zc.f a0_3 t394 a0_4).bind fun t395 => (if a0_0 = 0 then (none) else (if a0_0 = 1 then (none) else (if a0_0 = 2 then (Zba.l0 k t391 0 a0_0 l0_1 l0_2 a0_3 a0_4 l0_5 a0_6) else (none))))))) = some r := h
 clear h
 replace H := Option.bind_eq_some_iff.mp H
 obtain ⟨t391, A30, H⟩ := H
 replace H : ((Za9.f k l0_1 l0_2 l1).bind fun t394 => ((Zc.f a0_3 t394 a0_4).bind fun t395 => (if a0_0 = 0 then (none) else (if a0_0 = 1 then (none) else (if a0_0 = 2 then (Zba.l0 k t391 0 a0_0 l0_1 l0_2 a0_3 a0_4 l0_5 a0_6) else (none)))))) = some r := H
 have A3 := Zaa.mk A30
 clear A30
 replace H := Option.bind_eq_some_iff.mp H
 obtain ⟨t394, A40, H⟩ := H
 replace H : ((Zc.f a0_3 t394 a0_4).bind fun t395 => (if a0_0 = 0 then (none) else (if a0_0 = 1 then (none) else (if a0_0 = 2 then (Zba.l0 k t391 0 a0_0 l0_1 l0_2 a0_3 a0_4 l0_5 a0_6) else (none))))) = some r := H
 have A4 := Zaa.mk A40
 clear A40
 replace H := Option.bind_eq_some_iff.mp H
 obtain ⟨t395, A50, H⟩ := H
 replace H : (if a0_0 = 0 then (none) else (if a0_0 = 1 then (none) else (if a0_0 = 2 then (Zba.l0 k t391 0 a0_0 l0_1 l0_2 a0_3 a0_4 l0_5 a0_6) else (none)))) = some r := H
 have A5 := Zaa.mk A50
 clear A50
 by_cases c6 : a0_0 = 0
 ·rw [if_pos c6] at H
  exact absurd H (by simp)
 rw [if_neg c6] at H
 have c6b0 : (a0_0 == 0) = false := beq_eq_false_iff_ne.mpr c6
 have c6b1 : (a0_0 != 0) = true := bne_iff_ne.mpr c6
 by_cases c7 : a0_0 = 1
 ·rw [if_pos c7] at H
  exact absurd H (by simp)
 rw [if_neg c7] at H
 have c7b0 : (a0_0 == 1) = false := beq_eq_false_iff_ne.mpr c7
 have c7b1 : (a0_0 != 1) = true := bne_iff_ne.mpr c7
 by_cases c8 : a0_0 = 2
 rotate_left
 ·rw [if_neg c8] at H
  exact absurd H (by simp)

 rw [if_pos c8] at H
 have c8b0 : (a0_0 == 2) = true := beq_iff_eq.mpr c8
 have c8b1 : (a0_0 != 2) = false := bne_eq_false_iff_eq.mpr c8
 clear c8
 have H' := Zaa.mk H
 clear H
 go_enter Try.func32, Try.ntmps32
 go_wp2_with (first | ((with_reducible refine Zb2 (N := 2) rfl ?_); (try (refine Zd2 (by rfl) ?_; dsimp only)); refine Zcd ?hg (N := 2) ?hd (cs := #[.int .i64 a0_0, .slice A0_1 l0_1.length c0_1, .slice A0_2 l0_2.length c0_2, .int .i64 a0_3, .int .i64 a0_4, .slice A0_5 l0_5.length c0_5, .int .i64 a0_6]) (t := 25) ?hr ?_; (case hd => rfl); (case hg => rfl); (case hr => first | (go_simp; done) | (go_simp; rfl)); intro gb390 hg w9 hbox hb; have n0_ := Zaa.mk (Zay (by repeat (first | (with_reducible first | exact HB.out | apply Zac | apply Za | apply Zab) | exact HB.out)) hb); have n1_ := Zaa.mk (hbox); have n2_ := Zaa.mk ((by rw [hg]; exact (Zal (by repeat (first | (with_reducible first | exact HB.out | apply Zac | apply Za | apply Zab) | exact HB.out))) : w.heap.size ≤ gb390)); have n3_ := Zaa.mk ((by rw [hg]; exact (Zal (by repeat (first | (with_reducible first | exact HB.out | apply Zac | apply Za | apply Zab) | exact HB.out))) : w.heap.size ≤ gb390)); clear HB; have HB := n0_; have BK390 := n1_; have GW390 := n2_; have GE390 := n3_; clear n0_ n1_ n2_ n3_; clear hb hbox hg; obtain ⟨hcz10_0, hcz10_1, hcz10_2, hcz10_3, hcz10_4, hcz10_5, hcz10_6, hfz10_0, hfz10_1, hfz10_2, hfz10_3, hfz10_4, hfz10_5, hfz10_6⟩ := Zch BK390.out) | (go_at_call 49; (with_reducible refine (Zaz.calls k _ _ l0_1 _ _ l1 t391 _ ?side1 ?side2 ?side3 ?side4 A3.out).mono ?_); (case side1 => repeat (first | exact (Kd.Zbj HR0_1.out HB.out) | (with_reducible refine Kd.C_alloc ?_ _) | (with_reducible refine Kd.Za0 ?_ _) | (with_reducible refine Kd.C_drew ?_))); (case side2 => exact HC0_1.out); (case side3 => repeat (first | exact (Kd.Zbj HR1.out HB.out) | (with_reducible refine Kd.C_alloc ?_ _) | (with_reducible refine Kd.Za0 ?_ _) | (with_reducible refine Kd.C_drew ?_))); (case side4 => exact HC1.out); rintro e w11 ⟨v392, rfl, ho0, hb⟩; have n0_ := Zaa.mk (Kd.Zb9 ho0 (Zal (by repeat (first | (with_reducible first | exact HB.out | apply Zac | apply Za | apply Zab | refine Zaf ?_ GE390.out) | exact HB.out)))); have n1_ := Zaa.mk (Zbb (g := gb390) (o := .cells #[.int .i64 a0_0, .slice A0_1 l0_1.length c0_1, .slice A0_2 l0_2.length c0_2, .int .i64 a0_3, .int .i64 a0_4, .slice A0_5 l0_5.length c0_5, .int .i64 a0_6] 25 (0, 0)) (by (with_reducible repeat (first | refine Zag ?_ _ | refine Zah ?_ | refine Zae ?_ _)); exact BK390.out) hb); have n2_ := Zaa.mk (Zay (by repeat (first | (with_reducible first | exact HB.out | apply Zac | apply Za | apply Zab | refine Zaf ?_ GE390.out) | exact HB.out)) hb); clear BK390; clear HB; have HO393 := n0_; have BK390 := n1_; have HB := n2_; clear n0_ n1_ n2_; (try clear hb); (try clear hb2); (try clear hk); (try clear hi); (try clear ho0); obtain ⟨hcz12_0, hcz12_1, hcz12_2, hcz12_3, hcz12_4, hcz12_5, hcz12_6, hfz12_0, hfz12_1, hfz12_2, hfz12_3, hfz12_4, hfz12_5, hfz12_6⟩ := Zch BK390.out) | (go_at_call 51; (with_reducible refine (Za9.calls k _ _ l0_1 _ _ l0_2 _ _ l1 t394 _ ?side1 ?side2 ?side3 ?side4 ?side5 ?side6 A4.out).mono ?_); (case side1 => repeat (first | exact (Kd.Zbj HR0_1.out HB.out) | (with_reducible refine Kd.C_alloc ?_ _) | (with_reducible refine Kd.Za0 ?_ _) | (with_reducible refine Kd.C_drew ?_))); (case side2 => exact HC0_1.out); (case side3 => repeat (first | exact (Kd.Zbj HR0_2.out HB.out) | (with_reducible refine Kd.C_alloc ?_ _) | (with_reducible refine Kd.Za0 ?_ _) | (with_reducible refine Kd.C_drew ?_))); (case side4 => exact HC0_2.out); (case side5 => repeat (first | exact (Kd.Zbj HR1.out HB.out) | (with_reducible refine Kd.C_alloc ?_ _) | (with_reducible refine Kd.Za0 ?_ _) | (with_reducible refine Kd.C_drew ?_))); (case side6 => exact HC1.out); rintro e w' ⟨rfl, ⟨nd, rfl⟩⟩; (try first | exact ⟨rfl, _, World.drewN_drewN _ _ _⟩ | exact ⟨rfl, _, Eq.trans (World.drewN_drewN _ _ _) (congrArg (World.drewN _) (Nat.add_assoc _ _ _))⟩)) | (go_at_call 50; (with_reducible refine (Zc.calls a0_3 t394 a0_4 t395 _ A5.out).mono ?_); rintro e w' ⟨rfl, ⟨nd, rfl⟩⟩; (try first | exact ⟨rfl, _, World.drewN_drewN _ _ _⟩ | exact ⟨rfl, _, Eq.trans (World.drewN_drewN _ _ _) (congrArg (World.drewN _) (Nat.add_assoc _ _ _))⟩)))
 repeat (go_quiet (first | ((with_reducible refine Zb2 (N := 2) rfl ?_); (try (refine Zd2 (by rfl) ?_; dsimp only)); refine Zcd ?hg (N := 2) ?hd (cs := #[.int .i64 a0_0, .slice A0_1 l0_1.length c0_1, .slice A0_2 l0_2.length c0_2, .int .i64 a0_3, .int .i64 a0_4, .slice A0_5 l0_5.length c0_5, .int .i64 a0_6]) (t := 25) ?hr ?_; (case hd => rfl); (case hg => rfl); (case hr => first | (go_simp; done) | (go_simp; rfl)); intro gb390 hg w9 hbox hb; have n0_ := Zaa.mk (Zay (by repeat (first | (with_reducible first | exact HB.out | apply Zac | apply Za | apply Zab) | exact HB.out)) hb); have n1_ := Zaa.mk (hbox); have n2_ := Zaa.mk ((by rw [hg]; exact (Zal (by repeat (first | (with_reducible first | exact HB.out | apply Zac | apply Za | apply Zab) | exact HB.out))) : w.heap.size ≤ gb390)); have n3_ := Zaa.mk ((by rw [hg]; exact (Zal (by repeat (first | (with_reducible first | exact HB.out | apply Zac | apply Za | apply Zab) | exact HB.out))) : w.heap.size ≤ gb390)); clear HB; have HB := n0_; have BK390 := n1_; have GW390 := n2_; have GE390 := n3_; clear n0_ n1_ n2_ n3_; clear hb hbox hg; obtain ⟨hcz10_0, hcz10_1, hcz10_2, hcz10_3, hcz10_4, hcz10_5, hcz10_6, hfz10_0, hfz10_1, hfz10_2, hfz10_3, hfz10_4, hfz10_5, hfz10_6⟩ := Zch BK390.out) | (go_at_call 49; (with_reducible refine (Zaz.calls k _ _ l0_1 _ _ l1 t391 _ ?side1 ?side2 ?side3 ?side4 A3.out).mono ?_); (case side1 => repeat (first | exact (Kd.Zbj HR0_1.out HB.out) | (with_reducible refine Kd.C_alloc ?_ _) | (with_reducible refine Kd.Za0 ?_ _) | (with_reducible refine Kd.C_drew ?_))); (case side2 => exact HC0_1.out); (case side3 => repeat (first | exact (Kd.Zbj HR1.out HB.out) | (with_reducible refine Kd.C_alloc ?_ _) | (with_reducible refine Kd.Za0 ?_ _) | (with_reducible refine Kd.C_drew ?_))); (case side4 => exact HC1.out); rintro e w11 ⟨v392, rfl, ho0, hb⟩; have n0_ := Zaa.mk (Kd.Zb9 ho0 (Zal (by repeat (first | (with_reducible first | exact HB.out | apply Zac | apply Za | apply Zab | refine Zaf ?_ GE390.out) | exact HB.out)))); have n1_ := Zaa.mk (Zbb (g := gb390) (o := .cells #[.int .i64 a0_0, .slice A0_1 l0_1.length c0_1, .slice A0_2 l0_2.length c0_2, .int .i64 a0_3, .int .i64 a0_4, .slice A0_5 l0_5.length c0_5, .int .i64 a0_6] 25 (0, 0)) (by (with_reducible repeat (first | refine Zag ?_ _ | refine Zah ?_ | refine Zae ?_ _)); exact BK390.out) hb); have n2_ := Zaa.mk (Zay (by repeat (first | (with_reducible first | exact HB.out | apply Zac | apply Za | apply Zab | refine Zaf ?_ GE390.out) | exact HB.out)) hb); clear BK390; clear HB; have HO393 := n0_; have BK390 := n1_; have HB := n2_; clear n0_ n1_ n2_; (try clear hb); (try clear hb2); (try clear hk); (try clear hi); (try clear ho0); obtain ⟨hcz12_0, hcz12_1, hcz12_2, hcz12_3, hcz12_4, hcz12_5, hcz12_6, hfz12_0, hfz12_1, hfz12_2, hfz12_3, hfz12_4, hfz12_5, hfz12_6⟩ := Zch BK390.out) | (go_at_call 51; (with_reducible refine (Za9.calls k _ _ l0_1 _ _ l0_2 _ _ l1 t394 _ ?side1 ?side2 ?side3 ?side4 ?side5 ?side6 A4.out).mono ?_); (case side1 => repeat (first | exact (Kd.Zbj HR0_1.out HB.out) | (with_reducible refine Kd.C_alloc ?_ _) | (with_reducible refine Kd.Za0 ?_ _) | (with_reducible refine Kd.C_drew ?_))); (case side2 => exact HC0_1.out); (case side3 => repeat (first | exact (Kd.Zbj HR0_2.out HB.out) | (with_reducible refine Kd.C_alloc ?_ _) | (with_reducible refine Kd.Za0 ?_ _) | (with_reducible refine Kd.C_drew ?_))); (case side4 => exact HC0_2.out); (case side5 => repeat (first | exact (Kd.Zbj HR1.out HB.out) | (with_reducible refine Kd.C_alloc ?_ _) | (with_reducible refine Kd.Za0 ?_ _) | (with_reducible refine Kd.C_drew ?_))); (case side6 => exact HC1.out); rintro e w' ⟨rfl, ⟨nd, rfl⟩⟩; (try first | exact ⟨rfl, _, World.drewN_drewN _ _ _⟩ | exact ⟨rfl, _, Eq.trans (World.drewN_drewN _ _ _) (congrArg (World.drewN _) (Nat.add_assoc _ _ _))⟩)) | (go_at_call 50; (with_reducible refine (Zc.calls a0_3 t394 a0_4 t395 _ A5.out).mono ?_); rintro e w' ⟨rfl, ⟨nd, rfl⟩⟩; (try first | exact ⟨rfl, _, World.drewN_drewN _ _ _⟩ | exact ⟨rfl, _, Eq.trans (World.drewN_drewN _ _ _) (congrArg (World.drewN _) (Nat.add_assoc _ _ _))⟩))); try go_wp2_with (first | ((with_reducible refine Zb2 (N := 2) rfl ?_); (try (refine Zd2 (by rfl) ?_; dsimp only)); refine Zcd ?hg (N := 2) ?hd (cs := #[.int .i64 a0_0, .slice A0_1 l0_1.length c0_1, .slice A0_2 l0_2.length c0_2, .int .i64 a0_3, .int .i64 a0_4, .slice A0_5 l0_5.length c0_5, .int .i64 a0_6]) (t := 25) ?hr ?_; (case hd => rfl); (case hg => rfl); (case hr => first | (go_simp; done) | (go_simp; rfl)); intro gb390 hg w9 hbox hb; have n0_ := Zaa.mk (Zay (by repeat (first | (with_reducible first | exact HB.out | apply Zac | apply Za | apply Zab) | exact HB.out)) hb); have n1_ := Zaa.mk (hbox); have n2_ := Zaa.mk ((by rw [hg]; exact (Zal (by repeat (first | (with_reducible first | exact HB.out | apply Zac | apply Za | apply Zab) | exact HB.out))) : w.heap.size ≤ gb390)); have n3_ := Zaa.mk ((by rw [hg]; exact (Zal (by repeat (first | (with_reducible first | exact HB.out | apply Zac | apply Za | apply Zab) | exact HB.out))) : w.heap.size ≤ gb390)); clear HB; have HB := n0_; have BK390 := n1_; have GW390 := n2_; have GE390 := n3_; clear n0_ n1_ n2_ n3_; clear hb hbox hg; obtain ⟨hcz10_0, hcz10_1, hcz10_2, hcz10_3, hcz10_4, hcz10_5, hcz10_6, hfz10_0, hfz10_1, hfz10_2, hfz10_3, hfz10_4, hfz10_5, hfz10_6⟩ := Zch BK390.out) | (go_at_call 49; (with_reducible refine (Zaz.calls k _ _ l0_1 _ _ l1 t391 _ ?side1 ?side2 ?side3 ?side4 A3.out).mono ?_); (case side1 => repeat (first | exact (Kd.Zbj HR0_1.out HB.out) | (with_reducible refine Kd.C_alloc ?_ _) | (with_reducible refine Kd.Za0 ?_ _) | (with_reducible refine Kd.C_drew ?_))); (case side2 => exact HC0_1.out); (case side3 => repeat (first | exact (Kd.Zbj HR1.out HB.out) | (with_reducible refine Kd.C_alloc ?_ _) | (with_reducible refine Kd.Za0 ?_ _) | (with_reducible refine Kd.C_drew ?_))); (case side4 => exact HC1.out); rintro e w11 ⟨v392, rfl, ho0, hb⟩; have n0_ := Zaa.mk (Kd.Zb9 ho0 (Zal (by repeat (first | (with_reducible first | exact HB.out | apply Zac | apply Za | apply Zab | refine Zaf ?_ GE390.out) | exact HB.out)))); have n1_ := Zaa.mk (Zbb (g := gb390) (o := .cells #[.int .i64 a0_0, .slice A0_1 l0_1.length c0_1, .slice A0_2 l0_2.length c0_2, .int .i64 a0_3, .int .i64 a0_4, .slice A0_5 l0_5.length c0_5, .int .i64 a0_6] 25 (0, 0)) (by (with_reducible repeat (first | refine Zag ?_ _ | refine Zah ?_ | refine Zae ?_ _)); exact BK390.out) hb); have n2_ := Zaa.mk (Zay (by repeat (first | (with_reducible first | exact HB.out | apply Zac | apply Za | apply Zab | refine Zaf ?_ GE390.out) | exact HB.out)) hb); clear BK390; clear HB; have HO393 := n0_; have BK390 := n1_; have HB := n2_; clear n0_ n1_ n2_; (try clear hb); (try clear hb2); (try clear hk); (try clear hi); (try clear ho0); obtain ⟨hcz12_0, hcz12_1, hcz12_2, hcz12_3, hcz12_4, hcz12_5, hcz12_6, hfz12_0, hfz12_1, hfz12_2, hfz12_3, hfz12_4, hfz12_5, hfz12_6⟩ := Zch BK390.out) | (go_at_call 51; (with_reducible refine (Za9.calls k _ _ l0_1 _ _ l0_2 _ _ l1 t394 _ ?side1 ?side2 ?side3 ?side4 ?side5 ?side6 A4.out).mono ?_); (case side1 => repeat (first | exact (Kd.Zbj HR0_1.out HB.out) | (with_reducible refine Kd.C_alloc ?_ _) | (with_reducible refine Kd.Za0 ?_ _) | (with_reducible refine Kd.C_drew ?_))); (case side2 => exact HC0_1.out); (case side3 => repeat (first | exact (Kd.Zbj HR0_2.out HB.out) | (with_reducible refine Kd.C_alloc ?_ _) | (with_reducible refine Kd.Za0 ?_ _) | (with_reducible refine Kd.C_drew ?_))); (case side4 => exact HC0_2.out); (case side5 => repeat (first | exact (Kd.Zbj HR1.out HB.out) | (with_reducible refine Kd.C_alloc ?_ _) | (with_reducible refine Kd.Za0 ?_ _) | (with_reducible refine Kd.C_drew ?_))); (case side6 => exact HC1.out); rintro e w' ⟨rfl, ⟨nd, rfl⟩⟩; (try first | exact ⟨rfl, _, World.drewN_drewN _ _ _⟩ | exact ⟨rfl, _, Eq.trans (World.drewN_drewN _ _ _) (congrArg (World.drewN _) (Nat.add_assoc _ _ _))⟩)) | (go_at_call 50; (with_reducible refine (Zc.calls a0_3 t394 a0_4 t395 _ A5.out).mono ?_); rintro e w' ⟨rfl, ⟨nd, rfl⟩⟩; (try first | exact ⟨rfl, _, World.drewN_drewN _ _ _⟩ | exact ⟨rfl, _, Eq.trans (World.drewN_drewN _ _ _) (congrArg (World.drewN _) (Nat.add_assoc _ _ _))⟩))))
 go_loopg [7] k (fun kq v7 w' => ∃ (x7_1 : Int), v7 = .int .i64 x7_1 ∧ Zaa (Zba.l0 kq t391 x7_1 a0_0 l0_1 l0_2 a0_3 a0_4 l0_5 a0_6 = some r) ∧ Zaa (kq ≤ k) ∧ Zaa (Kd.R (Kd.int .i64) 3 w' w.heap.size (fun _ => True) v392 t391) ∧ Zaa (w'.heap[gb390]? = some (.cells #[.int .i64 a0_0, (.slice A0_1 l0_1.length c0_1), (.slice A0_2 l0_2.length c0_2), .int .i64 a0_3, .int .i64 a0_4, (.slice A0_5 l0_5.length c0_5), .int .i64 a0_6] 25 (0, 0))) ∧ Zaa (Below w.heap.size w w'))
 case atStart => exact ⟨(0), (by first | rfl | (simp; done) | (simp [*]; done)), H', ⟨Nat.le_refl _⟩, ⟨by (with_reducible repeat (first | apply Kd.R_alloc | apply Kd.Zap | apply Kd.Zav)); exact HO393.out⟩, ⟨by (with_reducible repeat (first | refine Zag ?_ _ | refine Zah ?_ | refine Zae ?_ _)); exact BK390.out⟩, ⟨by repeat (first | (with_reducible first | exact HB.out | apply Zac | apply Za | apply Zab | refine Zaf ?_ GE390.out) | exact HB.out)⟩⟩
 case round =>
  clear H'
  try clear c1
  try clear p2
  try clear c3
  try clear c6
  try clear c6b0
  try clear c6b1
  try clear c7
  try clear c7b0
  try clear c7b1
  try clear c8
  try clear c8b0
  try clear c8b1
  try clear hcz10_0
  try clear hcz10_1
  try clear hcz10_2
  try clear hcz10_3
  try clear hcz10_4
  try clear hcz10_5
  try clear hcz10_6
  try clear hcz12_0
  try clear hcz12_1
  try clear hcz12_2
  try clear hcz12_3
  try clear hcz12_4
  try clear hcz12_5
  try clear hcz12_6
  try clear hfz10_0
  try clear hfz10_1
  try clear hfz10_2
  try clear hfz10_3
  try clear hfz10_4
  try clear hfz10_5
  try clear hfz10_6
  try clear hfz12_0
  try clear hfz12_1
  try clear hfz12_2
  try clear hfz12_3
  try clear hfz12_4
  try clear hfz12_5
  try clear hfz12_6
  obtain ⟨x7_1, rfl, HA, HK1, HO_5, BK390, HB⟩ := hrel
  cases gk with
  | zero => exact absurd HA.out (by simp [Zba.l0])
  | succ k1 =>
   have H := HA.out
   clear HA
   simp only [Zba.l0] at H
   by_cases c13 : x7_1 < (l0_5.length : Int)
   rotate_left
   ·rw [if_neg c13] at H
    have c13b0 : decide (x7_1 < (l0_5.length : Int)) = false := decide_eq_false c13
    clear c13
    obtain rfl := Option.some.inj H
    obtain ⟨hcz21_0, hcz21_1, hcz21_2, hcz21_3, hcz21_4, hcz21_5, hcz21_6, hfz21_0, hfz21_1, hfz21_2, hfz21_3, hfz21_4, hfz21_5, hfz21_6⟩ := Zch BK390.out
    go_wp2
    repeat (go_quiet (fail); try go_wp2)
    go_ret
    exact ⟨by first | rfl | (simp [Za1, Za2] <;> rfl) | (simp [*, Za1, Za2] <;> rfl), by repeat (first | (with_reducible first | exact HB.out | apply Zac | apply Za | apply Zab | refine Zaf ?_ GE390.out) | exact HB.out)⟩
   rw [if_pos c13] at H
   have c13b0 : decide (x7_1 < (l0_5.length : Int)) = true := decide_eq_true c13
   clear c13
   by_cases c14 : 0 ≤ x7_1
   rotate_left
   ·rw [if_neg c14] at H
    exact absurd H (by simp)
   rw [if_pos c14] at H
   have c14b0 : decide (0 ≤ x7_1) = true := decide_eq_true c14
   clear c14
   replace H := Option.bind_eq_some_iff.mp H
   obtain ⟨t397, A150, H⟩ := H
   replace H : (if t397 = true then (some true) else (Zba.l0 k1 t391 (wrap64 (x7_1 + 1)) a0_0 l0_1 l0_2 a0_3 a0_4 l0_5 a0_6)) = some r := H
   have A15 := Zaa.mk A150
   clear A150
   by_cases c16 : t397 = true
   ·subst c16
    have H1 : (some true) = some r := by rw [if_pos rfl] at H; exact H
    clear H
    have H := H1
    clear H1
    obtain rfl := Option.some.inj H
    obtain ⟨hcz17_0, hcz17_1, hcz17_2, hcz17_3, hcz17_4, hcz17_5, hcz17_6, hfz17_0, hfz17_1, hfz17_2, hfz17_3, hfz17_4, hfz17_5, hfz17_6⟩ := Zch BK390.out
    have p396 : 0 ≤ (x7_1 : Int) := of_decide_eq_true (by first | (with_reducible assumption) | assumption)
    have q396 : x7_1 < (l0_5.length : Int) := of_decide_eq_true (by first | (with_reducible assumption) | assumption)
    obtain ⟨ad396, A396_0, c396_0, e396, hx396_0, hl396_0, hi396_0⟩ := Zdy HR0_5.out x7_1 p396 q396
    cases e396
    replace hx396_0 := (HB.out.cell (World.block_lt_of_cell? w _ hx396_0)).trans hx396_0
    have HR396_0 := Zaa.mk hi396_0
    have HC396_0 := Zaa.mk hl396_0
    clear hi396_0 hl396_0
    replace p396 := eq_true p396
    replace q396 := eq_true q396
    obtain ⟨Ao18, co18, eo18⟩ := Kd.Zcb HO_5.out
    subst eo18
    go_wp2_with (first | (go_at_call 28; (with_reducible refine (Zam.calls k1 _ _ (Zbz l0_5 x7_1) _ _ t391 true _ ?side1 ?side2 ?side3 ?side4 A15.out).mono ?_); (case side1 => repeat (first | exact (Kd.Zbj HR396_0.out HB.out) | (with_reducible refine Kd.C_alloc ?_ _) | (with_reducible refine Kd.Za0 ?_ _) | (with_reducible refine Kd.C_drew ?_))); (case side2 => exact HC396_0.out); (case side3 => repeat (first | exact (Kd.Zbi HO_5.out).2.2 | (with_reducible refine Kd.C_alloc ?_ _) | (with_reducible refine Kd.Za0 ?_ _) | (with_reducible refine Kd.C_drew ?_))); (case side4 => exact (Kd.Zbi HO_5.out).2.1); rintro e w' ⟨rfl, ⟨nd, rfl⟩⟩; (try first | exact ⟨rfl, _, World.drewN_drewN _ _ _⟩ | exact ⟨rfl, _, Eq.trans (World.drewN_drewN _ _ _) (congrArg (World.drewN _) (Nat.add_assoc _ _ _))⟩)))
    repeat (go_quiet (first | (go_at_call 28; (with_reducible refine (Zam.calls k1 _ _ (Zbz l0_5 x7_1) _ _ t391 true _ ?side1 ?side2 ?side3 ?side4 A15.out).mono ?_); (case side1 => repeat (first | exact (Kd.Zbj HR396_0.out HB.out) | (with_reducible refine Kd.C_alloc ?_ _) | (with_reducible refine Kd.Za0 ?_ _) | (with_reducible refine Kd.C_drew ?_))); (case side2 => exact HC396_0.out); (case side3 => repeat (first | exact (Kd.Zbi HO_5.out).2.2 | (with_reducible refine Kd.C_alloc ?_ _) | (with_reducible refine Kd.Za0 ?_ _) | (with_reducible refine Kd.C_drew ?_))); (case side4 => exact (Kd.Zbi HO_5.out).2.1); rintro e w' ⟨rfl, ⟨nd, rfl⟩⟩; (try first | exact ⟨rfl, _, World.drewN_drewN _ _ _⟩ | exact ⟨rfl, _, Eq.trans (World.drewN_drewN _ _ _) (congrArg (World.drewN _) (Nat.add_assoc _ _ _))⟩))); try go_wp2_with (first | (go_at_call 28; (with_reducible refine (Zam.calls k1 _ _ (Zbz l0_5 x7_1) _ _ t391 true _ ?side1 ?side2 ?side3 ?side4 A15.out).mono ?_); (case side1 => repeat (first | exact (Kd.Zbj HR396_0.out HB.out) | (with_reducible refine Kd.C_alloc ?_ _) | (with_reducible refine Kd.Za0 ?_ _) | (with_reducible refine Kd.C_drew ?_))); (case side2 => exact HC396_0.out); (case side3 => repeat (first | exact (Kd.Zbi HO_5.out).2.2 | (with_reducible refine Kd.C_alloc ?_ _) | (with_reducible refine Kd.Za0 ?_ _) | (with_reducible refine Kd.C_drew ?_))); (case side4 => exact (Kd.Zbi HO_5.out).2.1); rintro e w' ⟨rfl, ⟨nd, rfl⟩⟩; (try first | exact ⟨rfl, _, World.drewN_drewN _ _ _⟩ | exact ⟨rfl, _, Eq.trans (World.drewN_drewN _ _ _) (congrArg (World.drewN _) (Nat.add_assoc _ _ _))⟩))))
    go_ret
    exact ⟨by first | rfl | (simp [Za1, Za2] <;> rfl) | (simp [*, Za1, Za2] <;> rfl), by repeat (first | (with_reducible first | exact HB.out | apply Zac | apply Za | apply Zab | refine Zaf ?_ GE390.out) | exact HB.out)⟩
   replace c16 := Bool.eq_false_iff.mpr c16
   subst c16
   have H1 : (Zba.l0 k1 t391 (wrap64 (x7_1 + 1)) a0_0 l0_1 l0_2 a0_3 a0_4 l0_5 a0_6) = some r := by rw [if_neg (show ¬ (false = true) by decide)] at H; exact H
   clear H
   have H := H1
   clear H1
   have H' := Zaa.mk H
   clear H
   obtain ⟨hcz19_0, hcz19_1, hcz19_2, hcz19_3, hcz19_4, hcz19_5, hcz19_6, hfz19_0, hfz19_1, hfz19_2, hfz19_3, hfz19_4, hfz19_5, hfz19_6⟩ := Zch BK390.out
   have p396 : 0 ≤ (x7_1 : Int) := of_decide_eq_true (by first | (with_reducible assumption) | assumption)
   have q396 : x7_1 < (l0_5.length : Int) := of_decide_eq_true (by first | (with_reducible assumption) | assumption)
   obtain ⟨ad396, A396_0, c396_0, e396, hx396_0, hl396_0, hi396_0⟩ := Zdy HR0_5.out x7_1 p396 q396
   cases e396
   replace hx396_0 := (HB.out.cell (World.block_lt_of_cell? w _ hx396_0)).trans hx396_0
   have HR396_0 := Zaa.mk hi396_0
   have HC396_0 := Zaa.mk hl396_0
   clear hi396_0 hl396_0
   replace p396 := eq_true p396
   replace q396 := eq_true q396
   obtain ⟨Ao20, co20, eo20⟩ := Kd.Zcb HO_5.out
   subst eo20
   go_wp2_with (first | (go_at_call 28; (with_reducible refine (Zam.calls k1 _ _ (Zbz l0_5 x7_1) _ _ t391 false _ ?side1 ?side2 ?side3 ?side4 A15.out).mono ?_); (case side1 => repeat (first | exact (Kd.Zbj HR396_0.out HB.out) | (with_reducible refine Kd.C_alloc ?_ _) | (with_reducible refine Kd.Za0 ?_ _) | (with_reducible refine Kd.C_drew ?_))); (case side2 => exact HC396_0.out); (case side3 => repeat (first | exact (Kd.Zbi HO_5.out).2.2 | (with_reducible refine Kd.C_alloc ?_ _) | (with_reducible refine Kd.Za0 ?_ _) | (with_reducible refine Kd.C_drew ?_))); (case side4 => exact (Kd.Zbi HO_5.out).2.1); rintro e w' ⟨rfl, ⟨nd, rfl⟩⟩; (try first | exact ⟨rfl, _, World.drewN_drewN _ _ _⟩ | exact ⟨rfl, _, Eq.trans (World.drewN_drewN _ _ _) (congrArg (World.drewN _) (Nat.add_assoc _ _ _))⟩)))
   repeat (go_quiet (first | (go_at_call 28; (with_reducible refine (Zam.calls k1 _ _ (Zbz l0_5 x7_1) _ _ t391 false _ ?side1 ?side2 ?side3 ?side4 A15.out).mono ?_); (case side1 => repeat (first | exact (Kd.Zbj HR396_0.out HB.out) | (with_reducible refine Kd.C_alloc ?_ _) | (with_reducible refine Kd.Za0 ?_ _) | (with_reducible refine Kd.C_drew ?_))); (case side2 => exact HC396_0.out); (case side3 => repeat (first | exact (Kd.Zbi HO_5.out).2.2 | (with_reducible refine Kd.C_alloc ?_ _) | (with_reducible refine Kd.Za0 ?_ _) | (with_reducible refine Kd.C_drew ?_))); (case side4 => exact (Kd.Zbi HO_5.out).2.1); rintro e w' ⟨rfl, ⟨nd, rfl⟩⟩; (try first | exact ⟨rfl, _, World.drewN_drewN _ _ _⟩ | exact ⟨rfl, _, Eq.trans (World.drewN_drewN _ _ _) (congrArg (World.drewN _) (Nat.add_assoc _ _ _))⟩))); try go_wp2_with (first | (go_at_call 28; (with_reducible refine (Zam.calls k1 _ _ (Zbz l0_5 x7_1) _ _ t391 false _ ?side1 ?side2 ?side3 ?side4 A15.out).mono ?_); (case side1 => repeat (first | exact (Kd.Zbj HR396_0.out HB.out) | (with_reducible refine Kd.C_alloc ?_ _) | (with_reducible refine Kd.Za0 ?_ _) | (with_reducible refine Kd.C_drew ?_))); (case side2 => exact HC396_0.out); (case side3 => repeat (first | exact (Kd.Zbi HO_5.out).2.2 | (with_reducible refine Kd.C_alloc ?_ _) | (with_reducible refine Kd.Za0 ?_ _) | (with_reducible refine Kd.C_drew ?_))); (case side4 => exact (Kd.Zbi HO_5.out).2.1); rintro e w' ⟨rfl, ⟨nd, rfl⟩⟩; (try first | exact ⟨rfl, _, World.drewN_drewN _ _ _⟩ | exact ⟨rfl, _, Eq.trans (World.drewN_drewN _ _ _) (congrArg (World.drewN _) (Nat.add_assoc _ _ _))⟩))))
   go_roundg k1
   case measure => have := HK1.out; omega
   case rel => exact ⟨(wrap64 (x7_1 + 1)), (by first | rfl | (simp; done) | (simp [*]; done)), H', ⟨by have := HK1.out; omega⟩, ⟨by (with_reducible repeat (first | apply Kd.R_alloc | apply Kd.Zap | apply Kd.Zav)); exact HO_5.out⟩, ⟨by (with_reducible repeat (first | refine Zag ?_ _ | refine Zah ?_ | refine Zae ?_ _)); exact BK390.out⟩, ⟨by repeat (first | (with_reducible first | exact HB.out | apply Zac | apply Za | apply Zab | refine Zaf ?_ GE390.out) | exact HB.out)⟩⟩
/-! ### Za7: function 30 -/
def Za7.l0 : Nat → List (List (S41)) → List Int → List Int → Int → Option (List Int × Bool)
 | 0, _, _, _, _ => none
 | k + 1, x0, x1, x6, x7 => if x7 < (x0.length : Int) then (if 0 ≤ x7 then ((Zak.f k (Zcn x0 x7)).bind fun t695 => (if (t695.length : Int) = 0 then (some ((([] : List Int)), false)) else (if x7 < (x1.length : Int) then (if 0 ≤ (Int.tmod (Go.bits .and .i64 (rd x1 x7) 65535) (t695.length : Int)) then (if (Int.tmod (Go.bits .and .i64 (rd x1 x7) 65535) (t695.length : Int)) < (t695.length : Int) then (if x6.length < 17592186044416 then (Za7.l0 k x0 x1 (x6 ++ [rd t695 (Int.tmod (Go.bits .and .i64 (rd x1 x7) 65535) (t695.length : Int))]) (wrap64 (x7 + 1))) else (none)) else (none)) else (none)) else (if 0 ≤ (Int.tmod x7 (t695.length : Int)) then (if (Int.tmod x7 (t695.length : Int)) < (t695.length : Int) then (if x6.length < 17592186044416 then (Za7.l0 k x0 x1 (x6 ++ [rd t695 (Int.tmod x7 (t695.length : Int))]) (wrap64 (x7 + 1))) else (none)) else (none)) else (none))))) else (none)) else (some (x6, true))
def Za7.f (k : Nat) (l0 : List (List (S41))) (l1 : List Int) : Option (List Int × Bool) := Za7.l0 k l0 l1 (([] : List Int)) 0
theorem Za7.Zb1 : ∀ k, (∀ y0 y1 y2 y3, LeO (Za7.l0 k y0 y1 y2 y3) (Za7.l0 (k + 1) y0 y1 y2 y3))
 | 0 => fun _ _ _ _ r h => by simp [Za7.l0] at h
 | k + 1 => by
  have ih0 := Za7.Zb1 k
  intro y0 y1 y2 y3
  unfold Za7.l0
  repeat' first
  | (with_reducible exact ih0 _ _ _ _)
  | (with_reducible exact Zak.mono _ _)
  | (with_reducible exact LeO.refl _)
  | (with_reducible exact LeO.none _)
  | (with_reducible refine LeO.ite ?_ ?_)
  | (with_reducible refine LeO.bind ?_ (fun _ => ?_))
  | exact ih0 _ _ _ _
  | exact Zak.mono _ _
  | exact LeO.none _
  | refine LeO.ite ?_ ?_
  | refine LeO.bind ?_ (fun _ => ?_)
theorem Za7.mono : ∀ a0 a1 k, LeO (Za7.f k a0 a1) (Za7.f (k + 1) a0 a1) := by
 intro a0 a1 k
 have ih0 := Za7.Zb1 k
 unfold Za7.f
 repeat' first
   | (with_reducible exact ih0 _ _ _ _)
   | (with_reducible exact Zak.mono _ _)
   | (with_reducible exact LeO.refl _)
   | (with_reducible exact LeO.none _)
   | (with_reducible refine LeO.ite ?_ ?_)
   | (with_reducible refine LeO.bind ?_ (fun _ => ?_))
   | exact ih0 _ _ _ _
   | exact Zak.mono _ _
   | exact LeO.none _
   | refine LeO.ite ?_ ?_
   | refine LeO.bind ?_ (fun _ => ?_)
set_option maxHeartbeats 8000000 in
set_option maxRecDepth 100000 in
theorem Za7.calls (k : Nat) (A0 : Option Addr) (c0 : Nat) (l0 : List (List (S41))) (A1 : Option Addr) (c1 : Nat) (l1 : List Int) (r1 : List Int) (r2 : Bool) (w : World) (hr0 : Kd.C (Kd.slice 41 k41) w A0 l0.length l0) (hc0 : l0.length ≤ c0) (hr1 : Kd.C (Kd.int .i64) w A1 l1.length l1) (hc1 : l1.length ≤ c1) (h : Za7.f k l0 l1 = some (r1, r2)) :
  Calls Try.prog 30 #[.slice A0 l0.length c0, .slice A1 l1.length c1] w fun e w' => ∃ v0_ : Value, e = .returned (.tuple #[v0_, .bool r2]) ∧ Kd.R (Kd.int .i64) 3 w' w.heap.size (fun _ => True) v0_ r1 ∧ Below w.heap.size w w' := by
 have HR0 := Zaa.mk hr0
 have HC0 := Zaa.mk hc0
 clear hr0 hc0
 have HR1 := Zaa.mk hr1
 have HC1 := Zaa.mk hc1
 clear hr1 hc1
 have HB := Zaa.mk (Below.refl w.heap.size w)
 have H : (Za7.l0 k l0 l1 (([] : List Int)) 0) = some (r1, r2) := h
 clear h
 obtain ⟨y691, hy691⟩ : ∃ y_ : List Int, y_ = (([] : List Int)) := ⟨_, rfl⟩
 replace H : (Za7.l0 k l0 l1 y691 0) = some (r1, r2) := by first | (rw [hy691]; with_reducible exact H) | (have H2_ := (Option.bind_some _ _).symm.trans H; rw [hy691]; with_reducible exact H2_) | (have H2_ := (Option.bind_some _ _).symm.trans H; with_reducible exact H2_) | with_reducible exact H | (rw [hy691]; exact H) | exact H
 have Ny691 := Zaa.mk hy691
 clear hy691
 have H' := Zaa.mk H
 clear H
 go_enter Try.func30, Try.ntmps30
 go_wp2_with (first | ((with_reducible refine Zb2 (N := 10) rfl ?_); refine Kd.Zdu (Kd.int .i64) _ 3 ?hg (N := 10) ?hd (xs := ([] : List Int)) (inner := []) (ok := fun _ => True) (okp := fun _ => True) ?hr ?hp (fun _ hk => hk) trivial (Below.refl _ _) (Nat.le_refl _) (by simp) ?_; (case hd => rfl); (case hg => rfl); (case hr => first | (go_simp; done) | (go_simp; rfl)); (case hp => exact (Reps.none _ _)); intro v692 w3 ho4 hb hg_ hnew_; clear hg_ hnew_; (first | rw [← Ny691.out] at ho4 | (simp only [Int.reduceToNat] at ho4; rw [← Ny691.out] at ho4)); have n0_ := Zaa.mk (Kd.Zb9 ho4 (Zal (by repeat (first | (with_reducible first | exact HB.out | apply Zac | apply Za | apply Zab) | exact HB.out)))); have n1_ := Zaa.mk (Zay (by repeat (first | (with_reducible first | exact HB.out | apply Zac | apply Za | apply Zab) | exact HB.out)) hb); clear HB; have HO693 := n0_; have HB := n1_; clear n0_ n1_; clear hb ho4))
 go_loopg [6, 7] k (fun kq v6 v7 w' => ∃ (x6_1 : List Int) (x7_1 : Int), v7 = .int .i64 x7_1 ∧ Zaa (Za7.l0 kq l0 l1 x6_1 x7_1 = some (r1, r2)) ∧ Zaa (kq ≤ k) ∧ Zaa (Kd.R (Kd.int .i64) 3 w' w.heap.size (fun _ => True) v6 x6_1) ∧ Zaa (Below w.heap.size w w'))
 case atStart => exact ⟨(y691), (0), (by first | rfl | (simp; done) | (simp [*]; done)), H', ⟨Nat.le_refl _⟩, ⟨by (with_reducible repeat (first | apply Kd.R_alloc | apply Kd.Zap | apply Kd.Zav)); exact HO693.out⟩, ⟨by repeat (first | (with_reducible first | exact HB.out | apply Zac | apply Za | apply Zab) | exact HB.out)⟩⟩
 case round =>
  clear H'
  try clear c1
  try clear p2
  try clear c3
  obtain ⟨x6_1, x7_1, rfl, HA, HK1, HO_6, HB⟩ := hrel
  cases gk with
  | zero => exact absurd HA.out (by simp [Za7.l0])
  | succ k1 =>
   have H := HA.out
   clear HA
   simp only [Za7.l0] at H
   by_cases c5 : x7_1 < (l0.length : Int)
   rotate_left
   ·rw [if_neg c5] at H
    have c5b0 : decide (x7_1 < (l0.length : Int)) = false := decide_eq_false c5
    clear c5
    simp only [Option.some.injEq, Prod.mk.injEq] at H
    obtain ⟨rfl, rfl⟩ := H
    go_wp2
    go_ret2
    exact ⟨_, by first | rfl | (simp [Za1, Za2] <;> rfl) | (simp [*, Za1, Za2] <;> rfl), by (with_reducible repeat (first | apply Kd.R_alloc | apply Kd.Zap | apply Kd.Zav)); exact HO_6.out, by repeat (first | (with_reducible first | exact HB.out | apply Zac | apply Za | apply Zab) | exact HB.out)⟩

   rw [if_pos c5] at H
   have c5b0 : decide (x7_1 < (l0.length : Int)) = true := decide_eq_true c5
   clear c5
   by_cases c6 : 0 ≤ x7_1
   rotate_left
   ·rw [if_neg c6] at H
    exact absurd H (by simp)
   rw [if_pos c6] at H
   have c6b0 : decide (0 ≤ x7_1) = true := decide_eq_true c6
   clear c6
   replace H := Option.bind_eq_some_iff.mp H
   obtain ⟨t695, A70, H⟩ := H
   replace H : (if (t695.length : Int) = 0 then (some ((([] : List Int)), false)) else (if x7_1 < (l1.length : Int) then (if 0 ≤ (Int.tmod (Go.bits .and .i64 (rd l1 x7_1) 65535) (t695.length : Int)) then (if (Int.tmod (Go.bits .and .i64 (rd l1 x7_1) 65535) (t695.length : Int)) < (t695.length : Int) then (if x6_1.length < 17592186044416 then (Za7.l0 k1 l0 l1 (x6_1 ++ [rd t695 (Int.tmod (Go.bits .and .i64 (rd l1 x7_1) 65535) (t695.length : Int))]) (wrap64 (x7_1 + 1))) else (none)) else (none)) else (none)) else (if 0 ≤ (Int.tmod x7_1 (t695.length : Int)) then (if (Int.tmod x7_1 (t695.length : Int)) < (t695.length : Int) then (if x6_1.length < 17592186044416 then (Za7.l0 k1 l0 l1 (x6_1 ++ [rd t695 (Int.tmod x7_1 (t695.length : Int))]) (wrap64 (x7_1 + 1))) else (none)) else (none)) else (none)))) = some (r1, r2) := H
   have A7 := Zaa.mk A70
   clear A70
   by_cases c8 : (t695.length : Int) = 0
   ·rw [if_pos c8] at H
    have c8b0 : ((t695.length : Int) == 0) = true := beq_iff_eq.mpr c8
    have c8b1 : ((t695.length : Int) != 0) = false := bne_eq_false_iff_eq.mpr c8
    clear c8
    obtain ⟨y698, hy698⟩ : ∃ y_ : List Int, y_ = (([] : List Int)) := ⟨_, rfl⟩
    replace H : (some (y698, false)) = some (r1, r2) := by first | (rw [hy698]; with_reducible exact H) | (have H2_ := (Option.bind_some _ _).symm.trans H; rw [hy698]; with_reducible exact H2_) | (have H2_ := (Option.bind_some _ _).symm.trans H; with_reducible exact H2_) | with_reducible exact H | (rw [hy698]; exact H) | exact H
    have Ny698 := Zaa.mk hy698
    clear hy698
    simp only [Option.some.injEq, Prod.mk.injEq] at H
    obtain ⟨rfl, rfl⟩ := H
    have p694 : 0 ≤ (x7_1 : Int) := of_decide_eq_true (by first | (with_reducible assumption) | assumption)
    have q694 : x7_1 < (l0.length : Int) := of_decide_eq_true (by first | (with_reducible assumption) | assumption)
    obtain ⟨ad694, A694_0, c694_0, e694, hx694_0, hl694_0, hi694_0⟩ := Zfb HR0.out x7_1 p694 q694
    cases e694
    replace hx694_0 := (HB.out.cell (World.block_lt_of_cell? w _ hx694_0)).trans hx694_0
    have HR694_0 := Zaa.mk hi694_0
    have HC694_0 := Zaa.mk hl694_0
    clear hi694_0 hl694_0
    replace p694 := eq_true p694
    replace q694 := eq_true q694
    go_wp2_with (first | ((with_reducible refine Zbn (f := 29) rfl ?_); refine Zcf (some 21) rfl rfl Try.func29 (by kernel_rfl) rfl #[.slice A694_0 (Zcn l0 x7_1).length c694_0] rfl (by (try simp only [List.map_toArray, List.map_cons, List.map_nil]); first | done | rfl | (simp only [List.length_drop, List.length_take]; rfl)) ?_; (with_reducible refine (Zak.calls k1 _ _ (Zcn l0 x7_1) t695 _ ?side1 ?side2 A7.out).mono ?_); (case side1 => repeat (first | exact (Kd.Zbj HR694_0.out HB.out) | (with_reducible refine Kd.C_alloc ?_ _) | (with_reducible refine Kd.Za0 ?_ _) | (with_reducible refine Kd.C_drew ?_))); (case side2 => exact HC694_0.out); rintro e w9 ⟨v696, rfl, ho0, hb⟩; refine ⟨_, rfl, ?_⟩; have n0_ := Zaa.mk (Kd.Zcs (by (with_reducible repeat (first | apply Kd.R_alloc | apply Kd.Zap | apply Kd.Zav)); exact HO_6.out) (Kd.Zco ho0) hb); have n1_ := Zaa.mk (Kd.Zb9 (Kd.Zc8 ho0 (Kd.R_lt (by (with_reducible repeat (first | apply Kd.R_alloc | apply Kd.Zap | apply Kd.Zav)); exact HO_6.out))) (Zal (by repeat (first | (with_reducible first | exact HB.out | apply Zac | apply Za | apply Zab) | exact HB.out)))); have n2_ := Zaa.mk (Zay (by repeat (first | (with_reducible first | exact HB.out | apply Zac | apply Za | apply Zab) | exact HB.out)) hb); clear HO_6; clear HB; have HO_6 := n0_; have HO697 := n1_; have HB := n2_; clear n0_ n1_ n2_; (try clear hb); (try clear hb2); (try clear hk); (try clear hi); (try clear ho0); obtain ⟨Ao10, co10, eo10⟩ := Kd.Zcb HO697.out; subst eo10) | ((with_reducible refine Zb2 (N := 25) rfl ?_); refine Kd.Zdu (Kd.int .i64) _ 3 ?hg (N := 25) ?hd (xs := ([] : List Int)) (inner := []) (ok := fun _ => True) (okp := fun _ => True) ?hr ?hp (fun _ hk => hk) trivial (Below.refl _ _) (Nat.le_refl _) (by simp) ?_; (case hd => rfl); (case hg => rfl); (case hr => first | (go_simp; done) | (go_simp; rfl)); (case hp => exact (Reps.none _ _)); intro v699 w11 ho12 hb hg_ hnew_; clear hg_ hnew_; (first | rw [← Ny698.out] at ho12 | (simp only [Int.reduceToNat] at ho12; rw [← Ny698.out] at ho12)); have n0_ := Zaa.mk (Kd.Zcs (by (with_reducible repeat (first | apply Kd.R_alloc | apply Kd.Zap | apply Kd.Zav)); exact HO_6.out) (Kd.Zco ho12) hb); have n1_ := Zaa.mk (Kd.Zcs (by (with_reducible repeat (first | apply Kd.R_alloc | apply Kd.Zap | apply Kd.Zav)); exact HO697.out) (Kd.Zco ho12) hb); have n2_ := Zaa.mk (Kd.Zb9 (Kd.Zc8 (Kd.Zc8 ho12 (Kd.R_lt (by (with_reducible repeat (first | apply Kd.R_alloc | apply Kd.Zap | apply Kd.Zav)); exact HO_6.out))) (Kd.R_lt (by (with_reducible repeat (first | apply Kd.R_alloc | apply Kd.Zap | apply Kd.Zav)); exact HO697.out))) (Zal (by repeat (first | (with_reducible first | exact HB.out | apply Zac | apply Za | apply Zab) | exact HB.out)))); have n3_ := Zaa.mk (Zay (by repeat (first | (with_reducible first | exact HB.out | apply Zac | apply Za | apply Zab) | exact HB.out)) hb); clear HO_6; clear HO697; clear HB; have HO_6 := n0_; have HO697 := n1_; have HO700 := n2_; have HB := n3_; clear n0_ n1_ n2_ n3_; clear hb ho12))
    go_ret2
    exact ⟨_, by first | rfl | (simp [Za1, Za2] <;> rfl) | (simp [*, Za1, Za2] <;> rfl), by (with_reducible repeat (first | apply Kd.R_alloc | apply Kd.Zap | apply Kd.Zav)); exact Kd.Zbs HO700.out (fun _ hk => trivial), by repeat (first | (with_reducible first | exact HB.out | apply Zac | apply Za | apply Zab) | exact HB.out)⟩
   rw [if_neg c8] at H
   have c8b0 : ((t695.length : Int) == 0) = false := beq_eq_false_iff_ne.mpr c8
   have c8b1 : ((t695.length : Int) != 0) = true := bne_iff_ne.mpr c8
   have c8b2 : ¬ (t695 = []) := fun h_ => c8 (by rw [h_]; rfl)
   by_cases c13 : x7_1 < (l1.length : Int)
   rotate_left
   ·rw [if_neg c13] at H
    have c13b0 : decide (x7_1 < (l1.length : Int)) = false := decide_eq_false c13
    clear c13
    obtain ⟨ji21, hji21⟩ : ∃ j_ : Int, (Int.tmod x7_1 (t695.length : Int)) = j_ := ⟨_, rfl⟩
    replace H : (if 0 ≤ (ji21) then (if (ji21) < (t695.length : Int) then (if x6_1.length < 17592186044416 then (Za7.l0 k1 l0 l1 (x6_1 ++ [rd t695 (ji21)]) (wrap64 (x7_1 + 1))) else (none)) else (none)) else (none)) = some (r1, r2) := by first | (rw [hji21] at H; exact H) | (simp only [hji21] at H ⊢; exact H)
    (try rw [hji21] at A7)
    by_cases c22 : 0 ≤ (ji21)
    rotate_left
    ·rw [if_neg c22] at H
     exact absurd H (by simp)
    rw [if_pos c22] at H
    have c22b0 : decide (0 ≤ (ji21)) = true := decide_eq_true c22
    clear c22
    by_cases c23 : (ji21) < (t695.length : Int)
    rotate_left
    ·rw [if_neg c23] at H
     exact absurd H (by simp)
    rw [if_pos c23] at H
    have c23b0 : decide ((ji21) < (t695.length : Int)) = true := decide_eq_true c23
    clear c23
    by_cases c24 : x6_1.length < 17592186044416
    rotate_left
    ·rw [if_neg c24] at H
     exact absurd H (by simp)
    rw [if_pos c24] at H
    have LMc24 := Zaa.mk c24
    clear c24
    obtain ⟨y707, hy707⟩ : ∃ y_ : List Int, y_ = (x6_1 ++ [rd t695 (ji21)]) := ⟨_, rfl⟩
    replace H : (Za7.l0 k1 l0 l1 y707 (wrap64 (x7_1 + 1))) = some (r1, r2) := by first | (rw [hy707]; with_reducible exact H) | (have H2_ := (Option.bind_some _ _).symm.trans H; rw [hy707]; with_reducible exact H2_) | (have H2_ := (Option.bind_some _ _).symm.trans H; with_reducible exact H2_) | with_reducible exact H | (rw [hy707]; exact H) | exact H
    have Ny707 := Zaa.mk hy707
    clear hy707
    have H' := Zaa.mk H
    clear H
    have p694 : 0 ≤ (x7_1 : Int) := of_decide_eq_true (by first | (with_reducible assumption) | assumption)
    have q694 : x7_1 < (l0.length : Int) := of_decide_eq_true (by first | (with_reducible assumption) | assumption)
    obtain ⟨ad694, A694_0, c694_0, e694, hx694_0, hl694_0, hi694_0⟩ := Zfb HR0.out x7_1 p694 q694
    cases e694
    replace hx694_0 := (HB.out.cell (World.block_lt_of_cell? w _ hx694_0)).trans hx694_0
    have HR694_0 := Zaa.mk hi694_0
    have HC694_0 := Zaa.mk hl694_0
    clear hi694_0 hl694_0
    replace p694 := eq_true p694
    replace q694 := eq_true q694
    go_wp2_with (first | ((with_reducible refine Zbn (f := 29) rfl ?_); refine Zcf (some 21) rfl rfl Try.func29 (by kernel_rfl) rfl #[.slice A694_0 (Zcn l0 x7_1).length c694_0] rfl (by (try simp only [List.map_toArray, List.map_cons, List.map_nil]); first | done | rfl | (simp only [List.length_drop, List.length_take]; rfl)) ?_; (with_reducible refine (Zak.calls k1 _ _ (Zcn l0 x7_1) t695 _ ?side1 ?side2 A7.out).mono ?_); (case side1 => repeat (first | exact (Kd.Zbj HR694_0.out HB.out) | (with_reducible refine Kd.C_alloc ?_ _) | (with_reducible refine Kd.Za0 ?_ _) | (with_reducible refine Kd.C_drew ?_))); (case side2 => exact HC694_0.out); rintro e w25 ⟨v696, rfl, ho0, hb⟩; refine ⟨_, rfl, ?_⟩; have n0_ := Zaa.mk (Kd.Zcs (by (with_reducible repeat (first | apply Kd.R_alloc | apply Kd.Zap | apply Kd.Zav)); exact HO_6.out) (Kd.Zco ho0) hb); have n1_ := Zaa.mk (Kd.Zb9 (Kd.Zc8 ho0 (Kd.R_lt (by (with_reducible repeat (first | apply Kd.R_alloc | apply Kd.Zap | apply Kd.Zav)); exact HO_6.out))) (Zal (by repeat (first | (with_reducible first | exact HB.out | apply Zac | apply Za | apply Zab) | exact HB.out)))); have n2_ := Zaa.mk (Zay (by repeat (first | (with_reducible first | exact HB.out | apply Zac | apply Za | apply Zab) | exact HB.out)) hb); clear HO_6; clear HB; have HO_6 := n0_; have HO697 := n1_; have HB := n2_; clear n0_ n1_ n2_; (try clear hb); (try clear hb2); (try clear hk); (try clear hi); (try clear ho0); obtain ⟨Ao26, co26, eo26⟩ := Kd.Zcb HO697.out; subst eo26; have p706 : 0 ≤ ((ji21) : Int) := of_decide_eq_true (by first | (with_reducible assumption) | assumption); have q706 : (ji21) < (t695.length : Int) := of_decide_eq_true (by first | (with_reducible assumption) | assumption); obtain ⟨ad706, e706, hx706_0⟩ := Kd.Zb6 (Kd.Zbi HO697.out).2.2 (ji21) p706 q706; cases e706; replace p706 := eq_true p706; replace q706 := eq_true q706) | ((with_reducible refine Zbt (b := .append) (xs := #[.tmp 36, .tmp 44]) rfl ?_); at_builtin; refine Kd.Zcj (Kd.int .i64) (w0 := w) w.heap.size rfl (.tmp 36) (.tmp 44) 23 3 (.int .i64 0) 8 rfl Try.underlying23 info3 rfl (by decide) (by omega) u6 x6_1 (rd t695 (ji21)) [.int .i64 (rd t695 (ji21))] (fun k_ => some k_ ≠ (.slice (some ad706) t695.length co26 : Value).ownBlock) (fun _ => False) rfl rfl ?aP (fun _ hk => hk.elim) ?aF ?aO ?aB ?aS ?aL ?_; (case aP => exact rfl); (case aB => exact (by repeat (first | (with_reducible first | exact HB.out | apply Zac | apply Za | apply Zab) | exact HB.out))); (case aF => exact (fun k_ hk => Kd.fresh' (Kd.R_lt (by (with_reducible repeat (first | apply Kd.R_alloc | apply Kd.Zap | apply Kd.Zav)); exact HO697.out)) k_ hk)); (case aO => exact (by (with_reducible repeat (first | apply Kd.R_alloc | apply Kd.Zap | apply Kd.Zav)); exact Kd.Zbs HO_6.out (fun _ hk => hk.2))); (case aS => exact (Zal (by repeat (first | (with_reducible first | exact HB.out | apply Zac | apply Za | apply Zab) | exact HB.out)))); (case aL => have := LMc24.out; omega); intro v708 w27 ho hb hg hat; rw [← Ny707.out] at ho; have n0_ := Zaa.mk (Kd.Zct (ok := (fun _ => True)) (by (with_reducible repeat (first | apply Kd.R_alloc | apply Kd.Zap | apply Kd.Zav)); exact HO697.out) hg hat); have n1_ := Zaa.mk (hb); have n2_ := Zaa.mk (ho); clear HO697; clear HB; clear HO_6; have HO697 := n0_; have HB := n1_; have HO709 := n2_; clear n0_ n1_ n2_; clear ho hb hg hat))
    go_roundg k1
    case measure => have := HK1.out; omega
    case rel => exact ⟨(y707), (wrap64 (x7_1 + 1)), (by first | rfl | (simp; done) | (simp [*]; done)), H', ⟨by have := HK1.out; omega⟩, ⟨by (with_reducible repeat (first | apply Kd.R_alloc | apply Kd.Zap | apply Kd.Zav)); exact Kd.Zbs HO709.out (fun _ hk => trivial)⟩, ⟨by repeat (first | (with_reducible first | exact HB.out | apply Zac | apply Za | apply Zab) | exact HB.out)⟩⟩
   rw [if_pos c13] at H
   have c13b0 : decide (x7_1 < (l1.length : Int)) = true := decide_eq_true c13
   clear c13
   obtain ⟨ji14, hji14⟩ : ∃ j_ : Int, (Int.tmod (Go.bits .and .i64 (rd l1 x7_1) 65535) (t695.length : Int)) = j_ := ⟨_, rfl⟩
   replace H : (if 0 ≤ (ji14) then (if (ji14) < (t695.length : Int) then (if x6_1.length < 17592186044416 then (Za7.l0 k1 l0 l1 (x6_1 ++ [rd t695 (ji14)]) (wrap64 (x7_1 + 1))) else (none)) else (none)) else (none)) = some (r1, r2) := by first | (rw [hji14] at H; exact H) | (simp only [hji14] at H ⊢; exact H)
   (try rw [hji14] at A7)
   by_cases c15 : 0 ≤ (ji14)
   rotate_left
   ·rw [if_neg c15] at H
    exact absurd H (by simp)
   rw [if_pos c15] at H
   have c15b0 : decide (0 ≤ (ji14)) = true := decide_eq_true c15
   clear c15
   by_cases c16 : (ji14) < (t695.length : Int)
   rotate_left
   ·rw [if_neg c16] at H
    exact absurd H (by simp)
   rw [if_pos c16] at H
   have c16b0 : decide ((ji14) < (t695.length : Int)) = true := decide_eq_true c16
   clear c16
   by_cases c17 : x6_1.length < 17592186044416
   rotate_left
   ·rw [if_neg c17] at H
    exact absurd H (by simp)
   rw [if_pos c17] at H
   have LMc17 := Zaa.mk c17
   clear c17
   obtain ⟨y703, hy703⟩ : ∃ y_ : List Int, y_ = (x6_1 ++ [rd t695 (ji14)]) := ⟨_, rfl⟩
   replace H : (Za7.l0 k1 l0 l1 y703 (wrap64 (x7_1 + 1))) = some (r1, r2) := by first | (rw [hy703]; with_reducible exact H) | (have H2_ := (Option.bind_some _ _).symm.trans H; rw [hy703]; with_reducible exact H2_) | (have H2_ := (Option.bind_some _ _).symm.trans H; with_reducible exact H2_) | with_reducible exact H | (rw [hy703]; exact H) | exact H
   have Ny703 := Zaa.mk hy703
   clear hy703
   have H' := Zaa.mk H
   clear H
   have p694 : 0 ≤ (x7_1 : Int) := of_decide_eq_true (by first | (with_reducible assumption) | assumption)
   have q694 : x7_1 < (l0.length : Int) := of_decide_eq_true (by first | (with_reducible assumption) | assumption)
   obtain ⟨ad694, A694_0, c694_0, e694, hx694_0, hl694_0, hi694_0⟩ := Zfb HR0.out x7_1 p694 q694
   cases e694
   replace hx694_0 := (HB.out.cell (World.block_lt_of_cell? w _ hx694_0)).trans hx694_0
   have HR694_0 := Zaa.mk hi694_0
   have HC694_0 := Zaa.mk hl694_0
   clear hi694_0 hl694_0
   replace p694 := eq_true p694
   replace q694 := eq_true q694
   go_wp2_with (first | ((with_reducible refine Zbn (f := 29) rfl ?_); refine Zcf (some 21) rfl rfl Try.func29 (by kernel_rfl) rfl #[.slice A694_0 (Zcn l0 x7_1).length c694_0] rfl (by (try simp only [List.map_toArray, List.map_cons, List.map_nil]); first | done | rfl | (simp only [List.length_drop, List.length_take]; rfl)) ?_; (with_reducible refine (Zak.calls k1 _ _ (Zcn l0 x7_1) t695 _ ?side1 ?side2 A7.out).mono ?_); (case side1 => repeat (first | exact (Kd.Zbj HR694_0.out HB.out) | (with_reducible refine Kd.C_alloc ?_ _) | (with_reducible refine Kd.Za0 ?_ _) | (with_reducible refine Kd.C_drew ?_))); (case side2 => exact HC694_0.out); rintro e w18 ⟨v696, rfl, ho0, hb⟩; refine ⟨_, rfl, ?_⟩; have n0_ := Zaa.mk (Kd.Zcs (by (with_reducible repeat (first | apply Kd.R_alloc | apply Kd.Zap | apply Kd.Zav)); exact HO_6.out) (Kd.Zco ho0) hb); have n1_ := Zaa.mk (Kd.Zb9 (Kd.Zc8 ho0 (Kd.R_lt (by (with_reducible repeat (first | apply Kd.R_alloc | apply Kd.Zap | apply Kd.Zav)); exact HO_6.out))) (Zal (by repeat (first | (with_reducible first | exact HB.out | apply Zac | apply Za | apply Zab) | exact HB.out)))); have n2_ := Zaa.mk (Zay (by repeat (first | (with_reducible first | exact HB.out | apply Zac | apply Za | apply Zab) | exact HB.out)) hb); clear HO_6; clear HB; have HO_6 := n0_; have HO697 := n1_; have HB := n2_; clear n0_ n1_ n2_; (try clear hb); (try clear hb2); (try clear hk); (try clear hi); (try clear ho0); obtain ⟨Ao19, co19, eo19⟩ := Kd.Zcb HO697.out; subst eo19; have p701 : 0 ≤ (x7_1 : Int) := of_decide_eq_true (by first | (with_reducible assumption) | assumption); have q701 : x7_1 < (l1.length : Int) := of_decide_eq_true (by first | (with_reducible assumption) | assumption); obtain ⟨ad701, e701, hx701_0⟩ := Kd.Zb6 HR1.out x7_1 p701 q701; cases e701; replace hx701_0 := (HB.out.cell (World.block_lt_of_cell? w _ hx701_0)).trans hx701_0; replace p701 := eq_true p701; replace q701 := eq_true q701; have p702 : 0 ≤ ((ji14) : Int) := of_decide_eq_true (by first | (with_reducible assumption) | assumption); have q702 : (ji14) < (t695.length : Int) := of_decide_eq_true (by first | (with_reducible assumption) | assumption); obtain ⟨ad702, e702, hx702_0⟩ := Kd.Zb6 (Kd.Zbi HO697.out).2.2 (ji14) p702 q702; cases e702; replace p702 := eq_true p702; replace q702 := eq_true q702) | ((with_reducible refine Zbt (b := .append) (xs := #[.tmp 36, .tmp 44]) rfl ?_); at_builtin; refine Kd.Zcj (Kd.int .i64) (w0 := w) w.heap.size rfl (.tmp 36) (.tmp 44) 23 3 (.int .i64 0) 8 rfl Try.underlying23 info3 rfl (by decide) (by omega) u6 x6_1 (rd t695 (ji14)) [.int .i64 (rd t695 (ji14))] (fun k_ => some k_ ≠ (.slice (some ad702) t695.length co19 : Value).ownBlock) (fun _ => False) rfl rfl ?aP (fun _ hk => hk.elim) ?aF ?aO ?aB ?aS ?aL ?_; (case aP => exact rfl); (case aB => exact (by repeat (first | (with_reducible first | exact HB.out | apply Zac | apply Za | apply Zab) | exact HB.out))); (case aF => exact (fun k_ hk => Kd.fresh' (Kd.R_lt (by (with_reducible repeat (first | apply Kd.R_alloc | apply Kd.Zap | apply Kd.Zav)); exact HO697.out)) k_ hk)); (case aO => exact (by (with_reducible repeat (first | apply Kd.R_alloc | apply Kd.Zap | apply Kd.Zav)); exact Kd.Zbs HO_6.out (fun _ hk => hk.2))); (case aS => exact (Zal (by repeat (first | (with_reducible first | exact HB.out | apply Zac | apply Za | apply Zab) | exact HB.out)))); (case aL => have := LMc17.out; omega); intro v704 w20 ho hb hg hat; rw [← Ny703.out] at ho; have n0_ := Zaa.mk (Kd.Zct (ok := (fun _ => True)) (by (with_reducible repeat (first | apply Kd.R_alloc | apply Kd.Zap | apply Kd.Zav)); exact HO697.out) hg hat); have n1_ := Zaa.mk (hb); have n2_ := Zaa.mk (ho); clear HO697; clear HB; clear HO_6; have HO697 := n0_; have HB := n1_; have HO705 := n2_; clear n0_ n1_ n2_; clear ho hb hg hat))
   go_roundg k1
   case measure => have := HK1.out; omega
   case rel => exact ⟨(y703), (wrap64 (x7_1 + 1)), (by first | rfl | (simp; done) | (simp [*]; done)), H', ⟨by have := HK1.out; omega⟩, ⟨by (with_reducible repeat (first | apply Kd.R_alloc | apply Kd.Zap | apply Kd.Zav)); exact Kd.Zbs HO705.out (fun _ hk => trivial)⟩, ⟨by repeat (first | (with_reducible first | exact HB.out | apply Zac | apply Za | apply Zab) | exact HB.out)⟩⟩
end Go.Proofs.Ytpbcigilipdedaa.P
/- Plain: rows that may be; whether a table holds; values picked of domains. -/
namespace Go.Proofs.Ytpbcigilipdedaa.P
open Go.RowKit Go.Proofs.YtpbcigilipdedaaW.PrintWords Go.Proofs.YtpbcigilipdedaaW.PrintLast Go.Proofs.YtpbcigilipdedaaW.PrintMore
set_option linter.unusedVariables false
set_option linter.unusedSimpArgs false

/-! ### Values of variables -/
def at0 (a : List Int) (v : Int) : Int := if v < 0 then 0 else rd a v
theorem at_f (a : List Int) (v : Int) : Zce.f a v = some (at0 a v) := by
  unfold Zce.f at0
  by_cases h : v < 0
  · rw [if_pos h, if_pos h]
  rw [if_neg h, if_neg h]
  by_cases h2 : v ≥ (a.length : Int)
  rotate_left
  · rw [if_neg h2, if_pos (by omega), if_pos (by omega)]
  rw [if_pos h2]
  have : rd a v = 0 := by
    unfold rd
    rw [List.getD_eq_getElem?_getD, List.getElem?_eq_none (by omega)]
    rfl
  rw [this]
theorem picked_l0 (vars a : List Int) (hv : vars.length < 17592186044416) : ∀ (m n : Nat), n + m = vars.length → Ev (fun k => Zaz.l0 k vars a ((vars.take n).map (at0 a)) (n : Int)) (vars.map (at0 a)) := by
  intro m
  induction m with
  | zero =>
    intro n h
    rw [List.take_of_length_le (by omega)]
    exact Ev.step (fun k => by rw [Zaz.l0, if_neg (by omega)]) (Ev.pure _)
  | succ m ih =>
    intro n h
    have hn : n < vars.length := by omega
    have hstep := ih (n + 1) (by omega)
    rw [List.take_succ_eq_append_getElem hn, List.map_append] at hstep
    refine Ev.step (fun k => by rw [Zaz.l0, if_pos (by omega), if_pos (by omega), Zck vars n hn, at_f, Option.bind_some, if_pos (by rw [List.length_map, List.length_take]; omega), w1 (by omega)]; rfl) hstep
theorem picked_ev (vars a : List Int) (hv : vars.length < 17592186044416) : Ev (fun k => Zaz.f k vars a) (vars.map (at0 a)) := picked_l0 vars a hv vars.length 0 (by omega)
theorem sum_nil (vars a : List Int) : Ev (fun k => Za9.f k vars [] a) 0 := by
  unfold Za9.f
  by_cases h : (0 : Int) < (vars.length : Int)
  rotate_left
  · exact Ev.step (fun k => by rw [Za9.l0, if_neg h]) (Ev.pure _)
  exact Ev.step (fun k => by rw [Za9.l0, if_pos h, if_neg (show ¬ ((0 : Int) < (([] : List Int).length : Int)) from Int.lt_irrefl 0)]) (Ev.pure _)
theorem held_some (op s rhs : Int) : ∃ b, Zc.f op s rhs = some b := by
  unfold Zc.f
  split
  · exact ⟨_, rfl⟩
  exact ⟨_, rfl⟩
theorem holdsT_l0 (l : List Int) (kd : Int) (vars coefs : List Int) (op rhs : Int) (rows : List (List Int)) (b : Int) (hr : rows.length < 4611686018427387904) (hin : ∀ x ∈ rows, x.length < 4611686018427387904) : ∀ (m n : Nat), n + m = rows.length →
    Ev (fun k => Zba.l0 k l (n : Int) kd vars coefs op rhs rows b) (decide (l ∈ rows.drop n)) := by
  intro m
  induction m with
  | zero =>
    intro n h
    rw [List.drop_of_length_le (by omega)]
    exact Ev.step (G := fun _ => some false) (fun k => by rw [Zba.l0, if_neg (by omega)]) (Ev.const (by simp))
  | succ m ih =>
    intro n h
    have hn : n < rows.length := by omega
    rw [List.drop_eq_getElem_cons hn]
    refine Ev.step (fun k => by rw [Zba.l0, if_pos (by omega), if_pos (by omega), Zdq rows n hn, w1 (by omega)]) (Ev.bind (ref_Nums rows[n] l (hin _ (List.getElem_mem hn))) ?_)
    by_cases e : rows[n] = l
    · have e2 : decide (l ∈ rows[n] :: rows.drop (n + 1)) = true := by simp [e]
      rw [e2]
      simp only [e, decide_true, if_true]
      exact Ev.pure _
    have e2 : decide (l ∈ rows[n] :: rows.drop (n + 1)) = decide (l ∈ rows.drop (n + 1)) := decide_eq_decide.2 (by rw [List.mem_cons]; exact ⟨fun h => h.elim (fun h => absurd h.symm e) id, .inr⟩)
    rw [e2]
    simp only [e, decide_false, Bool.false_eq_true, if_false]
    exact ih (n + 1) (by omega)
theorem holdsT_ev (vars : List Int) (op rhs : Int) (rows : List (List Int)) (b : Int) (a : List Int) (hv : vars.length < 17592186044416) (hr : rows.length < 4611686018427387904) (hin : ∀ x ∈ rows, x.length < 4611686018427387904) :
    Ev (fun k => Zba.f k 2 vars [] op rhs rows b a) (decide (vars.map (at0 a) ∈ rows)) := by
  obtain ⟨hb, hh⟩ := held_some op 0 rhs
  unfold Zba.f
  refine Ev.bind (picked_ev vars a hv) (Ev.bind (sum_nil vars a) ?_)
  refine Ev.eq (fun k => by rw [hh, Option.bind_some]) ?_
  refine Ev.Zc7 (by omega) (Ev.Zc7 (by omega) (Ev.Zcl rfl ?_))
  exact holdsT_l0 _ 2 vars [] op rhs rows b hr hin rows.length 0 (by omega)

/-! ### Rows that may be -/
def rowIn (d : List (List Rg)) (vars r : List Int) : Bool := (vars.zip r).all fun p => decide (Va (dv d p.1) p.2)
theorem rows_ev' (d : List (List Rg)) (kd : Int) (vars coefs : List Int) (op rhs : Int) (rows : List (List Int)) (b : Int) (hm : ∀ v ∈ vars, 0 ≤ v ∧ v < (d.length : Int)) (hv : vars.length < 4611686018427387904) (hr : rows.length < 1000000000) (hin : ∀ x ∈ rows, x.length = vars.length ∧ x.length < 17592186044416) : ∀ (m n : Nat) (out : List (List Int)), n + m = rows.length → out.length ≤ n →
    Ev (fun k => Za3.l0 k d out rows (rows.length : Int) (n : Int) kd vars coefs op rhs rows b) (out ++ (rows.drop n).filter (rowIn d vars)) := by
  intro m
  induction m with
  | zero =>
    intro n out h ho
    rw [List.drop_of_length_le (by omega)]
    exact Ev.step (fun k => by rw [Za3.l0, if_neg (by omega)]) (by simpa using Ev.pure _)
  | succ m ih =>
    intro n out h ho
    have hn : n < rows.length := by omega
    obtain ⟨hx1, hx2⟩ := hin _ (List.getElem_mem hn)
    rw [List.drop_eq_getElem_cons hn]
    have inner : ∀ (r q : Nat), q + r = vars.length → Ev (fun k => Za3.l1 k d out rows[n] rows (rows.length : Int) (n : Int) vars (vars.length : Int) (q : Int) kd vars coefs op rhs rows b)
        (if (((vars.drop q).zip (rows[n].drop q)).all fun p => decide (Va (dv d p.1) p.2)) = true then out ++ rows[n] :: (rows.drop (n + 1)).filter (rowIn d vars) else out ++ (rows.drop (n + 1)).filter (rowIn d vars)) := by
      intro r
      induction r with
      | zero =>
        intro q hq
        rw [List.drop_of_length_le (show vars.length ≤ q by omega), if_pos (by simp)]
        refine Ev.step (fun k => by rw [Za3.l1, if_neg (by omega), cloneI.f, if_pos hx2, Option.bind_some, if_pos (by omega), w1 (by omega)]) ?_
        have := ih (n + 1) (out ++ [rows[n]]) (by omega) (by simp; omega)
        simpa using this
      | succ r ihr =>
        intro q hq
        have hqv : q < vars.length := by omega
        have hqr : q < rows[n].length := by omega
        obtain ⟨m1, m2⟩ := hm _ (List.getElem_mem hqv)
        have hH : Ze.f (Zcn d vars[q]) rows[n][q] = some (decide (Va (dv d vars[q]) rows[n][q])) := Has_ev _ _
        refine Ev.step (fun k => by rw [Za3.l1, if_pos (by omega), if_pos (by omega), if_pos (by omega), Zck vars q hqv, if_pos m1, if_pos m2, if_pos (by omega), Zck _ q hqr, hH, Option.bind_some, w1 (by omega), w1 (by omega)]) ?_
        rw [List.drop_eq_getElem_cons hqv, List.drop_eq_getElem_cons hqr, List.zip_cons_cons, List.all_cons]
        cases hva : decide (Va (dv d vars[q]) rows[n][q]) with
        | true =>
          simp only [Bool.true_and, if_true]
          exact ihr (q + 1) (by omega)
        | false =>
          simp only [Bool.false_and, Bool.false_eq_true, if_false]
          exact ih (n + 1) out (by omega) (by omega)
    refine Ev.step (fun k => by rw [Za3.l0, if_pos (by omega), if_pos (by omega), if_pos (by omega), Zdq rows n hn]) ?_
    have := inner vars.length 0 (by omega)
    rw [List.filter_cons]
    unfold rowIn at this ⊢
    simp only [List.drop_zero] at this
    split at this
    · rename_i hp; rw [if_pos hp]; exact this
    rename_i hp; rw [if_neg hp]; exact this
theorem Rows_ev (d : List (List Rg)) (kd : Int) (vars coefs : List Int) (op rhs : Int) (rows : List (List Int)) (b : Int) (hm : ∀ v ∈ vars, 0 ≤ v ∧ v < (d.length : Int)) (hv : vars.length < 4611686018427387904) (hr : rows.length < 1000000000) (hin : ∀ x ∈ rows, x.length = vars.length ∧ x.length < 17592186044416) :
    Ev (fun k => Za3.f k d kd vars coefs op rhs rows b) (rows.filter (rowIn d vars)) := by
  have := rows_ev' d kd vars coefs op rhs rows b hm hv hr hin rows.length 0 [] (by omega) (by simp)
  rw [List.nil_append, List.drop_zero] at this
  exact this

/-! ### Pick -/
/-- A value of each. -/
def Picked (d : List (List Rg)) (a : List Int) : Prop := a.length = d.length ∧ ∀ i (h : i < a.length) (h' : i < d.length), Va d[i] a[i]
theorem pick_l0 (d : List (List Rg)) (a : List Int) (hd : Doms d) : ∀ (m n : Nat) (out : List Int), n + m = d.length → Picked (d.take n) out →
    ∃ r : List Int × Bool, Ev (fun k => Za7.l0 k d a out (n : Int)) r ∧ (r.2 = true → Picked d r.1) ∧ (r.2 = false → r.1 = [] ∧ ∃ x ∈ d, vals x = []) := by
  intro m
  induction m with
  | zero =>
    intro n out h hp
    rw [List.take_of_length_le (by omega)] at hp
    exact ⟨(out, true), Ev.step (fun k => by rw [Za7.l0, if_neg (by omega)]) (Ev.pure _), fun _ => hp, fun h => by cases h⟩
  | succ m ih =>
    intro n out h hp
    have hn : n < d.length := by omega
    have h64 := hd.1
    obtain ⟨g, hvl⟩ := hd.2 _ (List.getElem_mem hn)
    have hV := Zgd d[n] g (Int.le_refl _)
    have hol : out.length = n := by have := hp.1; rw [List.length_take] at this; omega
    by_cases h0 : vals d[n] = []
    · refine ⟨([], false), Ev.step (fun k => by rw [Za7.l0, if_pos (by omega), if_pos (by omega), Zfu d n hn]) (Ev.bind hV ?_), (fun h => by cases h), fun _ => ⟨rfl, _, List.getElem_mem hn, h0⟩⟩
      refine Ev.Zcl (by rw [h0]; rfl) ?_
      exact Ev.pure _
    have hpos : 0 < (vals d[n]).length := List.length_pos_iff.2 h0
    have next : ∀ q : Int, 0 ≤ q → q < ((vals d[n]).length : Int) → ∃ r : List Int × Bool, Ev (fun k => Za7.l0 k d a (out ++ [rd (vals d[n]) q]) ((n + 1 : Nat) : Int)) r ∧ (r.2 = true → Picked d r.1) ∧ (r.2 = false → r.1 = [] ∧ ∃ x ∈ d, vals x = []) := fun q hq0 hq1 => by
      obtain ⟨j, rfl⟩ := Int.eq_ofNat_of_zero_le hq0
      have hj : j < (vals d[n]).length := by omega
      rw [Zck _ j hj]
      refine ih (n + 1) _ (by omega) ⟨by simp; omega, fun i h1 h2 => ?_⟩
      by_cases hi : i < n
      · have := hp.2 i (by omega) (by rw [List.length_take]; omega)
        rw [List.getElem_append_left (by omega)]
        simpa using this
      have hin : i = n := by simp at h1; omega
      subst hin
      rw [List.getElem_append_right (by omega)]
      simp only [hol, Nat.sub_self, List.getElem_cons_zero, List.getElem_take]
      exact (Zds _ _).1 (List.getElem_mem hj)
    by_cases hna : n < a.length
    rotate_left
    · obtain ⟨t0, t1⟩ := tmod_in (n := (n : Int)) (m := (vals d[n]).length) (by omega) hpos
      obtain ⟨r, hr, h1⟩ := next _ t0 t1
      refine ⟨r, Ev.step (fun k => by rw [Za7.l0, if_pos (by omega), if_pos (by omega), Zfu d n hn]) (Ev.bind hV ?_), h1⟩
      refine Ev.Zc7 (by omega) ?_
      refine Ev.Zc7 (by omega) ?_
      refine Ev.Zcl t0 ?_
      refine Ev.Zcl t1 ?_
      refine Ev.Zcl (by omega) ?_
      simp only [w1 (show n < 4611686018427387904 by omega)]
      exact hr
    obtain ⟨b0, b1⟩ := and16 (rd a (n : Int))
    obtain ⟨t0, t1⟩ := tmod_in (m := (vals d[n]).length) b0 hpos
    obtain ⟨r, hr, h1⟩ := next _ t0 t1
    refine ⟨r, Ev.step (fun k => by rw [Za7.l0, if_pos (by omega), if_pos (by omega), Zfu d n hn]) (Ev.bind hV ?_), h1⟩
    refine Ev.Zc7 (by omega) ?_
    refine Ev.Zcl (by omega) ?_
    refine Ev.Zcl t0 ?_
    refine Ev.Zcl t1 ?_
    refine Ev.Zcl (by omega) ?_
    simp only [w1 (show n < 4611686018427387904 by omega)]
    exact hr
theorem pick_ev (d : List (List Rg)) (a : List Int) (hd : Doms d) : ∃ r : List Int × Bool, Ev (fun k => Za7.f k d a) r ∧ (r.2 = true → Picked d r.1) ∧ (r.2 = false → r.1 = [] ∧ ∃ x ∈ d, vals x = []) :=
  pick_l0 d a hd d.length 0 [] (by omega) ⟨by simp, fun i h => absurd h (by simp)⟩
end Go.Proofs.Ytpbcigilipdedaa.P
