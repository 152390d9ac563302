/- Proved: what each function of the program that the statements of this seat reach comes to, for whatever memory and arguments it is called with (on condition that its plain text tells a result). -/
import Derived.Test.YtpbcigilipdedaaZ1
import Derived.Test.YtpbcigilipdedaaZ3
import Derived.Test.YtpbcigilipdedaaZ2
import Derived.Laws.BitsLemmas
namespace Go.Proofs.Ytpbcigilipdedaa.P
open Go.RowKit Go.Proofs.YtpbcigilipdedaaW.PrintWords Go.Proofs.YtpbcigilipdedaaW.PrintLast Go.Proofs.YtpbcigilipdedaaW.PrintMore
attribute [local go_sem] Zcg Zci Zcr Zcs Zb7 Zb8 Zch Zcj
set_option linter.unusedVariables false
set_option linter.unusedSimpArgs false
def Zap.l0 : Nat → Int → List (List (S41)) → Int → List (List Int) → Int → List Int → List Int → Int → Int → List (List Int) → Int → List Int → List Int → Option ((List (List (S41))) × Int × List Int × List Int × Int × Int × (List (List Int)) × Int × Bool)
 | 0, _, _, _, _, _, _, _, _, _, _, _, _, _ => none
 | k + 1, x1, x7, x8, x251000, x251001, x251002, x251003, x251004, x251005, x251006, x251007, x251008, x251009 => if x8 < (x251000.length : Int) then (if x8 < 4 then (if 0 ≤ x8 then (if 0 ≤ (mn ((Zbt x251000 x8).length : Int) 6) then (if (mn ((Zbt x251000 x8).length : Int) 6) ≤ ((Zbt x251000 x8).length : Int) then ((Zbf.f k ((Zbt x251000 x8).take ((mn ((Zbt x251000 x8).length : Int) 6) : Int).toNat)).bind fun t258 => (if x7.length < 5864062014805 then (Zap.l0 k x1 (x7 ++ [t258]) (wrap64 (x8 + 1)) x251000 x251001 x251002 x251003 x251004 x251005 x251006 x251007 x251008 x251009) else (none))) else (none)) else (none)) else (none)) else ((Zbd.f k x251001 x251002 x251003 x251004 x251005 x251006 x251007).bind fun bt264 => (if 0 ≤ (mn (bt264.2.2.2.2.2.1.length : Int) 20) then (if (mn (bt264.2.2.2.2.2.1.length : Int) 20) ≤ (bt264.2.2.2.2.2.1.length : Int) then ((some (bt264.2.2.2.2.2.1.take ((mn (bt264.2.2.2.2.2.1.length : Int) 20) : Int).toNat : List (List Int))).bind fun y278 => ((Zat.f k x7 x1 bt264.2.1 bt264.2.2.1 bt264.2.2.2.1 bt264.2.2.2.2.1 y278 bt264.2.2.2.2.2.2).bind fun t281 => (some (x7, x1, bt264.2.1, bt264.2.2.1, bt264.2.2.2.1, bt264.2.2.2.2.1, y278, bt264.2.2.2.2.2.2, (t281 == 0))))) else (none)) else (none)))) else ((Zbd.f k x251001 x251002 x251003 x251004 x251005 x251006 x251007).bind fun bt282 => (if 0 ≤ (mn (bt282.2.2.2.2.2.1.length : Int) 20) then (if (mn (bt282.2.2.2.2.2.1.length : Int) 20) ≤ (bt282.2.2.2.2.2.1.length : Int) then ((some (bt282.2.2.2.2.2.1.take ((mn (bt282.2.2.2.2.2.1.length : Int) 20) : Int).toNat : List (List Int))).bind fun y296 => ((Zat.f k x7 x1 bt282.2.1 bt282.2.2.1 bt282.2.2.2.1 bt282.2.2.2.2.1 y296 bt282.2.2.2.2.2.2).bind fun t299 => (some (x7, x1, bt282.2.1, bt282.2.2.1, bt282.2.2.2.1, bt282.2.2.2.2.1, y296, bt282.2.2.2.2.2.2, (t299 == 0))))) else (none)) else (none)))
def Zap.f (k : Nat) (l0_0 : List (List Int)) (a0_1 : Int) (l0_2 : List Int) (l0_3 : List Int) (a0_4 : Int) (a0_5 : Int) (l0_6 : List (List Int)) (a0_7 : Int) (l0_8 : List Int) (l0_9 : List Int) (a1 : Int) : Option ((List (List (S41))) × Int × List Int × List Int × Int × Int × (List (List Int)) × Int × Bool) := Zap.l0 k a1 (([] : List (List (S41)))) 0 l0_0 a0_1 l0_2 l0_3 a0_4 a0_5 l0_6 a0_7 l0_8 l0_9
def Zap.T5 : Bool × List (List Nat × List Nat) := (true, [([], []), ([], []), ([1], [1]), ([], []), ([2, 3], [2, 3]), ([4], [4]), ([], []), ([6], [6]), ([], []), ([7, 8], [7, 8]), ([9], [9]), ([10], [10]), ([11], [11]), ([5, 12], [5, 12]), ([13], [13]), ([14], [14]), ([0, 15, 14], [0, 15]), ([16, 16, 0, 1, 2, 3, 4, 5, 6, 7, 8, 9, 10, 11, 12, 13, 14, 15, 16], [0, 16])])
def Zap.B5 : List Nat := [0, 0, 2, 0, 14, 30, 0, 64, 0, 448, 960, 1984, 4032, 8190, 16382, 32766, 65535, 131071]
theorem Zap.tab5 : rtab .any (opsOf Try.f14 5) = Zap.T5 := by kernel_rfl
theorem Zap.bits5 : waitsOk Zap.T5.2 Zap.B5 = true := by kernel_rfl
def Zap.T9 : Bool × List (List Nat × List Nat) := (true, [([], []), ([], []), ([], []), ([], []), ([2, 3], [2, 3]), ([4], [4]), ([0, 4, 0], [0]), ([1, 6, 0, 1, 6], [1]), ([5, 7, 0, 1, 2, 3, 4, 5, 6, 7], [5])])
def Zap.B9 : List Nat := [0, 0, 0, 0, 12, 28, 29, 95, 255]
theorem Zap.tab9 : rtab .any (opsOf Try.f14 9) = Zap.T9 := by kernel_rfl
theorem Zap.bits9 : waitsOk Zap.T9.2 Zap.B9 = true := by kernel_rfl
set_option maxHeartbeats 8000000 in
set_option maxRecDepth 100000 in
theorem Zap.calls (k : Nat) (A0_0 : Option Addr) (c0_0 : Nat) (l0_0 : List (List Int)) (a0_1 : Int) (A0_2 : Option Addr) (c0_2 : Nat) (l0_2 : List Int) (A0_3 : Option Addr) (c0_3 : Nat) (l0_3 : List Int) (a0_4 : Int) (a0_5 : Int) (A0_6 : Option Addr) (c0_6 : Nat) (l0_6 : List (List Int)) (a0_7 : Int) (A0_8 : Option Addr) (c0_8 : Nat) (l0_8 : List Int) (A0_9 : Option Addr) (c0_9 : Nat) (l0_9 : List Int) (a1 : Int) (r1 : List (List (S41))) (r2 : Int) (r3 : List Int) (r4 : List Int) (r5 : Int) (r6 : Int) (r7 : List (List Int)) (r8 : Int) (r9 : Bool) (w : World) (hr0_0 : Kd.C (Kd.slice 3 (Kd.int .i64)) w A0_0 l0_0.length l0_0) (hc0_0 : l0_0.length ≤ c0_0) (hr0_2 : Kd.C (Kd.int .i64) w A0_2 l0_2.length l0_2) (hc0_2 : l0_2.length ≤ c0_2) (hr0_3 : Kd.C (Kd.int .i64) w A0_3 l0_3.length l0_3) (hc0_3 : l0_3.length ≤ c0_3) (hr0_6 : Kd.C (Kd.slice 3 (Kd.int .i64)) w A0_6 l0_6.length l0_6) (hc0_6 : l0_6.length ≤ c0_6) (hr0_8 : Kd.C (Kd.int .i64) w A0_8 l0_8.length l0_8) (hc0_8 : l0_8.length ≤ c0_8) (hr0_9 : Kd.C (Kd.int .i64) w A0_9 l0_9.length l0_9) (hc0_9 : l0_9.length ≤ c0_9) (h : Zap.f k l0_0 a0_1 l0_2 l0_3 a0_4 a0_5 l0_6 a0_7 l0_8 l0_9 a1 = some (r1, r2, r3, r4, r5, r6, r7, r8, r9)) :
  Calls Try.prog 14 #[.agg #[.slice A0_0 l0_0.length c0_0, .int .i64 a0_1, .slice A0_2 l0_2.length c0_2, .slice A0_3 l0_3.length c0_3, .int .i64 a0_4, .int .i64 a0_5, .slice A0_6 l0_6.length c0_6, .int .i64 a0_7, .slice A0_8 l0_8.length c0_8, .slice A0_9 l0_9.length c0_9], .int .i64 a1] w fun e w' => ∃ v0_ v2_ v3_ v6_ : Value, e = .returned (.tuple #[v0_, .agg #[.int .i64 r2, v2_, v3_, .int .i64 r5, .int .i64 r6, v6_, .int .i64 r8], .bool r9]) ∧ Kd.S (Kd.slice 41 k41) 39 w' w.heap.size (fun _ => True) v0_ r1 ∧ Kd.R (Kd.int .i64) 3 w' w.heap.size (fun k_ => some k_ ≠ (v3_ : Value).ownBlock) v2_ r3 ∧ Kd.R (Kd.int .i64) 3 w' w.heap.size (fun k_ => some k_ ≠ (v2_ : Value).ownBlock) v3_ r4 ∧ Kd.S (Kd.slice 3 (Kd.int .i64)) 23 w' w.heap.size (fun k_ => some k_ ≠ (v2_ : Value).ownBlock ∧ some k_ ≠ (v3_ : Value).ownBlock) v6_ r7 ∧ Below w.heap.size w w' := by
 have hu27 := Try.underlying27
 have hu25 := Try.underlying25
 have HR0_0 := Za.mk hr0_0
 have HC0_0 := Za.mk hc0_0
 clear hr0_0 hc0_0
 have HR0_2 := Za.mk hr0_2
 have HC0_2 := Za.mk hc0_2
 clear hr0_2 hc0_2
 have HR0_3 := Za.mk hr0_3
 have HC0_3 := Za.mk hc0_3
 clear hr0_3 hc0_3
 have HR0_6 := Za.mk hr0_6
 have HC0_6 := Za.mk hc0_6
 clear hr0_6 hc0_6
 have HR0_8 := Za.mk hr0_8
 have HC0_8 := Za.mk hc0_8
 clear hr0_8 hc0_8
 have HR0_9 := Za.mk hr0_9
 have HC0_9 := Za.mk hc0_9
 clear hr0_9 hc0_9
 have HB := Za.mk (Below.refl w.heap.size w)
 have H : (Zap.l0 k a1 (([] : List (List (S41)))) 0 l0_0 a0_1 l0_2 l0_3 a0_4 a0_5 l0_6 a0_7 l0_8 l0_9) = some (r1, r2, r3, r4, r5, r6, r7, r8, r9) := h
 clear h
 obtain ⟨y252, hy252⟩ : ∃ y_ : List (List (S41)), y_ = (([] : List (List (S41)))) := ⟨_, rfl⟩
 replace H : (Zap.l0 k a1 y252 0 l0_0 a0_1 l0_2 l0_3 a0_4 a0_5 l0_6 a0_7 l0_8 l0_9) = some (r1, r2, r3, r4, r5, r6, r7, r8, r9) := by first | (rw [hy252]; with_reducible exact H) | (have H2_ := (Option.bind_some _ _).symm.trans H; rw [hy252]; with_reducible exact H2_) | (have H2_ := (Option.bind_some _ _).symm.trans H; with_reducible exact H2_) | with_reducible exact H | (rw [hy252]; exact H) | exact H
 have Ny252 := Za.mk hy252
 clear hy252
 have H' := Za.mk H
 clear H
 go_enter Try.func14, Try.ntmps14
 go_wp2_with (first | ((with_reducible refine Zbv (N := 2) rfl ?_); refine Zb4 ?hg (N := 2) ?hd (cs := #[.slice A0_0 l0_0.length c0_0, .int .i64 a0_1, .slice A0_2 l0_2.length c0_2, .slice A0_3 l0_3.length c0_3, .int .i64 a0_4, .int .i64 a0_5, .slice A0_6 l0_6.length c0_6, .int .i64 a0_7, .slice A0_8 l0_8.length c0_8, .slice A0_9 l0_9.length c0_9]) (t := 27) ?hr ?_; (case hd => rfl); (case hg => rfl); (case hr => first | (go_simp; done) | (go_simp; rfl)); intro gb250 hg w3 hbox hb; have n0_ := Za.mk (Zan (by repeat (first | (with_reducible first | exact HB.out | apply Zac | apply Zaa | apply Zab) | exact HB.out)) hb); have n1_ := Za.mk (hbox); have n3_ := Za.mk ((by rw [hg]; exact (Zam (by repeat (first | (with_reducible first | exact HB.out | apply Zac | apply Zaa | apply Zab) | exact HB.out))) : w.heap.size ≤ gb250)); clear HB; have HB := n0_; have BK250 := n1_; have GE250 := n3_; clear n0_ n1_ n3_; clear hb hbox hg) | ((with_reducible refine Zbv (N := 5) rfl ?_); refine Zb4 ?hg (N := 5) ?hd (cs := #[.int .i64 0, .slice none 0 0, .slice none 0 0, .int .i64 0, .int .i64 0, .slice none 0 0, .int .i64 0]) (t := 25) ?hr ?_; (case hd => rfl); (case hg => rfl); (case hr => first | (go_simp; done) | (go_simp; rfl)); intro gb251 hg w4 hbox hb; have n0_ := Za.mk (Za6 (g := gb250) (o := .cells #[.slice A0_0 l0_0.length c0_0, .int .i64 a0_1, .slice A0_2 l0_2.length c0_2, .slice A0_3 l0_3.length c0_3, .int .i64 a0_4, .int .i64 a0_5, .slice A0_6 l0_6.length c0_6, .int .i64 a0_7, .slice A0_8 l0_8.length c0_8, .slice A0_9 l0_9.length c0_9] 27 (0, 0)) (mvK BK250.out) hb); have n1_ := Za.mk (Zan (by repeat (first | (with_reducible first | exact HB.out | apply Zac | apply Zaa | apply Zab | refine Zag ?_ GE250.out) | exact HB.out)) hb); have n2_ := Za.mk (hbox); have n4_ := Za.mk ((by rw [hg]; exact (Zam (by repeat (first | (with_reducible first | exact HB.out | apply Zac | apply Zaa | apply Zab | refine Zag ?_ GE250.out) | exact HB.out))) : w.heap.size ≤ gb251)); have n5_ := Za.mk ((by rw [hg]; exact Nat.ne_of_lt (Zcq (g := gb250) (o := .cells #[.slice A0_0 l0_0.length c0_0, .int .i64 a0_1, .slice A0_2 l0_2.length c0_2, .slice A0_3 l0_3.length c0_3, .int .i64 a0_4, .int .i64 a0_5, .slice A0_6 l0_6.length c0_6, .int .i64 a0_7, .slice A0_8 l0_8.length c0_8, .slice A0_9 l0_9.length c0_9] 27 (0, 0)) (mvK BK250.out)) : gb250 ≠ gb251)); have n6_ := Za.mk ((by rw [hg]; exact Nat.ne_of_gt (Zcq (g := gb250) (o := .cells #[.slice A0_0 l0_0.length c0_0, .int .i64 a0_1, .slice A0_2 l0_2.length c0_2, .slice A0_3 l0_3.length c0_3, .int .i64 a0_4, .int .i64 a0_5, .slice A0_6 l0_6.length c0_6, .int .i64 a0_7, .slice A0_8 l0_8.length c0_8, .slice A0_9 l0_9.length c0_9] 27 (0, 0)) (mvK BK250.out)) : gb251 ≠ gb250)); clear BK250; clear HB; have BK250 := n0_; have HB := n1_; have BK251 := n2_; have GE251 := n4_; have NB250_251 := n5_; have NB251_250 := n6_; clear n0_ n1_ n2_ n4_ n5_ n6_; clear hb hbox hg) | ((with_reducible refine Zbv (N := 10) rfl ?_); refine Kd.S_lit (Kd.slice 41 k41) _ 39 ?hg (N := 10) ?hd (xs := ([] : List (List (S41)))) (inner := []) (ok := fun _ => True) (okp := fun _ => True) ?hr ?hp (fun _ hk => hk) trivial (Below.refl _ _) (Nat.le_refl _) (by simp) ?_; (case hd => rfl); (case hg => rfl); (case hr => first | (go_simp; done) | (go_simp; rfl)); (case hp => exact (Reps.none _ _)); intro v253 w5 ho6 hb hg_ hnew_; clear hg_ hnew_; (first | rw [← Ny252.out] at ho6 | (simp only [Int.reduceToNat] at ho6; rw [← Ny252.out] at ho6)); have n0_ := Za.mk (Kd.Zd5 ho6 (Zam (by repeat (first | (with_reducible first | exact HB.out | apply Zac | apply Zaa | apply Zab | refine Zag ?_ GE250.out | refine Zag ?_ GE251.out) | exact HB.out)))); have n1_ := Za.mk (Za6 (g := gb250) (o := .cells #[.slice A0_0 l0_0.length c0_0, .int .i64 a0_1, .slice A0_2 l0_2.length c0_2, .slice A0_3 l0_3.length c0_3, .int .i64 a0_4, .int .i64 a0_5, .slice A0_6 l0_6.length c0_6, .int .i64 a0_7, .slice A0_8 l0_8.length c0_8, .slice A0_9 l0_9.length c0_9] 27 (0, 0)) (mvK BK250.out) hb); have n2_ := Za.mk (Za6 (g := gb251) (o := .cells #[.int .i64 0, .slice none 0 0, .slice none 0 0, .int .i64 0, .int .i64 0, .slice none 0 0, .int .i64 0] 25 (0, 0)) (mvK BK251.out) hb); have n3_ := Za.mk (Zan (by repeat (first | (with_reducible first | exact HB.out | apply Zac | apply Zaa | apply Zab | refine Zag ?_ GE250.out | refine Zag ?_ GE251.out) | exact HB.out)) hb); clear BK250; clear BK251; clear HB; have HO254 := n0_; have BK250 := n1_; have BK251 := n2_; have HB := n3_; clear n0_ n1_ n2_ n3_; clear hb ho6))
 go_loopg [7, 8] k (fun kq v7 v8 w' => ∃ (x7_1 : List (List (S41))) (x8_1 : Int), v8 = .int .i64 x8_1 ∧ Za (Zap.l0 kq a1 x7_1 x8_1 l0_0 a0_1 l0_2 l0_3 a0_4 a0_5 l0_6 a0_7 l0_8 l0_9 = some (r1, r2, r3, r4, r5, r6, r7, r8, r9)) ∧ Za (kq ≤ k) ∧ Za (Kd.S (Kd.slice 41 k41) 39 w' w.heap.size (fun _ => True) v7 x7_1) ∧ Za (w'.heap[gb250]? = some (.cells #[(.slice A0_0 l0_0.length c0_0), .int .i64 a0_1, (.slice A0_2 l0_2.length c0_2), (.slice A0_3 l0_3.length c0_3), .int .i64 a0_4, .int .i64 a0_5, (.slice A0_6 l0_6.length c0_6), .int .i64 a0_7, (.slice A0_8 l0_8.length c0_8), (.slice A0_9 l0_9.length c0_9)] 27 (0, 0))) ∧ Za (w'.heap[gb251]? = some (.cells #[.int .i64 0, (.slice none 0 0), (.slice none 0 0), .int .i64 0, .int .i64 0, (.slice none 0 0), .int .i64 0] 25 (0, 0))) ∧ Za (Below w.heap.size w w'))
 case atStart => exact ⟨(y252), (0), (by first | rfl | (simp; done) | (simp [*]; done)), H', ⟨Nat.le_refl _⟩, ⟨by (with_reducible repeat (first | apply Kd.S_alloc | apply Kd.S_drewN | apply Kd.Zb6)); exact HO254.out⟩, ⟨by (with_reducible repeat (first | refine Zah ?_ _ | refine Zaj ?_ | refine Zaf ?_ _)); exact BK250.out⟩, ⟨by (with_reducible repeat (first | refine Zah ?_ _ | refine Zaj ?_ | refine Zaf ?_ _)); exact BK251.out⟩, ⟨by repeat (first | (with_reducible first | exact HB.out | apply Zac | apply Zaa | apply Zab | refine Zag ?_ GE250.out | refine Zag ?_ GE251.out) | exact HB.out)⟩⟩
 case round =>
  clear H'
  try clear c1
  try clear p2
  obtain ⟨x7_1, x8_1, rfl, HA, HK1, HO_7, BK250, BK251, HB⟩ := hrel
  cases gk with
  | zero => exact absurd HA.out (by simp [Zap.l0])
  | succ k1 =>
   have H := HA.out
   clear HA
   simp only [Zap.l0] at H
   by_cases c7 : x8_1 < (l0_0.length : Int)
   rotate_left
   ·rw [if_neg c7] at H
    have c7b0 : decide (x8_1 < (l0_0.length : Int)) = false := decide_eq_false c7
    clear c7
    replace H := Option.bind_eq_some_iff.mp H
    obtain ⟨⟨t282, t283, t286, t289, t290, t291, t294⟩, A530, H⟩ := H
    replace H : (if 0 ≤ (mn (t291.length : Int) 20) then (if (mn (t291.length : Int) 20) ≤ (t291.length : Int) then ((some (t291.take ((mn (t291.length : Int) 20) : Int).toNat : List (List Int))).bind fun y296 => ((Zat.f k1 x7_1 a1 t283 t286 t289 t290 y296 t294).bind fun t299 => (some (x7_1, a1, t283, t286, t289, t290, y296, t294, (t299 == 0))))) else (none)) else (none)) = some (r1, r2, r3, r4, r5, r6, r7, r8, r9) := H
    have A53 := Za.mk A530
    clear A530
    obtain ⟨ji54, hji54⟩ : ∃ j_ : Int, (mn (t291.length : Int) 20) = j_ := ⟨_, rfl⟩
    replace H : (if 0 ≤ (ji54) then (if (ji54) ≤ (t291.length : Int) then ((some (t291.take ((ji54) : Int).toNat : List (List Int))).bind fun y296 => ((Zat.f k1 x7_1 a1 t283 t286 t289 t290 y296 t294).bind fun t299 => (some (x7_1, a1, t283, t286, t289, t290, y296, t294, (t299 == 0))))) else (none)) else (none)) = some (r1, r2, r3, r4, r5, r6, r7, r8, r9) := by first | (rw [hji54] at H; exact H) | (simp only [hji54] at H ⊢; exact H)
    (try rw [hji54] at A53)
    (try (have hji54h : ji54 ≤ 20 := by (rw [← hji54]; unfold mn; (repeat' split) <;> omega)))
    (try (have hji54g : ji54 ≤ 64 := by omega))
    (try (have hji54l : 0 ≤ ji54 := by (rw [← hji54]; unfold mn; (repeat' split) <;> omega)))
    (try (have hji54m : 0 ≤ ji54 := by omega))
    have hji54_ : (if 20 < (t291.length : Int) then 20 else (t291.length : Int)) = ji54 := hji54
    by_cases c55 : 0 ≤ (ji54)
    rotate_left
    ·rw [if_neg c55] at H
     exact absurd H (by simp)
    rw [if_pos c55] at H
    have c55b0 := eq_true c55
    have c55b1 : decide (0 ≤ (ji54)) = true := decide_eq_true c55
    clear c55
    by_cases c56 : (ji54) ≤ (t291.length : Int)
    rotate_left
    ·rw [if_neg c56] at H
     exact absurd H (by simp)
    rw [if_pos c56] at H
    have c56b0 := eq_true c56
    have c56b1 : decide ((ji54) ≤ (t291.length : Int)) = true := decide_eq_true c56
    clear c56
    obtain ⟨y296, hy296⟩ : ∃ y_ : List (List Int), y_ = (t291.take ((ji54) : Int).toNat) := ⟨_, rfl⟩
    replace H : ((Zat.f k1 x7_1 a1 t283 t286 t289 t290 y296 t294).bind fun t299 => (some (x7_1, a1, t283, t286, t289, t290, y296, t294, (t299 == 0)))) = some (r1, r2, r3, r4, r5, r6, r7, r8, r9) := by first | (rw [hy296]; with_reducible exact H) | (have H2_ := (Option.bind_some _ _).symm.trans H; rw [hy296]; with_reducible exact H2_) | (have H2_ := (Option.bind_some _ _).symm.trans H; with_reducible exact H2_) | with_reducible exact H | (rw [hy296]; exact H) | exact H
    have Ny296 := Za.mk hy296
    clear hy296
    replace H := Option.bind_eq_some_iff.mp H
    obtain ⟨t299, A570, H⟩ := H
    replace H : (some (x7_1, a1, t283, t286, t289, t290, y296, t294, (t299 == 0))) = some (r1, r2, r3, r4, r5, r6, r7, r8, r9) := H
    have A57 := Za.mk A570
    clear A570
    simp only [Option.some.injEq, Prod.mk.injEq] at H
    obtain ⟨rfl, rfl, rfl, rfl, rfl, rfl, rfl, rfl, rfl⟩ := H
    have hnb58 := NB250_251.out
    have hnc58 := NB251_250.out
    obtain ⟨hcz59_0, hcz59_1, hcz59_2, hcz59_3, hcz59_4, hcz59_5, hcz59_6, hcz59_7, hcz59_8, hcz59_9, hfz59_0, hfz59_1, hfz59_2, hfz59_3, hfz59_4, hfz59_5, hfz59_6, hfz59_7, hfz59_8, hfz59_9⟩ := blks10 BK250.out
    try go_wp2_with (first | ((with_reducible refine Za2 (f := 26) rfl ?_); refine Zb0 (some 41) rfl rfl Try.func26 (by kernel_rfl) rfl #[.agg #[.int .i64 a0_1, .slice A0_2 l0_2.length c0_2, .slice A0_3 l0_3.length c0_3, .int .i64 a0_4, .int .i64 a0_5, .slice A0_6 l0_6.length c0_6, .int .i64 a0_7]] rfl (by (try simp only [List.map_toArray, List.map_cons, List.map_nil]); first | done | rfl | (simp only [List.length_drop, List.length_take]; rfl)) ?_; (refine withB (m := w.heap.size) (w0 := w) (by repeat (first | (with_reducible first | exact HB.out | apply Zac | apply Zaa | apply Zab | refine Zag ?_ GE250.out | refine Zag ?_ GE251.out) | exact HB.out)) ?_); intro hL_; (with_reducible refine (Zbd.calls k1 a0_1 _ _ l0_2 _ _ l0_3 a0_4 a0_5 _ _ l0_6 a0_7 t282 t283 t286 t289 t290 t291 t294 _ ?side1 ?side2 ?side3 ?side4 ?side5 ?side6 A53.out).mono ?_); (case side1 => repeat (first | exact (Kd.Zaw HR0_2.out HB.out) | (with_reducible refine Kd.C_alloc ?_ _) | (with_reducible refine Kd.Za0 ?_ _) | (with_reducible refine Kd.C_drew ?_))); (case side2 => exact HC0_2.out); (case side3 => repeat (first | exact (Kd.Zaw HR0_3.out HB.out) | (with_reducible refine Kd.C_alloc ?_ _) | (with_reducible refine Kd.Za0 ?_ _) | (with_reducible refine Kd.C_drew ?_))); (case side4 => exact HC0_3.out); (case side5 => repeat (first | exact (Kd.Zaw HR0_6.out HB.out) | (with_reducible refine Kd.C_alloc ?_ _) | (with_reducible refine Kd.Za0 ?_ _) | (with_reducible refine Kd.C_drew ?_))); (case side6 => exact HC0_6.out); rintro e w60 ⟨v284, v287, v292, rfl, ho0, ho1, ho2, hb⟩; refine ⟨_, rfl, ?_⟩; have n0_ := Za.mk (Kd.Zc1 (mvS HO_7.out) hb); have n1_ := Za.mk (Kd.Zbz ho0 (Zam hL_)); have n2_ := Za.mk (Kd.Zbz ho1 (Zam hL_)); have n3_ := Za.mk (Kd.Zd5 ho2 (Zam hL_)); have n4_ := Za.mk (Za6 (g := gb250) (o := .cells #[.slice A0_0 l0_0.length c0_0, .int .i64 a0_1, .slice A0_2 l0_2.length c0_2, .slice A0_3 l0_3.length c0_3, .int .i64 a0_4, .int .i64 a0_5, .slice A0_6 l0_6.length c0_6, .int .i64 a0_7, .slice A0_8 l0_8.length c0_8, .slice A0_9 l0_9.length c0_9] 27 (0, 0)) (mvK BK250.out) hb); have n5_ := Za.mk (Za6 (g := gb251) (o := .cells #[.int .i64 0, .slice none 0 0, .slice none 0 0, .int .i64 0, .int .i64 0, .slice none 0 0, .int .i64 0] 25 (0, 0)) (mvK BK251.out) hb); have n6_ := Za.mk (Zan hL_ hb); clear HO_7; clear BK250; clear BK251; clear HB; have HO_7 := n0_; have HO285 := n1_; have HO288 := n2_; have HO293 := n3_; have BK250 := n4_; have BK251 := n5_; have HB := n6_; clear n0_ n1_ n2_ n3_ n4_ n5_ n6_; (try clear hb); (try clear hb2); (try clear hk); (try clear hi); (try clear ho0); (try clear ho1); (try clear ho2)) | ((with_reducible refine Zbv (N := 9) rfl ?_); refine Zb4 ?hg (N := 9) ?hd (cs := #[.int .i64 0, .slice none 0 0, .slice none 0 0, .int .i64 0, .int .i64 0, .slice none 0 0, .int .i64 0]) (t := 25) ?hr ?_; (case hd => rfl); (case hg => rfl); (case hr => first | (go_simp; done) | (go_simp; rfl)); intro gb295 hg w61 hbox hb; have n0_ := Za.mk (Kd.Zc1 (mvS HO_7.out) hb); have n1_ := Za.mk (Kd.Zb3 (mvR HO285.out) hb); have n2_ := Za.mk (Kd.Zb3 (mvR HO288.out) hb); have n3_ := Za.mk (Kd.Zc1 (mvS HO293.out) hb); have n4_ := Za.mk (Za6 (g := gb250) (o := .cells #[.slice A0_0 l0_0.length c0_0, .int .i64 a0_1, .slice A0_2 l0_2.length c0_2, .slice A0_3 l0_3.length c0_3, .int .i64 a0_4, .int .i64 a0_5, .slice A0_6 l0_6.length c0_6, .int .i64 a0_7, .slice A0_8 l0_8.length c0_8, .slice A0_9 l0_9.length c0_9] 27 (0, 0)) (mvK BK250.out) hb); have n5_ := Za.mk (Za6 (g := gb251) (o := .cells #[.int .i64 0, .slice none 0 0, .slice none 0 0, .int .i64 0, .int .i64 0, .slice none 0 0, .int .i64 0] 25 (0, 0)) (mvK BK251.out) hb); have n6_ := Za.mk (Zan (by repeat (first | (with_reducible first | exact HB.out | apply Zac | apply Zaa | apply Zab | refine Zag ?_ GE250.out | refine Zag ?_ GE251.out) | exact HB.out)) hb); have n7_ := Za.mk (hbox); have n9_ := Za.mk ((by rw [hg]; exact (Zam (by repeat (first | (with_reducible first | exact HB.out | apply Zac | apply Zaa | apply Zab | refine Zag ?_ GE250.out | refine Zag ?_ GE251.out) | exact HB.out))) : w.heap.size ≤ gb295)); have n10_ := Za.mk ((by rw [hg]; exact Nat.ne_of_lt (Zcq (g := gb250) (o := .cells #[.slice A0_0 l0_0.length c0_0, .int .i64 a0_1, .slice A0_2 l0_2.length c0_2, .slice A0_3 l0_3.length c0_3, .int .i64 a0_4, .int .i64 a0_5, .slice A0_6 l0_6.length c0_6, .int .i64 a0_7, .slice A0_8 l0_8.length c0_8, .slice A0_9 l0_9.length c0_9] 27 (0, 0)) (mvK BK250.out)) : gb250 ≠ gb295)); have n11_ := Za.mk ((by rw [hg]; exact Nat.ne_of_gt (Zcq (g := gb250) (o := .cells #[.slice A0_0 l0_0.length c0_0, .int .i64 a0_1, .slice A0_2 l0_2.length c0_2, .slice A0_3 l0_3.length c0_3, .int .i64 a0_4, .int .i64 a0_5, .slice A0_6 l0_6.length c0_6, .int .i64 a0_7, .slice A0_8 l0_8.length c0_8, .slice A0_9 l0_9.length c0_9] 27 (0, 0)) (mvK BK250.out)) : gb295 ≠ gb250)); have n12_ := Za.mk ((by rw [hg]; exact Nat.ne_of_lt (Zcq (g := gb251) (o := .cells #[.int .i64 0, .slice none 0 0, .slice none 0 0, .int .i64 0, .int .i64 0, .slice none 0 0, .int .i64 0] 25 (0, 0)) (mvK BK251.out)) : gb251 ≠ gb295)); have n13_ := Za.mk ((by rw [hg]; exact Nat.ne_of_gt (Zcq (g := gb251) (o := .cells #[.int .i64 0, .slice none 0 0, .slice none 0 0, .int .i64 0, .int .i64 0, .slice none 0 0, .int .i64 0] 25 (0, 0)) (mvK BK251.out)) : gb295 ≠ gb251)); clear HO_7; clear HO285; clear HO288; clear HO293; clear BK250; clear BK251; clear HB; have HO_7 := n0_; have HO285 := n1_; have HO288 := n2_; have HO293 := n3_; have BK250 := n4_; have BK251 := n5_; have HB := n6_; have BK295 := n7_; have GE295 := n9_; have NB250_295 := n10_; have NB295_250 := n11_; have NB251_295 := n12_; have NB295_251 := n13_; clear n0_ n1_ n2_ n3_ n4_ n5_ n6_ n7_ n9_ n10_ n11_ n12_ n13_; clear hb hbox hg; have hnb62 := NB295_250.out; have hnc62 := NB250_295.out; have hnb63 := NB295_251.out; have hnc63 := NB251_295.out; obtain ⟨hcz64_0, hcz64_1, hcz64_2, hcz64_3, hcz64_4, hcz64_5, hcz64_6, hfz64_0, hfz64_1, hfz64_2, hfz64_3, hfz64_4, hfz64_5, hfz64_6⟩ := Zce BK295.out; obtain ⟨Ao65, co65, eo65⟩ := Kd.Zbw HO285.out; subst eo65; obtain ⟨Ao66, co66, eo66⟩ := Kd.Zbw HO288.out; subst eo66; obtain ⟨Ao67, co67, eo67⟩ := Kd.Zen HO293.out; subst eo67) | ((with_reducible refine Zdh (t := 25) (p := 9) rfl ?_); refine Zdb (t := 25) (p := 9) (v := ?vo_w68) (w1 := (((((((w61.setCell ⟨gb295, 0, none⟩ (.int .i64 t282)).setCell ⟨gb295, 1, none⟩ (.slice Ao65 t283.length co65)).setCell ⟨gb295, 2, none⟩ (.slice Ao66 t286.length co66)).setCell ⟨gb295, 3, none⟩ (.int .i64 t289)).setCell ⟨gb295, 4, none⟩ (.int .i64 t290)).setCell ⟨gb295, 5, none⟩ (.slice Ao67 t291.length co67)).setCell ⟨gb295, 6, none⟩ (.int .i64 t294))) ?hg ?ho ?hn ?hr ?_; (case ho => rfl); (case hg => rfl); (case hn => rfl); (case hr => first | (go_simp; done) | (go_simp; rfl)); intro w68 hw; have n0_ : Za (Kd.S (Kd.slice 41 k41) 39 w68 w.heap.size (fun _ => True) u7 x7_1) := ⟨(by rw [hw]; exact (mvS (Kd.Zck (Kd.Zb2 (p := ⟨gb295, 6, none⟩) (Kd.Zb2 (p := ⟨gb295, 5, none⟩) (Kd.Zb2 (p := ⟨gb295, 4, none⟩) (Kd.Zb2 (p := ⟨gb295, 3, none⟩) (Kd.Zb2 (p := ⟨gb295, 2, none⟩) (Kd.Zb2 (p := ⟨gb295, 1, none⟩) (Kd.Zb2 (p := ⟨gb295, 0, none⟩) (Kd.Zcx HO_7.out BK295.out (by decide)) (fun _ hk => hk.2) (.int .i64 t282)) (fun _ hk => hk.2) (.slice Ao65 t283.length co65)) (fun _ hk => hk.2) (.slice Ao66 t286.length co66)) (fun _ hk => hk.2) (.int .i64 t289)) (fun _ hk => hk.2) (.int .i64 t290)) (fun _ hk => hk.2) (.slice Ao67 t291.length co67)) (fun _ hk => hk.2) (.int .i64 t294)) (fun _ hk => trivial))))⟩; have n1_ : Za (Kd.R (Kd.int .i64) 3 w68 w.heap.size (fun k_ => some k_ ≠ (.slice Ao66 t286.length co66 : Value).ownBlock) (.slice Ao65 t283.length co65) t283) := ⟨(by rw [hw]; exact (mvR (Kd.Zbm (Kd.Zbx (p := ⟨gb295, 6, none⟩) (Kd.Zbx (p := ⟨gb295, 5, none⟩) (Kd.Zbx (p := ⟨gb295, 4, none⟩) (Kd.Zbx (p := ⟨gb295, 3, none⟩) (Kd.Zbx (p := ⟨gb295, 2, none⟩) (Kd.Zbx (p := ⟨gb295, 1, none⟩) (Kd.Zbx (p := ⟨gb295, 0, none⟩) (Kd.Zc HO285.out BK295.out (by decide)) (fun _ hk => hk.2) (.int .i64 t282)) (fun _ hk => hk.2) (.slice Ao65 t283.length co65)) (fun _ hk => hk.2) (.slice Ao66 t286.length co66)) (fun _ hk => hk.2) (.int .i64 t289)) (fun _ hk => hk.2) (.int .i64 t290)) (fun _ hk => hk.2) (.slice Ao67 t291.length co67)) (fun _ hk => hk.2) (.int .i64 t294)) (fun _ hk => hk.1))))⟩; have n2_ : Za (Kd.R (Kd.int .i64) 3 w68 w.heap.size (fun k_ => some k_ ≠ (.slice Ao65 t283.length co65 : Value).ownBlock) (.slice Ao66 t286.length co66) t286) := ⟨(by rw [hw]; exact (mvR (Kd.Zbm (Kd.Zbx (p := ⟨gb295, 6, none⟩) (Kd.Zbx (p := ⟨gb295, 5, none⟩) (Kd.Zbx (p := ⟨gb295, 4, none⟩) (Kd.Zbx (p := ⟨gb295, 3, none⟩) (Kd.Zbx (p := ⟨gb295, 2, none⟩) (Kd.Zbx (p := ⟨gb295, 1, none⟩) (Kd.Zbx (p := ⟨gb295, 0, none⟩) (Kd.Zc HO288.out BK295.out (by decide)) (fun _ hk => hk.2) (.int .i64 t282)) (fun _ hk => hk.2) (.slice Ao65 t283.length co65)) (fun _ hk => hk.2) (.slice Ao66 t286.length co66)) (fun _ hk => hk.2) (.int .i64 t289)) (fun _ hk => hk.2) (.int .i64 t290)) (fun _ hk => hk.2) (.slice Ao67 t291.length co67)) (fun _ hk => hk.2) (.int .i64 t294)) (fun _ hk => hk.1))))⟩; have n3_ : Za (Kd.S (Kd.slice 3 (Kd.int .i64)) 23 w68 w.heap.size (fun k_ => some k_ ≠ (.slice Ao65 t283.length co65 : Value).ownBlock ∧ some k_ ≠ (.slice Ao66 t286.length co66 : Value).ownBlock) (.slice Ao67 t291.length co67) t291) := ⟨(by rw [hw]; exact (mvS (Kd.Zck (Kd.Zb2 (p := ⟨gb295, 6, none⟩) (Kd.Zb2 (p := ⟨gb295, 5, none⟩) (Kd.Zb2 (p := ⟨gb295, 4, none⟩) (Kd.Zb2 (p := ⟨gb295, 3, none⟩) (Kd.Zb2 (p := ⟨gb295, 2, none⟩) (Kd.Zb2 (p := ⟨gb295, 1, none⟩) (Kd.Zb2 (p := ⟨gb295, 0, none⟩) (Kd.Zcx HO293.out BK295.out (by decide)) (fun _ hk => hk.2) (.int .i64 t282)) (fun _ hk => hk.2) (.slice Ao65 t283.length co65)) (fun _ hk => hk.2) (.slice Ao66 t286.length co66)) (fun _ hk => hk.2) (.int .i64 t289)) (fun _ hk => hk.2) (.int .i64 t290)) (fun _ hk => hk.2) (.slice Ao67 t291.length co67)) (fun _ hk => hk.2) (.int .i64 t294)) (fun _ hk => ⟨hk.1.1, hk.1.2⟩))))⟩; have n4_ : Za (w68.heap[gb250]? = some (.cells #[.slice A0_0 l0_0.length c0_0, .int .i64 a0_1, .slice A0_2 l0_2.length c0_2, .slice A0_3 l0_3.length c0_3, .int .i64 a0_4, .int .i64 a0_5, .slice A0_6 l0_6.length c0_6, .int .i64 a0_7, .slice A0_8 l0_8.length c0_8, .slice A0_9 l0_9.length c0_9] 27 (0, 0))) := ⟨(by rw [hw]; exact (by (with_reducible repeat (first | refine Zah ?_ _ | refine Zaj ?_ | refine Zaf ?_ _)); refine Zbs ?_ NB250_295.out _; (with_reducible repeat (first | refine Zah ?_ _ | refine Zaj ?_ | refine Zaf ?_ _)); refine Zbs ?_ NB250_295.out _; (with_reducible repeat (first | refine Zah ?_ _ | refine Zaj ?_ | refine Zaf ?_ _)); refine Zbs ?_ NB250_295.out _; (with_reducible repeat (first | refine Zah ?_ _ | refine Zaj ?_ | refine Zaf ?_ _)); refine Zbs ?_ NB250_295.out _; (with_reducible repeat (first | refine Zah ?_ _ | refine Zaj ?_ | refine Zaf ?_ _)); refine Zbs ?_ NB250_295.out _; (with_reducible repeat (first | refine Zah ?_ _ | refine Zaj ?_ | refine Zaf ?_ _)); refine Zbs ?_ NB250_295.out _; (with_reducible repeat (first | refine Zah ?_ _ | refine Zaj ?_ | refine Zaf ?_ _)); refine Zbs ?_ NB250_295.out _; (with_reducible repeat (first | refine Zah ?_ _ | refine Zaj ?_ | refine Zaf ?_ _)); exact BK250.out))⟩; have n5_ : Za (w68.heap[gb251]? = some (.cells #[.int .i64 0, .slice none 0 0, .slice none 0 0, .int .i64 0, .int .i64 0, .slice none 0 0, .int .i64 0] 25 (0, 0))) := ⟨(by rw [hw]; exact (by (with_reducible repeat (first | refine Zah ?_ _ | refine Zaj ?_ | refine Zaf ?_ _)); refine Zbs ?_ NB251_295.out _; (with_reducible repeat (first | refine Zah ?_ _ | refine Zaj ?_ | refine Zaf ?_ _)); refine Zbs ?_ NB251_295.out _; (with_reducible repeat (first | refine Zah ?_ _ | refine Zaj ?_ | refine Zaf ?_ _)); refine Zbs ?_ NB251_295.out _; (with_reducible repeat (first | refine Zah ?_ _ | refine Zaj ?_ | refine Zaf ?_ _)); refine Zbs ?_ NB251_295.out _; (with_reducible repeat (first | refine Zah ?_ _ | refine Zaj ?_ | refine Zaf ?_ _)); refine Zbs ?_ NB251_295.out _; (with_reducible repeat (first | refine Zah ?_ _ | refine Zaj ?_ | refine Zaf ?_ _)); refine Zbs ?_ NB251_295.out _; (with_reducible repeat (first | refine Zah ?_ _ | refine Zaj ?_ | refine Zaf ?_ _)); refine Zbs ?_ NB251_295.out _; (with_reducible repeat (first | refine Zah ?_ _ | refine Zaj ?_ | refine Zaf ?_ _)); exact BK251.out))⟩; have n6_ : Za (w68.heap[gb295]? = some (.cells #[.int .i64 t282, .slice Ao65 t283.length co65, .slice Ao66 t286.length co66, .int .i64 t289, .int .i64 t290, .slice Ao67 t291.length co67, .int .i64 t294] 25 (0, 0))) := ⟨(by rw [hw]; exact (by (with_reducible repeat (first | refine Zah ?_ _ | refine Zaj ?_ | refine Zaf ?_ _)); refine Zbr (cs := #[.int .i64 t282, .slice Ao65 t283.length co65, .slice Ao66 t286.length co66, .int .i64 t289, .int .i64 t290, .slice Ao67 t291.length co67, .int .i64 0]) ?_ 6 _ rfl; (with_reducible repeat (first | refine Zah ?_ _ | refine Zaj ?_ | refine Zaf ?_ _)); refine Zbr (cs := #[.int .i64 t282, .slice Ao65 t283.length co65, .slice Ao66 t286.length co66, .int .i64 t289, .int .i64 t290, .slice none 0 0, .int .i64 0]) ?_ 5 _ rfl; (with_reducible repeat (first | refine Zah ?_ _ | refine Zaj ?_ | refine Zaf ?_ _)); refine Zbr (cs := #[.int .i64 t282, .slice Ao65 t283.length co65, .slice Ao66 t286.length co66, .int .i64 t289, .int .i64 0, .slice none 0 0, .int .i64 0]) ?_ 4 _ rfl; (with_reducible repeat (first | refine Zah ?_ _ | refine Zaj ?_ | refine Zaf ?_ _)); refine Zbr (cs := #[.int .i64 t282, .slice Ao65 t283.length co65, .slice Ao66 t286.length co66, .int .i64 0, .int .i64 0, .slice none 0 0, .int .i64 0]) ?_ 3 _ rfl; (with_reducible repeat (first | refine Zah ?_ _ | refine Zaj ?_ | refine Zaf ?_ _)); refine Zbr (cs := #[.int .i64 t282, .slice Ao65 t283.length co65, .slice none 0 0, .int .i64 0, .int .i64 0, .slice none 0 0, .int .i64 0]) ?_ 2 _ rfl; (with_reducible repeat (first | refine Zah ?_ _ | refine Zaj ?_ | refine Zaf ?_ _)); refine Zbr (cs := #[.int .i64 t282, .slice none 0 0, .slice none 0 0, .int .i64 0, .int .i64 0, .slice none 0 0, .int .i64 0]) ?_ 1 _ rfl; (with_reducible repeat (first | refine Zah ?_ _ | refine Zaj ?_ | refine Zaf ?_ _)); refine Zbr (cs := #[.int .i64 0, .slice none 0 0, .slice none 0 0, .int .i64 0, .int .i64 0, .slice none 0 0, .int .i64 0]) ?_ 0 _ rfl; (with_reducible repeat (first | refine Zah ?_ _ | refine Zaj ?_ | refine Zaf ?_ _)); exact BK295.out))⟩; have n7_ : Za (Below w.heap.size w w68) := ⟨(by rw [hw]; exact (by repeat (first | (with_reducible first | exact HB.out | apply Zac | apply Zaa | apply Zab | refine Zag ?_ GE250.out | refine Zag ?_ GE251.out | refine Zag ?_ GE295.out) | exact HB.out)))⟩; clear hw; clear HO_7; clear HO285; clear HO288; clear HO293; clear BK250; clear BK251; clear BK295; clear HB; have HO_7 := n0_; have HO285 := n1_; have HO288 := n2_; have HO293 := n3_; have BK250 := n4_; have BK251 := n5_; have BK295 := n6_; have HB := n7_; clear n0_ n1_ n2_ n3_ n4_ n5_ n6_ n7_; obtain ⟨hcz69_0, hcz69_1, hcz69_2, hcz69_3, hcz69_4, hcz69_5, hcz69_6, hfz69_0, hfz69_1, hfz69_2, hfz69_3, hfz69_4, hfz69_5, hfz69_6⟩ := Zce BK295.out) | ((with_reducible refine Zdh (t := 3) (p := 43) rfl ?_); refine Zdb (t := 3) (p := 43) (v := ?vo_w70) (w1 := (w68.setCell ⟨gb295, 0, none⟩ (.int .i64 a1))) ?hg ?ho ?hn ?hr ?_; (case ho => rfl); (case hg => rfl); (case hn => rfl); (case hr => first | (go_simp; done) | (go_simp; rfl)); intro w70 hw; have n0_ : Za (Kd.S (Kd.slice 41 k41) 39 w70 w.heap.size (fun _ => True) u7 x7_1) := ⟨(by rw [hw]; exact (mvS (Kd.Zck (Kd.Zb2 (p := ⟨gb295, 0, none⟩) (Kd.Zcx HO_7.out BK295.out (by decide)) (fun _ hk => hk.2) (.int .i64 a1)) (fun _ hk => trivial))))⟩; have n1_ : Za (Kd.R (Kd.int .i64) 3 w70 w.heap.size (fun k_ => some k_ ≠ (.slice Ao66 t286.length co66 : Value).ownBlock) (.slice Ao65 t283.length co65) t283) := ⟨(by rw [hw]; exact (mvR (Kd.Zbm (Kd.Zbx (p := ⟨gb295, 0, none⟩) (Kd.Zc HO285.out BK295.out (by decide)) (fun _ hk => hk.2) (.int .i64 a1)) (fun _ hk => hk.1))))⟩; have n2_ : Za (Kd.R (Kd.int .i64) 3 w70 w.heap.size (fun k_ => some k_ ≠ (.slice Ao65 t283.length co65 : Value).ownBlock) (.slice Ao66 t286.length co66) t286) := ⟨(by rw [hw]; exact (mvR (Kd.Zbm (Kd.Zbx (p := ⟨gb295, 0, none⟩) (Kd.Zc HO288.out BK295.out (by decide)) (fun _ hk => hk.2) (.int .i64 a1)) (fun _ hk => hk.1))))⟩; have n3_ : Za (Kd.S (Kd.slice 3 (Kd.int .i64)) 23 w70 w.heap.size (fun k_ => some k_ ≠ (.slice Ao65 t283.length co65 : Value).ownBlock ∧ some k_ ≠ (.slice Ao66 t286.length co66 : Value).ownBlock) (.slice Ao67 t291.length co67) t291) := ⟨(by rw [hw]; exact (mvS (Kd.Zck (Kd.Zb2 (p := ⟨gb295, 0, none⟩) (Kd.Zcx HO293.out BK295.out (by decide)) (fun _ hk => hk.2) (.int .i64 a1)) (fun _ hk => ⟨hk.1.1, hk.1.2⟩))))⟩; have n4_ : Za (w70.heap[gb250]? = some (.cells #[.slice A0_0 l0_0.length c0_0, .int .i64 a0_1, .slice A0_2 l0_2.length c0_2, .slice A0_3 l0_3.length c0_3, .int .i64 a0_4, .int .i64 a0_5, .slice A0_6 l0_6.length c0_6, .int .i64 a0_7, .slice A0_8 l0_8.length c0_8, .slice A0_9 l0_9.length c0_9] 27 (0, 0))) := ⟨(by rw [hw]; exact (by (with_reducible repeat (first | refine Zah ?_ _ | refine Zaj ?_ | refine Zaf ?_ _)); refine Zbs ?_ NB250_295.out _; (with_reducible repeat (first | refine Zah ?_ _ | refine Zaj ?_ | refine Zaf ?_ _)); exact BK250.out))⟩; have n5_ : Za (w70.heap[gb251]? = some (.cells #[.int .i64 0, .slice none 0 0, .slice none 0 0, .int .i64 0, .int .i64 0, .slice none 0 0, .int .i64 0] 25 (0, 0))) := ⟨(by rw [hw]; exact (by (with_reducible repeat (first | refine Zah ?_ _ | refine Zaj ?_ | refine Zaf ?_ _)); refine Zbs ?_ NB251_295.out _; (with_reducible repeat (first | refine Zah ?_ _ | refine Zaj ?_ | refine Zaf ?_ _)); exact BK251.out))⟩; have n6_ : Za (w70.heap[gb295]? = some (.cells #[.int .i64 a1, .slice Ao65 t283.length co65, .slice Ao66 t286.length co66, .int .i64 t289, .int .i64 t290, .slice Ao67 t291.length co67, .int .i64 t294] 25 (0, 0))) := ⟨(by rw [hw]; exact (by (with_reducible repeat (first | refine Zah ?_ _ | refine Zaj ?_ | refine Zaf ?_ _)); refine Zbr (cs := #[.int .i64 t282, .slice Ao65 t283.length co65, .slice Ao66 t286.length co66, .int .i64 t289, .int .i64 t290, .slice Ao67 t291.length co67, .int .i64 t294]) ?_ 0 _ rfl; (with_reducible repeat (first | refine Zah ?_ _ | refine Zaj ?_ | refine Zaf ?_ _)); exact BK295.out))⟩; have n7_ : Za (Below w.heap.size w w70) := ⟨(by rw [hw]; exact (by repeat (first | (with_reducible first | exact HB.out | apply Zac | apply Zaa | apply Zab | refine Zag ?_ GE250.out | refine Zag ?_ GE251.out | refine Zag ?_ GE295.out) | exact HB.out)))⟩; clear hw; clear HO_7; clear HO285; clear HO288; clear HO293; clear BK250; clear BK251; clear BK295; clear HB; have HO_7 := n0_; have HO285 := n1_; have HO288 := n2_; have HO293 := n3_; have BK250 := n4_; have BK251 := n5_; have BK295 := n6_; have HB := n7_; clear n0_ n1_ n2_ n3_ n4_ n5_ n6_ n7_; obtain ⟨hcz71_0, hcz71_1, hcz71_2, hcz71_3, hcz71_4, hcz71_5, hcz71_6, hfz71_0, hfz71_1, hfz71_2, hfz71_3, hfz71_4, hfz71_5, hfz71_6⟩ := Zce BK295.out; have q72 : ((ji54) : Int) ≤ ((t291.length : Int) : Int) := of_decide_eq_true (by first | (with_reducible assumption) | assumption); obtain ⟨i072, hi072, _, hsz72, _⟩ := info_parts Zex; have hcut72 := cut_to (P := Try.prog) 22 23 .i64 Try.underlying22 hi072 Ao67 t291.length co67 (ji54) (of_decide_eq_true (by first | (with_reducible assumption) | assumption)) q72 (Kd.Zcy HO293.out).2.1; have hr72 := Kd.S_take (m := ((ji54) : Int).toNat) HO293.out (by omega); have hy72 : y296.length = ((ji54) : Int).toNat := (by rw [Ny296.out, List.length_take]; omega); rw [← Ny296.out] at hr72; rw [← hy72] at hr72 hcut72; clear hy72 hi072 hsz72 HO293; have HO298 := Za.mk hr72; clear hr72; replace q72 := eq_true q72))
    have n0_ : Za (Kd.S (Kd.slice 41 k41) 39 (w70.setCell ⟨gb295, 5, none⟩ (.slice Ao67 y296.length co67)) w.heap.size (fun _ => True) u7 x7_1) := ⟨by (with_reducible repeat (first | apply Kd.S_alloc | apply Kd.S_drewN | apply Kd.Zb6)); exact Kd.Zck (Kd.Zb2 (p := ⟨gb295, 5, none⟩) (Kd.Zcx HO_7.out BK295.out (by decide)) (fun _ hk => hk.2) (.slice Ao67 y296.length co67)) (fun _ hk => trivial)⟩
    have n1_ : Za (Kd.R (Kd.int .i64) 3 (w70.setCell ⟨gb295, 5, none⟩ (.slice Ao67 y296.length co67)) w.heap.size (fun k_ => some k_ ≠ (.slice Ao66 t286.length co66 : Value).ownBlock) (.slice Ao65 t283.length co65) t283) := ⟨by (with_reducible repeat (first | apply Kd.R_alloc | apply Kd.Zbh | apply Kd.Zbl)); exact Kd.Zbm (Kd.Zbx (p := ⟨gb295, 5, none⟩) (Kd.Zc HO285.out BK295.out (by decide)) (fun _ hk => hk.2) (.slice Ao67 y296.length co67)) (fun _ hk => hk.1)⟩
    have n2_ : Za (Kd.R (Kd.int .i64) 3 (w70.setCell ⟨gb295, 5, none⟩ (.slice Ao67 y296.length co67)) w.heap.size (fun k_ => some k_ ≠ (.slice Ao65 t283.length co65 : Value).ownBlock) (.slice Ao66 t286.length co66) t286) := ⟨by (with_reducible repeat (first | apply Kd.R_alloc | apply Kd.Zbh | apply Kd.Zbl)); exact Kd.Zbm (Kd.Zbx (p := ⟨gb295, 5, none⟩) (Kd.Zc HO288.out BK295.out (by decide)) (fun _ hk => hk.2) (.slice Ao67 y296.length co67)) (fun _ hk => hk.1)⟩
    have n3_ : Za (Kd.S (Kd.slice 3 (Kd.int .i64)) 23 (w70.setCell ⟨gb295, 5, none⟩ (.slice Ao67 y296.length co67)) w.heap.size (fun k_ => some k_ ≠ (.slice Ao65 t283.length co65 : Value).ownBlock ∧ some k_ ≠ (.slice Ao66 t286.length co66 : Value).ownBlock) (.slice Ao67 y296.length co67) y296) := ⟨by (with_reducible repeat (first | apply Kd.S_alloc | apply Kd.S_drewN | apply Kd.Zb6)); exact Kd.Zck (Kd.Zb2 (p := ⟨gb295, 5, none⟩) (Kd.Zcx HO298.out BK295.out (by decide)) (fun _ hk => hk.2) (.slice Ao67 y296.length co67)) (fun _ hk => ⟨hk.1.1, hk.1.2⟩)⟩
    have n4_ : Za ((w70.setCell ⟨gb295, 5, none⟩ (.slice Ao67 y296.length co67)).heap[gb250]? = some (.cells #[.slice A0_0 l0_0.length c0_0, .int .i64 a0_1, .slice A0_2 l0_2.length c0_2, .slice A0_3 l0_3.length c0_3, .int .i64 a0_4, .int .i64 a0_5, .slice A0_6 l0_6.length c0_6, .int .i64 a0_7, .slice A0_8 l0_8.length c0_8, .slice A0_9 l0_9.length c0_9] 27 (0, 0))) := ⟨by (with_reducible repeat (first | refine Zah ?_ _ | refine Zaj ?_ | refine Zaf ?_ _)); refine Zbs ?_ NB250_295.out _; (with_reducible repeat (first | refine Zah ?_ _ | refine Zaj ?_ | refine Zaf ?_ _)); exact BK250.out⟩
    have n5_ : Za ((w70.setCell ⟨gb295, 5, none⟩ (.slice Ao67 y296.length co67)).heap[gb251]? = some (.cells #[.int .i64 0, .slice none 0 0, .slice none 0 0, .int .i64 0, .int .i64 0, .slice none 0 0, .int .i64 0] 25 (0, 0))) := ⟨by (with_reducible repeat (first | refine Zah ?_ _ | refine Zaj ?_ | refine Zaf ?_ _)); refine Zbs ?_ NB251_295.out _; (with_reducible repeat (first | refine Zah ?_ _ | refine Zaj ?_ | refine Zaf ?_ _)); exact BK251.out⟩
    have n6_ : Za ((w70.setCell ⟨gb295, 5, none⟩ (.slice Ao67 y296.length co67)).heap[gb295]? = some (.cells #[.int .i64 a1, .slice Ao65 t283.length co65, .slice Ao66 t286.length co66, .int .i64 t289, .int .i64 t290, .slice Ao67 y296.length co67, .int .i64 t294] 25 (0, 0))) := ⟨by (with_reducible repeat (first | refine Zah ?_ _ | refine Zaj ?_ | refine Zaf ?_ _)); refine Zbr (cs := #[.int .i64 a1, .slice Ao65 t283.length co65, .slice Ao66 t286.length co66, .int .i64 t289, .int .i64 t290, .slice Ao67 t291.length co67, .int .i64 t294]) ?_ 5 _ rfl; (with_reducible repeat (first | refine Zah ?_ _ | refine Zaj ?_ | refine Zaf ?_ _)); exact BK295.out⟩
    have n7_ : Za (Below w.heap.size w (w70.setCell ⟨gb295, 5, none⟩ (.slice Ao67 y296.length co67))) := ⟨by repeat (first | (with_reducible first | exact HB.out | apply Zac | apply Zaa | apply Zab | refine Zag ?_ GE250.out | refine Zag ?_ GE251.out | refine Zag ?_ GE295.out) | exact HB.out)⟩
    (try clear HO_7)
    (try clear HO285)
    (try clear HO288)
    (try clear HO298)
    (try clear BK250)
    (try clear BK251)
    (try clear BK295)
    (try clear HB)
    generalize (w70.setCell ⟨gb295, 5, none⟩ (.slice Ao67 y296.length co67)) = w73 at n0_ n1_ n2_ n3_ n4_ n5_ n6_ n7_ ⊢
    have HO_7 := n0_
    have HO285 := n1_
    have HO288 := n2_
    have HO298 := n3_
    have BK250 := n4_
    have BK251 := n5_
    have BK295 := n6_
    have HB := n7_
    clear n0_ n1_ n2_ n3_ n4_ n5_ n6_ n7_
    have n0_ := Za.mk (Kd.Zb6 HO_7.out)
    have n1_ := Za.mk (Kd.Zbl HO285.out)
    have n2_ := Za.mk (Kd.Zbl HO288.out)
    have n3_ := Za.mk (Kd.Zb6 HO298.out)
    have n4_ := Za.mk (Zaj BK250.out)
    have n5_ := Za.mk (Zaj BK251.out)
    have n6_ := Za.mk (Zaj BK295.out)
    have n7_ := Za.mk (Zab HB.out)
    clear HO_7
    clear HO285
    clear HO288
    clear HO298
    clear BK250
    clear BK251
    clear BK295
    clear HB
    have HO_7 := n0_
    have HO285 := n1_
    have HO288 := n2_
    have HO298 := n3_
    have BK250 := n4_
    have BK251 := n5_
    have BK295 := n6_
    have HB := n7_
    clear n0_ n1_ n2_ n3_ n4_ n5_ n6_ n7_
    obtain ⟨Ao75, co75, eo75⟩ := Kd.Zen HO_7.out
    (first | subst eo75 | (injection eo75 with f1_ f2_ f3_; have f4_ := f1_.symm; have f5_ := f3_.symm; clear f1_ f2_ f3_; subst f4_; subst f5_))
    refine Zdl (n := 9) (S := fun w' => w'.cell? ⟨gb295, 0, none⟩ = some (.int .i64 a1) ∧ w'.cell? ⟨gb295, 1, none⟩ = some (.slice Ao65 t283.length co65) ∧ w'.cell? ⟨gb295, 2, none⟩ = some (.slice Ao66 t286.length co66) ∧ w'.cell? ⟨gb295, 3, none⟩ = some (.int .i64 t289) ∧ w'.cell? ⟨gb295, 4, none⟩ = some (.int .i64 t290) ∧ w'.cell? ⟨gb295, 5, none⟩ = some (.slice Ao67 y296.length co67) ∧ w'.cell? ⟨gb295, 6, none⟩ = some (.int .i64 t294)) (ds := []) #[false, false, false, false, false, false, false, false, false] (by kernel_rfl) rfl rfl ⟨(Zae BK295.out 0).trans rfl, (Zae BK295.out 1).trans rfl, (Zae BK295.out 2).trans rfl, (Zae BK295.out 3).trans rfl, (Zae BK295.out 4).trans rfl, (Zae BK295.out 5).trans rfl, (Zae BK295.out 6).trans rfl⟩ (fun hHeld => ?_); refine Zcl Zap.tab9 Zap.bits9 (fun HT_ HW_ => ?_)
    generalize w73.drew = w74 at HO_7 HO285 HO288 HO298 BK250 BK251 BK295 HB hHeld ⊢
    refine Zbn (i := 0) (N := some 52) (v := ?_) (a' := ?_) #[true, false, false, false, false, false, false, false, false] rfl rfl (Za5 HT_.out (by kernel_rfl)) (fun _ _ _ h => h) (Or.inl ⟨by rfl, ?_⟩) ?_ ?_
    rotate_left
    ·intro w'
     go_simp
     with_reducible rfl
    rotate_left
    ·simp only [Act.put, List.setIfInBounds_toArray, List.set_cons_zero, List.set_cons_succ, Za4, Za7]
     rfl
    refine Zbn (i := 2) (N := some 54) (v := ?_) (a' := ?_) #[true, false, true, false, false, false, false, false, false] rfl rfl (Za5 HT_.out (by kernel_rfl)) (fun _ _ _ h => h) (Or.inl ⟨by rfl, ?_⟩) ?_ ?_
    rotate_left
    ·intro w'
     go_simp
     with_reducible rfl
    rotate_left
    ·simp only [Act.put, List.setIfInBounds_toArray, List.set_cons_zero, List.set_cons_succ, Za4, Za7]
     rfl
    refine Zc3 (i := 1) (N := some 53) (v := ?_) (a' := ?_) #[true, true, true, false, false, false, false, false, false] rfl rfl (Zb1 HT_.out HW_.out (by kernel_rfl)) (fun _ _ _ h => h) (Or.inl ⟨by rfl, ?_⟩) hHeld ?_ ?_
    rotate_left
    ·rintro w' ⟨s0, s1, s2, s3, s4, s5, s6⟩
     go_simp
     with_reducible rfl
    rotate_left
    ·simp only [Act.put, List.setIfInBounds_toArray, List.set_cons_zero, List.set_cons_succ, Za4, Za7]
     rfl
    refine Zc3 (i := 3) (N := some 55) (v := ?_) (a' := ?_) #[true, true, true, true, false, false, false, false, false] rfl rfl (Zb1 HT_.out HW_.out (by kernel_rfl)) (fun _ _ _ h => h) (Or.inl ⟨by rfl, ?_⟩) hHeld ?_ ?_
    rotate_left
    ·rintro w' ⟨s0, s1, s2, s3, s4, s5, s6⟩
     go_simp
     with_reducible rfl
    rotate_left
    ·simp only [Act.put, List.setIfInBounds_toArray, List.set_cons_zero, List.set_cons_succ, Za4, Za7]
     rfl
    refine one_ (i := 4) (N := some 56) #[true, true, true, true, true, false, false, false, false] rfl rfl (Zc4 HT_.out (by kernel_rfl)) (by decide) (fun K hK => ?_)
    refine goes_ Try.func41 (by kernel_rfl) rfl #[.slice Ao75 x7_1.length co75, .agg #[.int .i64 a1, .slice Ao65 t283.length co65, .slice Ao66 t286.length co66, .int .i64 t289, .int .i64 t290, .slice Ao67 y296.length co67, .int .i64 t294]] (by rfl) rfl rfl (by (try simp only [List.map_toArray, List.map_cons, List.map_nil]); first | done | rfl | (simp only [List.length_drop, List.length_take]; rfl)) ?_
    with_reducible refine (Zat.calls k1 _ _ x7_1 a1 _ _ t283 _ _ t286 t289 t290 _ _ y296 t294 t299 _ ?side1 ?side2 ?side3 ?side4 ?side5 ?side6 ?side7 ?side8 A57.out).mono ?_
    (case side1 => repeat (first | exact (Kd.Zcy HO_7.out).2.2 | (with_reducible refine Kd.C_alloc ?_ _) | (with_reducible refine Kd.Za0 ?_ _) | (with_reducible refine Kd.C_drew ?_)))
    (case side2 => exact (Kd.Zcy HO_7.out).2.1)
    (case side3 => repeat (first | exact (Kd.Za3 HO285.out).2.2 | (with_reducible refine Kd.C_alloc ?_ _) | (with_reducible refine Kd.Za0 ?_ _) | (with_reducible refine Kd.C_drew ?_)))
    (case side4 => exact (Kd.Za3 HO285.out).2.1)
    (case side5 => repeat (first | exact (Kd.Za3 HO288.out).2.2 | (with_reducible refine Kd.C_alloc ?_ _) | (with_reducible refine Kd.Za0 ?_ _) | (with_reducible refine Kd.C_drew ?_)))
    (case side6 => exact (Kd.Za3 HO288.out).2.1)
    (case side7 => repeat (first | exact (Kd.Zcy HO298.out).2.2 | (with_reducible refine Kd.C_alloc ?_ _) | (with_reducible refine Kd.Za0 ?_ _) | (with_reducible refine Kd.C_drew ?_)))
    (case side8 => exact (Kd.Zcy HO298.out).2.1)
    rintro e w76 ⟨rfl, hb⟩
    refine ⟨_, rfl, ?_⟩
    have n0_ := Za.mk (Kd.Zc1 (mvS HO_7.out) hb)
    have n1_ := Za.mk (Kd.Zb3 (mvR HO285.out) hb)
    have n2_ := Za.mk (Kd.Zb3 (mvR HO288.out) hb)
    have n3_ := Za.mk (Kd.Zc1 (mvS HO298.out) hb)
    have n4_ := Za.mk (Za6 (g := gb250) (o := .cells #[.slice A0_0 l0_0.length c0_0, .int .i64 a0_1, .slice A0_2 l0_2.length c0_2, .slice A0_3 l0_3.length c0_3, .int .i64 a0_4, .int .i64 a0_5, .slice A0_6 l0_6.length c0_6, .int .i64 a0_7, .slice A0_8 l0_8.length c0_8, .slice A0_9 l0_9.length c0_9] 27 (0, 0)) (mvK BK250.out) hb)
    have n5_ := Za.mk (Za6 (g := gb251) (o := .cells #[.int .i64 0, .slice none 0 0, .slice none 0 0, .int .i64 0, .int .i64 0, .slice none 0 0, .int .i64 0] 25 (0, 0)) (mvK BK251.out) hb)
    have n6_ := Za.mk (Za6 (g := gb295) (o := .cells #[.int .i64 a1, .slice Ao65 t283.length co65, .slice Ao66 t286.length co66, .int .i64 t289, .int .i64 t290, .slice Ao67 y296.length co67, .int .i64 t294] 25 (0, 0)) (mvK BK295.out) hb)
    have n7_ := Za.mk (Zan (mvB HB.out) hb)
    clear HO_7
    clear HO285
    clear HO288
    clear HO298
    clear BK250
    clear BK251
    clear BK295
    clear HB
    have HO_7 := n0_
    have HO285 := n1_
    have HO288 := n2_
    have HO298 := n3_
    have BK250 := n4_
    have BK251 := n5_
    have BK295 := n6_
    have HB := n7_
    clear n0_ n1_ n2_ n3_ n4_ n5_ n6_ n7_
    (try clear hb)
    (try clear hb2)
    (try clear hk)
    (try clear hi)
    refine hK.out _ _ ⟨(Zae BK295.out 0).trans rfl, (Zae BK295.out 1).trans rfl, (Zae BK295.out 2).trans rfl, (Zae BK295.out 3).trans rfl, (Zae BK295.out 4).trans rfl, (Zae BK295.out 5).trans rfl, (Zae BK295.out 6).trans rfl⟩ (fun hHeld => ?_)
    clear hK K
    refine Zea (a' := ?_) ?_ ?_
    rotate_left
    ·show Act.put _ (some 56) _ = _
     simp only [Act.put, List.setIfInBounds_toArray, List.set_cons_zero, List.set_cons_succ, Za4, Za7]
     rfl
    refine Zbn (i := 5) (N := some 57) (v := ?_) (a' := ?_) #[true, true, true, true, true, true, false, false, false] rfl rfl (Za5 HT_.out (by kernel_rfl)) (fun _ _ _ h => h) (Or.inl ⟨by rfl, ?_⟩) ?_ ?_
    rotate_left
    ·intro w'
     go_simp
     with_reducible rfl
    rotate_left
    ·simp only [Act.put, List.setIfInBounds_toArray, List.set_cons_zero, List.set_cons_succ, Za4, Za7]
     rfl
    refine Zbn (i := 6) (N := some 4) (v := ?_) (a' := ?_) #[true, true, true, true, true, true, true, false, false] rfl rfl (Za5 HT_.out (by kernel_rfl)) (fun _ _ _ h => h) (Or.inl ⟨by rfl, ?_⟩) ?_ ?_
    rotate_left
    ·intro w'
     go_simp
     with_reducible rfl
    rotate_left
    ·simp only [Act.put, List.setIfInBounds_toArray, List.set_cons_zero, List.set_cons_succ, Za4, Za7]
     rfl
    refine one_ (i := 7) (N := none) #[true, true, true, true, true, true, true, true, false] rfl rfl (Zc4 HT_.out (by kernel_rfl)) (by decide) (fun K hK => ?_)
    have hs77 : w76.cell? ⟨gb251, 0, none⟩ = some (.int .i64 0) := (Zae BK251.out 0).trans rfl
    have hfs77 := Zax BK251.out 0
    have hns77_0 := NB250_251.out
    have hns77_2 := NB295_251.out
    have hms77_0 := NB251_250.out
    have hms77_2 := NB251_295.out
    have hs78 : w76.cell? ⟨gb251, 1, none⟩ = some (.slice none 0 0) := (Zae BK251.out 1).trans rfl
    have hfs78 := Zax BK251.out 1
    have hns78_0 := NB250_251.out
    have hns78_2 := NB295_251.out
    have hms78_0 := NB251_250.out
    have hms78_2 := NB251_295.out
    have hs79 : w76.cell? ⟨gb251, 2, none⟩ = some (.slice none 0 0) := (Zae BK251.out 2).trans rfl
    have hfs79 := Zax BK251.out 2
    have hns79_0 := NB250_251.out
    have hns79_2 := NB295_251.out
    have hms79_0 := NB251_250.out
    have hms79_2 := NB251_295.out
    have hs80 : w76.cell? ⟨gb251, 3, none⟩ = some (.int .i64 0) := (Zae BK251.out 3).trans rfl
    have hfs80 := Zax BK251.out 3
    have hns80_0 := NB250_251.out
    have hns80_2 := NB295_251.out
    have hms80_0 := NB251_250.out
    have hms80_2 := NB251_295.out
    have hs81 : w76.cell? ⟨gb251, 4, none⟩ = some (.int .i64 0) := (Zae BK251.out 4).trans rfl
    have hfs81 := Zax BK251.out 4
    have hns81_0 := NB250_251.out
    have hns81_2 := NB295_251.out
    have hms81_0 := NB251_250.out
    have hms81_2 := NB251_295.out
    have hs82 : w76.cell? ⟨gb251, 5, none⟩ = some (.slice none 0 0) := (Zae BK251.out 5).trans rfl
    have hfs82 := Zax BK251.out 5
    have hns82_0 := NB250_251.out
    have hns82_2 := NB295_251.out
    have hms82_0 := NB251_250.out
    have hms82_2 := NB251_295.out
    have hs83 : w76.cell? ⟨gb251, 6, none⟩ = some (.int .i64 0) := (Zae BK251.out 6).trans rfl
    have hfs83 := Zax BK251.out 6
    have hns83_0 := NB250_251.out
    have hns83_2 := NB295_251.out
    have hms83_0 := NB251_250.out
    have hms83_2 := NB251_295.out
    refine skip_ (w1 := ?_) (by rfl) rfl ?_ ?_
    rotate_left
    ·go_simp
     rfl
    refine hK.out _ _ ⟨((cell_far (p := ⟨gb251, _, none⟩) NB295_251.out _).trans (((cell_far (p := ⟨gb251, _, none⟩) NB295_251.out _).trans (((cell_far (p := ⟨gb251, _, none⟩) NB295_251.out _).trans (((cell_far (p := ⟨gb251, _, none⟩) NB295_251.out _).trans (((cell_far (p := ⟨gb251, _, none⟩) NB295_251.out _).trans (((cell_far (p := ⟨gb251, _, none⟩) NB295_251.out _).trans (((cell_far (p := ⟨gb251, _, none⟩) NB295_251.out _).trans (hHeld.1)))))))))))))), ((cell_far (p := ⟨gb251, _, none⟩) NB295_251.out _).trans (((cell_far (p := ⟨gb251, _, none⟩) NB295_251.out _).trans (((cell_far (p := ⟨gb251, _, none⟩) NB295_251.out _).trans (((cell_far (p := ⟨gb251, _, none⟩) NB295_251.out _).trans (((cell_far (p := ⟨gb251, _, none⟩) NB295_251.out _).trans (((cell_far (p := ⟨gb251, _, none⟩) NB295_251.out _).trans (((cell_far (p := ⟨gb251, _, none⟩) NB295_251.out _).trans (hHeld.2.1)))))))))))))), ((cell_far (p := ⟨gb251, _, none⟩) NB295_251.out _).trans (((cell_far (p := ⟨gb251, _, none⟩) NB295_251.out _).trans (((cell_far (p := ⟨gb251, _, none⟩) NB295_251.out _).trans (((cell_far (p := ⟨gb251, _, none⟩) NB295_251.out _).trans (((cell_far (p := ⟨gb251, _, none⟩) NB295_251.out _).trans (((cell_far (p := ⟨gb251, _, none⟩) NB295_251.out _).trans (((cell_far (p := ⟨gb251, _, none⟩) NB295_251.out _).trans (hHeld.2.2.1)))))))))))))), ((cell_far (p := ⟨gb251, _, none⟩) NB295_251.out _).trans (((cell_far (p := ⟨gb251, _, none⟩) NB295_251.out _).trans (((cell_far (p := ⟨gb251, _, none⟩) NB295_251.out _).trans (((cell_far (p := ⟨gb251, _, none⟩) NB295_251.out _).trans (((cell_far (p := ⟨gb251, _, none⟩) NB295_251.out _).trans (((cell_far (p := ⟨gb251, _, none⟩) NB295_251.out _).trans (((cell_far (p := ⟨gb251, _, none⟩) NB295_251.out _).trans (hHeld.2.2.2.1)))))))))))))), ((cell_far (p := ⟨gb251, _, none⟩) NB295_251.out _).trans (((cell_far (p := ⟨gb251, _, none⟩) NB295_251.out _).trans (((cell_far (p := ⟨gb251, _, none⟩) NB295_251.out _).trans (((cell_far (p := ⟨gb251, _, none⟩) NB295_251.out _).trans (((cell_far (p := ⟨gb251, _, none⟩) NB295_251.out _).trans (((cell_far (p := ⟨gb251, _, none⟩) NB295_251.out _).trans (((cell_far (p := ⟨gb251, _, none⟩) NB295_251.out _).trans (hHeld.2.2.2.2.1)))))))))))))), ((cell_far (p := ⟨gb251, _, none⟩) NB295_251.out _).trans (((cell_far (p := ⟨gb251, _, none⟩) NB295_251.out _).trans (((cell_far (p := ⟨gb251, _, none⟩) NB295_251.out _).trans (((cell_far (p := ⟨gb251, _, none⟩) NB295_251.out _).trans (((cell_far (p := ⟨gb251, _, none⟩) NB295_251.out _).trans (((cell_far (p := ⟨gb251, _, none⟩) NB295_251.out _).trans (((cell_far (p := ⟨gb251, _, none⟩) NB295_251.out _).trans (hHeld.2.2.2.2.2.1)))))))))))))), ((cell_far (p := ⟨gb251, _, none⟩) NB295_251.out _).trans (((cell_far (p := ⟨gb251, _, none⟩) NB295_251.out _).trans (((cell_far (p := ⟨gb251, _, none⟩) NB295_251.out _).trans (((cell_far (p := ⟨gb251, _, none⟩) NB295_251.out _).trans (((cell_far (p := ⟨gb251, _, none⟩) NB295_251.out _).trans (((cell_far (p := ⟨gb251, _, none⟩) NB295_251.out _).trans (((cell_far (p := ⟨gb251, _, none⟩) NB295_251.out _).trans (hHeld.2.2.2.2.2.2))))))))))))))⟩ (fun hHeld => ?_)
    clear hK K
    refine Zbn (i := 8) (N := some 6) (v := ?_) (a' := ?_) #[true, true, true, true, true, true, true, true, true] rfl rfl (Za5 HT_.out (by kernel_rfl)) (fun _ _ _ h => h) (Or.inl ⟨by rfl, ?_⟩) ?_ ?_
    rotate_left
    ·intro w'
     go_simp
     with_reducible rfl
    rotate_left
    ·simp only [Act.put, List.setIfInBounds_toArray, List.set_cons_zero, List.set_cons_succ, Za4, Za7]
     rfl
    refine Zew (Zc7 HT_.out (by kernel_rfl)) ?_
    try go_wp2
    refine bodyPost_ret (Zfj (rs := [.tmp 4, .cell 5 25, .tmp 6]) rfl (by simp) (.tmp (.cell gb251 25 #[.int .i64 a1, .slice Ao65 t283.length co65, .slice Ao66 t286.length co66, .int .i64 t289, .int .i64 t290, .slice Ao67 y296.length co67, .int .i64 t294] (0, 0) _ rfl (by (with_reducible repeat (first | refine Zah ?_ _ | refine Zaj ?_ | refine Zaf ?_ _)); refine Zbr (cs := #[.int .i64 a1, .slice Ao65 t283.length co65, .slice Ao66 t286.length co66, .int .i64 t289, .int .i64 t290, .slice Ao67 y296.length co67, .int .i64 0]) ?_ 6 _ rfl; (with_reducible repeat (first | refine Zah ?_ _ | refine Zaj ?_ | refine Zaf ?_ _)); refine Zbr (cs := #[.int .i64 a1, .slice Ao65 t283.length co65, .slice Ao66 t286.length co66, .int .i64 t289, .int .i64 t290, .slice none 0 0, .int .i64 0]) ?_ 5 _ rfl; (with_reducible repeat (first | refine Zah ?_ _ | refine Zaj ?_ | refine Zaf ?_ _)); refine Zbr (cs := #[.int .i64 a1, .slice Ao65 t283.length co65, .slice Ao66 t286.length co66, .int .i64 t289, .int .i64 0, .slice none 0 0, .int .i64 0]) ?_ 4 _ rfl; (with_reducible repeat (first | refine Zah ?_ _ | refine Zaj ?_ | refine Zaf ?_ _)); refine Zbr (cs := #[.int .i64 a1, .slice Ao65 t283.length co65, .slice Ao66 t286.length co66, .int .i64 0, .int .i64 0, .slice none 0 0, .int .i64 0]) ?_ 3 _ rfl; (with_reducible repeat (first | refine Zah ?_ _ | refine Zaj ?_ | refine Zaf ?_ _)); refine Zbr (cs := #[.int .i64 a1, .slice Ao65 t283.length co65, .slice none 0 0, .int .i64 0, .int .i64 0, .slice none 0 0, .int .i64 0]) ?_ 2 _ rfl; (with_reducible repeat (first | refine Zah ?_ _ | refine Zaj ?_ | refine Zaf ?_ _)); refine Zbr (cs := #[.int .i64 a1, .slice none 0 0, .slice none 0 0, .int .i64 0, .int .i64 0, .slice none 0 0, .int .i64 0]) ?_ 1 _ rfl; (with_reducible repeat (first | refine Zah ?_ _ | refine Zaj ?_ | refine Zaf ?_ _)); refine Zbr (cs := #[.int .i64 0, .slice none 0 0, .slice none 0 0, .int .i64 0, .int .i64 0, .slice none 0 0, .int .i64 0]) ?_ 0 _ rfl; (with_reducible repeat (first | refine Zah ?_ _ | refine Zaj ?_ | refine Zaf ?_ _)); exact BK251.out) Try.underlying25 rfl (by kernel_rfl) (.tmp .nil)))) rfl ?_
    exact ⟨_, _, _, _, by first | rfl | (simp [Zaq, Zar] <;> rfl) | (simp only [← hji54]; first | rfl | (simp [Zaq, Zar] <;> rfl)) | (simp [*, Zaq, Zar] <;> rfl), by (with_reducible repeat (first | apply Kd.S_alloc | apply Kd.S_drewN | apply Kd.Zb6)); exact Kd.Zck (Kd.Zb2 (p := ⟨gb251, 6, none⟩) (Kd.Zb2 (p := ⟨gb251, 5, none⟩) (Kd.Zb2 (p := ⟨gb251, 4, none⟩) (Kd.Zb2 (p := ⟨gb251, 3, none⟩) (Kd.Zb2 (p := ⟨gb251, 2, none⟩) (Kd.Zb2 (p := ⟨gb251, 1, none⟩) (Kd.Zb2 (p := ⟨gb251, 0, none⟩) (Kd.Zcx HO_7.out BK251.out (by decide)) (fun _ hk => hk.2) (.int .i64 a1)) (fun _ hk => hk.2) (.slice Ao65 t283.length co65)) (fun _ hk => hk.2) (.slice Ao66 t286.length co66)) (fun _ hk => hk.2) (.int .i64 t289)) (fun _ hk => hk.2) (.int .i64 t290)) (fun _ hk => hk.2) (.slice Ao67 y296.length co67)) (fun _ hk => hk.2) (.int .i64 t294)) (fun _ hk => trivial), by (with_reducible repeat (first | apply Kd.R_alloc | apply Kd.Zbh | apply Kd.Zbl)); exact Kd.Zbm (Kd.Zbx (p := ⟨gb251, 6, none⟩) (Kd.Zbx (p := ⟨gb251, 5, none⟩) (Kd.Zbx (p := ⟨gb251, 4, none⟩) (Kd.Zbx (p := ⟨gb251, 3, none⟩) (Kd.Zbx (p := ⟨gb251, 2, none⟩) (Kd.Zbx (p := ⟨gb251, 1, none⟩) (Kd.Zbx (p := ⟨gb251, 0, none⟩) (Kd.Zc HO285.out BK251.out (by decide)) (fun _ hk => hk.2) (.int .i64 a1)) (fun _ hk => hk.2) (.slice Ao65 t283.length co65)) (fun _ hk => hk.2) (.slice Ao66 t286.length co66)) (fun _ hk => hk.2) (.int .i64 t289)) (fun _ hk => hk.2) (.int .i64 t290)) (fun _ hk => hk.2) (.slice Ao67 y296.length co67)) (fun _ hk => hk.2) (.int .i64 t294)) (fun _ hk => hk.1), by (with_reducible repeat (first | apply Kd.R_alloc | apply Kd.Zbh | apply Kd.Zbl)); exact Kd.Zbm (Kd.Zbx (p := ⟨gb251, 6, none⟩) (Kd.Zbx (p := ⟨gb251, 5, none⟩) (Kd.Zbx (p := ⟨gb251, 4, none⟩) (Kd.Zbx (p := ⟨gb251, 3, none⟩) (Kd.Zbx (p := ⟨gb251, 2, none⟩) (Kd.Zbx (p := ⟨gb251, 1, none⟩) (Kd.Zbx (p := ⟨gb251, 0, none⟩) (Kd.Zc HO288.out BK251.out (by decide)) (fun _ hk => hk.2) (.int .i64 a1)) (fun _ hk => hk.2) (.slice Ao65 t283.length co65)) (fun _ hk => hk.2) (.slice Ao66 t286.length co66)) (fun _ hk => hk.2) (.int .i64 t289)) (fun _ hk => hk.2) (.int .i64 t290)) (fun _ hk => hk.2) (.slice Ao67 y296.length co67)) (fun _ hk => hk.2) (.int .i64 t294)) (fun _ hk => hk.1), by (with_reducible repeat (first | apply Kd.S_alloc | apply Kd.S_drewN | apply Kd.Zb6)); exact Kd.Zck (Kd.Zb2 (p := ⟨gb251, 6, none⟩) (Kd.Zb2 (p := ⟨gb251, 5, none⟩) (Kd.Zb2 (p := ⟨gb251, 4, none⟩) (Kd.Zb2 (p := ⟨gb251, 3, none⟩) (Kd.Zb2 (p := ⟨gb251, 2, none⟩) (Kd.Zb2 (p := ⟨gb251, 1, none⟩) (Kd.Zb2 (p := ⟨gb251, 0, none⟩) (Kd.Zcx HO298.out BK251.out (by decide)) (fun _ hk => hk.2) (.int .i64 a1)) (fun _ hk => hk.2) (.slice Ao65 t283.length co65)) (fun _ hk => hk.2) (.slice Ao66 t286.length co66)) (fun _ hk => hk.2) (.int .i64 t289)) (fun _ hk => hk.2) (.int .i64 t290)) (fun _ hk => hk.2) (.slice Ao67 y296.length co67)) (fun _ hk => hk.2) (.int .i64 t294)) (fun _ hk => ⟨hk.1.1, hk.1.2⟩), by repeat (first | (with_reducible first | exact HB.out | apply Zac | apply Zaa | apply Zab | refine Zag ?_ GE250.out | refine Zag ?_ GE251.out | refine Zag ?_ GE295.out) | exact HB.out)⟩
   rw [if_pos c7] at H
   have c7b0 : decide (x8_1 < (l0_0.length : Int)) = true := decide_eq_true c7
   clear c7
   by_cases c8 : x8_1 < 4
   ·rw [if_pos c8] at H
    have c8b0 : decide (x8_1 < 4) = true := decide_eq_true c8
    clear c8
    by_cases c9 : 0 ≤ x8_1
    rotate_left
    ·rw [if_neg c9] at H
     exact absurd H (by simp)
    rw [if_pos c9] at H
    have c9b0 : decide (0 ≤ x8_1) = true := decide_eq_true c9
    clear c9
    obtain ⟨ji10, hji10⟩ : ∃ j_ : Int, (mn ((Zbt l0_0 x8_1).length : Int) 6) = j_ := ⟨_, rfl⟩
    replace H : (if 0 ≤ (ji10) then (if (ji10) ≤ ((Zbt l0_0 x8_1).length : Int) then ((Zbf.f k1 ((Zbt l0_0 x8_1).take ((ji10) : Int).toNat)).bind fun t258 => (if x7_1.length < 5864062014805 then (Zap.l0 k1 a1 (x7_1 ++ [t258]) (wrap64 (x8_1 + 1)) l0_0 a0_1 l0_2 l0_3 a0_4 a0_5 l0_6 a0_7 l0_8 l0_9) else (none))) else (none)) else (none)) = some (r1, r2, r3, r4, r5, r6, r7, r8, r9) := by first | (rw [hji10] at H; exact H) | (simp only [hji10] at H ⊢; exact H)
    have hji10_ : (if 6 < ((Zbt l0_0 x8_1).length : Int) then 6 else ((Zbt l0_0 x8_1).length : Int)) = ji10 := hji10
    by_cases c11 : 0 ≤ (ji10)
    rotate_left
    ·rw [if_neg c11] at H
     exact absurd H (by simp)
    rw [if_pos c11] at H
    have c11b0 := eq_true c11
    have c11b1 : decide (0 ≤ (ji10)) = true := decide_eq_true c11
    clear c11
    by_cases c12 : (ji10) ≤ ((Zbt l0_0 x8_1).length : Int)
    rotate_left
    ·rw [if_neg c12] at H
     exact absurd H (by simp)
    rw [if_pos c12] at H
    have c12b0 := eq_true c12
    have c12b1 : decide ((ji10) ≤ ((Zbt l0_0 x8_1).length : Int)) = true := decide_eq_true c12
    clear c12
    replace H := Option.bind_eq_some_iff.mp H
    obtain ⟨t258, A130, H⟩ := H
    replace H : (if x7_1.length < 5864062014805 then (Zap.l0 k1 a1 (x7_1 ++ [t258]) (wrap64 (x8_1 + 1)) l0_0 a0_1 l0_2 l0_3 a0_4 a0_5 l0_6 a0_7 l0_8 l0_9) else (none)) = some (r1, r2, r3, r4, r5, r6, r7, r8, r9) := H
    have A13 := Za.mk A130
    clear A130
    by_cases c14 : x7_1.length < 5864062014805
    rotate_left
    ·rw [if_neg c14] at H
     exact absurd H (by simp)
    rw [if_pos c14] at H
    have LMc14 := Za.mk c14
    clear c14
    obtain ⟨y261, hy261⟩ : ∃ y_ : List (List (S41)), y_ = (x7_1 ++ [t258]) := ⟨_, rfl⟩
    replace H : (Zap.l0 k1 a1 y261 (wrap64 (x8_1 + 1)) l0_0 a0_1 l0_2 l0_3 a0_4 a0_5 l0_6 a0_7 l0_8 l0_9) = some (r1, r2, r3, r4, r5, r6, r7, r8, r9) := by first | (rw [hy261]; with_reducible exact H) | (have H2_ := (Option.bind_some _ _).symm.trans H; rw [hy261]; with_reducible exact H2_) | (have H2_ := (Option.bind_some _ _).symm.trans H; with_reducible exact H2_) | with_reducible exact H | (rw [hy261]; exact H) | exact H
    have Ny261 := Za.mk hy261
    clear hy261
    have H' := Za.mk H
    clear H
    have hnb15 := NB250_251.out
    have hnc15 := NB251_250.out
    obtain ⟨hcz16_0, hcz16_1, hcz16_2, hcz16_3, hcz16_4, hcz16_5, hcz16_6, hcz16_7, hcz16_8, hcz16_9, hfz16_0, hfz16_1, hfz16_2, hfz16_3, hfz16_4, hfz16_5, hfz16_6, hfz16_7, hfz16_8, hfz16_9⟩ := blks10 BK250.out
    try go_wp2
    have n0_ := Za.mk (Kd.Zb6 HO_7.out)
    have n1_ := Za.mk (Zaj BK250.out)
    have n2_ := Za.mk (Zaj BK251.out)
    have n3_ := Za.mk (Zab HB.out)
    clear HO_7
    clear BK250
    clear BK251
    clear HB
    have HO_7 := n0_
    have BK250 := n1_
    have BK251 := n2_
    have HB := n3_
    clear n0_ n1_ n2_ n3_
    have p255 : 0 ≤ (x8_1 : Int) := of_decide_eq_true (by first | (with_reducible assumption) | assumption)
    have q255 : x8_1 < (l0_0.length : Int) := of_decide_eq_true (by first | (with_reducible assumption) | assumption)
    obtain ⟨ad255, A255_0, c255_0, e255, hx255_0, hl255_0, hi255_0⟩ := Zd2 HR0_0.out x8_1 p255 q255
    have hw255_0 := hx255_0
    cases e255
    replace hx255_0 := (HB.out.cell (World.block_lt_of_cell? w _ hx255_0)).trans hx255_0
    have HR255_0 := Za.mk hi255_0
    have HC255_0 := Za.mk hl255_0
    clear hi255_0 hl255_0
    replace p255 := eq_true p255
    replace q255 := eq_true q255
    have p256 : 0 ≤ (x8_1 : Int) := of_decide_eq_true (by first | (with_reducible assumption) | assumption)
    have q256 : x8_1 < (l0_0.length : Int) := of_decide_eq_true (by first | (with_reducible assumption) | assumption)
    obtain ⟨ad256, A256_0, c256_0, e256, hx256_0, hl256_0, hi256_0⟩ := Zd2 HR0_0.out x8_1 p256 q256
    have hw256_0 := hx256_0
    obtain rfl : ad255 = ad256 := (by injection e256)
    replace hx256_0 := (HB.out.cell (World.block_lt_of_cell? w _ hx256_0)).trans hx256_0
    have HR256_0 := Za.mk hi256_0
    have HC256_0 := Za.mk hl256_0
    clear hi256_0 hl256_0
    replace p256 := eq_true p256
    replace q256 := eq_true q256
    have ea_ := Option.some.inj (hx255_0.symm.trans hx256_0)
    injection ea_ with ea_ en_ ec_
    subst ea_
    subst ec_
    clear en_
    obtain ⟨i018, hi018, _, hsz18, _⟩ := info_parts info3
    obtain ⟨hcut18, hA18, hC18⟩ := print_take_of (P := Try.prog) (Value.int .i64) 0 23 3 .i64 Try.underlying23 hi018 hsz18 A255_0 c255_0 (Zbt l0_0 x8_1) (ji10) (of_decide_eq_true (by first | (with_reducible assumption) | assumption)) (of_decide_eq_true (by first | (with_reducible assumption) | assumption)) HC255_0.out
    have HR257 := Za.mk (Kd.C_of_reads (h1 := fun _ => rfl) (hA18 _ (Kd.Zgt HR255_0.out)))
    have HC257 := Za.mk hC18
    clear hA18 hC18 hi018 hsz18
    refine Zdl (n := 18) (S := fun w' => w'.cell? ⟨gb250, 0, none⟩ = some (.slice (some ad255) l0_0.length c0_0) ∧ w'.cell? ⟨gb250, 1, none⟩ = some (.int .i64 a0_1) ∧ w'.cell? ⟨gb250, 2, none⟩ = some (.slice A0_2 l0_2.length c0_2) ∧ w'.cell? ⟨gb250, 3, none⟩ = some (.slice A0_3 l0_3.length c0_3) ∧ w'.cell? ⟨gb250, 4, none⟩ = some (.int .i64 a0_4) ∧ w'.cell? ⟨gb250, 5, none⟩ = some (.int .i64 a0_5) ∧ w'.cell? ⟨gb250, 6, none⟩ = some (.slice A0_6 l0_6.length c0_6) ∧ w'.cell? ⟨gb250, 7, none⟩ = some (.int .i64 a0_7) ∧ w'.cell? ⟨gb250, 8, none⟩ = some (.slice A0_8 l0_8.length c0_8) ∧ w'.cell? ⟨gb250, 9, none⟩ = some (.slice A0_9 l0_9.length c0_9) ∧ w'.cell? (ad255.add (x8_1).toNat) = some (.slice A255_0 (Zbt l0_0 x8_1).length c255_0) ∧ w'.cell? (ad255.add (x8_1).toNat) = some (.slice A255_0 (Zbt l0_0 x8_1).length c255_0)) (ds := []) #[false, false, false, false, false, false, false, false, false, false, false, false, false, false, false, false, false, false] (by kernel_rfl) rfl rfl ⟨(Zae BK250.out 0).trans rfl, (Zae BK250.out 1).trans rfl, (Zae BK250.out 2).trans rfl, (Zae BK250.out 3).trans rfl, (Zae BK250.out 4).trans rfl, (Zae BK250.out 5).trans rfl, (Zae BK250.out 6).trans rfl, (Zae BK250.out 7).trans rfl, (Zae BK250.out 8).trans rfl, (Zae BK250.out 9).trans rfl, ((HB.out.cell (World.block_lt_of_cell? w _ hw255_0)).trans hw255_0), ((HB.out.cell (World.block_lt_of_cell? w _ hw256_0)).trans hw256_0)⟩ (fun hHeld => ?_); refine Zcl Zap.tab5 Zap.bits5 (fun HT_ HW_ => ?_)
    generalize wr.drew = w17 at HO_7 BK250 BK251 HB HR255_0 HR256_0 HR257 hx255_0 hx256_0 hHeld ⊢
    refine Zbn (i := 0) (N := some 22) (v := ?_) (a' := ?_) #[true, false, false, false, false, false, false, false, false, false, false, false, false, false, false, false, false, false] rfl rfl (Za5 HT_.out (by kernel_rfl)) (fun _ _ _ h => h) (Or.inl ⟨by rfl, ?_⟩) ?_ ?_
    rotate_left
    ·intro w'
     go_simp
     with_reducible rfl
    rotate_left
    ·simp only [Act.put, List.setIfInBounds_toArray, List.set_cons_zero, List.set_cons_succ, Za4, Za7]
     rfl
    refine Zbn (i := 1) (N := some 23) (v := ?_) (a' := ?_) #[true, true, false, false, false, false, false, false, false, false, false, false, false, false, false, false, false, false] rfl rfl (Za5 HT_.out (by kernel_rfl)) (fun _ _ _ h => h) (Or.inl ⟨by rfl, ?_⟩) ?_ ?_
    rotate_left
    ·intro w'
     go_simp
     with_reducible rfl
    rotate_left
    ·simp only [Act.put, List.setIfInBounds_toArray, List.set_cons_zero, List.set_cons_succ, Za4, Za7]
     rfl
    refine Zbn (i := 3) (N := some 25) (v := ?_) (a' := ?_) #[true, true, false, true, false, false, false, false, false, false, false, false, false, false, false, false, false, false] rfl rfl (Za5 HT_.out (by kernel_rfl)) (fun _ _ _ h => h) (Or.inl ⟨by rfl, ?_⟩) ?_ ?_
    rotate_left
    ·intro w'
     go_simp
     with_reducible rfl
    rotate_left
    ·simp only [Act.put, List.setIfInBounds_toArray, List.set_cons_zero, List.set_cons_succ, Za4, Za7]
     rfl
    refine Zbn (i := 6) (N := some 28) (v := ?_) (a' := ?_) #[true, true, false, true, false, false, true, false, false, false, false, false, false, false, false, false, false, false] rfl rfl (Za5 HT_.out (by kernel_rfl)) (fun _ _ _ h => h) (Or.inl ⟨by rfl, ?_⟩) ?_ ?_
    rotate_left
    ·intro w'
     go_simp
     with_reducible rfl
    rotate_left
    ·simp only [Act.put, List.setIfInBounds_toArray, List.set_cons_zero, List.set_cons_succ, Za4, Za7]
     rfl
    refine Zbn (i := 8) (N := some 30) (v := ?_) (a' := ?_) #[true, true, false, true, false, false, true, false, true, false, false, false, false, false, false, false, false, false] rfl rfl (Za5 HT_.out (by kernel_rfl)) (fun _ _ _ h => h) (Or.inl ⟨by rfl, ?_⟩) ?_ ?_
    rotate_left
    ·intro w'
     go_simp
     with_reducible rfl
    rotate_left
    ·simp only [Act.put, List.setIfInBounds_toArray, List.set_cons_zero, List.set_cons_succ, Za4, Za7]
     rfl
    refine Zc3 (i := 2) (N := some 24) (v := ?_) (a' := ?_) #[true, true, true, true, false, false, true, false, true, false, false, false, false, false, false, false, false, false] rfl rfl (Zb1 HT_.out HW_.out (by kernel_rfl)) (fun _ _ _ h => h) (Or.inl ⟨by rfl, ?_⟩) hHeld ?_ ?_
    rotate_left
    ·rintro w' ⟨s0, s1, s2, s3, s4, s5, s6, s7, s8, s9, s10, s11⟩
     go_simp
     with_reducible rfl
    rotate_left
    ·simp only [Act.put, List.setIfInBounds_toArray, List.set_cons_zero, List.set_cons_succ, Za4, Za7]
     rfl
    refine Zbn (i := 4) (N := some 26) (v := ?_) (a' := ?_) #[true, true, true, true, true, false, true, false, true, false, false, false, false, false, false, false, false, false] rfl rfl (Za5 HT_.out (by kernel_rfl)) (fun _ _ _ h => h) (Or.inl ⟨by rfl, ?_⟩) ?_ ?_
    rotate_left
    ·intro w'
     go_simp
     with_reducible rfl
    rotate_left
    ·simp only [Act.put, List.setIfInBounds_toArray, List.set_cons_zero, List.set_cons_succ, Za4, Za7]
     rfl
    refine Zc3 (i := 5) (N := some 27) (v := ?_) (a' := ?_) #[true, true, true, true, true, true, true, false, true, false, false, false, false, false, false, false, false, false] rfl rfl (Zb1 HT_.out HW_.out (by kernel_rfl)) (fun _ _ _ h => h) (Or.inl ⟨by rfl, ?_⟩) hHeld ?_ ?_
    rotate_left
    ·rintro w' ⟨s0, s1, s2, s3, s4, s5, s6, s7, s8, s9, s10, s11⟩
     go_simp
     with_reducible rfl
    rotate_left
    ·simp only [Act.put, List.setIfInBounds_toArray, List.set_cons_zero, List.set_cons_succ, Za4, Za7]
     rfl
    refine Zc3 (i := 7) (N := some 29) (v := ?_) (a' := ?_) #[true, true, true, true, true, true, true, true, true, false, false, false, false, false, false, false, false, false] rfl rfl (Zb1 HT_.out HW_.out (by kernel_rfl)) (fun _ _ _ h => h) (Or.inl ⟨by rfl, ?_⟩) hHeld ?_ ?_
    rotate_left
    ·rintro w' ⟨s0, s1, s2, s3, s4, s5, s6, s7, s8, s9, s10, s11⟩
     go_simp
     with_reducible rfl
    rotate_left
    ·simp only [Act.put, List.setIfInBounds_toArray, List.set_cons_zero, List.set_cons_succ, Za4, Za7]
     rfl
    refine Zbn (i := 9) (N := some 31) (v := ?_) (a' := ?_) #[true, true, true, true, true, true, true, true, true, true, false, false, false, false, false, false, false, false] rfl rfl (Za5 HT_.out (by kernel_rfl)) (fun _ _ _ h => h) (Or.inl ⟨by rfl, ?_⟩) ?_ ?_
    rotate_left
    ·intro w'
     go_simp
     with_reducible rfl
    rotate_left
    ·simp only [Act.put, List.setIfInBounds_toArray, List.set_cons_zero, List.set_cons_succ, Za4, Za7]
     rfl
    refine Zc3 (i := 10) (N := some 32) (v := ?_) (a' := ?_) #[true, true, true, true, true, true, true, true, true, true, true, false, false, false, false, false, false, false] rfl rfl (Zb1 HT_.out HW_.out (by kernel_rfl)) (fun _ _ _ h => h) (Or.inl ⟨by rfl, ?_⟩) hHeld ?_ ?_
    rotate_left
    ·rintro w' ⟨s0, s1, s2, s3, s4, s5, s6, s7, s8, s9, s10, s11⟩
     go_simp
     with_reducible rfl
    rotate_left
    ·simp only [Act.put, List.setIfInBounds_toArray, List.set_cons_zero, List.set_cons_succ, Za4, Za7]
     rfl
    refine Zbn (i := 11) (N := some 33) (v := ?_) (a' := ?_) #[true, true, true, true, true, true, true, true, true, true, true, true, false, false, false, false, false, false] rfl rfl (Za5 HT_.out (by kernel_rfl)) (fun _ _ _ h => h) (Or.inl ⟨by rfl, ?_⟩) ?_ ?_
    rotate_left
    ·intro w'
     go_simp
     with_reducible rfl
    rotate_left
    ·simp only [Act.put, List.setIfInBounds_toArray, List.set_cons_zero, List.set_cons_succ, Za4, Za7]
     rfl
    refine Zbn (i := 12) (N := some 34) (v := ?_) (a' := ?_) #[true, true, true, true, true, true, true, true, true, true, true, true, true, false, false, false, false, false] rfl rfl (Za5 HT_.out (by kernel_rfl)) (fun _ _ _ h => h) (Or.inl ⟨by rfl, ?_⟩) ?_ ?_
    rotate_left
    ·intro w'
     go_simp
     with_reducible rfl
    rotate_left
    ·simp only [Act.put, List.setIfInBounds_toArray, List.set_cons_zero, List.set_cons_succ, Za4, Za7]
     rfl
    refine Zbn (i := 13) (N := some 35) (v := ?_) (a' := ?_) #[true, true, true, true, true, true, true, true, true, true, true, true, true, true, false, false, false, false] rfl rfl (Za5 HT_.out (by kernel_rfl)) (fun _ _ _ h => h) (Or.inl ⟨by rfl, ?_⟩) ?_ ?_
    rotate_left
    ·intro w'
     go_simp
     with_reducible rfl
    rotate_left
    ·simp only [Act.put, List.setIfInBounds_toArray, List.set_cons_zero, List.set_cons_succ, Za4, Za7]
     rfl
    refine one_ (i := 14) (N := some 36) #[true, true, true, true, true, true, true, true, true, true, true, true, true, true, true, false, false, false] rfl rfl (Zc4 HT_.out (by kernel_rfl)) (by decide) (fun K hK => ?_)
    refine goes_ Try.func40 (by kernel_rfl) rfl #[.slice A255_0 ((Zbt l0_0 x8_1).take ((ji10) : Int).toNat).length c255_0] (by rfl) rfl rfl (by (try simp only [List.map_toArray, List.map_cons, List.map_nil]); first | done | (rw [show ((Zbt l0_0 x8_1).take ((ji10) : Int).toNat).length = (ji10).toNat from (by rw [List.length_take]; have h_ : ((ji10) : Int) ≤ ((Zbt l0_0 x8_1).length : Int) := of_decide_eq_true (by first | (with_reducible assumption) | assumption); omega)] <;> rfl) | (simp only [hji10]; rfl) | rfl | (simp only [List.length_drop, List.length_take]; rfl)) ?_
    with_reducible refine (Zbf.calls k1 _ _ ((Zbt l0_0 x8_1).take ((ji10) : Int).toNat) t258 _ ?side1 ?side2 A13.out).mono ?_
    (case side1 => repeat (first | exact (Kd.Zaw HR257.out HB.out) | (with_reducible refine Kd.C_alloc ?_ _) | (with_reducible refine Kd.Za0 ?_ _) | (with_reducible refine Kd.C_drew ?_)))
    (case side2 => exact HC257.out)
    rintro e w19 ⟨v259, rfl, ho0, hb⟩
    refine ⟨_, rfl, ?_⟩
    have n0_ := Za.mk (Kd.Zee (mvS HO_7.out) (Kd.Zdn ho0) hb)
    have n1_ := Za.mk (Kd.Zbz ho0 (Zam (mvB HB.out)))
    have n2_ := Za.mk (Za6 (g := gb250) (o := .cells #[.slice (some ad255) l0_0.length c0_0, .int .i64 a0_1, .slice A0_2 l0_2.length c0_2, .slice A0_3 l0_3.length c0_3, .int .i64 a0_4, .int .i64 a0_5, .slice A0_6 l0_6.length c0_6, .int .i64 a0_7, .slice A0_8 l0_8.length c0_8, .slice A0_9 l0_9.length c0_9] 27 (0, 0)) (mvK BK250.out) hb)
    have n3_ := Za.mk (Za6 (g := gb251) (o := .cells #[.int .i64 0, .slice none 0 0, .slice none 0 0, .int .i64 0, .int .i64 0, .slice none 0 0, .int .i64 0] 25 (0, 0)) (mvK BK251.out) hb)
    have n4_ := Za.mk (Zan (mvB HB.out) hb)
    clear HO_7
    clear BK250
    clear BK251
    clear HB
    have HO_7 := n0_
    have HO260 := n1_
    have BK250 := n2_
    have BK251 := n3_
    have HB := n4_
    clear n0_ n1_ n2_ n3_ n4_
    (try clear hb)
    (try clear hb2)
    (try clear hk)
    (try clear hi)
    (try clear ho0)
    obtain ⟨Ao21, co21, eo21⟩ := Kd.Zbw HO260.out
    (first | subst eo21 | (injection eo21 with f1_ f2_ f3_; have f4_ := f1_.symm; have f5_ := f3_.symm; clear f1_ f2_ f3_; subst f4_; subst f5_))
    refine hK.out _ _ ⟨(Zae BK250.out 0).trans rfl, (Zae BK250.out 1).trans rfl, (Zae BK250.out 2).trans rfl, (Zae BK250.out 3).trans rfl, (Zae BK250.out 4).trans rfl, (Zae BK250.out 5).trans rfl, (Zae BK250.out 6).trans rfl, (Zae BK250.out 7).trans rfl, (Zae BK250.out 8).trans rfl, (Zae BK250.out 9).trans rfl, ((HB.out.cell (World.block_lt_of_cell? w _ hw255_0)).trans hw255_0), ((HB.out.cell (World.block_lt_of_cell? w _ hw256_0)).trans hw256_0)⟩ (fun hHeld => ?_)
    clear hK K
    refine Zea (a' := ?_) ?_ ?_
    rotate_left
    ·show Act.put _ (some 36) _ = _
     simp only [Act.put, List.setIfInBounds_toArray, List.set_cons_zero, List.set_cons_succ, Za4, Za7]
     rfl
    refine one_ (i := 15) (N := some 37) #[true, true, true, true, true, true, true, true, true, true, true, true, true, true, true, true, false, false] rfl rfl (Zc4 HT_.out (by kernel_rfl)) (by decide) (fun K hK => ?_)
    refine Zgg (w1 := ?_) (v := ?_) (by rfl) rfl ?_ ?_
    rotate_left 2
    ·go_simp
     constructor
     ·rfl
     rfl
    refine hK.out _ _ ⟨(Zae (Zaf BK250.out _) 0).trans rfl, (Zae (Zaf BK250.out _) 1).trans rfl, (Zae (Zaf BK250.out _) 2).trans rfl, (Zae (Zaf BK250.out _) 3).trans rfl, (Zae (Zaf BK250.out _) 4).trans rfl, (Zae (Zaf BK250.out _) 5).trans rfl, (Zae (Zaf BK250.out _) 6).trans rfl, (Zae (Zaf BK250.out _) 7).trans rfl, (Zae (Zaf BK250.out _) 8).trans rfl, (Zae (Zaf BK250.out _) 9).trans rfl, (World.cell?_alloc_lt _ _ _ (World.block_lt_of_cell? _ _ (((HB.out.cell (World.block_lt_of_cell? w _ hw255_0)).trans hw255_0)))).trans (((HB.out.cell (World.block_lt_of_cell? w _ hw255_0)).trans hw255_0)), (World.cell?_alloc_lt _ _ _ (World.block_lt_of_cell? _ _ (((HB.out.cell (World.block_lt_of_cell? w _ hw256_0)).trans hw256_0)))).trans (((HB.out.cell (World.block_lt_of_cell? w _ hw256_0)).trans hw256_0))⟩ (fun hHeld => ?_)
    clear hK K
    refine Zea (a' := ?_) ?_ ?_
    rotate_left
    ·show Act.put _ (some 37) _ = _
     simp only [Act.put, List.setIfInBounds_toArray, List.set_cons_zero, List.set_cons_succ, Za4, Za7]
     rfl
    refine one_ (i := 16) (N := some 38) #[true, true, true, true, true, true, true, true, true, true, true, true, true, true, true, true, true, false] rfl rfl (Zc4 HT_.out (by kernel_rfl)) (by decide) (fun K hK => ?_)
    refine Kd.S_append_step (Kd.slice 41 k41) (w0 := w) w.heap.size (by rfl) (.tmp 22) (.tmp 37) 28 39 (.slice none 0 0) 24 rfl Try.underlying28 info39 rfl (by decide) (by omega) u7 x7_1 t258 [.slice Ao21 t258.length co21] (fun _ => True) (fun k_ => some k_ = (.slice Ao21 t258.length co21 : Value).ownBlock) rfl rfl ?aP (fun k_ hk_ => ((Kd.Zbm (ok' := fun k_ => ((fun _ => True)) k_ ∧ some k_ ≠ (u7 : Value).ownBlock) (Kd.Zc0 (HO260.out) (Kd.Zc2 HO_7.out) (by decide)) (fun k_ hk => ⟨trivial, hk.2⟩))).1 k_ hk_.symm) ?aF ?aO ?aB ?aS ?aL ?_
    (case aP => exact Kd.M_row (Kd.Zbm (Kd.Zd4 rfl (Kd.Zbm (ok' := fun k_ => ((fun _ => True)) k_ ∧ some k_ ≠ (u7 : Value).ownBlock) (Kd.Zc0 (HO260.out) (Kd.Zc2 HO_7.out) (by decide)) (fun k_ hk => ⟨trivial, hk.2⟩))) (fun _ h_ => h_)))
    (case aB => exact (mvB HB.out))
    (case aF => exact (fun _ _ => trivial))
    (case aO => exact (mvS (Kd.Zck HO_7.out (fun k_ hk => ⟨trivial, fun e_ => hk.2 e_⟩))))
    (case aS => exact (Zam (mvB HB.out)))
    (case aL => have := LMc14.out; omega)
    intro v262 w20 ho hb hg hat
    rw [← Ny261.out] at ho
    have n0_ := Za.mk (Zcp (g := gb250) (o := .cells #[.slice (some ad255) l0_0.length c0_0, .int .i64 a0_1, .slice A0_2 l0_2.length c0_2, .slice A0_3 l0_3.length c0_3, .int .i64 a0_4, .int .i64 a0_5, .slice A0_6 l0_6.length c0_6, .int .i64 a0_7, .slice A0_8 l0_8.length c0_8, .slice A0_9 l0_9.length c0_9] 27 (0, 0)) (mvK BK250.out) hg (Kd.S_ne HO_7.out BK250.out (by decide)))
    have n1_ := Za.mk (Zcp (g := gb251) (o := .cells #[.int .i64 0, .slice none 0 0, .slice none 0 0, .int .i64 0, .int .i64 0, .slice none 0 0, .int .i64 0] 25 (0, 0)) (mvK BK251.out) hg (Kd.S_ne HO_7.out BK251.out (by decide)))
    have n2_ := Za.mk (hb)
    have n3_ := Za.mk (ho)
    clear BK250
    clear BK251
    clear HB
    clear HO_7
    clear HO260
    have BK250 := n0_
    have BK251 := n1_
    have HB := n2_
    have HO263 := n3_
    clear n0_ n1_ n2_ n3_
    clear ho hb hg hat
    refine hK.out _ _ ⟨(Zae BK250.out 0).trans rfl, (Zae BK250.out 1).trans rfl, (Zae BK250.out 2).trans rfl, (Zae BK250.out 3).trans rfl, (Zae BK250.out 4).trans rfl, (Zae BK250.out 5).trans rfl, (Zae BK250.out 6).trans rfl, (Zae BK250.out 7).trans rfl, (Zae BK250.out 8).trans rfl, (Zae BK250.out 9).trans rfl, ((HB.out.cell (World.block_lt_of_cell? w _ hw255_0)).trans hw255_0), ((HB.out.cell (World.block_lt_of_cell? w _ hw256_0)).trans hw256_0)⟩ (fun hHeld => ?_)
    clear hK K
    refine Zea (a' := ?_) ?_ ?_
    rotate_left
    ·show Act.put _ (some 38) _ = _
     simp only [Act.put, List.setIfInBounds_toArray, List.set_cons_zero, List.set_cons_succ, Za4, Za7]
     rfl
    refine Zbn (i := 17) (N := some 7) (v := ?_) (a' := ?_) #[true, true, true, true, true, true, true, true, true, true, true, true, true, true, true, true, true, true] rfl rfl (Za5 HT_.out (by kernel_rfl)) (fun _ _ _ h => h) (Or.inl ⟨by rfl, ?_⟩) ?_ ?_
    rotate_left
    ·intro w'
     go_simp
     with_reducible rfl
    rotate_left
    ·simp only [Act.put, List.setIfInBounds_toArray, List.set_cons_zero, List.set_cons_succ, Za4, Za7]
     rfl
    refine Zew (Zc7 HT_.out (by kernel_rfl)) ?_
    try go_wp2
    go_roundg k1
    case measure => have := HK1.out; omega
    case rel => exact ⟨(y261), (wrap64 (x8_1 + 1)), (by first | rfl | (simp; done) | (simp [*]; done)), H', ⟨by have := HK1.out; omega⟩, ⟨by (with_reducible repeat (first | apply Kd.S_alloc | apply Kd.S_drewN | apply Kd.Zb6)); exact HO263.out⟩, ⟨by (with_reducible repeat (first | refine Zah ?_ _ | refine Zaj ?_ | refine Zaf ?_ _)); exact BK250.out⟩, ⟨by (with_reducible repeat (first | refine Zah ?_ _ | refine Zaj ?_ | refine Zaf ?_ _)); exact BK251.out⟩, ⟨by repeat (first | (with_reducible first | exact HB.out | apply Zac | apply Zaa | apply Zab | refine Zag ?_ GE250.out | refine Zag ?_ GE251.out) | exact HB.out)⟩⟩
   rw [if_neg c8] at H
   have c8b0 : decide (x8_1 < 4) = false := decide_eq_false c8
   clear c8
   replace H := Option.bind_eq_some_iff.mp H
   obtain ⟨⟨t264, t265, t268, t271, t272, t273, t276⟩, A220, H⟩ := H
   replace H : (if 0 ≤ (mn (t273.length : Int) 20) then (if (mn (t273.length : Int) 20) ≤ (t273.length : Int) then ((some (t273.take ((mn (t273.length : Int) 20) : Int).toNat : List (List Int))).bind fun y278 => ((Zat.f k1 x7_1 a1 t265 t268 t271 t272 y278 t276).bind fun t281 => (some (x7_1, a1, t265, t268, t271, t272, y278, t276, (t281 == 0))))) else (none)) else (none)) = some (r1, r2, r3, r4, r5, r6, r7, r8, r9) := H
   have A22 := Za.mk A220
   clear A220
   obtain ⟨ji23, hji23⟩ : ∃ j_ : Int, (mn (t273.length : Int) 20) = j_ := ⟨_, rfl⟩
   replace H : (if 0 ≤ (ji23) then (if (ji23) ≤ (t273.length : Int) then ((some (t273.take ((ji23) : Int).toNat : List (List Int))).bind fun y278 => ((Zat.f k1 x7_1 a1 t265 t268 t271 t272 y278 t276).bind fun t281 => (some (x7_1, a1, t265, t268, t271, t272, y278, t276, (t281 == 0))))) else (none)) else (none)) = some (r1, r2, r3, r4, r5, r6, r7, r8, r9) := by first | (rw [hji23] at H; exact H) | (simp only [hji23] at H ⊢; exact H)
   (try rw [hji23] at A22)
   (try (have hji23h : ji23 ≤ 20 := by (rw [← hji23]; unfold mn; (repeat' split) <;> omega)))
   (try (have hji23g : ji23 ≤ 64 := by omega))
   (try (have hji23l : 0 ≤ ji23 := by (rw [← hji23]; unfold mn; (repeat' split) <;> omega)))
   (try (have hji23m : 0 ≤ ji23 := by omega))
   have hji23_ : (if 20 < (t273.length : Int) then 20 else (t273.length : Int)) = ji23 := hji23
   by_cases c24 : 0 ≤ (ji23)
   rotate_left
   ·rw [if_neg c24] at H
    exact absurd H (by simp)
   rw [if_pos c24] at H
   have c24b0 := eq_true c24
   have c24b1 : decide (0 ≤ (ji23)) = true := decide_eq_true c24
   clear c24
   by_cases c25 : (ji23) ≤ (t273.length : Int)
   rotate_left
   ·rw [if_neg c25] at H
    exact absurd H (by simp)
   rw [if_pos c25] at H
   have c25b0 := eq_true c25
   have c25b1 : decide ((ji23) ≤ (t273.length : Int)) = true := decide_eq_true c25
   clear c25
   obtain ⟨y278, hy278⟩ : ∃ y_ : List (List Int), y_ = (t273.take ((ji23) : Int).toNat) := ⟨_, rfl⟩
   replace H : ((Zat.f k1 x7_1 a1 t265 t268 t271 t272 y278 t276).bind fun t281 => (some (x7_1, a1, t265, t268, t271, t272, y278, t276, (t281 == 0)))) = some (r1, r2, r3, r4, r5, r6, r7, r8, r9) := by first | (rw [hy278]; with_reducible exact H) | (have H2_ := (Option.bind_some _ _).symm.trans H; rw [hy278]; with_reducible exact H2_) | (have H2_ := (Option.bind_some _ _).symm.trans H; with_reducible exact H2_) | with_reducible exact H | (rw [hy278]; exact H) | exact H
   have Ny278 := Za.mk hy278
   clear hy278
   replace H := Option.bind_eq_some_iff.mp H
   obtain ⟨t281, A260, H⟩ := H
   replace H : (some (x7_1, a1, t265, t268, t271, t272, y278, t276, (t281 == 0))) = some (r1, r2, r3, r4, r5, r6, r7, r8, r9) := H
   have A26 := Za.mk A260
   clear A260
   simp only [Option.some.injEq, Prod.mk.injEq] at H
   obtain ⟨rfl, rfl, rfl, rfl, rfl, rfl, rfl, rfl, rfl⟩ := H
   have hnb27 := NB250_251.out
   have hnc27 := NB251_250.out
   obtain ⟨hcz28_0, hcz28_1, hcz28_2, hcz28_3, hcz28_4, hcz28_5, hcz28_6, hcz28_7, hcz28_8, hcz28_9, hfz28_0, hfz28_1, hfz28_2, hfz28_3, hfz28_4, hfz28_5, hfz28_6, hfz28_7, hfz28_8, hfz28_9⟩ := blks10 BK250.out
   try go_wp2_with (first | ((with_reducible refine Za2 (f := 26) rfl ?_); refine Zb0 (some 41) rfl rfl Try.func26 (by kernel_rfl) rfl #[.agg #[.int .i64 a0_1, .slice A0_2 l0_2.length c0_2, .slice A0_3 l0_3.length c0_3, .int .i64 a0_4, .int .i64 a0_5, .slice A0_6 l0_6.length c0_6, .int .i64 a0_7]] rfl (by (try simp only [List.map_toArray, List.map_cons, List.map_nil]); first | done | rfl | (simp only [List.length_drop, List.length_take]; rfl)) ?_; (refine withB (m := w.heap.size) (w0 := w) (by repeat (first | (with_reducible first | exact HB.out | apply Zac | apply Zaa | apply Zab | refine Zag ?_ GE250.out | refine Zag ?_ GE251.out) | exact HB.out)) ?_); intro hL_; (with_reducible refine (Zbd.calls k1 a0_1 _ _ l0_2 _ _ l0_3 a0_4 a0_5 _ _ l0_6 a0_7 t264 t265 t268 t271 t272 t273 t276 _ ?side1 ?side2 ?side3 ?side4 ?side5 ?side6 A22.out).mono ?_); (case side1 => repeat (first | exact (Kd.Zaw HR0_2.out HB.out) | (with_reducible refine Kd.C_alloc ?_ _) | (with_reducible refine Kd.Za0 ?_ _) | (with_reducible refine Kd.C_drew ?_))); (case side2 => exact HC0_2.out); (case side3 => repeat (first | exact (Kd.Zaw HR0_3.out HB.out) | (with_reducible refine Kd.C_alloc ?_ _) | (with_reducible refine Kd.Za0 ?_ _) | (with_reducible refine Kd.C_drew ?_))); (case side4 => exact HC0_3.out); (case side5 => repeat (first | exact (Kd.Zaw HR0_6.out HB.out) | (with_reducible refine Kd.C_alloc ?_ _) | (with_reducible refine Kd.Za0 ?_ _) | (with_reducible refine Kd.C_drew ?_))); (case side6 => exact HC0_6.out); rintro e w29 ⟨v266, v269, v274, rfl, ho0, ho1, ho2, hb⟩; refine ⟨_, rfl, ?_⟩; have n0_ := Za.mk (Kd.Zc1 (mvS HO_7.out) hb); have n1_ := Za.mk (Kd.Zbz ho0 (Zam hL_)); have n2_ := Za.mk (Kd.Zbz ho1 (Zam hL_)); have n3_ := Za.mk (Kd.Zd5 ho2 (Zam hL_)); have n4_ := Za.mk (Za6 (g := gb250) (o := .cells #[.slice A0_0 l0_0.length c0_0, .int .i64 a0_1, .slice A0_2 l0_2.length c0_2, .slice A0_3 l0_3.length c0_3, .int .i64 a0_4, .int .i64 a0_5, .slice A0_6 l0_6.length c0_6, .int .i64 a0_7, .slice A0_8 l0_8.length c0_8, .slice A0_9 l0_9.length c0_9] 27 (0, 0)) (mvK BK250.out) hb); have n5_ := Za.mk (Za6 (g := gb251) (o := .cells #[.int .i64 0, .slice none 0 0, .slice none 0 0, .int .i64 0, .int .i64 0, .slice none 0 0, .int .i64 0] 25 (0, 0)) (mvK BK251.out) hb); have n6_ := Za.mk (Zan hL_ hb); clear HO_7; clear BK250; clear BK251; clear HB; have HO_7 := n0_; have HO267 := n1_; have HO270 := n2_; have HO275 := n3_; have BK250 := n4_; have BK251 := n5_; have HB := n6_; clear n0_ n1_ n2_ n3_ n4_ n5_ n6_; (try clear hb); (try clear hb2); (try clear hk); (try clear hi); (try clear ho0); (try clear ho1); (try clear ho2)) | ((with_reducible refine Zbv (N := 9) rfl ?_); refine Zb4 ?hg (N := 9) ?hd (cs := #[.int .i64 0, .slice none 0 0, .slice none 0 0, .int .i64 0, .int .i64 0, .slice none 0 0, .int .i64 0]) (t := 25) ?hr ?_; (case hd => rfl); (case hg => rfl); (case hr => first | (go_simp; done) | (go_simp; rfl)); intro gb277 hg w30 hbox hb; have n0_ := Za.mk (Kd.Zc1 (mvS HO_7.out) hb); have n1_ := Za.mk (Kd.Zb3 (mvR HO267.out) hb); have n2_ := Za.mk (Kd.Zb3 (mvR HO270.out) hb); have n3_ := Za.mk (Kd.Zc1 (mvS HO275.out) hb); have n4_ := Za.mk (Za6 (g := gb250) (o := .cells #[.slice A0_0 l0_0.length c0_0, .int .i64 a0_1, .slice A0_2 l0_2.length c0_2, .slice A0_3 l0_3.length c0_3, .int .i64 a0_4, .int .i64 a0_5, .slice A0_6 l0_6.length c0_6, .int .i64 a0_7, .slice A0_8 l0_8.length c0_8, .slice A0_9 l0_9.length c0_9] 27 (0, 0)) (mvK BK250.out) hb); have n5_ := Za.mk (Za6 (g := gb251) (o := .cells #[.int .i64 0, .slice none 0 0, .slice none 0 0, .int .i64 0, .int .i64 0, .slice none 0 0, .int .i64 0] 25 (0, 0)) (mvK BK251.out) hb); have n6_ := Za.mk (Zan (by repeat (first | (with_reducible first | exact HB.out | apply Zac | apply Zaa | apply Zab | refine Zag ?_ GE250.out | refine Zag ?_ GE251.out) | exact HB.out)) hb); have n7_ := Za.mk (hbox); have n9_ := Za.mk ((by rw [hg]; exact (Zam (by repeat (first | (with_reducible first | exact HB.out | apply Zac | apply Zaa | apply Zab | refine Zag ?_ GE250.out | refine Zag ?_ GE251.out) | exact HB.out))) : w.heap.size ≤ gb277)); have n10_ := Za.mk ((by rw [hg]; exact Nat.ne_of_lt (Zcq (g := gb250) (o := .cells #[.slice A0_0 l0_0.length c0_0, .int .i64 a0_1, .slice A0_2 l0_2.length c0_2, .slice A0_3 l0_3.length c0_3, .int .i64 a0_4, .int .i64 a0_5, .slice A0_6 l0_6.length c0_6, .int .i64 a0_7, .slice A0_8 l0_8.length c0_8, .slice A0_9 l0_9.length c0_9] 27 (0, 0)) (mvK BK250.out)) : gb250 ≠ gb277)); have n11_ := Za.mk ((by rw [hg]; exact Nat.ne_of_gt (Zcq (g := gb250) (o := .cells #[.slice A0_0 l0_0.length c0_0, .int .i64 a0_1, .slice A0_2 l0_2.length c0_2, .slice A0_3 l0_3.length c0_3, .int .i64 a0_4, .int .i64 a0_5, .slice A0_6 l0_6.length c0_6, .int .i64 a0_7, .slice A0_8 l0_8.length c0_8, .slice A0_9 l0_9.length c0_9] 27 (0, 0)) (mvK BK250.out)) : gb277 ≠ gb250)); have n12_ := Za.mk ((by rw [hg]; exact Nat.ne_of_lt (Zcq (g := gb251) (o := .cells #[.int .i64 0, .slice none 0 0, .slice none 0 0, .int .i64 0, .int .i64 0, .slice none 0 0, .int .i64 0] 25 (0, 0)) (mvK BK251.out)) : gb251 ≠ gb277)); have n13_ := Za.mk ((by rw [hg]; exact Nat.ne_of_gt (Zcq (g := gb251) (o := .cells #[.int .i64 0, .slice none 0 0, .slice none 0 0, .int .i64 0, .int .i64 0, .slice none 0 0, .int .i64 0] 25 (0, 0)) (mvK BK251.out)) : gb277 ≠ gb251)); clear HO_7; clear HO267; clear HO270; clear HO275; clear BK250; clear BK251; clear HB; have HO_7 := n0_; have HO267 := n1_; have HO270 := n2_; have HO275 := n3_; have BK250 := n4_; have BK251 := n5_; have HB := n6_; have BK277 := n7_; have GE277 := n9_; have NB250_277 := n10_; have NB277_250 := n11_; have NB251_277 := n12_; have NB277_251 := n13_; clear n0_ n1_ n2_ n3_ n4_ n5_ n6_ n7_ n9_ n10_ n11_ n12_ n13_; clear hb hbox hg; have hnb31 := NB277_250.out; have hnc31 := NB250_277.out; have hnb32 := NB277_251.out; have hnc32 := NB251_277.out; obtain ⟨hcz33_0, hcz33_1, hcz33_2, hcz33_3, hcz33_4, hcz33_5, hcz33_6, hfz33_0, hfz33_1, hfz33_2, hfz33_3, hfz33_4, hfz33_5, hfz33_6⟩ := Zce BK277.out; obtain ⟨Ao34, co34, eo34⟩ := Kd.Zbw HO267.out; subst eo34; obtain ⟨Ao35, co35, eo35⟩ := Kd.Zbw HO270.out; subst eo35; obtain ⟨Ao36, co36, eo36⟩ := Kd.Zen HO275.out; subst eo36) | ((with_reducible refine Zdh (t := 25) (p := 9) rfl ?_); refine Zdb (t := 25) (p := 9) (v := ?vo_w37) (w1 := (((((((w30.setCell ⟨gb277, 0, none⟩ (.int .i64 t264)).setCell ⟨gb277, 1, none⟩ (.slice Ao34 t265.length co34)).setCell ⟨gb277, 2, none⟩ (.slice Ao35 t268.length co35)).setCell ⟨gb277, 3, none⟩ (.int .i64 t271)).setCell ⟨gb277, 4, none⟩ (.int .i64 t272)).setCell ⟨gb277, 5, none⟩ (.slice Ao36 t273.length co36)).setCell ⟨gb277, 6, none⟩ (.int .i64 t276))) ?hg ?ho ?hn ?hr ?_; (case ho => rfl); (case hg => rfl); (case hn => rfl); (case hr => first | (go_simp; done) | (go_simp; rfl)); intro w37 hw; have n0_ : Za (Kd.S (Kd.slice 41 k41) 39 w37 w.heap.size (fun _ => True) u7 x7_1) := ⟨(by rw [hw]; exact (mvS (Kd.Zck (Kd.Zb2 (p := ⟨gb277, 6, none⟩) (Kd.Zb2 (p := ⟨gb277, 5, none⟩) (Kd.Zb2 (p := ⟨gb277, 4, none⟩) (Kd.Zb2 (p := ⟨gb277, 3, none⟩) (Kd.Zb2 (p := ⟨gb277, 2, none⟩) (Kd.Zb2 (p := ⟨gb277, 1, none⟩) (Kd.Zb2 (p := ⟨gb277, 0, none⟩) (Kd.Zcx HO_7.out BK277.out (by decide)) (fun _ hk => hk.2) (.int .i64 t264)) (fun _ hk => hk.2) (.slice Ao34 t265.length co34)) (fun _ hk => hk.2) (.slice Ao35 t268.length co35)) (fun _ hk => hk.2) (.int .i64 t271)) (fun _ hk => hk.2) (.int .i64 t272)) (fun _ hk => hk.2) (.slice Ao36 t273.length co36)) (fun _ hk => hk.2) (.int .i64 t276)) (fun _ hk => trivial))))⟩; have n1_ : Za (Kd.R (Kd.int .i64) 3 w37 w.heap.size (fun k_ => some k_ ≠ (.slice Ao35 t268.length co35 : Value).ownBlock) (.slice Ao34 t265.length co34) t265) := ⟨(by rw [hw]; exact (mvR (Kd.Zbm (Kd.Zbx (p := ⟨gb277, 6, none⟩) (Kd.Zbx (p := ⟨gb277, 5, none⟩) (Kd.Zbx (p := ⟨gb277, 4, none⟩) (Kd.Zbx (p := ⟨gb277, 3, none⟩) (Kd.Zbx (p := ⟨gb277, 2, none⟩) (Kd.Zbx (p := ⟨gb277, 1, none⟩) (Kd.Zbx (p := ⟨gb277, 0, none⟩) (Kd.Zc HO267.out BK277.out (by decide)) (fun _ hk => hk.2) (.int .i64 t264)) (fun _ hk => hk.2) (.slice Ao34 t265.length co34)) (fun _ hk => hk.2) (.slice Ao35 t268.length co35)) (fun _ hk => hk.2) (.int .i64 t271)) (fun _ hk => hk.2) (.int .i64 t272)) (fun _ hk => hk.2) (.slice Ao36 t273.length co36)) (fun _ hk => hk.2) (.int .i64 t276)) (fun _ hk => hk.1))))⟩; have n2_ : Za (Kd.R (Kd.int .i64) 3 w37 w.heap.size (fun k_ => some k_ ≠ (.slice Ao34 t265.length co34 : Value).ownBlock) (.slice Ao35 t268.length co35) t268) := ⟨(by rw [hw]; exact (mvR (Kd.Zbm (Kd.Zbx (p := ⟨gb277, 6, none⟩) (Kd.Zbx (p := ⟨gb277, 5, none⟩) (Kd.Zbx (p := ⟨gb277, 4, none⟩) (Kd.Zbx (p := ⟨gb277, 3, none⟩) (Kd.Zbx (p := ⟨gb277, 2, none⟩) (Kd.Zbx (p := ⟨gb277, 1, none⟩) (Kd.Zbx (p := ⟨gb277, 0, none⟩) (Kd.Zc HO270.out BK277.out (by decide)) (fun _ hk => hk.2) (.int .i64 t264)) (fun _ hk => hk.2) (.slice Ao34 t265.length co34)) (fun _ hk => hk.2) (.slice Ao35 t268.length co35)) (fun _ hk => hk.2) (.int .i64 t271)) (fun _ hk => hk.2) (.int .i64 t272)) (fun _ hk => hk.2) (.slice Ao36 t273.length co36)) (fun _ hk => hk.2) (.int .i64 t276)) (fun _ hk => hk.1))))⟩; have n3_ : Za (Kd.S (Kd.slice 3 (Kd.int .i64)) 23 w37 w.heap.size (fun k_ => some k_ ≠ (.slice Ao34 t265.length co34 : Value).ownBlock ∧ some k_ ≠ (.slice Ao35 t268.length co35 : Value).ownBlock) (.slice Ao36 t273.length co36) t273) := ⟨(by rw [hw]; exact (mvS (Kd.Zck (Kd.Zb2 (p := ⟨gb277, 6, none⟩) (Kd.Zb2 (p := ⟨gb277, 5, none⟩) (Kd.Zb2 (p := ⟨gb277, 4, none⟩) (Kd.Zb2 (p := ⟨gb277, 3, none⟩) (Kd.Zb2 (p := ⟨gb277, 2, none⟩) (Kd.Zb2 (p := ⟨gb277, 1, none⟩) (Kd.Zb2 (p := ⟨gb277, 0, none⟩) (Kd.Zcx HO275.out BK277.out (by decide)) (fun _ hk => hk.2) (.int .i64 t264)) (fun _ hk => hk.2) (.slice Ao34 t265.length co34)) (fun _ hk => hk.2) (.slice Ao35 t268.length co35)) (fun _ hk => hk.2) (.int .i64 t271)) (fun _ hk => hk.2) (.int .i64 t272)) (fun _ hk => hk.2) (.slice Ao36 t273.length co36)) (fun _ hk => hk.2) (.int .i64 t276)) (fun _ hk => ⟨hk.1.1, hk.1.2⟩))))⟩; have n4_ : Za (w37.heap[gb250]? = some (.cells #[.slice A0_0 l0_0.length c0_0, .int .i64 a0_1, .slice A0_2 l0_2.length c0_2, .slice A0_3 l0_3.length c0_3, .int .i64 a0_4, .int .i64 a0_5, .slice A0_6 l0_6.length c0_6, .int .i64 a0_7, .slice A0_8 l0_8.length c0_8, .slice A0_9 l0_9.length c0_9] 27 (0, 0))) := ⟨(by rw [hw]; exact (by (with_reducible repeat (first | refine Zah ?_ _ | refine Zaj ?_ | refine Zaf ?_ _)); refine Zbs ?_ NB250_277.out _; (with_reducible repeat (first | refine Zah ?_ _ | refine Zaj ?_ | refine Zaf ?_ _)); refine Zbs ?_ NB250_277.out _; (with_reducible repeat (first | refine Zah ?_ _ | refine Zaj ?_ | refine Zaf ?_ _)); refine Zbs ?_ NB250_277.out _; (with_reducible repeat (first | refine Zah ?_ _ | refine Zaj ?_ | refine Zaf ?_ _)); refine Zbs ?_ NB250_277.out _; (with_reducible repeat (first | refine Zah ?_ _ | refine Zaj ?_ | refine Zaf ?_ _)); refine Zbs ?_ NB250_277.out _; (with_reducible repeat (first | refine Zah ?_ _ | refine Zaj ?_ | refine Zaf ?_ _)); refine Zbs ?_ NB250_277.out _; (with_reducible repeat (first | refine Zah ?_ _ | refine Zaj ?_ | refine Zaf ?_ _)); refine Zbs ?_ NB250_277.out _; (with_reducible repeat (first | refine Zah ?_ _ | refine Zaj ?_ | refine Zaf ?_ _)); exact BK250.out))⟩; have n5_ : Za (w37.heap[gb251]? = some (.cells #[.int .i64 0, .slice none 0 0, .slice none 0 0, .int .i64 0, .int .i64 0, .slice none 0 0, .int .i64 0] 25 (0, 0))) := ⟨(by rw [hw]; exact (by (with_reducible repeat (first | refine Zah ?_ _ | refine Zaj ?_ | refine Zaf ?_ _)); refine Zbs ?_ NB251_277.out _; (with_reducible repeat (first | refine Zah ?_ _ | refine Zaj ?_ | refine Zaf ?_ _)); refine Zbs ?_ NB251_277.out _; (with_reducible repeat (first | refine Zah ?_ _ | refine Zaj ?_ | refine Zaf ?_ _)); refine Zbs ?_ NB251_277.out _; (with_reducible repeat (first | refine Zah ?_ _ | refine Zaj ?_ | refine Zaf ?_ _)); refine Zbs ?_ NB251_277.out _; (with_reducible repeat (first | refine Zah ?_ _ | refine Zaj ?_ | refine Zaf ?_ _)); refine Zbs ?_ NB251_277.out _; (with_reducible repeat (first | refine Zah ?_ _ | refine Zaj ?_ | refine Zaf ?_ _)); refine Zbs ?_ NB251_277.out _; (with_reducible repeat (first | refine Zah ?_ _ | refine Zaj ?_ | refine Zaf ?_ _)); refine Zbs ?_ NB251_277.out _; (with_reducible repeat (first | refine Zah ?_ _ | refine Zaj ?_ | refine Zaf ?_ _)); exact BK251.out))⟩; have n6_ : Za (w37.heap[gb277]? = some (.cells #[.int .i64 t264, .slice Ao34 t265.length co34, .slice Ao35 t268.length co35, .int .i64 t271, .int .i64 t272, .slice Ao36 t273.length co36, .int .i64 t276] 25 (0, 0))) := ⟨(by rw [hw]; exact (by (with_reducible repeat (first | refine Zah ?_ _ | refine Zaj ?_ | refine Zaf ?_ _)); refine Zbr (cs := #[.int .i64 t264, .slice Ao34 t265.length co34, .slice Ao35 t268.length co35, .int .i64 t271, .int .i64 t272, .slice Ao36 t273.length co36, .int .i64 0]) ?_ 6 _ rfl; (with_reducible repeat (first | refine Zah ?_ _ | refine Zaj ?_ | refine Zaf ?_ _)); refine Zbr (cs := #[.int .i64 t264, .slice Ao34 t265.length co34, .slice Ao35 t268.length co35, .int .i64 t271, .int .i64 t272, .slice none 0 0, .int .i64 0]) ?_ 5 _ rfl; (with_reducible repeat (first | refine Zah ?_ _ | refine Zaj ?_ | refine Zaf ?_ _)); refine Zbr (cs := #[.int .i64 t264, .slice Ao34 t265.length co34, .slice Ao35 t268.length co35, .int .i64 t271, .int .i64 0, .slice none 0 0, .int .i64 0]) ?_ 4 _ rfl; (with_reducible repeat (first | refine Zah ?_ _ | refine Zaj ?_ | refine Zaf ?_ _)); refine Zbr (cs := #[.int .i64 t264, .slice Ao34 t265.length co34, .slice Ao35 t268.length co35, .int .i64 0, .int .i64 0, .slice none 0 0, .int .i64 0]) ?_ 3 _ rfl; (with_reducible repeat (first | refine Zah ?_ _ | refine Zaj ?_ | refine Zaf ?_ _)); refine Zbr (cs := #[.int .i64 t264, .slice Ao34 t265.length co34, .slice none 0 0, .int .i64 0, .int .i64 0, .slice none 0 0, .int .i64 0]) ?_ 2 _ rfl; (with_reducible repeat (first | refine Zah ?_ _ | refine Zaj ?_ | refine Zaf ?_ _)); refine Zbr (cs := #[.int .i64 t264, .slice none 0 0, .slice none 0 0, .int .i64 0, .int .i64 0, .slice none 0 0, .int .i64 0]) ?_ 1 _ rfl; (with_reducible repeat (first | refine Zah ?_ _ | refine Zaj ?_ | refine Zaf ?_ _)); refine Zbr (cs := #[.int .i64 0, .slice none 0 0, .slice none 0 0, .int .i64 0, .int .i64 0, .slice none 0 0, .int .i64 0]) ?_ 0 _ rfl; (with_reducible repeat (first | refine Zah ?_ _ | refine Zaj ?_ | refine Zaf ?_ _)); exact BK277.out))⟩; have n7_ : Za (Below w.heap.size w w37) := ⟨(by rw [hw]; exact (by repeat (first | (with_reducible first | exact HB.out | apply Zac | apply Zaa | apply Zab | refine Zag ?_ GE250.out | refine Zag ?_ GE251.out | refine Zag ?_ GE277.out) | exact HB.out)))⟩; clear hw; clear HO_7; clear HO267; clear HO270; clear HO275; clear BK250; clear BK251; clear BK277; clear HB; have HO_7 := n0_; have HO267 := n1_; have HO270 := n2_; have HO275 := n3_; have BK250 := n4_; have BK251 := n5_; have BK277 := n6_; have HB := n7_; clear n0_ n1_ n2_ n3_ n4_ n5_ n6_ n7_; obtain ⟨hcz38_0, hcz38_1, hcz38_2, hcz38_3, hcz38_4, hcz38_5, hcz38_6, hfz38_0, hfz38_1, hfz38_2, hfz38_3, hfz38_4, hfz38_5, hfz38_6⟩ := Zce BK277.out) | ((with_reducible refine Zdh (t := 3) (p := 43) rfl ?_); refine Zdb (t := 3) (p := 43) (v := ?vo_w39) (w1 := (w37.setCell ⟨gb277, 0, none⟩ (.int .i64 a1))) ?hg ?ho ?hn ?hr ?_; (case ho => rfl); (case hg => rfl); (case hn => rfl); (case hr => first | (go_simp; done) | (go_simp; rfl)); intro w39 hw; have n0_ : Za (Kd.S (Kd.slice 41 k41) 39 w39 w.heap.size (fun _ => True) u7 x7_1) := ⟨(by rw [hw]; exact (mvS (Kd.Zck (Kd.Zb2 (p := ⟨gb277, 0, none⟩) (Kd.Zcx HO_7.out BK277.out (by decide)) (fun _ hk => hk.2) (.int .i64 a1)) (fun _ hk => trivial))))⟩; have n1_ : Za (Kd.R (Kd.int .i64) 3 w39 w.heap.size (fun k_ => some k_ ≠ (.slice Ao35 t268.length co35 : Value).ownBlock) (.slice Ao34 t265.length co34) t265) := ⟨(by rw [hw]; exact (mvR (Kd.Zbm (Kd.Zbx (p := ⟨gb277, 0, none⟩) (Kd.Zc HO267.out BK277.out (by decide)) (fun _ hk => hk.2) (.int .i64 a1)) (fun _ hk => hk.1))))⟩; have n2_ : Za (Kd.R (Kd.int .i64) 3 w39 w.heap.size (fun k_ => some k_ ≠ (.slice Ao34 t265.length co34 : Value).ownBlock) (.slice Ao35 t268.length co35) t268) := ⟨(by rw [hw]; exact (mvR (Kd.Zbm (Kd.Zbx (p := ⟨gb277, 0, none⟩) (Kd.Zc HO270.out BK277.out (by decide)) (fun _ hk => hk.2) (.int .i64 a1)) (fun _ hk => hk.1))))⟩; have n3_ : Za (Kd.S (Kd.slice 3 (Kd.int .i64)) 23 w39 w.heap.size (fun k_ => some k_ ≠ (.slice Ao34 t265.length co34 : Value).ownBlock ∧ some k_ ≠ (.slice Ao35 t268.length co35 : Value).ownBlock) (.slice Ao36 t273.length co36) t273) := ⟨(by rw [hw]; exact (mvS (Kd.Zck (Kd.Zb2 (p := ⟨gb277, 0, none⟩) (Kd.Zcx HO275.out BK277.out (by decide)) (fun _ hk => hk.2) (.int .i64 a1)) (fun _ hk => ⟨hk.1.1, hk.1.2⟩))))⟩; have n4_ : Za (w39.heap[gb250]? = some (.cells #[.slice A0_0 l0_0.length c0_0, .int .i64 a0_1, .slice A0_2 l0_2.length c0_2, .slice A0_3 l0_3.length c0_3, .int .i64 a0_4, .int .i64 a0_5, .slice A0_6 l0_6.length c0_6, .int .i64 a0_7, .slice A0_8 l0_8.length c0_8, .slice A0_9 l0_9.length c0_9] 27 (0, 0))) := ⟨(by rw [hw]; exact (by (with_reducible repeat (first | refine Zah ?_ _ | refine Zaj ?_ | refine Zaf ?_ _)); refine Zbs ?_ NB250_277.out _; (with_reducible repeat (first | refine Zah ?_ _ | refine Zaj ?_ | refine Zaf ?_ _)); exact BK250.out))⟩; have n5_ : Za (w39.heap[gb251]? = some (.cells #[.int .i64 0, .slice none 0 0, .slice none 0 0, .int .i64 0, .int .i64 0, .slice none 0 0, .int .i64 0] 25 (0, 0))) := ⟨(by rw [hw]; exact (by (with_reducible repeat (first | refine Zah ?_ _ | refine Zaj ?_ | refine Zaf ?_ _)); refine Zbs ?_ NB251_277.out _; (with_reducible repeat (first | refine Zah ?_ _ | refine Zaj ?_ | refine Zaf ?_ _)); exact BK251.out))⟩; have n6_ : Za (w39.heap[gb277]? = some (.cells #[.int .i64 a1, .slice Ao34 t265.length co34, .slice Ao35 t268.length co35, .int .i64 t271, .int .i64 t272, .slice Ao36 t273.length co36, .int .i64 t276] 25 (0, 0))) := ⟨(by rw [hw]; exact (by (with_reducible repeat (first | refine Zah ?_ _ | refine Zaj ?_ | refine Zaf ?_ _)); refine Zbr (cs := #[.int .i64 t264, .slice Ao34 t265.length co34, .slice Ao35 t268.length co35, .int .i64 t271, .int .i64 t272, .slice Ao36 t273.length co36, .int .i64 t276]) ?_ 0 _ rfl; (with_reducible repeat (first | refine Zah ?_ _ | refine Zaj ?_ | refine Zaf ?_ _)); exact BK277.out))⟩; have n7_ : Za (Below w.heap.size w w39) := ⟨(by rw [hw]; exact (by repeat (first | (with_reducible first | exact HB.out | apply Zac | apply Zaa | apply Zab | refine Zag ?_ GE250.out | refine Zag ?_ GE251.out | refine Zag ?_ GE277.out) | exact HB.out)))⟩; clear hw; clear HO_7; clear HO267; clear HO270; clear HO275; clear BK250; clear BK251; clear BK277; clear HB; have HO_7 := n0_; have HO267 := n1_; have HO270 := n2_; have HO275 := n3_; have BK250 := n4_; have BK251 := n5_; have BK277 := n6_; have HB := n7_; clear n0_ n1_ n2_ n3_ n4_ n5_ n6_ n7_; obtain ⟨hcz40_0, hcz40_1, hcz40_2, hcz40_3, hcz40_4, hcz40_5, hcz40_6, hfz40_0, hfz40_1, hfz40_2, hfz40_3, hfz40_4, hfz40_5, hfz40_6⟩ := Zce BK277.out; have q41 : ((ji23) : Int) ≤ ((t273.length : Int) : Int) := of_decide_eq_true (by first | (with_reducible assumption) | assumption); obtain ⟨i041, hi041, _, hsz41, _⟩ := info_parts Zex; have hcut41 := cut_to (P := Try.prog) 22 23 .i64 Try.underlying22 hi041 Ao36 t273.length co36 (ji23) (of_decide_eq_true (by first | (with_reducible assumption) | assumption)) q41 (Kd.Zcy HO275.out).2.1; have hr41 := Kd.S_take (m := ((ji23) : Int).toNat) HO275.out (by omega); have hy41 : y278.length = ((ji23) : Int).toNat := (by rw [Ny278.out, List.length_take]; omega); rw [← Ny278.out] at hr41; rw [← hy41] at hr41 hcut41; clear hy41 hi041 hsz41 HO275; have HO280 := Za.mk hr41; clear hr41; replace q41 := eq_true q41))
   have n0_ : Za (Kd.S (Kd.slice 41 k41) 39 (w39.setCell ⟨gb277, 5, none⟩ (.slice Ao36 y278.length co36)) w.heap.size (fun _ => True) u7 x7_1) := ⟨by (with_reducible repeat (first | apply Kd.S_alloc | apply Kd.S_drewN | apply Kd.Zb6)); exact Kd.Zck (Kd.Zb2 (p := ⟨gb277, 5, none⟩) (Kd.Zcx HO_7.out BK277.out (by decide)) (fun _ hk => hk.2) (.slice Ao36 y278.length co36)) (fun _ hk => trivial)⟩
   have n1_ : Za (Kd.R (Kd.int .i64) 3 (w39.setCell ⟨gb277, 5, none⟩ (.slice Ao36 y278.length co36)) w.heap.size (fun k_ => some k_ ≠ (.slice Ao35 t268.length co35 : Value).ownBlock) (.slice Ao34 t265.length co34) t265) := ⟨by (with_reducible repeat (first | apply Kd.R_alloc | apply Kd.Zbh | apply Kd.Zbl)); exact Kd.Zbm (Kd.Zbx (p := ⟨gb277, 5, none⟩) (Kd.Zc HO267.out BK277.out (by decide)) (fun _ hk => hk.2) (.slice Ao36 y278.length co36)) (fun _ hk => hk.1)⟩
   have n2_ : Za (Kd.R (Kd.int .i64) 3 (w39.setCell ⟨gb277, 5, none⟩ (.slice Ao36 y278.length co36)) w.heap.size (fun k_ => some k_ ≠ (.slice Ao34 t265.length co34 : Value).ownBlock) (.slice Ao35 t268.length co35) t268) := ⟨by (with_reducible repeat (first | apply Kd.R_alloc | apply Kd.Zbh | apply Kd.Zbl)); exact Kd.Zbm (Kd.Zbx (p := ⟨gb277, 5, none⟩) (Kd.Zc HO270.out BK277.out (by decide)) (fun _ hk => hk.2) (.slice Ao36 y278.length co36)) (fun _ hk => hk.1)⟩
   have n3_ : Za (Kd.S (Kd.slice 3 (Kd.int .i64)) 23 (w39.setCell ⟨gb277, 5, none⟩ (.slice Ao36 y278.length co36)) w.heap.size (fun k_ => some k_ ≠ (.slice Ao34 t265.length co34 : Value).ownBlock ∧ some k_ ≠ (.slice Ao35 t268.length co35 : Value).ownBlock) (.slice Ao36 y278.length co36) y278) := ⟨by (with_reducible repeat (first | apply Kd.S_alloc | apply Kd.S_drewN | apply Kd.Zb6)); exact Kd.Zck (Kd.Zb2 (p := ⟨gb277, 5, none⟩) (Kd.Zcx HO280.out BK277.out (by decide)) (fun _ hk => hk.2) (.slice Ao36 y278.length co36)) (fun _ hk => ⟨hk.1.1, hk.1.2⟩)⟩
   have n4_ : Za ((w39.setCell ⟨gb277, 5, none⟩ (.slice Ao36 y278.length co36)).heap[gb250]? = some (.cells #[.slice A0_0 l0_0.length c0_0, .int .i64 a0_1, .slice A0_2 l0_2.length c0_2, .slice A0_3 l0_3.length c0_3, .int .i64 a0_4, .int .i64 a0_5, .slice A0_6 l0_6.length c0_6, .int .i64 a0_7, .slice A0_8 l0_8.length c0_8, .slice A0_9 l0_9.length c0_9] 27 (0, 0))) := ⟨by (with_reducible repeat (first | refine Zah ?_ _ | refine Zaj ?_ | refine Zaf ?_ _)); refine Zbs ?_ NB250_277.out _; (with_reducible repeat (first | refine Zah ?_ _ | refine Zaj ?_ | refine Zaf ?_ _)); exact BK250.out⟩
   have n5_ : Za ((w39.setCell ⟨gb277, 5, none⟩ (.slice Ao36 y278.length co36)).heap[gb251]? = some (.cells #[.int .i64 0, .slice none 0 0, .slice none 0 0, .int .i64 0, .int .i64 0, .slice none 0 0, .int .i64 0] 25 (0, 0))) := ⟨by (with_reducible repeat (first | refine Zah ?_ _ | refine Zaj ?_ | refine Zaf ?_ _)); refine Zbs ?_ NB251_277.out _; (with_reducible repeat (first | refine Zah ?_ _ | refine Zaj ?_ | refine Zaf ?_ _)); exact BK251.out⟩
   have n6_ : Za ((w39.setCell ⟨gb277, 5, none⟩ (.slice Ao36 y278.length co36)).heap[gb277]? = some (.cells #[.int .i64 a1, .slice Ao34 t265.length co34, .slice Ao35 t268.length co35, .int .i64 t271, .int .i64 t272, .slice Ao36 y278.length co36, .int .i64 t276] 25 (0, 0))) := ⟨by (with_reducible repeat (first | refine Zah ?_ _ | refine Zaj ?_ | refine Zaf ?_ _)); refine Zbr (cs := #[.int .i64 a1, .slice Ao34 t265.length co34, .slice Ao35 t268.length co35, .int .i64 t271, .int .i64 t272, .slice Ao36 t273.length co36, .int .i64 t276]) ?_ 5 _ rfl; (with_reducible repeat (first | refine Zah ?_ _ | refine Zaj ?_ | refine Zaf ?_ _)); exact BK277.out⟩
   have n7_ : Za (Below w.heap.size w (w39.setCell ⟨gb277, 5, none⟩ (.slice Ao36 y278.length co36))) := ⟨by repeat (first | (with_reducible first | exact HB.out | apply Zac | apply Zaa | apply Zab | refine Zag ?_ GE250.out | refine Zag ?_ GE251.out | refine Zag ?_ GE277.out) | exact HB.out)⟩
   (try clear HO_7)
   (try clear HO267)
   (try clear HO270)
   (try clear HO280)
   (try clear BK250)
   (try clear BK251)
   (try clear BK277)
   (try clear HB)
   generalize (w39.setCell ⟨gb277, 5, none⟩ (.slice Ao36 y278.length co36)) = w42 at n0_ n1_ n2_ n3_ n4_ n5_ n6_ n7_ ⊢
   have HO_7 := n0_
   have HO267 := n1_
   have HO270 := n2_
   have HO280 := n3_
   have BK250 := n4_
   have BK251 := n5_
   have BK277 := n6_
   have HB := n7_
   clear n0_ n1_ n2_ n3_ n4_ n5_ n6_ n7_
   have n0_ := Za.mk (Kd.Zb6 HO_7.out)
   have n1_ := Za.mk (Kd.Zbl HO267.out)
   have n2_ := Za.mk (Kd.Zbl HO270.out)
   have n3_ := Za.mk (Kd.Zb6 HO280.out)
   have n4_ := Za.mk (Zaj BK250.out)
   have n5_ := Za.mk (Zaj BK251.out)
   have n6_ := Za.mk (Zaj BK277.out)
   have n7_ := Za.mk (Zab HB.out)
   clear HO_7
   clear HO267
   clear HO270
   clear HO280
   clear BK250
   clear BK251
   clear BK277
   clear HB
   have HO_7 := n0_
   have HO267 := n1_
   have HO270 := n2_
   have HO280 := n3_
   have BK250 := n4_
   have BK251 := n5_
   have BK277 := n6_
   have HB := n7_
   clear n0_ n1_ n2_ n3_ n4_ n5_ n6_ n7_
   obtain ⟨Ao44, co44, eo44⟩ := Kd.Zen HO_7.out
   (first | subst eo44 | (injection eo44 with f1_ f2_ f3_; have f4_ := f1_.symm; have f5_ := f3_.symm; clear f1_ f2_ f3_; subst f4_; subst f5_))
   refine Zdl (n := 9) (S := fun w' => w'.cell? ⟨gb277, 0, none⟩ = some (.int .i64 a1) ∧ w'.cell? ⟨gb277, 1, none⟩ = some (.slice Ao34 t265.length co34) ∧ w'.cell? ⟨gb277, 2, none⟩ = some (.slice Ao35 t268.length co35) ∧ w'.cell? ⟨gb277, 3, none⟩ = some (.int .i64 t271) ∧ w'.cell? ⟨gb277, 4, none⟩ = some (.int .i64 t272) ∧ w'.cell? ⟨gb277, 5, none⟩ = some (.slice Ao36 y278.length co36) ∧ w'.cell? ⟨gb277, 6, none⟩ = some (.int .i64 t276)) (ds := []) #[false, false, false, false, false, false, false, false, false] (by kernel_rfl) rfl rfl ⟨(Zae BK277.out 0).trans rfl, (Zae BK277.out 1).trans rfl, (Zae BK277.out 2).trans rfl, (Zae BK277.out 3).trans rfl, (Zae BK277.out 4).trans rfl, (Zae BK277.out 5).trans rfl, (Zae BK277.out 6).trans rfl⟩ (fun hHeld => ?_); refine Zcl Zap.tab9 Zap.bits9 (fun HT_ HW_ => ?_)
   generalize w42.drew = w43 at HO_7 HO267 HO270 HO280 BK250 BK251 BK277 HB hHeld ⊢
   refine Zbn (i := 0) (N := some 52) (v := ?_) (a' := ?_) #[true, false, false, false, false, false, false, false, false] rfl rfl (Za5 HT_.out (by kernel_rfl)) (fun _ _ _ h => h) (Or.inl ⟨by rfl, ?_⟩) ?_ ?_
   rotate_left
   ·intro w'
    go_simp
    with_reducible rfl
   rotate_left
   ·simp only [Act.put, List.setIfInBounds_toArray, List.set_cons_zero, List.set_cons_succ, Za4, Za7]
    rfl
   refine Zbn (i := 2) (N := some 54) (v := ?_) (a' := ?_) #[true, false, true, false, false, false, false, false, false] rfl rfl (Za5 HT_.out (by kernel_rfl)) (fun _ _ _ h => h) (Or.inl ⟨by rfl, ?_⟩) ?_ ?_
   rotate_left
   ·intro w'
    go_simp
    with_reducible rfl
   rotate_left
   ·simp only [Act.put, List.setIfInBounds_toArray, List.set_cons_zero, List.set_cons_succ, Za4, Za7]
    rfl
   refine Zc3 (i := 1) (N := some 53) (v := ?_) (a' := ?_) #[true, true, true, false, false, false, false, false, false] rfl rfl (Zb1 HT_.out HW_.out (by kernel_rfl)) (fun _ _ _ h => h) (Or.inl ⟨by rfl, ?_⟩) hHeld ?_ ?_
   rotate_left
   ·rintro w' ⟨s0, s1, s2, s3, s4, s5, s6⟩
    go_simp
    with_reducible rfl
   rotate_left
   ·simp only [Act.put, List.setIfInBounds_toArray, List.set_cons_zero, List.set_cons_succ, Za4, Za7]
    rfl
   refine Zc3 (i := 3) (N := some 55) (v := ?_) (a' := ?_) #[true, true, true, true, false, false, false, false, false] rfl rfl (Zb1 HT_.out HW_.out (by kernel_rfl)) (fun _ _ _ h => h) (Or.inl ⟨by rfl, ?_⟩) hHeld ?_ ?_
   rotate_left
   ·rintro w' ⟨s0, s1, s2, s3, s4, s5, s6⟩
    go_simp
    with_reducible rfl
   rotate_left
   ·simp only [Act.put, List.setIfInBounds_toArray, List.set_cons_zero, List.set_cons_succ, Za4, Za7]
    rfl
   refine one_ (i := 4) (N := some 56) #[true, true, true, true, true, false, false, false, false] rfl rfl (Zc4 HT_.out (by kernel_rfl)) (by decide) (fun K hK => ?_)
   refine goes_ Try.func41 (by kernel_rfl) rfl #[.slice Ao44 x7_1.length co44, .agg #[.int .i64 a1, .slice Ao34 t265.length co34, .slice Ao35 t268.length co35, .int .i64 t271, .int .i64 t272, .slice Ao36 y278.length co36, .int .i64 t276]] (by rfl) rfl rfl (by (try simp only [List.map_toArray, List.map_cons, List.map_nil]); first | done | rfl | (simp only [List.length_drop, List.length_take]; rfl)) ?_
   with_reducible refine (Zat.calls k1 _ _ x7_1 a1 _ _ t265 _ _ t268 t271 t272 _ _ y278 t276 t281 _ ?side1 ?side2 ?side3 ?side4 ?side5 ?side6 ?side7 ?side8 A26.out).mono ?_
   (case side1 => repeat (first | exact (Kd.Zcy HO_7.out).2.2 | (with_reducible refine Kd.C_alloc ?_ _) | (with_reducible refine Kd.Za0 ?_ _) | (with_reducible refine Kd.C_drew ?_)))
   (case side2 => exact (Kd.Zcy HO_7.out).2.1)
   (case side3 => repeat (first | exact (Kd.Za3 HO267.out).2.2 | (with_reducible refine Kd.C_alloc ?_ _) | (with_reducible refine Kd.Za0 ?_ _) | (with_reducible refine Kd.C_drew ?_)))
   (case side4 => exact (Kd.Za3 HO267.out).2.1)
   (case side5 => repeat (first | exact (Kd.Za3 HO270.out).2.2 | (with_reducible refine Kd.C_alloc ?_ _) | (with_reducible refine Kd.Za0 ?_ _) | (with_reducible refine Kd.C_drew ?_)))
   (case side6 => exact (Kd.Za3 HO270.out).2.1)
   (case side7 => repeat (first | exact (Kd.Zcy HO280.out).2.2 | (with_reducible refine Kd.C_alloc ?_ _) | (with_reducible refine Kd.Za0 ?_ _) | (with_reducible refine Kd.C_drew ?_)))
   (case side8 => exact (Kd.Zcy HO280.out).2.1)
   rintro e w45 ⟨rfl, hb⟩
   refine ⟨_, rfl, ?_⟩
   have n0_ := Za.mk (Kd.Zc1 (mvS HO_7.out) hb)
   have n1_ := Za.mk (Kd.Zb3 (mvR HO267.out) hb)
   have n2_ := Za.mk (Kd.Zb3 (mvR HO270.out) hb)
   have n3_ := Za.mk (Kd.Zc1 (mvS HO280.out) hb)
   have n4_ := Za.mk (Za6 (g := gb250) (o := .cells #[.slice A0_0 l0_0.length c0_0, .int .i64 a0_1, .slice A0_2 l0_2.length c0_2, .slice A0_3 l0_3.length c0_3, .int .i64 a0_4, .int .i64 a0_5, .slice A0_6 l0_6.length c0_6, .int .i64 a0_7, .slice A0_8 l0_8.length c0_8, .slice A0_9 l0_9.length c0_9] 27 (0, 0)) (mvK BK250.out) hb)
   have n5_ := Za.mk (Za6 (g := gb251) (o := .cells #[.int .i64 0, .slice none 0 0, .slice none 0 0, .int .i64 0, .int .i64 0, .slice none 0 0, .int .i64 0] 25 (0, 0)) (mvK BK251.out) hb)
   have n6_ := Za.mk (Za6 (g := gb277) (o := .cells #[.int .i64 a1, .slice Ao34 t265.length co34, .slice Ao35 t268.length co35, .int .i64 t271, .int .i64 t272, .slice Ao36 y278.length co36, .int .i64 t276] 25 (0, 0)) (mvK BK277.out) hb)
   have n7_ := Za.mk (Zan (mvB HB.out) hb)
   clear HO_7
   clear HO267
   clear HO270
   clear HO280
   clear BK250
   clear BK251
   clear BK277
   clear HB
   have HO_7 := n0_
   have HO267 := n1_
   have HO270 := n2_
   have HO280 := n3_
   have BK250 := n4_
   have BK251 := n5_
   have BK277 := n6_
   have HB := n7_
   clear n0_ n1_ n2_ n3_ n4_ n5_ n6_ n7_
   (try clear hb)
   (try clear hb2)
   (try clear hk)
   (try clear hi)
   refine hK.out _ _ ⟨(Zae BK277.out 0).trans rfl, (Zae BK277.out 1).trans rfl, (Zae BK277.out 2).trans rfl, (Zae BK277.out 3).trans rfl, (Zae BK277.out 4).trans rfl, (Zae BK277.out 5).trans rfl, (Zae BK277.out 6).trans rfl⟩ (fun hHeld => ?_)
   clear hK K
   refine Zea (a' := ?_) ?_ ?_
   rotate_left
   ·show Act.put _ (some 56) _ = _
    simp only [Act.put, List.setIfInBounds_toArray, List.set_cons_zero, List.set_cons_succ, Za4, Za7]
    rfl
   refine Zbn (i := 5) (N := some 57) (v := ?_) (a' := ?_) #[true, true, true, true, true, true, false, false, false] rfl rfl (Za5 HT_.out (by kernel_rfl)) (fun _ _ _ h => h) (Or.inl ⟨by rfl, ?_⟩) ?_ ?_
   rotate_left
   ·intro w'
    go_simp
    with_reducible rfl
   rotate_left
   ·simp only [Act.put, List.setIfInBounds_toArray, List.set_cons_zero, List.set_cons_succ, Za4, Za7]
    rfl
   refine Zbn (i := 6) (N := some 4) (v := ?_) (a' := ?_) #[true, true, true, true, true, true, true, false, false] rfl rfl (Za5 HT_.out (by kernel_rfl)) (fun _ _ _ h => h) (Or.inl ⟨by rfl, ?_⟩) ?_ ?_
   rotate_left
   ·intro w'
    go_simp
    with_reducible rfl
   rotate_left
   ·simp only [Act.put, List.setIfInBounds_toArray, List.set_cons_zero, List.set_cons_succ, Za4, Za7]
    rfl
   refine one_ (i := 7) (N := none) #[true, true, true, true, true, true, true, true, false] rfl rfl (Zc4 HT_.out (by kernel_rfl)) (by decide) (fun K hK => ?_)
   have hs46 : w45.cell? ⟨gb251, 0, none⟩ = some (.int .i64 0) := (Zae BK251.out 0).trans rfl
   have hfs46 := Zax BK251.out 0
   have hns46_0 := NB250_251.out
   have hns46_2 := NB277_251.out
   have hms46_0 := NB251_250.out
   have hms46_2 := NB251_277.out
   have hs47 : w45.cell? ⟨gb251, 1, none⟩ = some (.slice none 0 0) := (Zae BK251.out 1).trans rfl
   have hfs47 := Zax BK251.out 1
   have hns47_0 := NB250_251.out
   have hns47_2 := NB277_251.out
   have hms47_0 := NB251_250.out
   have hms47_2 := NB251_277.out
   have hs48 : w45.cell? ⟨gb251, 2, none⟩ = some (.slice none 0 0) := (Zae BK251.out 2).trans rfl
   have hfs48 := Zax BK251.out 2
   have hns48_0 := NB250_251.out
   have hns48_2 := NB277_251.out
   have hms48_0 := NB251_250.out
   have hms48_2 := NB251_277.out
   have hs49 : w45.cell? ⟨gb251, 3, none⟩ = some (.int .i64 0) := (Zae BK251.out 3).trans rfl
   have hfs49 := Zax BK251.out 3
   have hns49_0 := NB250_251.out
   have hns49_2 := NB277_251.out
   have hms49_0 := NB251_250.out
   have hms49_2 := NB251_277.out
   have hs50 : w45.cell? ⟨gb251, 4, none⟩ = some (.int .i64 0) := (Zae BK251.out 4).trans rfl
   have hfs50 := Zax BK251.out 4
   have hns50_0 := NB250_251.out
   have hns50_2 := NB277_251.out
   have hms50_0 := NB251_250.out
   have hms50_2 := NB251_277.out
   have hs51 : w45.cell? ⟨gb251, 5, none⟩ = some (.slice none 0 0) := (Zae BK251.out 5).trans rfl
   have hfs51 := Zax BK251.out 5
   have hns51_0 := NB250_251.out
   have hns51_2 := NB277_251.out
   have hms51_0 := NB251_250.out
   have hms51_2 := NB251_277.out
   have hs52 : w45.cell? ⟨gb251, 6, none⟩ = some (.int .i64 0) := (Zae BK251.out 6).trans rfl
   have hfs52 := Zax BK251.out 6
   have hns52_0 := NB250_251.out
   have hns52_2 := NB277_251.out
   have hms52_0 := NB251_250.out
   have hms52_2 := NB251_277.out
   refine skip_ (w1 := ?_) (by rfl) rfl ?_ ?_
   rotate_left
   ·go_simp
    rfl
   refine hK.out _ _ ⟨((cell_far (p := ⟨gb251, _, none⟩) NB277_251.out _).trans (((cell_far (p := ⟨gb251, _, none⟩) NB277_251.out _).trans (((cell_far (p := ⟨gb251, _, none⟩) NB277_251.out _).trans (((cell_far (p := ⟨gb251, _, none⟩) NB277_251.out _).trans (((cell_far (p := ⟨gb251, _, none⟩) NB277_251.out _).trans (((cell_far (p := ⟨gb251, _, none⟩) NB277_251.out _).trans (((cell_far (p := ⟨gb251, _, none⟩) NB277_251.out _).trans (hHeld.1)))))))))))))), ((cell_far (p := ⟨gb251, _, none⟩) NB277_251.out _).trans (((cell_far (p := ⟨gb251, _, none⟩) NB277_251.out _).trans (((cell_far (p := ⟨gb251, _, none⟩) NB277_251.out _).trans (((cell_far (p := ⟨gb251, _, none⟩) NB277_251.out _).trans (((cell_far (p := ⟨gb251, _, none⟩) NB277_251.out _).trans (((cell_far (p := ⟨gb251, _, none⟩) NB277_251.out _).trans (((cell_far (p := ⟨gb251, _, none⟩) NB277_251.out _).trans (hHeld.2.1)))))))))))))), ((cell_far (p := ⟨gb251, _, none⟩) NB277_251.out _).trans (((cell_far (p := ⟨gb251, _, none⟩) NB277_251.out _).trans (((cell_far (p := ⟨gb251, _, none⟩) NB277_251.out _).trans (((cell_far (p := ⟨gb251, _, none⟩) NB277_251.out _).trans (((cell_far (p := ⟨gb251, _, none⟩) NB277_251.out _).trans (((cell_far (p := ⟨gb251, _, none⟩) NB277_251.out _).trans (((cell_far (p := ⟨gb251, _, none⟩) NB277_251.out _).trans (hHeld.2.2.1)))))))))))))), ((cell_far (p := ⟨gb251, _, none⟩) NB277_251.out _).trans (((cell_far (p := ⟨gb251, _, none⟩) NB277_251.out _).trans (((cell_far (p := ⟨gb251, _, none⟩) NB277_251.out _).trans (((cell_far (p := ⟨gb251, _, none⟩) NB277_251.out _).trans (((cell_far (p := ⟨gb251, _, none⟩) NB277_251.out _).trans (((cell_far (p := ⟨gb251, _, none⟩) NB277_251.out _).trans (((cell_far (p := ⟨gb251, _, none⟩) NB277_251.out _).trans (hHeld.2.2.2.1)))))))))))))), ((cell_far (p := ⟨gb251, _, none⟩) NB277_251.out _).trans (((cell_far (p := ⟨gb251, _, none⟩) NB277_251.out _).trans (((cell_far (p := ⟨gb251, _, none⟩) NB277_251.out _).trans (((cell_far (p := ⟨gb251, _, none⟩) NB277_251.out _).trans (((cell_far (p := ⟨gb251, _, none⟩) NB277_251.out _).trans (((cell_far (p := ⟨gb251, _, none⟩) NB277_251.out _).trans (((cell_far (p := ⟨gb251, _, none⟩) NB277_251.out _).trans (hHeld.2.2.2.2.1)))))))))))))), ((cell_far (p := ⟨gb251, _, none⟩) NB277_251.out _).trans (((cell_far (p := ⟨gb251, _, none⟩) NB277_251.out _).trans (((cell_far (p := ⟨gb251, _, none⟩) NB277_251.out _).trans (((cell_far (p := ⟨gb251, _, none⟩) NB277_251.out _).trans (((cell_far (p := ⟨gb251, _, none⟩) NB277_251.out _).trans (((cell_far (p := ⟨gb251, _, none⟩) NB277_251.out _).trans (((cell_far (p := ⟨gb251, _, none⟩) NB277_251.out _).trans (hHeld.2.2.2.2.2.1)))))))))))))), ((cell_far (p := ⟨gb251, _, none⟩) NB277_251.out _).trans (((cell_far (p := ⟨gb251, _, none⟩) NB277_251.out _).trans (((cell_far (p := ⟨gb251, _, none⟩) NB277_251.out _).trans (((cell_far (p := ⟨gb251, _, none⟩) NB277_251.out _).trans (((cell_far (p := ⟨gb251, _, none⟩) NB277_251.out _).trans (((cell_far (p := ⟨gb251, _, none⟩) NB277_251.out _).trans (((cell_far (p := ⟨gb251, _, none⟩) NB277_251.out _).trans (hHeld.2.2.2.2.2.2))))))))))))))⟩ (fun hHeld => ?_)
   clear hK K
   refine Zbn (i := 8) (N := some 6) (v := ?_) (a' := ?_) #[true, true, true, true, true, true, true, true, true] rfl rfl (Za5 HT_.out (by kernel_rfl)) (fun _ _ _ h => h) (Or.inl ⟨by rfl, ?_⟩) ?_ ?_
   rotate_left
   ·intro w'
    go_simp
    with_reducible rfl
   rotate_left
   ·simp only [Act.put, List.setIfInBounds_toArray, List.set_cons_zero, List.set_cons_succ, Za4, Za7]
    rfl
   refine Zew (Zc7 HT_.out (by kernel_rfl)) ?_
   try go_wp2
   refine bodyPost_ret (Zfj (rs := [.tmp 4, .cell 5 25, .tmp 6]) rfl (by simp) (.tmp (.cell gb251 25 #[.int .i64 a1, .slice Ao34 t265.length co34, .slice Ao35 t268.length co35, .int .i64 t271, .int .i64 t272, .slice Ao36 y278.length co36, .int .i64 t276] (0, 0) _ rfl (by (with_reducible repeat (first | refine Zah ?_ _ | refine Zaj ?_ | refine Zaf ?_ _)); refine Zbr (cs := #[.int .i64 a1, .slice Ao34 t265.length co34, .slice Ao35 t268.length co35, .int .i64 t271, .int .i64 t272, .slice Ao36 y278.length co36, .int .i64 0]) ?_ 6 _ rfl; (with_reducible repeat (first | refine Zah ?_ _ | refine Zaj ?_ | refine Zaf ?_ _)); refine Zbr (cs := #[.int .i64 a1, .slice Ao34 t265.length co34, .slice Ao35 t268.length co35, .int .i64 t271, .int .i64 t272, .slice none 0 0, .int .i64 0]) ?_ 5 _ rfl; (with_reducible repeat (first | refine Zah ?_ _ | refine Zaj ?_ | refine Zaf ?_ _)); refine Zbr (cs := #[.int .i64 a1, .slice Ao34 t265.length co34, .slice Ao35 t268.length co35, .int .i64 t271, .int .i64 0, .slice none 0 0, .int .i64 0]) ?_ 4 _ rfl; (with_reducible repeat (first | refine Zah ?_ _ | refine Zaj ?_ | refine Zaf ?_ _)); refine Zbr (cs := #[.int .i64 a1, .slice Ao34 t265.length co34, .slice Ao35 t268.length co35, .int .i64 0, .int .i64 0, .slice none 0 0, .int .i64 0]) ?_ 3 _ rfl; (with_reducible repeat (first | refine Zah ?_ _ | refine Zaj ?_ | refine Zaf ?_ _)); refine Zbr (cs := #[.int .i64 a1, .slice Ao34 t265.length co34, .slice none 0 0, .int .i64 0, .int .i64 0, .slice none 0 0, .int .i64 0]) ?_ 2 _ rfl; (with_reducible repeat (first | refine Zah ?_ _ | refine Zaj ?_ | refine Zaf ?_ _)); refine Zbr (cs := #[.int .i64 a1, .slice none 0 0, .slice none 0 0, .int .i64 0, .int .i64 0, .slice none 0 0, .int .i64 0]) ?_ 1 _ rfl; (with_reducible repeat (first | refine Zah ?_ _ | refine Zaj ?_ | refine Zaf ?_ _)); refine Zbr (cs := #[.int .i64 0, .slice none 0 0, .slice none 0 0, .int .i64 0, .int .i64 0, .slice none 0 0, .int .i64 0]) ?_ 0 _ rfl; (with_reducible repeat (first | refine Zah ?_ _ | refine Zaj ?_ | refine Zaf ?_ _)); exact BK251.out) Try.underlying25 rfl (by kernel_rfl) (.tmp .nil)))) rfl ?_
   exact ⟨_, _, _, _, by first | rfl | (simp [Zaq, Zar] <;> rfl) | (simp only [← hji23]; first | rfl | (simp [Zaq, Zar] <;> rfl)) | (simp [*, Zaq, Zar] <;> rfl), by (with_reducible repeat (first | apply Kd.S_alloc | apply Kd.S_drewN | apply Kd.Zb6)); exact Kd.Zck (Kd.Zb2 (p := ⟨gb251, 6, none⟩) (Kd.Zb2 (p := ⟨gb251, 5, none⟩) (Kd.Zb2 (p := ⟨gb251, 4, none⟩) (Kd.Zb2 (p := ⟨gb251, 3, none⟩) (Kd.Zb2 (p := ⟨gb251, 2, none⟩) (Kd.Zb2 (p := ⟨gb251, 1, none⟩) (Kd.Zb2 (p := ⟨gb251, 0, none⟩) (Kd.Zcx HO_7.out BK251.out (by decide)) (fun _ hk => hk.2) (.int .i64 a1)) (fun _ hk => hk.2) (.slice Ao34 t265.length co34)) (fun _ hk => hk.2) (.slice Ao35 t268.length co35)) (fun _ hk => hk.2) (.int .i64 t271)) (fun _ hk => hk.2) (.int .i64 t272)) (fun _ hk => hk.2) (.slice Ao36 y278.length co36)) (fun _ hk => hk.2) (.int .i64 t276)) (fun _ hk => trivial), by (with_reducible repeat (first | apply Kd.R_alloc | apply Kd.Zbh | apply Kd.Zbl)); exact Kd.Zbm (Kd.Zbx (p := ⟨gb251, 6, none⟩) (Kd.Zbx (p := ⟨gb251, 5, none⟩) (Kd.Zbx (p := ⟨gb251, 4, none⟩) (Kd.Zbx (p := ⟨gb251, 3, none⟩) (Kd.Zbx (p := ⟨gb251, 2, none⟩) (Kd.Zbx (p := ⟨gb251, 1, none⟩) (Kd.Zbx (p := ⟨gb251, 0, none⟩) (Kd.Zc HO267.out BK251.out (by decide)) (fun _ hk => hk.2) (.int .i64 a1)) (fun _ hk => hk.2) (.slice Ao34 t265.length co34)) (fun _ hk => hk.2) (.slice Ao35 t268.length co35)) (fun _ hk => hk.2) (.int .i64 t271)) (fun _ hk => hk.2) (.int .i64 t272)) (fun _ hk => hk.2) (.slice Ao36 y278.length co36)) (fun _ hk => hk.2) (.int .i64 t276)) (fun _ hk => hk.1), by (with_reducible repeat (first | apply Kd.R_alloc | apply Kd.Zbh | apply Kd.Zbl)); exact Kd.Zbm (Kd.Zbx (p := ⟨gb251, 6, none⟩) (Kd.Zbx (p := ⟨gb251, 5, none⟩) (Kd.Zbx (p := ⟨gb251, 4, none⟩) (Kd.Zbx (p := ⟨gb251, 3, none⟩) (Kd.Zbx (p := ⟨gb251, 2, none⟩) (Kd.Zbx (p := ⟨gb251, 1, none⟩) (Kd.Zbx (p := ⟨gb251, 0, none⟩) (Kd.Zc HO270.out BK251.out (by decide)) (fun _ hk => hk.2) (.int .i64 a1)) (fun _ hk => hk.2) (.slice Ao34 t265.length co34)) (fun _ hk => hk.2) (.slice Ao35 t268.length co35)) (fun _ hk => hk.2) (.int .i64 t271)) (fun _ hk => hk.2) (.int .i64 t272)) (fun _ hk => hk.2) (.slice Ao36 y278.length co36)) (fun _ hk => hk.2) (.int .i64 t276)) (fun _ hk => hk.1), by (with_reducible repeat (first | apply Kd.S_alloc | apply Kd.S_drewN | apply Kd.Zb6)); exact Kd.Zck (Kd.Zb2 (p := ⟨gb251, 6, none⟩) (Kd.Zb2 (p := ⟨gb251, 5, none⟩) (Kd.Zb2 (p := ⟨gb251, 4, none⟩) (Kd.Zb2 (p := ⟨gb251, 3, none⟩) (Kd.Zb2 (p := ⟨gb251, 2, none⟩) (Kd.Zb2 (p := ⟨gb251, 1, none⟩) (Kd.Zb2 (p := ⟨gb251, 0, none⟩) (Kd.Zcx HO280.out BK251.out (by decide)) (fun _ hk => hk.2) (.int .i64 a1)) (fun _ hk => hk.2) (.slice Ao34 t265.length co34)) (fun _ hk => hk.2) (.slice Ao35 t268.length co35)) (fun _ hk => hk.2) (.int .i64 t271)) (fun _ hk => hk.2) (.int .i64 t272)) (fun _ hk => hk.2) (.slice Ao36 y278.length co36)) (fun _ hk => hk.2) (.int .i64 t276)) (fun _ hk => ⟨hk.1.1, hk.1.2⟩), by repeat (first | (with_reducible first | exact HB.out | apply Zac | apply Zaa | apply Zab | refine Zag ?_ GE250.out | refine Zag ?_ GE251.out | refine Zag ?_ GE277.out) | exact HB.out)⟩
end Go.Proofs.Ytpbcigilipdedaa.P
/- Plain: whether a constraint may be, by the document (of a table, of an element); a case that is laid. -/
namespace Go.Proofs.Ytpbcigilipdedaa.P
open Go.RowKit Go.Proofs.YtpbcigilipdedaaW.PrintWords Go.Proofs.YtpbcigilipdedaaW.PrintLast Go.Proofs.YtpbcigilipdedaaW.PrintMore
set_option linter.unusedVariables false
set_option linter.unusedSimpArgs false
theorem mn_len2 {n m : Nat} : mn (n : Int) (m : Int) = ((min n m : Nat) : Int) := by unfold mn; omega
theorem nodup_snoc {l : List Int} {n : Nat} (hn : n < l.length) (h : (l.take n).Nodup) (hd : ∀ j (hj : j < n), l[n] ≠ l[j]'(by omega)) : (l.take (n + 1)).Nodup := by
  rw [List.take_succ_eq_append_getElem hn, List.nodup_append]
  refine ⟨h, by simp, fun a ha b hb => ?_⟩
  obtain rfl := List.mem_singleton.1 hb
  obtain ⟨j, hj, rfl⟩ := List.mem_take_iff_getElem.1 ha
  exact fun e => hd j (by omega) e.symm
theorem others_l0 (l : List Int) (hl : l.length < 4611686018427387904) : ∀ (m n : Nat), n + m = l.length → (l.take n).Nodup → Ev (fun k => Za1.l0 k l (n : Int)) (decide l.Nodup) := by
  intro m
  induction m with
  | zero =>
    intro n h hn
    rw [List.take_of_length_le (by omega)] at hn
    exact Ev.step (G := fun _ => some true) (fun k => by rw [Za1.l0, if_neg (by omega)]) (Ev.const (by simp [hn]))
  | succ m ih =>
    intro n h hn
    have hlt : n < l.length := by omega
    have inner : ∀ (r q : Nat) (hq : q + r = n), (∀ j (hj : j < q), l[n] ≠ l[j]'(by omega)) → Ev (fun k => Za1.l1 k l (n : Int) (q : Int)) (decide l.Nodup) := by
      intro r
      induction r with
      | zero =>
        intro q hq hd
        obtain rfl : q = n := by omega
        exact Ev.step (fun k => by rw [Za1.l1, if_neg (by omega), w1 (by omega)]) (ih (q + 1) (by omega) (nodup_snoc hlt hn hd))
      | succ r ihr =>
        intro q hq hd
        have hql : q < l.length := by omega
        by_cases e : l[n] = l[q]
        rotate_left
        · refine Ev.step (fun k => by rw [Za1.l1, if_pos (by omega), if_pos (by omega), if_pos (by omega), if_pos (by omega), if_pos (by omega), Zcd l n hlt, Zcd l q hql, if_neg e, w1 (by omega)]) (ihr (q + 1) (by omega) (fun j hj => ?_))
          by_cases hjq : j = q
          · subst hjq; exact e
          exact hd j (by omega)
        have hnn : ¬ l.Nodup := fun hN => by
          exact List.pairwise_iff_getElem.1 hN q n hql hlt (by omega) e.symm
        rw [decide_eq_false hnn]
        exact Ev.step (G := fun _ => some false) (fun k => by rw [Za1.l1, if_pos (by omega), if_pos (by omega), if_pos (by omega), if_pos (by omega), if_pos (by omega), Zcd l n hlt, Zcd l q hql, if_pos e]) (Ev.pure _)
    exact Ev.step (fun k => by rw [Za1.l0, if_pos (by omega)]; rfl) (inner n 0 (by omega) (fun j hj => absurd hj (Nat.not_lt_zero j)))
theorem others_ev (l : List Int) (hl : l.length < 4611686018427387904) : Ev (fun k => Za1.f k l) (decide l.Nodup) := others_l0 l hl l.length 0 (by omega) (by simp)
def rowsOK (vars : List Int) (rows : List (List Int)) : Bool := (rows.all fun r => decide (r.length = vars.length) && r.all isVal) && decide (rows.length ≤ 1024)
theorem rows_l0 (kd : Int) (vars coefs : List Int) (op rhs : Int) (rows : List (List Int)) (b : Int) (hr : rows.length < 4611686018427387904) (hin : ∀ x ∈ rows, x.length < 4611686018427387904) : ∀ (m n : Nat), n + m = rows.length →
    Ev (fun k => Zay.l0 k (n : Int) kd vars coefs op rhs rows b) (((rows.drop n).all fun r => decide (r.length = vars.length) && r.all isVal) && decide (rows.length ≤ 1024)) := by
  intro m
  induction m with
  | zero =>
    intro n h
    rw [List.drop_of_length_le (by omega)]
    exact Ev.step (G := fun _ => some (decide ((rows.length : Int) ≤ 1024))) (fun k => by rw [Zay.l0, if_neg (by omega)]) (Ev.const (by simp; omega))
  | succ m ih =>
    intro n h
    have hn : n < rows.length := by omega
    have hx := hin _ (List.getElem_mem hn)
    rw [List.drop_eq_getElem_cons hn, List.all_cons]
    have inner : ∀ (r q : Nat), q + r = rows[n].length → Ev (fun k => Zay.l1 k (n : Int) (q : Int) kd vars coefs op rhs rows b) (((rows[n].drop q).all isVal && (rows.drop (n + 1)).all fun r => decide (r.length = vars.length) && r.all isVal) && decide (rows.length ≤ 1024)) := by
      intro r
      induction r with
      | zero =>
        intro q hq
        rw [List.drop_of_length_le (show rows[n].length ≤ q by omega)]
        refine Ev.step (fun k => by rw [Zay.l1, if_pos (by omega), if_pos (by omega), Zdr rows n hn, if_neg (by omega), w1 (by omega)]) ?_
        simpa using ih (n + 1) (by omega)
      | succ r ihr =>
        intro q hq
        have hql : q < rows[n].length := by omega
        refine Ev.step (fun k => by rw [Zay.l1, if_pos (by omega), if_pos (by omega), Zdr rows n hn, if_pos (by omega), if_pos (by omega), Zcd _ q hql, Zfb, Option.bind_some, w1 (by omega)]) ?_
        rw [List.drop_eq_getElem_cons hql, List.all_cons]
        cases hv : isVal rows[n][q] with
        | true => simpa using ihr (q + 1) (by omega)
        | false => simpa using Ev.pure false
    by_cases e : rows[n].length = vars.length
    rotate_left
    · refine Ev.step (G := fun _ => some false) (fun k => by rw [Zay.l0, if_pos (by omega), if_pos (by omega), Zdr rows n hn, if_neg (by omega)]) ?_
      simpa [e] using Ev.pure false
    refine Ev.step (fun k => by rw [Zay.l0, if_pos (by omega), if_pos (by omega), Zdr rows n hn, if_pos (by omega)]) ?_
    have := inner rows[n].length 0 (by omega)
    simpa [e] using this
theorem rows_ev (kd : Int) (vars coefs : List Int) (op rhs : Int) (rows : List (List Int)) (b : Int) (hr : rows.length < 4611686018427387904) (hin : ∀ x ∈ rows, x.length < 4611686018427387904) :
    Ev (fun k => Zay.f k kd vars coefs op rhs rows b) (rowsOK vars rows) := rows_l0 kd vars coefs op rhs rows b hr hin rows.length 0 (by omega)
def plainB (coefs : List Int) (op rhs b : Int) : Bool := decide (op = 0) && decide (rhs = 0) && decide (b = 0) && decide (coefs = [])
def manyB (vars : List Int) : Bool := decide (vars ≠ []) && decide vars.Nodup
def rightB (kd : Int) (vars coefs : List Int) (op rhs : Int) (rows : List (List Int)) (b : Int) : Bool :=
  plainB coefs op rhs b && manyB vars && (if kd = 2 then rowsOK vars rows else decide (rows = []) && decide (3 ≤ vars.length))
section
variable (d : List (List Rg)) (kd : Int) (vars coefs : List Int) (op rhs : Int) (rows : List (List Int)) (b : Int) (hk : kd = 2 ∨ kd = 3)
  (hv : vars.length < 4611686018427387904) (hr : rows.length < 4611686018427387904) (hin : ∀ x ∈ rows, x.length < 4611686018427387904)
include hk hv hr hin
theorem right_j3 (x6 x8 : Bool) : Ev (fun k => Zak.j3 k x6 x8 kd vars coefs op rhs rows b) (x6 && x8 && (if kd = 2 then rowsOK vars rows else decide (rows = []) && decide (3 ≤ vars.length))) := by
  rcases hk with rfl | rfl
  · refine Ev.step (fun k => by rw [Zak.j3, if_neg (by omega), if_neg (by omega), if_pos rfl]) ?_
    cases x6 with
    | false => simpa using Ev.pure false
    | true =>
      cases x8 with
      | false => simpa using Ev.pure false
      | true => simpa using Ev.bind (rows_ev 2 vars coefs op rhs rows b hr hin) (Ev.pure _)
  refine Ev.step (fun k => by rw [Zak.j3, if_neg (by omega), if_neg (by omega), if_neg (by omega), if_pos rfl]) ?_
  by_cases h0 : rows = []
  rotate_left
  · have hne : ¬ (rows.length : Int) = 0 := by
      intro e
      exact h0 (List.length_eq_zero_iff.1 (by omega))
    simp only [if_neg hne]
    simpa [h0] using Ev.pure false
  subst h0
  cases x6 with
  | false => simpa using Ev.pure false
  | true =>
    cases x8 with
    | false => simpa using Ev.pure false
    | true =>
      have e : (decide ((vars.length : Int) ≥ 3)) = decide (3 ≤ vars.length) := decide_eq_decide.2 (by omega)
      simpa [e] using Ev.pure (decide (3 ≤ vars.length))
theorem right_j2 (x6 : Bool) : Ev (fun k => Zak.j2 k x6 kd vars coefs op rhs rows b) (x6 && manyB vars && (if kd = 2 then rowsOK vars rows else decide (rows = []) && decide (3 ≤ vars.length))) := by
  by_cases h0 : vars = []
  · subst h0
    refine Ev.step (fun k => by rw [Zak.j2, if_neg (by simp)]) ?_
    have := right_j3 kd [] coefs op rhs rows b hk hv hr hin x6 false
    simpa [manyB] using this
  have hpos : (vars.length : Int) > 0 := by
    have : vars.length ≠ 0 := fun e => h0 (List.length_eq_zero_iff.1 e)
    omega
  refine Ev.step (fun k => by rw [Zak.j2, if_pos hpos]) (Ev.bind (others_ev vars hv) ?_)
  have := right_j3 kd vars coefs op rhs rows b hk hv hr hin x6 (decide vars.Nodup)
  simpa [manyB, h0] using this
theorem right_j0 (x5 : Bool) : Ev (fun k => Zak.j0 k x5 kd vars coefs op rhs rows b) (x5 && decide (coefs = []) && manyB vars && (if kd = 2 then rowsOK vars rows else decide (rows = []) && decide (3 ≤ vars.length))) := by
  have j1 : ∀ x6 : Bool, Ev (fun k => Zak.j1 k x6 kd vars coefs op rhs rows b) (x6 && manyB vars && (if kd = 2 then rowsOK vars rows else decide (rows = []) && decide (3 ≤ vars.length))) := fun x6 => by
    by_cases h : op ≥ 0
    · exact Ev.step (fun k => by rw [Zak.j1, if_pos h]) (right_j2 kd vars coefs op rhs rows b hk hv hr hin x6)
    exact Ev.step (fun k => by rw [Zak.j1, if_neg h]) (right_j2 kd vars coefs op rhs rows b hk hv hr hin x6)
  cases x5 with
  | false => exact Ev.step (fun k => by rw [Zak.j0, if_neg (by simp)]) (by simpa using j1 false)
  | true =>
    have e : ((coefs.length : Int) == 0) = decide (coefs = []) := by
      rw [Bool.eq_iff_iff, decide_eq_true_iff, beq_iff_eq]
      constructor
      · intro h; exact List.length_eq_zero_iff.1 (by omega)
      rintro rfl; rfl
    refine Ev.step (fun k => by rw [Zak.j0, if_pos rfl, e]) ?_
    simpa using j1 (decide (coefs = []))
theorem right_ev : Ev (fun k => Zak.f k d kd vars coefs op rhs rows b) (rightB kd vars coefs op rhs rows b) := by
  unfold Zak.f rightB plainB
  by_cases h1 : op = 0
  rotate_left
  · have := right_j0 kd vars coefs op rhs rows b hk hv hr hin false
    simp only [if_neg h1]
    simpa [h1] using this
  by_cases h2 : rhs = 0
  rotate_left
  · have := right_j0 kd vars coefs op rhs rows b hk hv hr hin false
    simp only [if_pos h1, if_neg h2]
    simpa [h1, h2] using this
  have := right_j0 kd vars coefs op rhs rows b hk hv hr hin (b == 0)
  have e : (b == 0) = decide (b = 0) := by rw [Bool.eq_iff_iff, decide_eq_true_iff, beq_iff_eq]
  rw [e] at this
  simp only [if_pos h1, if_pos h2, e]
  simpa [h1, h2] using this
theorem con_ev (hv2 : vars.length < 17592186044000) (hd : d.length < 4611686018427387904) : ∃ e : Int, Ev (fun k => Zat.f k d kd vars coefs op rhs rows b) e ∧ (e = 0 → (∀ v ∈ vars, 0 ≤ v ∧ v < (d.length : Int)) ∧ rightB kd vars coefs op rhs rows b = true) := by
  have hsl := Zeb vars
  have hR := right_ev d kd vars coefs op rhs rows b hk hv hr hin
  have loop : ∀ (m n : Nat), n + m = (sd vars).length → (∀ v ∈ (sd vars).take n, 0 ≤ v ∧ v < (d.length : Int)) →
      ∃ e : Int, Ev (fun k => Zat.l0 k d (sd vars) (n : Int) kd vars coefs op rhs rows b) e ∧ (e = 0 → (∀ v ∈ sd vars, 0 ≤ v ∧ v < (d.length : Int)) ∧ rightB kd vars coefs op rhs rows b = true) := by
    intro m
    induction m with
    | zero =>
      intro n h ha
      rw [List.take_of_length_le (by omega)] at ha
      cases hB : rightB kd vars coefs op rhs rows b with
      | false =>
        rw [hB] at hR
        refine ⟨44, Ev.step (fun k => by rw [Zat.l0, if_neg (by omega)]) (Ev.bind hR (Ev.Zd Bool.false_ne_true (Ev.pure _))), fun e => by omega⟩
      | true =>
        rw [hB] at hR
        have hp : coefs = [] ∧ rhs = 0 := by
          unfold rightB plainB at hB
          simp at hB
          exact ⟨hB.1.1.2, hB.1.1.1.1.2⟩
        obtain ⟨rfl, rfl⟩ := hp
        have hbig : Ev (fun k => Zav.f k [] 0) false := by
          unfold Zav.f
          refine Ev.Zd (by omega) ?_
          refine Ev.step (fun k => by rw [Zav.j0, if_neg (by simp)]) ?_
          exact Ev.step (fun k => by rw [Zav.l0, if_neg (show ¬ ((0 : Int) < (([] : List Int).length : Int)) from Int.lt_irrefl 0)]) (Ev.pure _)
        refine ⟨0, Ev.step (fun k => by rw [Zat.l0, if_neg (by omega)]) (Ev.bind hR ?_), fun _ => ⟨ha, rfl⟩⟩
        refine Ev.Zcf (c := true = true) rfl ?_
        refine Ev.bind hbig ?_
        exact Ev.Zd (c := false = true) Bool.false_ne_true (Ev.pure _)
    | succ m ih =>
      intro n h ha
      have hn : n < (sd vars).length := by omega
      by_cases h1 : (sd vars)[n] < 0
      · exact ⟨43, Ev.step (fun k => by rw [Zat.l0, if_pos (by omega), if_pos (by omega), Zcd _ n hn, if_pos h1]) (Ev.pure _), fun e => by omega⟩
      by_cases h2 : (sd vars)[n] ≥ (d.length : Int)
      · exact ⟨43, Ev.step (fun k => by rw [Zat.l0, if_pos (by omega), if_pos (by omega), Zcd _ n hn, if_neg h1, if_pos h2]) (Ev.pure _), fun e => by omega⟩
      obtain ⟨e, he, hg⟩ := ih (n + 1) (by omega) (fun v hv' => by
        rw [List.take_succ_eq_append_getElem hn, List.mem_append, List.mem_singleton] at hv'
        rcases hv' with hv' | rfl
        · exact ha v hv'
        omega)
      exact ⟨e, Ev.step (fun k => by rw [Zat.l0, if_pos (by omega), if_pos (by omega), Zcd _ n hn, if_neg h1, if_neg h2, w1 (by omega)]) he, hg⟩
  obtain ⟨e, he, hg⟩ := loop (sd vars).length 0 (by omega) (fun v hv' => by rw [List.take_zero] at hv'; cases hv')
  refine ⟨e, ?_, fun h0 => ⟨fun v hv' => (hg h0).1 v ((Zdp v vars).2 hv'), (hg h0).2⟩⟩
  have hU : Ev (fun k => Zca.f k kd vars coefs op rhs rows b) (sd vars) := by
    unfold Zca.f
    refine Ev.bind (Ev.pure _) (Ev.Zcf (by simp; omega) (Ev.bind (Ev.pure _) (Ev.Zd (by omega) ?_)))
    rw [List.nil_append]
    exact Ev.bind (Zgu vars hv2) (Ev.pure _)
  unfold Zat.f
  refine Ev.Zd (by omega) ?_
  have e6 : decide (kd > 6) = false := decide_eq_false (by omega)
  rw [e6]
  exact Ev.step (fun k => by rw [Zat.j0, if_neg (by simp)]) (Ev.bind hU he)
end
def domsC (D : List (List Int)) : List (List Rg) := (D.take 4).map fun x => dsm (x.take 6)
theorem Zd8 (D : List (List Int)) : (domsC D).length ≤ 4 := by simp [domsC]; omega
theorem rdR_nat (xs : List (List Rg)) (n : Nat) (h : n < xs.length) : Zcb xs (n : Int) = xs[n] := by simp [Zcb, List.getD_eq_getElem?_getD, List.getElem?_eq_getElem h]
structure ConOK (kd : Int) (n : Nat) (vars coefs : List Int) (op rhs : Int) (rows : List (List Int)) (b : Int) : Prop where
  mem : ∀ v ∈ vars, 0 ≤ v ∧ v < (n : Int)
  right : rightB kd vars coefs op rhs rows b = true
section
variable (D : List (List Int)) (x1 : Int) (vars coefs : List Int) (op rhs : Int) (rows : List (List Int)) (b : Int) (A Tk : List Int) (kd : Int) (hk : kd = 2 ∨ kd = 3)
  (hv : vars.length * 8 ≤ 140737488351232) (hc : coefs.length * 8 ≤ 140737488351232) (hr : rows.length * 24 ≤ 140737488351232) (hin : ∀ x ∈ rows, x.length * 8 ≤ 140737488351232)
include hk hv hc hr hin
theorem laid_ev : ∃ ok : Bool, Ev (fun k => Zap.f k D x1 vars coefs op rhs rows b A Tk kd) (domsC D, kd, vars, coefs, op, rhs, rows.take 20, b, ok) ∧ (ok = true → ConOK kd (domsC D).length vars coefs op rhs (rows.take 20) b) := by
  have hdl := Zd8 D
  obtain ⟨e, he, hg⟩ := con_ev (domsC D) kd vars coefs op rhs (rows.take 20) b hk (by omega) (by rw [List.length_take]; omega) (fun x hx => by have := hin x (List.mem_of_mem_take hx); omega) (by omega) (by omega)
  have hown : Ev (fun k => Zbd.f k x1 vars coefs op rhs rows b) (x1, vars, coefs, op, rhs, rows, b) := by
    unfold Zbd.f
    refine Ev.bind (Ev.pure _) (Ev.Zcf (by simp; omega) (Ev.bind (Ev.pure _) (Ev.Zcf (by simp; omega) ?_)))
    exact Ev.bind (ref_Copy rows (by omega) (fun x hx => by have := hin x hx; omega)) (by simpa using Ev.pure _)
  have e20 : mn (rows.length : Int) 20 = ((min rows.length 20 : Nat) : Int) := mn_len2 (m := 20)
  have loop : ∀ (m n : Nat), n + m = min D.length 4 → Ev (fun k => Zap.l0 k kd (domsC (D.take n)) (n : Int) D x1 vars coefs op rhs rows b A Tk) (domsC D, kd, vars, coefs, op, rhs, rows.take 20, b, (e == 0)) := by
    have last : ∀ n, n = min D.length 4 → domsC (D.take n) = domsC D := fun n hn => by
      unfold domsC
      rw [List.take_take, hn]
      congr 1
      rcases Nat.le_total D.length 4 with h | h
      · rw [Nat.min_eq_left h, List.take_of_length_le h, List.take_of_length_le (by omega)]
      rw [Nat.min_eq_right h, Nat.min_self]
    intro m
    induction m with
    | zero =>
      intro n h
      rw [last n (by omega)]
      have fin : Ev (fun k => (Zbd.f k x1 vars coefs op rhs rows b).bind fun bt271 => (if 0 ≤ (mn (bt271.2.2.2.2.2.1.length : Int) 20) then (if (mn (bt271.2.2.2.2.2.1.length : Int) 20) ≤ (bt271.2.2.2.2.2.1.length : Int) then ((some (bt271.2.2.2.2.2.1.take ((mn (bt271.2.2.2.2.2.1.length : Int) 20) : Int).toNat : List (List Int))).bind fun y285 => ((Zat.f k (domsC D) kd bt271.2.1 bt271.2.2.1 bt271.2.2.2.1 bt271.2.2.2.2.1 y285 bt271.2.2.2.2.2.2).bind fun t288 => (some (domsC D, kd, bt271.2.1, bt271.2.2.1, bt271.2.2.2.1, bt271.2.2.2.2.1, y285, bt271.2.2.2.2.2.2, (t288 == 0))))) else (none)) else (none))) (domsC D, kd, vars, coefs, op, rhs, rows.take 20, b, (e == 0)) := by
        refine Ev.bind hown (Ev.Zcf (by show 0 ≤ mn (rows.length : Int) 20; rw [e20]; omega) (Ev.Zcf (by show mn (rows.length : Int) 20 ≤ (rows.length : Int); rw [e20]; omega) (Ev.bind (Ev.pure _) ?_)))
        have et : rows.take (mn (rows.length : Int) 20).toNat = rows.take 20 := by
          rw [e20, Int.toNat_natCast]
          rcases Nat.le_total rows.length 20 with h | h
          · rw [Nat.min_eq_left h, List.take_of_length_le (Nat.le_refl _), List.take_of_length_le h]
          rw [Nat.min_eq_right h]
        show Ev (fun k => (Zat.f k (domsC D) kd vars coefs op rhs (rows.take (mn (rows.length : Int) 20).toNat) b).bind fun t288 => some (domsC D, kd, vars, coefs, op, rhs, rows.take (mn (rows.length : Int) 20).toNat, b, (t288 == 0))) _
        rw [et]
        exact Ev.bind he (Ev.pure _)
      by_cases hlt : n < D.length
      rotate_left
      · exact Ev.step (fun k => by rw [Zap.l0, if_neg (by omega)]) fin
      exact Ev.step (fun k => by rw [Zap.l0, if_pos (by omega), if_neg (by omega)]) fin
    | succ m ih =>
      intro n h
      have hn : n < D.length := by omega
      have e6 : mn (D[n].length : Int) 6 = ((min D[n].length 6 : Nat) : Int) := mn_len2 (m := 6)
      have et : D[n].take (mn (D[n].length : Int) 6).toNat = D[n].take 6 := by
        rw [e6, Int.toNat_natCast]
        rcases Nat.le_total D[n].length 6 with h | h
        · rw [Nat.min_eq_left h, List.take_of_length_le (Nat.le_refl _), List.take_of_length_le h]
        rw [Nat.min_eq_right h]
      have hstep := ih (n + 1) (by omega)
      have hsn : domsC (D.take (n + 1)) = domsC (D.take n) ++ [dsm (D[n].take 6)] := by
        unfold domsC
        rw [List.take_take, List.take_take, Nat.min_eq_right (by omega), Nat.min_eq_right (by omega), List.take_succ_eq_append_getElem hn, List.map_append]
        rfl
      rw [hsn] at hstep
      have hl4 := Zd8 (D.take n)
      refine Ev.step (fun k => by rw [Zap.l0, if_pos (by omega), if_pos (by omega), if_pos (by omega), Zdr D n hn, if_pos (by rw [e6]; omega), if_pos (by rw [e6]; omega), et]) (Ev.bind (Small_ev (D[n].take 6) (by rw [List.length_take]; omega)) ?_)
      refine Ev.Zcf (by omega) ?_
      simp only [w1 (show n < 4611686018427387904 by omega)]
      exact hstep
  refine ⟨e == 0, loop (min D.length 4) 0 (by omega), fun h => ?_⟩
  have := hg (by simpa using h)
  exact ⟨this.1, this.2⟩
end
end Go.Proofs.Ytpbcigilipdedaa.P
/- Lists of good domains. -/
namespace Go.Proofs.Ytpbcigilipdedaa.P
open Go.RowKit Go.Proofs.YtpbcigilipdedaaW.PrintWords Go.Proofs.YtpbcigilipdedaaW.PrintLast Go.Proofs.YtpbcigilipdedaaW.PrintMore
set_option linter.unusedVariables false
set_option linter.unusedSimpArgs false
def dv (d : List (List Rg)) (v : Int) : List Rg := d.getD v.toNat []
def Doms (d : List (List Rg)) : Prop := d.length ≤ 64 ∧ ∀ x ∈ d, Gd 1048576 (-1048576) x ∧ (vals x).length ≤ 4096
theorem domsC_doms (D : List (List Int)) : Doms (domsC D) := by
  refine ⟨Nat.le_trans (Zd8 D) (by omega), fun x hx => ?_⟩
  obtain ⟨y, _, rfl⟩ := List.mem_map.1 hx
  exact ⟨dsm_gd _, Nat.le_trans (dsm_vlen _) (by omega)⟩
end Go.Proofs.Ytpbcigilipdedaa.P
namespace Go.Proofs.Ytpbcigilipdedaa.P
open Go.RowKit Go.Proofs.YtpbcigilipdedaaW.PrintWords Go.Proofs.YtpbcigilipdedaaW.PrintLast Go.Proofs.YtpbcigilipdedaaW.PrintMore
attribute [local go_sem] Zcg Zci Zcr Zcs Zb7 Zb8 Zch Zcj
set_option linter.unusedVariables false
set_option linter.unusedSimpArgs false
end Go.Proofs.Ytpbcigilipdedaa.P
/- Plain: values of variables; what a sum comes to. -/
namespace Go.Proofs.Ytpbcigilipdedaa.P
open Go.RowKit Go.Proofs.YtpbcigilipdedaaW.PrintWords Go.Proofs.YtpbcigilipdedaaW.PrintLast Go.Proofs.YtpbcigilipdedaaW.PrintMore
set_option linter.unusedVariables false
set_option linter.unusedSimpArgs false
end Go.Proofs.Ytpbcigilipdedaa.P
namespace Go.Proofs.Ytpbcigilipdedaa.P
open Go.RowKit Go.Proofs.YtpbcigilipdedaaW.PrintWords Go.Proofs.YtpbcigilipdedaaW.PrintLast Go.Proofs.YtpbcigilipdedaaW.PrintMore
attribute [local go_sem] Zcg Zci Zcr Zcs Zb7 Zb8 Zch Zcj
set_option linter.unusedVariables false
set_option linter.unusedSimpArgs false
end Go.Proofs.Ytpbcigilipdedaa.P
/- Plain: values picked of domains. -/
namespace Go.Proofs.Ytpbcigilipdedaa.P
open Go.RowKit Go.Proofs.YtpbcigilipdedaaW.PrintWords Go.Proofs.YtpbcigilipdedaaW.PrintLast Go.Proofs.YtpbcigilipdedaaW.PrintMore
set_option linter.unusedVariables false
set_option linter.unusedSimpArgs false
def Picked (d : List (List Rg)) (a : List Int) : Prop := a.length = d.length ∧ ∀ i (h : i < a.length) (h' : i < d.length), Va d[i] a[i]
end Go.Proofs.Ytpbcigilipdedaa.P
/- Plain: rows that may be; whether a table holds; values picked of domains. -/
namespace Go.Proofs.Ytpbcigilipdedaa.P
open Go.RowKit Go.Proofs.YtpbcigilipdedaaW.PrintWords Go.Proofs.YtpbcigilipdedaaW.PrintLast Go.Proofs.YtpbcigilipdedaaW.PrintMore
set_option linter.unusedVariables false
set_option linter.unusedSimpArgs false
def rowIn (d : List (List Rg)) (vars r : List Int) : Bool := (vars.zip r).all fun p => decide (Va (dv d p.1) p.2)
theorem rows_ev' (d : List (List Rg)) (kd : Int) (vars coefs : List Int) (op rhs : Int) (rows : List (List Int)) (b : Int) (hm : ∀ v ∈ vars, 0 ≤ v ∧ v < (d.length : Int)) (hv : vars.length < 4611686018427387904) (hr : rows.length < 1000000000) (hin : ∀ x ∈ rows, x.length = vars.length ∧ x.length < 17592186044416) : ∀ (m n : Nat) (out : List (List Int)), n + m = rows.length → out.length ≤ n →
    Ev (fun k => Zbe.l0 k d out rows (rows.length : Int) (n : Int) kd vars coefs op rhs rows b) (out ++ (rows.drop n).filter (rowIn d vars)) := by
  intro m
  induction m with
  | zero =>
    intro n out h ho
    rw [List.drop_of_length_le (by omega)]
    exact Ev.step (fun k => by rw [Zbe.l0, if_neg (by omega)]) (by simpa using Ev.pure _)
  | succ m ih =>
    intro n out h ho
    have hn : n < rows.length := by omega
    obtain ⟨hx1, hx2⟩ := hin _ (List.getElem_mem hn)
    rw [List.drop_eq_getElem_cons hn]
    have inner : ∀ (r q : Nat), q + r = vars.length → Ev (fun k => Zbe.l1 k d out rows[n] rows (rows.length : Int) (n : Int) vars (vars.length : Int) (q : Int) kd vars coefs op rhs rows b)
        (if (((vars.drop q).zip (rows[n].drop q)).all fun p => decide (Va (dv d p.1) p.2)) = true then out ++ rows[n] :: (rows.drop (n + 1)).filter (rowIn d vars) else out ++ (rows.drop (n + 1)).filter (rowIn d vars)) := by
      intro r
      induction r with
      | zero =>
        intro q hq
        rw [List.drop_of_length_le (show vars.length ≤ q by omega), if_pos (by simp)]
        refine Ev.step (fun k => by rw [Zbe.l1, if_neg (by omega), cloneI.f, if_pos hx2, Option.bind_some, if_pos (by omega), w1 (by omega)]) ?_
        have := ih (n + 1) (out ++ [rows[n]]) (by omega) (by simp; omega)
        simpa using this
      | succ r ihr =>
        intro q hq
        have hqv : q < vars.length := by omega
        have hqr : q < rows[n].length := by omega
        obtain ⟨m1, m2⟩ := hm _ (List.getElem_mem hqv)
        have hH : Zd6.f (Zcb d vars[q]) rows[n][q] = some (decide (Va (dv d vars[q]) rows[n][q])) := Has_ev _ _
        refine Ev.step (fun k => by rw [Zbe.l1, if_pos (by omega), if_pos (by omega), if_pos (by omega), Zcd vars q hqv, if_pos m1, if_pos m2, if_pos (by omega), Zcd _ q hqr, hH, Option.bind_some, w1 (by omega), w1 (by omega)]) ?_
        rw [List.drop_eq_getElem_cons hqv, List.drop_eq_getElem_cons hqr, List.zip_cons_cons, List.all_cons]
        cases hva : decide (Va (dv d vars[q]) rows[n][q]) with
        | true =>
          simp only [Bool.true_and, if_true]
          exact ihr (q + 1) (by omega)
        | false =>
          simp only [Bool.false_and, Bool.false_eq_true, if_false]
          exact ih (n + 1) out (by omega) (by omega)
    refine Ev.step (fun k => by rw [Zbe.l0, if_pos (by omega), if_pos (by omega), if_pos (by omega), Zdr rows n hn]) ?_
    have := inner vars.length 0 (by omega)
    rw [List.filter_cons]
    unfold rowIn at this ⊢
    simp only [List.drop_zero] at this
    split at this
    · rename_i hp; rw [if_pos hp]; exact this
    rename_i hp; rw [if_neg hp]; exact this
theorem Rows_ev (d : List (List Rg)) (kd : Int) (vars coefs : List Int) (op rhs : Int) (rows : List (List Int)) (b : Int) (hm : ∀ v ∈ vars, 0 ≤ v ∧ v < (d.length : Int)) (hv : vars.length < 4611686018427387904) (hr : rows.length < 1000000000) (hin : ∀ x ∈ rows, x.length = vars.length ∧ x.length < 17592186044416) :
    Ev (fun k => Zbe.f k d kd vars coefs op rhs rows b) (rows.filter (rowIn d vars)) := by
  have := rows_ev' d kd vars coefs op rhs rows b hm hv hr hin rows.length 0 [] (by omega) (by simp)
  rw [List.nil_append, List.drop_zero] at this
  exact this
end Go.Proofs.Ytpbcigilipdedaa.P
