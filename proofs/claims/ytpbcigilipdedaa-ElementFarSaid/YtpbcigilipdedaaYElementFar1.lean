/- Proved: the statement ElementFar. Conditions: none but those of the statement. -/
import Derived.Test.YtpbcigilipdedaaZ1
import Derived.Test.YtpbcigilipdedaaZ2
import Derived.Test.YtpbcigilipdedaaZ3
import Derived.Test.YtpbcigilipdedaaZ5
import Derived.Test.YtpbcigilipdedaaZ4
import Derived.Test.YtpbcigilipdedaaU1
import Derived.Deep.Slices
import Derived.ChangeArms
import Derived.DataReads
import Derived.SizedLaws
import Derived.Test.YtpbcigilipdedaaRows
import Derived.WalkKit
import Derived.ProofKit
import Derived.OpenShut
import Derived.ShutString
import Derived.ChangeOld
import Derived.Below

namespace Go.Proofs.Ytpbcigilipdedaa.P
open Go.RowKit Go.Proofs.YtpbcigilipdedaaW.PrintWords Go.Proofs.YtpbcigilipdedaaW.PrintLast Go.Proofs.YtpbcigilipdedaaW.PrintMore
attribute [local go_sem] Zc7 Zc9 Zdl Zdm Zcv Zcw Zc8 Zd
set_option linter.unusedVariables false
set_option linter.unusedSimpArgs false
/-! ### Zaf: function 13 -/
mutual
def Zaf.j0 : Nat → List (List (S41)) → List (List (S41)) → Bool → Bool → Int → List Int → List Int → Int → Int → List (List Int) → Int → Option (Bool)
 | 0, _, _, _, _, _, _, _, _, _, _, _ => none
 | k + 1, x3, x6, x7, x34, x1075000, x1075001, x1075002, x1075003, x1075004, x1075005, x1075006 => if x34 = true then (none) else (if x7 = true then (if 0 < (x1075001.length : Int) then (if 0 ≤ (rd x1075001 0) then (if (rd x1075001 0) < (x6.length : Int) then ((Zao.f k (Zc3 x6 (rd x1075001 0))).bind fun t1082 => (Zaf.l0 k x3 t1082 0 x1075000 x1075001 x1075002 x1075003 x1075004 x1075005 x1075006)) else (none)) else (none)) else (none)) else (if 0 < (x1075001.length : Int) then (if 0 ≤ (rd x1075001 0) then (if (rd x1075001 0) < (x3.length : Int) then ((Zah.f k (x3.set ((rd x1075001 0) : Int).toNat (([(⟨wrap64 ((x1075001.length : Int) - 2), 50⟩ : S41)] : List (S41)))) x1075000 x1075001 x1075002 x1075003 x1075004 x1075005 x1075006).bind fun bt1102 => (if bt1102.2 = true then (none) else (if (bt1102.1.length : Int) = 0 then ((Za1.f k).bind fun t1106 => (some t1106)) else (none)))) else (none)) else (none)) else (none)))
def Zaf.l0 : Nat → List (List (S41)) → List Int → Int → Int → List Int → List Int → Int → Int → List (List Int) → Int → Option (Bool)
 | 0, _, _, _, _, _, _, _, _, _, _ => none
 | k + 1, x3, x8, x9, x1075000, x1075001, x1075002, x1075003, x1075004, x1075005, x1075006 => if x9 < (x8.length : Int) then (if 0 ≤ x9 then (if (rd x8 x9) < 0 then (none) else (if (rd x8 x9) ≥ (wrap64 ((x1075001.length : Int) - 2)) then (none) else (Zaf.l0 k x3 x8 (wrap64 (x9 + 1)) x1075000 x1075001 x1075002 x1075003 x1075004 x1075005 x1075006))) else (none)) else (if 0 < (x1075001.length : Int) then (if 0 ≤ (rd x1075001 0) then (if (rd x1075001 0) < (x3.length : Int) then ((Zah.f k (x3.set ((rd x1075001 0) : Int).toNat (([(⟨wrap64 ((x1075001.length : Int) - 2), 50⟩ : S41)] : List (S41)))) x1075000 x1075001 x1075002 x1075003 x1075004 x1075005 x1075006).bind fun bt1092 => (if bt1092.2 = true then (none) else (if (bt1092.1.length : Int) = 0 then ((Za1.f k).bind fun t1096 => (some t1096)) else (none)))) else (none)) else (none)) else (none))
end
def Zaf.f (k : Nat) (l0_0 : List (List Int)) (a0_1 : Int) (l0_2 : List Int) (l0_3 : List Int) (a0_4 : Int) (a0_5 : Int) (l0_6 : List (List Int)) (a0_7 : Int) (l0_8 : List Int) (l0_9 : List Int) : Option (Bool) := (Zaq.f k l0_0 a0_1 l0_2 l0_3 a0_4 a0_5 l0_6 a0_7 l0_8 l0_9 3).bind fun bt1057 => (if bt1057.2.2.2.2.2.2.2.2 = true then ((Zah.f k bt1057.1 bt1057.2.1 bt1057.2.2.1 bt1057.2.2.2.1 bt1057.2.2.2.2.1 bt1057.2.2.2.2.2.1 bt1057.2.2.2.2.2.2.1 bt1057.2.2.2.2.2.2.2.1).bind fun bt1076 => (if bt1076.2 = true then (Zaf.j0 k bt1057.1 bt1076.1 bt1076.2 ((bt1076.1.length : Int) != (bt1057.1.length : Int)) bt1057.2.1 bt1057.2.2.1 bt1057.2.2.2.1 bt1057.2.2.2.2.1 bt1057.2.2.2.2.2.1 bt1057.2.2.2.2.2.2.1 bt1057.2.2.2.2.2.2.2.1) else (Zaf.j0 k bt1057.1 bt1076.1 bt1076.2 false bt1057.2.1 bt1057.2.2.1 bt1057.2.2.2.1 bt1057.2.2.2.2.1 bt1057.2.2.2.2.2.1 bt1057.2.2.2.2.2.2.1 bt1057.2.2.2.2.2.2.2.1))) else ((Za1.f k).bind fun t1075 => (some t1075)))
theorem Zaf.Zb6 : ∀ k, (∀ y0 y1 y2 y3 y4 y5 y6 y7 y8 y9 y10, LeO (Zaf.j0 k y0 y1 y2 y3 y4 y5 y6 y7 y8 y9 y10) (Zaf.j0 (k + 1) y0 y1 y2 y3 y4 y5 y6 y7 y8 y9 y10)) ∧ (∀ y0 y1 y2 y3 y4 y5 y6 y7 y8 y9, LeO (Zaf.l0 k y0 y1 y2 y3 y4 y5 y6 y7 y8 y9) (Zaf.l0 (k + 1) y0 y1 y2 y3 y4 y5 y6 y7 y8 y9))
 | 0 => ⟨fun _ _ _ _ _ _ _ _ _ _ _ r h => by simp [Zaf.j0] at h, fun _ _ _ _ _ _ _ _ _ _ r h => by simp [Zaf.l0] at h⟩
 | k + 1 => by
  obtain ⟨ih0, ih1⟩ := Zaf.Zb6 k
  refine ⟨?_, ?_⟩
  ·intro y0 y1 y2 y3 y4 y5 y6 y7 y8 y9 y10
   unfold Zaf.j0
   repeat' first
   | (with_reducible exact ih0 _ _ _ _ _ _ _ _ _ _ _)
   | (with_reducible exact ih1 _ _ _ _ _ _ _ _ _ _)
   | (with_reducible exact Zah.mono _ _ _ _ _ _ _ _ _)
   | (with_reducible exact Zaq.mono _ _ _ _ _ _ _ _ _ _ _ _)
   | (with_reducible exact Za1.mono _)
   | (with_reducible exact Zao.mono _ _)
   | (with_reducible exact LeO.refl _)
   | (with_reducible exact LeO.none _)
   | (with_reducible refine LeO.ite ?_ ?_)
   | (with_reducible refine LeO.bind ?_ (fun _ => ?_))
   | exact ih0 _ _ _ _ _ _ _ _ _ _ _
   | exact ih1 _ _ _ _ _ _ _ _ _ _
   | exact Zah.mono _ _ _ _ _ _ _ _ _
   | exact Zaq.mono _ _ _ _ _ _ _ _ _ _ _ _
   | exact Za1.mono _
   | exact Zao.mono _ _
   | exact LeO.none _
   | refine LeO.ite ?_ ?_
   | refine LeO.bind ?_ (fun _ => ?_)
  intro y0 y1 y2 y3 y4 y5 y6 y7 y8 y9
  unfold Zaf.l0
  repeat' first
  | (with_reducible exact ih0 _ _ _ _ _ _ _ _ _ _ _)
  | (with_reducible exact ih1 _ _ _ _ _ _ _ _ _ _)
  | (with_reducible exact Zah.mono _ _ _ _ _ _ _ _ _)
  | (with_reducible exact Zaq.mono _ _ _ _ _ _ _ _ _ _ _ _)
  | (with_reducible exact Za1.mono _)
  | (with_reducible exact Zao.mono _ _)
  | (with_reducible exact LeO.refl _)
  | (with_reducible exact LeO.none _)
  | (with_reducible refine LeO.ite ?_ ?_)
  | (with_reducible refine LeO.bind ?_ (fun _ => ?_))
  | exact ih0 _ _ _ _ _ _ _ _ _ _ _
  | exact ih1 _ _ _ _ _ _ _ _ _ _
  | exact Zah.mono _ _ _ _ _ _ _ _ _
  | exact Zaq.mono _ _ _ _ _ _ _ _ _ _ _ _
  | exact Za1.mono _
  | exact Zao.mono _ _
  | exact LeO.none _
  | refine LeO.ite ?_ ?_
  | refine LeO.bind ?_ (fun _ => ?_)
theorem Zaf.mono : ∀ a0 a1 a2 a3 a4 a5 a6 a7 a8 a9 k, LeO (Zaf.f k a0 a1 a2 a3 a4 a5 a6 a7 a8 a9) (Zaf.f (k + 1) a0 a1 a2 a3 a4 a5 a6 a7 a8 a9) := by
 intro a0 a1 a2 a3 a4 a5 a6 a7 a8 a9 k
 obtain ⟨ih0, ih1⟩ := Zaf.Zb6 k
 unfold Zaf.f
 repeat' first
   | (with_reducible exact ih0 _ _ _ _ _ _ _ _ _ _ _)
   | (with_reducible exact ih1 _ _ _ _ _ _ _ _ _ _)
   | (with_reducible exact Zah.mono _ _ _ _ _ _ _ _ _)
   | (with_reducible exact Zaq.mono _ _ _ _ _ _ _ _ _ _ _ _)
   | (with_reducible exact Za1.mono _)
   | (with_reducible exact Zao.mono _ _)
   | (with_reducible exact LeO.refl _)
   | (with_reducible exact LeO.none _)
   | (with_reducible refine LeO.ite ?_ ?_)
   | (with_reducible refine LeO.bind ?_ (fun _ => ?_))
   | exact ih0 _ _ _ _ _ _ _ _ _ _ _
   | exact ih1 _ _ _ _ _ _ _ _ _ _
   | exact Zah.mono _ _ _ _ _ _ _ _ _
   | exact Zaq.mono _ _ _ _ _ _ _ _ _ _ _ _
   | exact Za1.mono _
   | exact Zao.mono _ _
   | exact LeO.none _
   | refine LeO.ite ?_ ?_
   | refine LeO.bind ?_ (fun _ => ?_)
def Zaf.T12 : Bool × List (List Nat × List Nat) := (true, [([], []), ([], []), ([0, 1], [0, 1]), ([2], [2]), ([3], [3]), ([4], [4]), ([5], [5]), ([5], [5]), ([6, 7, 5], [5, 6, 7]), ([8, 5], [5, 8]), ([5], [5]), ([10, 5], [5, 10]), ([11, 5], [5, 11]), ([12, 5], [5, 12]), ([9, 13, 5], [5, 9, 13]), ([5, 14], [5, 14])])
def Zaf.B12 : List Nat := [0, 0, 3, 7, 15, 31, 63, 63, 255, 511, 63, 1087, 3135, 7231, 16383, 32767]
theorem Zaf.tab12 : rtab .any (opsOf Try.f13 12) = Zaf.T12 := by kernel_rfl
theorem Zaf.bits12 : waitsOk Zaf.T12.2 Zaf.B12 = true := by kernel_rfl
def Zaf.T14 : Bool × List (List Nat × List Nat) := (true, [([], []), ([], []), ([1], [1]), ([2], [2]), ([3], [3]), ([], []), ([5], [5]), ([6], [6]), ([7], [7]), ([8], [8]), ([9], [9]), ([0, 4, 0, 1, 2, 3, 4, 5, 6, 7, 8, 9, 10], [0, 4]), ([11, 10, 0, 1, 2, 3, 4, 5, 6, 7, 8, 9, 10], [10, 11])])
def Zaf.B14 : List Nat := [0, 0, 2, 6, 14, 0, 32, 96, 224, 480, 992, 2047, 4095]
theorem Zaf.tab14 : rtab .any (opsOf Try.f13 14) = Zaf.T14 := by kernel_rfl
theorem Zaf.bits14 : waitsOk Zaf.T14.2 Zaf.B14 = true := by kernel_rfl
set_option maxHeartbeats 8000000 in
set_option maxRecDepth 100000 in
theorem Zaf.calls (k : Nat) (A0_0 : Option Addr) (c0_0 : Nat) (l0_0 : List (List Int)) (a0_1 : Int) (A0_2 : Option Addr) (c0_2 : Nat) (l0_2 : List Int) (A0_3 : Option Addr) (c0_3 : Nat) (l0_3 : List Int) (a0_4 : Int) (a0_5 : Int) (A0_6 : Option Addr) (c0_6 : Nat) (l0_6 : List (List Int)) (a0_7 : Int) (A0_8 : Option Addr) (c0_8 : Nat) (l0_8 : List Int) (A0_9 : Option Addr) (c0_9 : Nat) (l0_9 : List Int) (r : Bool) (w : World) (hr0_0 : Kd.C (Kd.slice 3 (Kd.int .i64)) w A0_0 l0_0.length l0_0) (hc0_0 : l0_0.length ≤ c0_0) (hr0_2 : Kd.C (Kd.int .i64) w A0_2 l0_2.length l0_2) (hc0_2 : l0_2.length ≤ c0_2) (hr0_3 : Kd.C (Kd.int .i64) w A0_3 l0_3.length l0_3) (hc0_3 : l0_3.length ≤ c0_3) (hr0_6 : Kd.C (Kd.slice 3 (Kd.int .i64)) w A0_6 l0_6.length l0_6) (hc0_6 : l0_6.length ≤ c0_6) (hr0_8 : Kd.C (Kd.int .i64) w A0_8 l0_8.length l0_8) (hc0_8 : l0_8.length ≤ c0_8) (hr0_9 : Kd.C (Kd.int .i64) w A0_9 l0_9.length l0_9) (hc0_9 : l0_9.length ≤ c0_9) (h : Zaf.f k l0_0 a0_1 l0_2 l0_3 a0_4 a0_5 l0_6 a0_7 l0_8 l0_9 = some r) :
  Calls Try.prog 13 #[.agg #[.slice A0_0 l0_0.length c0_0, .int .i64 a0_1, .slice A0_2 l0_2.length c0_2, .slice A0_3 l0_3.length c0_3, .int .i64 a0_4, .int .i64 a0_5, .slice A0_6 l0_6.length c0_6, .int .i64 a0_7, .slice A0_8 l0_8.length c0_8, .slice A0_9 l0_9.length c0_9]] w fun e w' => e = .returned (.bool r) ∧ Below w.heap.size w w' := by
 have hu27 := Try.underlying27
 have hu25 := Try.underlying25
 have hu41 := Try.underlying41
 have HR0_0 := Zaa.mk hr0_0
 have HC0_0 := Zaa.mk hc0_0
 clear hr0_0 hc0_0
 have HR0_2 := Zaa.mk hr0_2
 have HC0_2 := Zaa.mk hc0_2
 clear hr0_2 hc0_2
 have HR0_3 := Zaa.mk hr0_3
 have HC0_3 := Zaa.mk hc0_3
 clear hr0_3 hc0_3
 have HR0_6 := Zaa.mk hr0_6
 have HC0_6 := Zaa.mk hc0_6
 clear hr0_6 hc0_6
 have HR0_8 := Zaa.mk hr0_8
 have HC0_8 := Zaa.mk hc0_8
 clear hr0_8 hc0_8
 have HR0_9 := Zaa.mk hr0_9
 have HC0_9 := Zaa.mk hc0_9
 clear hr0_9 hc0_9
 have HB := Zaa.mk (Below.refl w.heap.size w)
 have H : ((Zaq.f k l0_0 a0_1 l0_2 l0_3 a0_4 a0_5 l0_6 a0_7 l0_8 l0_9 3).bind fun bt1057 => (if bt1057.2.2.2.2.2.2.2.2 = true then ((Zah.f k bt1057.1 bt1057.2.1 bt1057.2.2.1 bt1057.2.2.2.1 bt1057.2.2.2.2.1 bt1057.2.2.2.2.2.1 bt1057.2.2.2.2.2.2.1 bt1057.2.2.2.2.2.2.2.1).bind fun bt1076 => (if bt1076.2 = true then (Zaf.j0 k bt1057.1 bt1076.1 bt1076.2 ((bt1076.1.length : Int) != (bt1057.1.length : Int)) bt1057.2.1 bt1057.2.2.1 bt1057.2.2.2.1 bt1057.2.2.2.2.1 bt1057.2.2.2.2.2.1 bt1057.2.2.2.2.2.2.1 bt1057.2.2.2.2.2.2.2.1) else (Zaf.j0 k bt1057.1 bt1076.1 bt1076.2 false bt1057.2.1 bt1057.2.2.1 bt1057.2.2.2.1 bt1057.2.2.2.2.1 bt1057.2.2.2.2.2.1 bt1057.2.2.2.2.2.2.1 bt1057.2.2.2.2.2.2.2.1))) else ((Za1.f k).bind fun t1075 => (some t1075)))) = some r := h
 clear h
 replace H := Option.bind_eq_some_iff.mp H
 obtain ⟨⟨t1057, t1060, t1061, t1064, t1067, t1068, t1069, t1072, t1073⟩, A20, H⟩ := H
 replace H : (if t1073 = true then ((Zah.f k t1057 t1060 t1061 t1064 t1067 t1068 t1069 t1072).bind fun bt1076 => (if bt1076.2 = true then (Zaf.j0 k t1057 bt1076.1 bt1076.2 ((bt1076.1.length : Int) != (t1057.length : Int)) t1060 t1061 t1064 t1067 t1068 t1069 t1072) else (Zaf.j0 k t1057 bt1076.1 bt1076.2 false t1060 t1061 t1064 t1067 t1068 t1069 t1072))) else ((Za1.f k).bind fun t1075 => (some t1075))) = some r := H
 have A2 := Zaa.mk A20
 clear A20
 by_cases c3 : t1073 = true
 rotate_left
 ·replace c3 := Bool.eq_false_iff.mpr c3
  subst c3
  have H1 : ((Za1.f k).bind fun t1075 => (some t1075)) = some r := by rw [if_neg (show ¬ (false = true) by decide)] at H; exact H
  clear H
  have H := H1
  clear H1
  replace H := Option.bind_eq_some_iff.mp H
  obtain ⟨t1075, A700, H⟩ := H
  replace H : (some t1075) = some r := H
  have A70 := Zaa.mk A700
  clear A700
  obtain rfl := Option.some.inj H
  go_enter Try.func13, Try.ntmps13
  go_wp2_with (first | ((with_reducible refine Zbx (N := 1) rfl ?_); (try (refine Zcy (by rfl) ?_; dsimp only)); refine Zci ?hg (N := 1) ?hd (cs := #[.slice A0_0 l0_0.length c0_0, .int .i64 a0_1, .slice A0_2 l0_2.length c0_2, .slice A0_3 l0_3.length c0_3, .int .i64 a0_4, .int .i64 a0_5, .slice A0_6 l0_6.length c0_6, .int .i64 a0_7, .slice A0_8 l0_8.length c0_8, .slice A0_9 l0_9.length c0_9]) (t := 27) ?hr ?_; (case hd => rfl); (case hg => rfl); (case hr => first | (go_simp; done) | (go_simp; rfl)); intro gb1056 hg w71 hbox hb; have n0_ := Zaa.mk (Zay (by repeat (first | (with_reducible first | exact HB.out | apply Zab | apply Za | apply Zac) | exact HB.out)) hb); have n1_ := Zaa.mk (hbox); have n2_ := Zaa.mk ((by rw [hg]; exact (Zal (by repeat (first | (with_reducible first | exact HB.out | apply Zab | apply Za | apply Zac) | exact HB.out))) : w.heap.size ≤ gb1056)); have n3_ := Zaa.mk ((by rw [hg]; exact (Zal (by repeat (first | (with_reducible first | exact HB.out | apply Zab | apply Za | apply Zac) | exact HB.out))) : w.heap.size ≤ gb1056)); clear HB; have HB := n0_; have BK1056 := n1_; have GW1056 := n2_; have GE1056 := n3_; clear n0_ n1_ n2_ n3_; clear hb hbox hg; obtain ⟨hcz72_0, hcz72_1, hcz72_2, hcz72_3, hcz72_4, hcz72_5, hcz72_6, hcz72_7, hcz72_8, hcz72_9, hfz72_0, hfz72_1, hfz72_2, hfz72_3, hfz72_4, hfz72_5, hfz72_6, hfz72_7, hfz72_8, hfz72_9⟩ := blks10 BK1056.out) | ((with_reducible refine Zbq (f := 14) rfl ?_); refine Zcp (some 14) rfl rfl Try.func14 (by kernel_rfl) rfl #[.agg #[.slice A0_0 l0_0.length c0_0, .int .i64 a0_1, .slice A0_2 l0_2.length c0_2, .slice A0_3 l0_3.length c0_3, .int .i64 a0_4, .int .i64 a0_5, .slice A0_6 l0_6.length c0_6, .int .i64 a0_7, .slice A0_8 l0_8.length c0_8, .slice A0_9 l0_9.length c0_9], .int .i64 3] rfl (by (try simp only [List.map_toArray, List.map_cons, List.map_nil]); first | done | rfl | (simp only [List.length_drop, List.length_take]; rfl)) ?_; (with_reducible refine (Zaq.calls k _ _ l0_0 a0_1 _ _ l0_2 _ _ l0_3 a0_4 a0_5 _ _ l0_6 a0_7 _ _ l0_8 _ _ l0_9 3 t1057 t1060 t1061 t1064 t1067 t1068 t1069 t1072 false _ ?side1 ?side2 ?side3 ?side4 ?side5 ?side6 ?side7 ?side8 ?side9 ?side10 ?side11 ?side12 A2.out).mono ?_); (case side1 => repeat (first | exact (Kd.Zbu HR0_0.out HB.out) | (with_reducible refine Kd.C_alloc ?_ _) | (with_reducible refine Kd.C_drewN ?_ _) | (with_reducible refine Kd.Zbp ?_))); (case side2 => exact HC0_0.out); (case side3 => repeat (first | exact (Kd.Zbu HR0_2.out HB.out) | (with_reducible refine Kd.C_alloc ?_ _) | (with_reducible refine Kd.C_drewN ?_ _) | (with_reducible refine Kd.Zbp ?_))); (case side4 => exact HC0_2.out); (case side5 => repeat (first | exact (Kd.Zbu HR0_3.out HB.out) | (with_reducible refine Kd.C_alloc ?_ _) | (with_reducible refine Kd.C_drewN ?_ _) | (with_reducible refine Kd.Zbp ?_))); (case side6 => exact HC0_3.out); (case side7 => repeat (first | exact (Kd.Zbu HR0_6.out HB.out) | (with_reducible refine Kd.C_alloc ?_ _) | (with_reducible refine Kd.C_drewN ?_ _) | (with_reducible refine Kd.Zbp ?_))); (case side8 => exact HC0_6.out); (case side9 => repeat (first | exact (Kd.Zbu HR0_8.out HB.out) | (with_reducible refine Kd.C_alloc ?_ _) | (with_reducible refine Kd.C_drewN ?_ _) | (with_reducible refine Kd.Zbp ?_))); (case side10 => exact HC0_8.out); (case side11 => repeat (first | exact (Kd.Zbu HR0_9.out HB.out) | (with_reducible refine Kd.C_alloc ?_ _) | (with_reducible refine Kd.C_drewN ?_ _) | (with_reducible refine Kd.Zbp ?_))); (case side12 => exact HC0_9.out); rintro e w73 ⟨v1058, v1062, v1065, v1070, rfl, ho0, ho1, ho2, ho3, hb⟩; refine ⟨_, rfl, ?_⟩; have n0_ := Zaa.mk (Kd.Zdy (Kd.Zb7 (ok' := fun k_ => some k_ ≠ (v1062 : Value).ownBlock ∧ some k_ ≠ (v1065 : Value).ownBlock ∧ some k_ ≠ (v1070 : Value).ownBlock ∧ k_ ≠ gb1056) (Kd.S_N (Kd.Zd7 (Kd.Zd1 (Kd.Zd1 (Kd.Zd1 ho0 (Kd.Zco ho1) (by decide)) (Kd.Zco ho2) (by decide)) (Kd.Zdq ho3) (by decide)))) (fun k_ hk_ => ⟨hk_.1.1.1.2, hk_.1.1.2, hk_.1.2, (Kd.freshB (g := gb1056) (o := .cells #[.slice A0_0 l0_0.length c0_0, .int .i64 a0_1, .slice A0_2 l0_2.length c0_2, .slice A0_3 l0_3.length c0_3, .int .i64 a0_4, .int .i64 a0_5, .slice A0_6 l0_6.length c0_6, .int .i64 a0_7, .slice A0_8 l0_8.length c0_8, .slice A0_9 l0_9.length c0_9] 27 (0, 0)) (mvK BK1056.out) k_ hk_.2.1)⟩)) (Zal (by repeat (first | (with_reducible first | exact HB.out | apply Zab | apply Za | apply Zac | refine Zai ?_ GE1056.out) | exact HB.out)))); have n1_ := Zaa.mk (Kd.Zb1 ho1 (Zal (by repeat (first | (with_reducible first | exact HB.out | apply Zab | apply Za | apply Zac | refine Zai ?_ GE1056.out) | exact HB.out)))); have n2_ := Zaa.mk (Kd.Zb1 ho2 (Zal (by repeat (first | (with_reducible first | exact HB.out | apply Zab | apply Za | apply Zac | refine Zai ?_ GE1056.out) | exact HB.out)))); have n3_ := Zaa.mk (Kd.Zdy (Kd.Zb7 (ok' := fun k_ => some k_ ≠ (v1058 : Value).ownBlock ∧ some k_ ≠ (v1062 : Value).ownBlock ∧ some k_ ≠ (v1065 : Value).ownBlock ∧ k_ ≠ gb1056) (Kd.S_N (Kd.Zd7 (Kd.Zd1 ho3 (Kd.Zdq ho0) (by decide)))) (fun k_ hk_ => ⟨hk_.1.2, hk_.1.1.1, hk_.1.1.2, (Kd.freshB (g := gb1056) (o := .cells #[.slice A0_0 l0_0.length c0_0, .int .i64 a0_1, .slice A0_2 l0_2.length c0_2, .slice A0_3 l0_3.length c0_3, .int .i64 a0_4, .int .i64 a0_5, .slice A0_6 l0_6.length c0_6, .int .i64 a0_7, .slice A0_8 l0_8.length c0_8, .slice A0_9 l0_9.length c0_9] 27 (0, 0)) (mvK BK1056.out) k_ hk_.2.1)⟩)) (Zal (by repeat (first | (with_reducible first | exact HB.out | apply Zab | apply Za | apply Zac | refine Zai ?_ GE1056.out) | exact HB.out)))); have n4_ := Zaa.mk (Zba (g := gb1056) (o := .cells #[.slice A0_0 l0_0.length c0_0, .int .i64 a0_1, .slice A0_2 l0_2.length c0_2, .slice A0_3 l0_3.length c0_3, .int .i64 a0_4, .int .i64 a0_5, .slice A0_6 l0_6.length c0_6, .int .i64 a0_7, .slice A0_8 l0_8.length c0_8, .slice A0_9 l0_9.length c0_9] 27 (0, 0)) (mvK BK1056.out) hb); have n5_ := Zaa.mk (Zay (by repeat (first | (with_reducible first | exact HB.out | apply Zab | apply Za | apply Zac | refine Zai ?_ GE1056.out) | exact HB.out)) hb); clear BK1056; clear HB; have HO1059 := n0_; have HO1063 := n1_; have HO1066 := n2_; have HO1071 := n3_; have BK1056 := n4_; have HB := n5_; clear n0_ n1_ n2_ n3_ n4_ n5_; (try clear hb); (try clear hb2); (try clear hk); (try clear hi); (try clear ho0); (try clear ho1); (try clear ho2); (try clear ho3)) | ((with_reducible refine Zbx (N := 4) rfl ?_); (try (refine Zcy (by rfl) ?_; dsimp only)); refine Zci ?hg (N := 4) ?hd (cs := #[.int .i64 0, .slice none 0 0, .slice none 0 0, .int .i64 0, .int .i64 0, .slice none 0 0, .int .i64 0]) (t := 25) ?hr ?_; (case hd => rfl); (case hg => rfl); (case hr => first | (go_simp; done) | (go_simp; rfl)); intro gb1074 hg w74 hbox hb; have n0_ := Zaa.mk (Kd.Zc5 (Kd.Ze3 (mvN HO1059.out) gb1074 (Nat.le_of_eq hg.symm)) hb); have n1_ := Zaa.mk (Kd.Zbv (mvR HO1063.out) hb); have n2_ := Zaa.mk (Kd.Zbv (mvR HO1066.out) hb); have n3_ := Zaa.mk (Kd.Zc5 (Kd.Ze3 (mvN HO1071.out) gb1074 (Nat.le_of_eq hg.symm)) hb); have n4_ := Zaa.mk (Zba (g := gb1056) (o := .cells #[.slice A0_0 l0_0.length c0_0, .int .i64 a0_1, .slice A0_2 l0_2.length c0_2, .slice A0_3 l0_3.length c0_3, .int .i64 a0_4, .int .i64 a0_5, .slice A0_6 l0_6.length c0_6, .int .i64 a0_7, .slice A0_8 l0_8.length c0_8, .slice A0_9 l0_9.length c0_9] 27 (0, 0)) (mvK BK1056.out) hb); have n5_ := Zaa.mk (Zay (by repeat (first | (with_reducible first | exact HB.out | apply Zab | apply Za | apply Zac | refine Zai ?_ GE1056.out) | exact HB.out)) hb); have n6_ := Zaa.mk (hbox); have n7_ := Zaa.mk ((by rw [hg]; exact (Zal (by repeat (first | (with_reducible first | exact HB.out | apply Zab | apply Za | apply Zac | refine Zai ?_ GE1056.out) | exact HB.out))) : w.heap.size ≤ gb1074)); have n8_ := Zaa.mk ((by rw [hg]; exact (Zal (by repeat (first | (with_reducible first | exact HB.out | apply Zab | apply Za | apply Zac | refine Zai ?_ GE1056.out) | exact HB.out))) : w.heap.size ≤ gb1074)); have n9_ := Zaa.mk ((by rw [hg]; exact Nat.ne_of_lt (Zdj (g := gb1056) (o := .cells #[.slice A0_0 l0_0.length c0_0, .int .i64 a0_1, .slice A0_2 l0_2.length c0_2, .slice A0_3 l0_3.length c0_3, .int .i64 a0_4, .int .i64 a0_5, .slice A0_6 l0_6.length c0_6, .int .i64 a0_7, .slice A0_8 l0_8.length c0_8, .slice A0_9 l0_9.length c0_9] 27 (0, 0)) (mvK BK1056.out)) : gb1056 ≠ gb1074)); have n10_ := Zaa.mk ((by rw [hg]; exact Nat.ne_of_gt (Zdj (g := gb1056) (o := .cells #[.slice A0_0 l0_0.length c0_0, .int .i64 a0_1, .slice A0_2 l0_2.length c0_2, .slice A0_3 l0_3.length c0_3, .int .i64 a0_4, .int .i64 a0_5, .slice A0_6 l0_6.length c0_6, .int .i64 a0_7, .slice A0_8 l0_8.length c0_8, .slice A0_9 l0_9.length c0_9] 27 (0, 0)) (mvK BK1056.out)) : gb1074 ≠ gb1056)); clear HO1059; clear HO1063; clear HO1066; clear HO1071; clear BK1056; clear HB; have HO1059 := n0_; have HO1063 := n1_; have HO1066 := n2_; have HO1071 := n3_; have BK1056 := n4_; have HB := n5_; have BK1074 := n6_; have GW1074 := n7_; have GE1074 := n8_; have NB1056_1074 := n9_; have NB1074_1056 := n10_; clear n0_ n1_ n2_ n3_ n4_ n5_ n6_ n7_ n8_ n9_ n10_; clear hb hbox hg; have hnb75 := NB1074_1056.out; have hnc75 := NB1056_1074.out; obtain ⟨hcz76_0, hcz76_1, hcz76_2, hcz76_3, hcz76_4, hcz76_5, hcz76_6, hfz76_0, hfz76_1, hfz76_2, hfz76_3, hfz76_4, hfz76_5, hfz76_6⟩ := Zct BK1074.out; obtain ⟨Ao77, co77, eo77⟩ := Kd.Zbo HO1063.out; subst eo77; obtain ⟨Ao78, co78, eo78⟩ := Kd.Zbo HO1066.out; subst eo78; obtain ⟨Ao79, co79, eo79⟩ := Kd.Zd6 HO1071.out; subst eo79) | ((with_reducible refine Zbq (f := 34) rfl ?_); refine Zcp (some 20) rfl rfl Try.func34 (by kernel_rfl) rfl #[] rfl (by (try simp only [List.map_toArray, List.map_cons, List.map_nil]); first | done | rfl | (simp only [List.length_drop, List.length_take]; rfl)) ?_; (with_reducible refine (Za1.calls k  t1075 _ A70.out).mono ?_); rintro e w80 ⟨rfl, hb⟩; refine ⟨_, rfl, ?_⟩; have n0_ := Zaa.mk (Kd.Zc5 (by (with_reducible repeat (first | apply Kd.Zby | apply Kd.Zbz | apply Kd.Zb3)); exact (Kd.Zb7 (Kd.Zc (p := ⟨gb1074, 6, none⟩) (Kd.Zc (p := ⟨gb1074, 5, none⟩) (Kd.Zc (p := ⟨gb1074, 4, none⟩) (Kd.Zc (p := ⟨gb1074, 3, none⟩) (Kd.Zc (p := ⟨gb1074, 2, none⟩) (Kd.Zc (p := ⟨gb1074, 1, none⟩) (Kd.Zc (p := ⟨gb1074, 0, none⟩) (Kd.Zb7 HO1059.out (fun k_ hk => (⟨hk, hk.2⟩ : _ ∧ k_ ≠ gb1074))) (fun _ hk => hk.2) (.int .i64 t1060)) (fun _ hk => hk.2) (.slice Ao77 t1061.length co77)) (fun _ hk => hk.2) (.slice Ao78 t1064.length co78)) (fun _ hk => hk.2) (.int .i64 t1067)) (fun _ hk => hk.2) (.int .i64 t1068)) (fun _ hk => hk.2) (.slice Ao79 t1069.length co79)) (fun _ hk => hk.2) (.int .i64 t1072)) (fun _ h_ => h_.1))) hb); have n1_ := Zaa.mk (Kd.Zbv (by (with_reducible repeat (first | apply Kd.Zan | apply Kd.Zam | apply Kd.Zar)); exact (Kd.Zbe (Kd.Zbg (p := ⟨gb1074, 6, none⟩) (Kd.Zbg (p := ⟨gb1074, 5, none⟩) (Kd.Zbg (p := ⟨gb1074, 4, none⟩) (Kd.Zbg (p := ⟨gb1074, 3, none⟩) (Kd.Zbg (p := ⟨gb1074, 2, none⟩) (Kd.Zbg (p := ⟨gb1074, 1, none⟩) (Kd.Zbg (p := ⟨gb1074, 0, none⟩) (Kd.Zbs HO1063.out BK1074.out (by decide)) (fun _ hk => hk.2) (.int .i64 t1060)) (fun _ hk => hk.2) (.slice Ao77 t1061.length co77)) (fun _ hk => hk.2) (.slice Ao78 t1064.length co78)) (fun _ hk => hk.2) (.int .i64 t1067)) (fun _ hk => hk.2) (.int .i64 t1068)) (fun _ hk => hk.2) (.slice Ao79 t1069.length co79)) (fun _ hk => hk.2) (.int .i64 t1072)) (fun _ h_ => h_.1))) hb); have n2_ := Zaa.mk (Kd.Zbv (by (with_reducible repeat (first | apply Kd.Zan | apply Kd.Zam | apply Kd.Zar)); exact (Kd.Zbe (Kd.Zbg (p := ⟨gb1074, 6, none⟩) (Kd.Zbg (p := ⟨gb1074, 5, none⟩) (Kd.Zbg (p := ⟨gb1074, 4, none⟩) (Kd.Zbg (p := ⟨gb1074, 3, none⟩) (Kd.Zbg (p := ⟨gb1074, 2, none⟩) (Kd.Zbg (p := ⟨gb1074, 1, none⟩) (Kd.Zbg (p := ⟨gb1074, 0, none⟩) (Kd.Zbs HO1066.out BK1074.out (by decide)) (fun _ hk => hk.2) (.int .i64 t1060)) (fun _ hk => hk.2) (.slice Ao77 t1061.length co77)) (fun _ hk => hk.2) (.slice Ao78 t1064.length co78)) (fun _ hk => hk.2) (.int .i64 t1067)) (fun _ hk => hk.2) (.int .i64 t1068)) (fun _ hk => hk.2) (.slice Ao79 t1069.length co79)) (fun _ hk => hk.2) (.int .i64 t1072)) (fun _ h_ => h_.1))) hb); have n3_ := Zaa.mk (Kd.Zc5 (by (with_reducible repeat (first | apply Kd.Zby | apply Kd.Zbz | apply Kd.Zb3)); exact (Kd.Zb7 (Kd.Zc (p := ⟨gb1074, 6, none⟩) (Kd.Zc (p := ⟨gb1074, 5, none⟩) (Kd.Zc (p := ⟨gb1074, 4, none⟩) (Kd.Zc (p := ⟨gb1074, 3, none⟩) (Kd.Zc (p := ⟨gb1074, 2, none⟩) (Kd.Zc (p := ⟨gb1074, 1, none⟩) (Kd.Zc (p := ⟨gb1074, 0, none⟩) (Kd.Zb7 HO1071.out (fun k_ hk => (⟨hk, hk.2⟩ : _ ∧ k_ ≠ gb1074))) (fun _ hk => hk.2) (.int .i64 t1060)) (fun _ hk => hk.2) (.slice Ao77 t1061.length co77)) (fun _ hk => hk.2) (.slice Ao78 t1064.length co78)) (fun _ hk => hk.2) (.int .i64 t1067)) (fun _ hk => hk.2) (.int .i64 t1068)) (fun _ hk => hk.2) (.slice Ao79 t1069.length co79)) (fun _ hk => hk.2) (.int .i64 t1072)) (fun _ h_ => h_.1))) hb); have n4_ := Zaa.mk (Zba (g := gb1056) (o := .cells #[.slice A0_0 l0_0.length c0_0, .int .i64 a0_1, .slice A0_2 l0_2.length c0_2, .slice A0_3 l0_3.length c0_3, .int .i64 a0_4, .int .i64 a0_5, .slice A0_6 l0_6.length c0_6, .int .i64 a0_7, .slice A0_8 l0_8.length c0_8, .slice A0_9 l0_9.length c0_9] 27 (0, 0)) (by (with_reducible repeat (first | refine Zae ?_ _ | refine Zag ?_ | refine Zad ?_ _)); refine Zbt ?_ NB1056_1074.out _; (with_reducible repeat (first | refine Zae ?_ _ | refine Zag ?_ | refine Zad ?_ _)); refine Zbt ?_ NB1056_1074.out _; (with_reducible repeat (first | refine Zae ?_ _ | refine Zag ?_ | refine Zad ?_ _)); refine Zbt ?_ NB1056_1074.out _; (with_reducible repeat (first | refine Zae ?_ _ | refine Zag ?_ | refine Zad ?_ _)); refine Zbt ?_ NB1056_1074.out _; (with_reducible repeat (first | refine Zae ?_ _ | refine Zag ?_ | refine Zad ?_ _)); refine Zbt ?_ NB1056_1074.out _; (with_reducible repeat (first | refine Zae ?_ _ | refine Zag ?_ | refine Zad ?_ _)); refine Zbt ?_ NB1056_1074.out _; (with_reducible repeat (first | refine Zae ?_ _ | refine Zag ?_ | refine Zad ?_ _)); refine Zbt ?_ NB1056_1074.out _; (with_reducible repeat (first | refine Zae ?_ _ | refine Zag ?_ | refine Zad ?_ _)); exact BK1056.out) hb); have n5_ := Zaa.mk (Zba (g := gb1074) (o := .cells #[.int .i64 t1060, .slice Ao77 t1061.length co77, .slice Ao78 t1064.length co78, .int .i64 t1067, .int .i64 t1068, .slice Ao79 t1069.length co79, .int .i64 t1072] 25 (0, 0)) (by (with_reducible repeat (first | refine Zae ?_ _ | refine Zag ?_ | refine Zad ?_ _)); refine Zbm (cs := #[.int .i64 t1060, .slice Ao77 t1061.length co77, .slice Ao78 t1064.length co78, .int .i64 t1067, .int .i64 t1068, .slice Ao79 t1069.length co79, .int .i64 0]) ?_ 6 _ rfl; (with_reducible repeat (first | refine Zae ?_ _ | refine Zag ?_ | refine Zad ?_ _)); refine Zbm (cs := #[.int .i64 t1060, .slice Ao77 t1061.length co77, .slice Ao78 t1064.length co78, .int .i64 t1067, .int .i64 t1068, .slice none 0 0, .int .i64 0]) ?_ 5 _ rfl; (with_reducible repeat (first | refine Zae ?_ _ | refine Zag ?_ | refine Zad ?_ _)); refine Zbm (cs := #[.int .i64 t1060, .slice Ao77 t1061.length co77, .slice Ao78 t1064.length co78, .int .i64 t1067, .int .i64 0, .slice none 0 0, .int .i64 0]) ?_ 4 _ rfl; (with_reducible repeat (first | refine Zae ?_ _ | refine Zag ?_ | refine Zad ?_ _)); refine Zbm (cs := #[.int .i64 t1060, .slice Ao77 t1061.length co77, .slice Ao78 t1064.length co78, .int .i64 0, .int .i64 0, .slice none 0 0, .int .i64 0]) ?_ 3 _ rfl; (with_reducible repeat (first | refine Zae ?_ _ | refine Zag ?_ | refine Zad ?_ _)); refine Zbm (cs := #[.int .i64 t1060, .slice Ao77 t1061.length co77, .slice none 0 0, .int .i64 0, .int .i64 0, .slice none 0 0, .int .i64 0]) ?_ 2 _ rfl; (with_reducible repeat (first | refine Zae ?_ _ | refine Zag ?_ | refine Zad ?_ _)); refine Zbm (cs := #[.int .i64 t1060, .slice none 0 0, .slice none 0 0, .int .i64 0, .int .i64 0, .slice none 0 0, .int .i64 0]) ?_ 1 _ rfl; (with_reducible repeat (first | refine Zae ?_ _ | refine Zag ?_ | refine Zad ?_ _)); refine Zbm (cs := #[.int .i64 0, .slice none 0 0, .slice none 0 0, .int .i64 0, .int .i64 0, .slice none 0 0, .int .i64 0]) ?_ 0 _ rfl; (with_reducible repeat (first | refine Zae ?_ _ | refine Zag ?_ | refine Zad ?_ _)); exact BK1074.out) hb); have n6_ := Zaa.mk (Zay (by repeat (first | (with_reducible first | exact HB.out | apply Zab | apply Za | apply Zac | refine Zai ?_ GE1056.out | refine Zai ?_ GE1074.out) | exact HB.out)) hb); clear HO1059; clear HO1063; clear HO1066; clear HO1071; clear BK1056; clear BK1074; clear HB; have HO1059 := n0_; have HO1063 := n1_; have HO1066 := n2_; have HO1071 := n3_; have BK1056 := n4_; have BK1074 := n5_; have HB := n6_; clear n0_ n1_ n2_ n3_ n4_ n5_ n6_; (try clear hb); (try clear hb2); (try clear hk); (try clear hi)))
  go_ret
  exact ⟨by first | rfl | (simp [Za5, Za6] <;> rfl) | (simp [*, Za5, Za6] <;> rfl), by repeat (first | (with_reducible first | exact HB.out | apply Zab | apply Za | apply Zac | refine Zai ?_ GE1056.out | refine Zai ?_ GE1074.out) | exact HB.out)⟩

 subst c3
 have H1 : ((Zah.f k t1057 t1060 t1061 t1064 t1067 t1068 t1069 t1072).bind fun bt1076 => (if bt1076.2 = true then (Zaf.j0 k t1057 bt1076.1 bt1076.2 ((bt1076.1.length : Int) != (t1057.length : Int)) t1060 t1061 t1064 t1067 t1068 t1069 t1072) else (Zaf.j0 k t1057 bt1076.1 bt1076.2 false t1060 t1061 t1064 t1067 t1068 t1069 t1072))) = some r := by rw [if_pos rfl] at H; exact H
 clear H
 have H := H1
 clear H1
 replace H := Option.bind_eq_some_iff.mp H
 obtain ⟨⟨t1076, t1079⟩, A40, H⟩ := H
 replace H : (if t1079 = true then (Zaf.j0 k t1057 t1076 t1079 ((t1076.length : Int) != (t1057.length : Int)) t1060 t1061 t1064 t1067 t1068 t1069 t1072) else (Zaf.j0 k t1057 t1076 t1079 false t1060 t1061 t1064 t1067 t1068 t1069 t1072)) = some r := H
 have A4 := Zaa.mk A40
 clear A40
 have HC5 := Zaa.mk H
 clear H
 go_enter Try.func13, Try.ntmps13
 go_upto_region 5 with (first | ((with_reducible refine Zbx (N := 1) rfl ?_); (try (refine Zcy (by rfl) ?_; dsimp only)); refine Zci ?hg (N := 1) ?hd (cs := #[.slice A0_0 l0_0.length c0_0, .int .i64 a0_1, .slice A0_2 l0_2.length c0_2, .slice A0_3 l0_3.length c0_3, .int .i64 a0_4, .int .i64 a0_5, .slice A0_6 l0_6.length c0_6, .int .i64 a0_7, .slice A0_8 l0_8.length c0_8, .slice A0_9 l0_9.length c0_9]) (t := 27) ?hr ?_; (case hd => rfl); (case hg => rfl); (case hr => first | (go_simp; done) | (go_simp; rfl)); intro gb1056 hg w6 hbox hb; have n0_ := Zaa.mk (Zay (by repeat (first | (with_reducible first | exact HB.out | apply Zab | apply Za | apply Zac) | exact HB.out)) hb); have n1_ := Zaa.mk (hbox); have n2_ := Zaa.mk ((by rw [hg]; exact (Zal (by repeat (first | (with_reducible first | exact HB.out | apply Zab | apply Za | apply Zac) | exact HB.out))) : w.heap.size ≤ gb1056)); have n3_ := Zaa.mk ((by rw [hg]; exact (Zal (by repeat (first | (with_reducible first | exact HB.out | apply Zab | apply Za | apply Zac) | exact HB.out))) : w.heap.size ≤ gb1056)); clear HB; have HB := n0_; have BK1056 := n1_; have GW1056 := n2_; have GE1056 := n3_; clear n0_ n1_ n2_ n3_; clear hb hbox hg; obtain ⟨hcz7_0, hcz7_1, hcz7_2, hcz7_3, hcz7_4, hcz7_5, hcz7_6, hcz7_7, hcz7_8, hcz7_9, hfz7_0, hfz7_1, hfz7_2, hfz7_3, hfz7_4, hfz7_5, hfz7_6, hfz7_7, hfz7_8, hfz7_9⟩ := blks10 BK1056.out) | ((with_reducible refine Zbq (f := 14) rfl ?_); refine Zcp (some 14) rfl rfl Try.func14 (by kernel_rfl) rfl #[.agg #[.slice A0_0 l0_0.length c0_0, .int .i64 a0_1, .slice A0_2 l0_2.length c0_2, .slice A0_3 l0_3.length c0_3, .int .i64 a0_4, .int .i64 a0_5, .slice A0_6 l0_6.length c0_6, .int .i64 a0_7, .slice A0_8 l0_8.length c0_8, .slice A0_9 l0_9.length c0_9], .int .i64 3] rfl (by (try simp only [List.map_toArray, List.map_cons, List.map_nil]); first | done | rfl | (simp only [List.length_drop, List.length_take]; rfl)) ?_; (with_reducible refine (Zaq.calls k _ _ l0_0 a0_1 _ _ l0_2 _ _ l0_3 a0_4 a0_5 _ _ l0_6 a0_7 _ _ l0_8 _ _ l0_9 3 t1057 t1060 t1061 t1064 t1067 t1068 t1069 t1072 true _ ?side1 ?side2 ?side3 ?side4 ?side5 ?side6 ?side7 ?side8 ?side9 ?side10 ?side11 ?side12 A2.out).mono ?_); (case side1 => repeat (first | exact (Kd.Zbu HR0_0.out HB.out) | (with_reducible refine Kd.C_alloc ?_ _) | (with_reducible refine Kd.C_drewN ?_ _) | (with_reducible refine Kd.Zbp ?_))); (case side2 => exact HC0_0.out); (case side3 => repeat (first | exact (Kd.Zbu HR0_2.out HB.out) | (with_reducible refine Kd.C_alloc ?_ _) | (with_reducible refine Kd.C_drewN ?_ _) | (with_reducible refine Kd.Zbp ?_))); (case side4 => exact HC0_2.out); (case side5 => repeat (first | exact (Kd.Zbu HR0_3.out HB.out) | (with_reducible refine Kd.C_alloc ?_ _) | (with_reducible refine Kd.C_drewN ?_ _) | (with_reducible refine Kd.Zbp ?_))); (case side6 => exact HC0_3.out); (case side7 => repeat (first | exact (Kd.Zbu HR0_6.out HB.out) | (with_reducible refine Kd.C_alloc ?_ _) | (with_reducible refine Kd.C_drewN ?_ _) | (with_reducible refine Kd.Zbp ?_))); (case side8 => exact HC0_6.out); (case side9 => repeat (first | exact (Kd.Zbu HR0_8.out HB.out) | (with_reducible refine Kd.C_alloc ?_ _) | (with_reducible refine Kd.C_drewN ?_ _) | (with_reducible refine Kd.Zbp ?_))); (case side10 => exact HC0_8.out); (case side11 => repeat (first | exact (Kd.Zbu HR0_9.out HB.out) | (with_reducible refine Kd.C_alloc ?_ _) | (with_reducible refine Kd.C_drewN ?_ _) | (with_reducible refine Kd.Zbp ?_))); (case side12 => exact HC0_9.out); rintro e w8 ⟨v1058, v1062, v1065, v1070, rfl, ho0, ho1, ho2, ho3, hb⟩; refine ⟨_, rfl, ?_⟩; have n0_ := Zaa.mk (Kd.Zdy (Kd.Zb7 (ok' := fun k_ => some k_ ≠ (v1062 : Value).ownBlock ∧ some k_ ≠ (v1065 : Value).ownBlock ∧ some k_ ≠ (v1070 : Value).ownBlock ∧ k_ ≠ gb1056) (Kd.S_N (Kd.Zd7 (Kd.Zd1 (Kd.Zd1 (Kd.Zd1 ho0 (Kd.Zco ho1) (by decide)) (Kd.Zco ho2) (by decide)) (Kd.Zdq ho3) (by decide)))) (fun k_ hk_ => ⟨hk_.1.1.1.2, hk_.1.1.2, hk_.1.2, (Kd.freshB (g := gb1056) (o := .cells #[.slice A0_0 l0_0.length c0_0, .int .i64 a0_1, .slice A0_2 l0_2.length c0_2, .slice A0_3 l0_3.length c0_3, .int .i64 a0_4, .int .i64 a0_5, .slice A0_6 l0_6.length c0_6, .int .i64 a0_7, .slice A0_8 l0_8.length c0_8, .slice A0_9 l0_9.length c0_9] 27 (0, 0)) (mvK BK1056.out) k_ hk_.2.1)⟩)) (Zal (by repeat (first | (with_reducible first | exact HB.out | apply Zab | apply Za | apply Zac | refine Zai ?_ GE1056.out) | exact HB.out)))); have n1_ := Zaa.mk (Kd.Zb1 ho1 (Zal (by repeat (first | (with_reducible first | exact HB.out | apply Zab | apply Za | apply Zac | refine Zai ?_ GE1056.out) | exact HB.out)))); have n2_ := Zaa.mk (Kd.Zb1 ho2 (Zal (by repeat (first | (with_reducible first | exact HB.out | apply Zab | apply Za | apply Zac | refine Zai ?_ GE1056.out) | exact HB.out)))); have n3_ := Zaa.mk (Kd.Zdy (Kd.Zb7 (ok' := fun k_ => some k_ ≠ (v1058 : Value).ownBlock ∧ some k_ ≠ (v1062 : Value).ownBlock ∧ some k_ ≠ (v1065 : Value).ownBlock ∧ k_ ≠ gb1056) (Kd.S_N (Kd.Zd7 (Kd.Zd1 ho3 (Kd.Zdq ho0) (by decide)))) (fun k_ hk_ => ⟨hk_.1.2, hk_.1.1.1, hk_.1.1.2, (Kd.freshB (g := gb1056) (o := .cells #[.slice A0_0 l0_0.length c0_0, .int .i64 a0_1, .slice A0_2 l0_2.length c0_2, .slice A0_3 l0_3.length c0_3, .int .i64 a0_4, .int .i64 a0_5, .slice A0_6 l0_6.length c0_6, .int .i64 a0_7, .slice A0_8 l0_8.length c0_8, .slice A0_9 l0_9.length c0_9] 27 (0, 0)) (mvK BK1056.out) k_ hk_.2.1)⟩)) (Zal (by repeat (first | (with_reducible first | exact HB.out | apply Zab | apply Za | apply Zac | refine Zai ?_ GE1056.out) | exact HB.out)))); have n4_ := Zaa.mk (Zba (g := gb1056) (o := .cells #[.slice A0_0 l0_0.length c0_0, .int .i64 a0_1, .slice A0_2 l0_2.length c0_2, .slice A0_3 l0_3.length c0_3, .int .i64 a0_4, .int .i64 a0_5, .slice A0_6 l0_6.length c0_6, .int .i64 a0_7, .slice A0_8 l0_8.length c0_8, .slice A0_9 l0_9.length c0_9] 27 (0, 0)) (mvK BK1056.out) hb); have n5_ := Zaa.mk (Zay (by repeat (first | (with_reducible first | exact HB.out | apply Zab | apply Za | apply Zac | refine Zai ?_ GE1056.out) | exact HB.out)) hb); clear BK1056; clear HB; have HO1059 := n0_; have HO1063 := n1_; have HO1066 := n2_; have HO1071 := n3_; have BK1056 := n4_; have HB := n5_; clear n0_ n1_ n2_ n3_ n4_ n5_; (try clear hb); (try clear hb2); (try clear hk); (try clear hi); (try clear ho0); (try clear ho1); (try clear ho2); (try clear ho3)) | ((with_reducible refine Zbx (N := 4) rfl ?_); (try (refine Zcy (by rfl) ?_; dsimp only)); refine Zci ?hg (N := 4) ?hd (cs := #[.int .i64 0, .slice none 0 0, .slice none 0 0, .int .i64 0, .int .i64 0, .slice none 0 0, .int .i64 0]) (t := 25) ?hr ?_; (case hd => rfl); (case hg => rfl); (case hr => first | (go_simp; done) | (go_simp; rfl)); intro gb1074 hg w9 hbox hb; have n0_ := Zaa.mk (Kd.Zc5 (Kd.Ze3 (mvN HO1059.out) gb1074 (Nat.le_of_eq hg.symm)) hb); have n1_ := Zaa.mk (Kd.Zbv (mvR HO1063.out) hb); have n2_ := Zaa.mk (Kd.Zbv (mvR HO1066.out) hb); have n3_ := Zaa.mk (Kd.Zc5 (Kd.Ze3 (mvN HO1071.out) gb1074 (Nat.le_of_eq hg.symm)) hb); have n4_ := Zaa.mk (Zba (g := gb1056) (o := .cells #[.slice A0_0 l0_0.length c0_0, .int .i64 a0_1, .slice A0_2 l0_2.length c0_2, .slice A0_3 l0_3.length c0_3, .int .i64 a0_4, .int .i64 a0_5, .slice A0_6 l0_6.length c0_6, .int .i64 a0_7, .slice A0_8 l0_8.length c0_8, .slice A0_9 l0_9.length c0_9] 27 (0, 0)) (mvK BK1056.out) hb); have n5_ := Zaa.mk (Zay (by repeat (first | (with_reducible first | exact HB.out | apply Zab | apply Za | apply Zac | refine Zai ?_ GE1056.out) | exact HB.out)) hb); have n6_ := Zaa.mk (hbox); have n7_ := Zaa.mk ((by rw [hg]; exact (Zal (by repeat (first | (with_reducible first | exact HB.out | apply Zab | apply Za | apply Zac | refine Zai ?_ GE1056.out) | exact HB.out))) : w.heap.size ≤ gb1074)); have n8_ := Zaa.mk ((by rw [hg]; exact (Zal (by repeat (first | (with_reducible first | exact HB.out | apply Zab | apply Za | apply Zac | refine Zai ?_ GE1056.out) | exact HB.out))) : w.heap.size ≤ gb1074)); have n9_ := Zaa.mk ((by rw [hg]; exact Nat.ne_of_lt (Zdj (g := gb1056) (o := .cells #[.slice A0_0 l0_0.length c0_0, .int .i64 a0_1, .slice A0_2 l0_2.length c0_2, .slice A0_3 l0_3.length c0_3, .int .i64 a0_4, .int .i64 a0_5, .slice A0_6 l0_6.length c0_6, .int .i64 a0_7, .slice A0_8 l0_8.length c0_8, .slice A0_9 l0_9.length c0_9] 27 (0, 0)) (mvK BK1056.out)) : gb1056 ≠ gb1074)); have n10_ := Zaa.mk ((by rw [hg]; exact Nat.ne_of_gt (Zdj (g := gb1056) (o := .cells #[.slice A0_0 l0_0.length c0_0, .int .i64 a0_1, .slice A0_2 l0_2.length c0_2, .slice A0_3 l0_3.length c0_3, .int .i64 a0_4, .int .i64 a0_5, .slice A0_6 l0_6.length c0_6, .int .i64 a0_7, .slice A0_8 l0_8.length c0_8, .slice A0_9 l0_9.length c0_9] 27 (0, 0)) (mvK BK1056.out)) : gb1074 ≠ gb1056)); clear HO1059; clear HO1063; clear HO1066; clear HO1071; clear BK1056; clear HB; have HO1059 := n0_; have HO1063 := n1_; have HO1066 := n2_; have HO1071 := n3_; have BK1056 := n4_; have HB := n5_; have BK1074 := n6_; have GW1074 := n7_; have GE1074 := n8_; have NB1056_1074 := n9_; have NB1074_1056 := n10_; clear n0_ n1_ n2_ n3_ n4_ n5_ n6_ n7_ n8_ n9_ n10_; clear hb hbox hg; have hnb10 := NB1074_1056.out; have hnc10 := NB1056_1074.out; obtain ⟨hcz11_0, hcz11_1, hcz11_2, hcz11_3, hcz11_4, hcz11_5, hcz11_6, hfz11_0, hfz11_1, hfz11_2, hfz11_3, hfz11_4, hfz11_5, hfz11_6⟩ := Zct BK1074.out; obtain ⟨Ao12, co12, eo12⟩ := Kd.Zbo HO1063.out; subst eo12; obtain ⟨Ao13, co13, eo13⟩ := Kd.Zbo HO1066.out; subst eo13; obtain ⟨Ao14, co14, eo14⟩ := Kd.Zd6 HO1071.out; subst eo14; obtain ⟨Ao15, co15, eo15⟩ := Kd.Zd6 HO1059.out; subst eo15) | ((with_reducible refine Zbq (f := 35) rfl ?_); refine Zcp (some 24) rfl rfl Try.func35 (by kernel_rfl) rfl #[.slice Ao15 t1057.length co15, .agg #[.int .i64 t1060, .slice Ao12 t1061.length co12, .slice Ao13 t1064.length co13, .int .i64 t1067, .int .i64 t1068, .slice Ao14 t1069.length co14, .int .i64 t1072]] rfl (by (try simp only [List.map_toArray, List.map_cons, List.map_nil]); first | done | rfl | (simp only [List.length_drop, List.length_take]; rfl)) ?_; (with_reducible refine (Zah.calls k _ _ t1057 t1060 _ _ t1061 _ _ t1064 t1067 t1068 _ _ t1069 t1072 t1076 t1079 _ ?side1 ?side2 ?side3 ?side4 ?side5 ?side6 ?side7 ?side8 A4.out).mono ?_); (case side1 => refine (Kd.Zb9 (e := 39) (base := w.heap.size) (ok := fun k_ => ((some k_ ≠ (.slice Ao12 t1061.length co12 : Value).ownBlock ∧ (some k_ ≠ (.slice Ao13 t1064.length co13 : Value).ownBlock ∧ (some k_ ≠ (.slice Ao14 t1069.length co14 : Value).ownBlock ∧ k_ ≠ gb1056))) ∧ k_ ≠ gb1074)) (n := t1057.length) (c := co15) ?_).2.2; exact (by (with_reducible repeat (first | apply Kd.Zby | apply Kd.Zbz | apply Kd.Zb3)); exact (Kd.Zb7 (Kd.Zc (p := ⟨gb1074, 6, none⟩) (Kd.Zc (p := ⟨gb1074, 5, none⟩) (Kd.Zc (p := ⟨gb1074, 4, none⟩) (Kd.Zc (p := ⟨gb1074, 3, none⟩) (Kd.Zc (p := ⟨gb1074, 2, none⟩) (Kd.Zc (p := ⟨gb1074, 1, none⟩) (Kd.Zc (p := ⟨gb1074, 0, none⟩) (Kd.Zb7 HO1059.out (fun k_ hk => (⟨hk, hk.2⟩ : _ ∧ k_ ≠ gb1074))) (fun _ hk => hk.2) (.int .i64 t1060)) (fun _ hk => hk.2) (.slice Ao12 t1061.length co12)) (fun _ hk => hk.2) (.slice Ao13 t1064.length co13)) (fun _ hk => hk.2) (.int .i64 t1067)) (fun _ hk => hk.2) (.int .i64 t1068)) (fun _ hk => hk.2) (.slice Ao14 t1069.length co14)) (fun _ hk => hk.2) (.int .i64 t1072)) (fun _ h_ => h_.1)))); (case side2 => exact (Kd.Zb9 HO1059.out).2.1); (case side3 => refine (Kd.Za7 (e := 3) (base := w.heap.size) (ok := fun k_ => some k_ ≠ (.slice Ao13 t1064.length co13 : Value).ownBlock) (n := t1061.length) (c := co12) ?_).2.2; exact (by (with_reducible repeat (first | apply Kd.Zan | apply Kd.Zam | apply Kd.Zar)); exact (Kd.Zbe (Kd.Zbg (p := ⟨gb1074, 6, none⟩) (Kd.Zbg (p := ⟨gb1074, 5, none⟩) (Kd.Zbg (p := ⟨gb1074, 4, none⟩) (Kd.Zbg (p := ⟨gb1074, 3, none⟩) (Kd.Zbg (p := ⟨gb1074, 2, none⟩) (Kd.Zbg (p := ⟨gb1074, 1, none⟩) (Kd.Zbg (p := ⟨gb1074, 0, none⟩) (Kd.Zbs HO1063.out BK1074.out (by decide)) (fun _ hk => hk.2) (.int .i64 t1060)) (fun _ hk => hk.2) (.slice Ao12 t1061.length co12)) (fun _ hk => hk.2) (.slice Ao13 t1064.length co13)) (fun _ hk => hk.2) (.int .i64 t1067)) (fun _ hk => hk.2) (.int .i64 t1068)) (fun _ hk => hk.2) (.slice Ao14 t1069.length co14)) (fun _ hk => hk.2) (.int .i64 t1072)) (fun _ h_ => h_.1)))); (case side4 => exact (Kd.Za7 HO1063.out).2.1); (case side5 => refine (Kd.Za7 (e := 3) (base := w.heap.size) (ok := fun k_ => some k_ ≠ (.slice Ao12 t1061.length co12 : Value).ownBlock) (n := t1064.length) (c := co13) ?_).2.2; exact (by (with_reducible repeat (first | apply Kd.Zan | apply Kd.Zam | apply Kd.Zar)); exact (Kd.Zbe (Kd.Zbg (p := ⟨gb1074, 6, none⟩) (Kd.Zbg (p := ⟨gb1074, 5, none⟩) (Kd.Zbg (p := ⟨gb1074, 4, none⟩) (Kd.Zbg (p := ⟨gb1074, 3, none⟩) (Kd.Zbg (p := ⟨gb1074, 2, none⟩) (Kd.Zbg (p := ⟨gb1074, 1, none⟩) (Kd.Zbg (p := ⟨gb1074, 0, none⟩) (Kd.Zbs HO1066.out BK1074.out (by decide)) (fun _ hk => hk.2) (.int .i64 t1060)) (fun _ hk => hk.2) (.slice Ao12 t1061.length co12)) (fun _ hk => hk.2) (.slice Ao13 t1064.length co13)) (fun _ hk => hk.2) (.int .i64 t1067)) (fun _ hk => hk.2) (.int .i64 t1068)) (fun _ hk => hk.2) (.slice Ao14 t1069.length co14)) (fun _ hk => hk.2) (.int .i64 t1072)) (fun _ h_ => h_.1)))); (case side6 => exact (Kd.Za7 HO1066.out).2.1); (case side7 => refine (Kd.Zb9 (e := 23) (base := w.heap.size) (ok := fun k_ => ((some k_ ≠ (.slice Ao15 t1057.length co15 : Value).ownBlock ∧ (some k_ ≠ (.slice Ao12 t1061.length co12 : Value).ownBlock ∧ (some k_ ≠ (.slice Ao13 t1064.length co13 : Value).ownBlock ∧ k_ ≠ gb1056))) ∧ k_ ≠ gb1074)) (n := t1069.length) (c := co14) ?_).2.2; exact (by (with_reducible repeat (first | apply Kd.Zby | apply Kd.Zbz | apply Kd.Zb3)); exact (Kd.Zb7 (Kd.Zc (p := ⟨gb1074, 6, none⟩) (Kd.Zc (p := ⟨gb1074, 5, none⟩) (Kd.Zc (p := ⟨gb1074, 4, none⟩) (Kd.Zc (p := ⟨gb1074, 3, none⟩) (Kd.Zc (p := ⟨gb1074, 2, none⟩) (Kd.Zc (p := ⟨gb1074, 1, none⟩) (Kd.Zc (p := ⟨gb1074, 0, none⟩) (Kd.Zb7 HO1071.out (fun k_ hk => (⟨hk, hk.2⟩ : _ ∧ k_ ≠ gb1074))) (fun _ hk => hk.2) (.int .i64 t1060)) (fun _ hk => hk.2) (.slice Ao12 t1061.length co12)) (fun _ hk => hk.2) (.slice Ao13 t1064.length co13)) (fun _ hk => hk.2) (.int .i64 t1067)) (fun _ hk => hk.2) (.int .i64 t1068)) (fun _ hk => hk.2) (.slice Ao14 t1069.length co14)) (fun _ hk => hk.2) (.int .i64 t1072)) (fun _ h_ => h_.1)))); (case side8 => exact (Kd.Zb9 HO1071.out).2.1); rintro e w16 ⟨v1077, rfl, ho0, hb⟩; refine ⟨_, rfl, ?_⟩; have n0_ := Zaa.mk (Kd.Zb8 (by (with_reducible repeat (first | apply Kd.Zby | apply Kd.Zbz | apply Kd.Zb3)); exact (Kd.Zb7 (Kd.Zc (p := ⟨gb1074, 6, none⟩) (Kd.Zc (p := ⟨gb1074, 5, none⟩) (Kd.Zc (p := ⟨gb1074, 4, none⟩) (Kd.Zc (p := ⟨gb1074, 3, none⟩) (Kd.Zc (p := ⟨gb1074, 2, none⟩) (Kd.Zc (p := ⟨gb1074, 1, none⟩) (Kd.Zc (p := ⟨gb1074, 0, none⟩) (Kd.Zb7 HO1059.out (fun k_ hk => (⟨hk, hk.2⟩ : _ ∧ k_ ≠ gb1074))) (fun _ hk => hk.2) (.int .i64 t1060)) (fun _ hk => hk.2) (.slice Ao12 t1061.length co12)) (fun _ hk => hk.2) (.slice Ao13 t1064.length co13)) (fun _ hk => hk.2) (.int .i64 t1067)) (fun _ hk => hk.2) (.int .i64 t1068)) (fun _ hk => hk.2) (.slice Ao14 t1069.length co14)) (fun _ hk => hk.2) (.int .i64 t1072)) (fun _ h_ => h_.1))) (by first | exact Kd.Zd8 ho0 | exact Kd.Zew ho0 | exact Kd.Zb4 ho0) hb); have n1_ := Zaa.mk (Kd.Zbv (by (with_reducible repeat (first | apply Kd.Zan | apply Kd.Zam | apply Kd.Zar)); exact (Kd.Zbe (Kd.Zbg (p := ⟨gb1074, 6, none⟩) (Kd.Zbg (p := ⟨gb1074, 5, none⟩) (Kd.Zbg (p := ⟨gb1074, 4, none⟩) (Kd.Zbg (p := ⟨gb1074, 3, none⟩) (Kd.Zbg (p := ⟨gb1074, 2, none⟩) (Kd.Zbg (p := ⟨gb1074, 1, none⟩) (Kd.Zbg (p := ⟨gb1074, 0, none⟩) (Kd.Zbs HO1063.out BK1074.out (by decide)) (fun _ hk => hk.2) (.int .i64 t1060)) (fun _ hk => hk.2) (.slice Ao12 t1061.length co12)) (fun _ hk => hk.2) (.slice Ao13 t1064.length co13)) (fun _ hk => hk.2) (.int .i64 t1067)) (fun _ hk => hk.2) (.int .i64 t1068)) (fun _ hk => hk.2) (.slice Ao14 t1069.length co14)) (fun _ hk => hk.2) (.int .i64 t1072)) (fun _ h_ => h_.1))) hb); have n2_ := Zaa.mk (Kd.Zbv (by (with_reducible repeat (first | apply Kd.Zan | apply Kd.Zam | apply Kd.Zar)); exact (Kd.Zbe (Kd.Zbg (p := ⟨gb1074, 6, none⟩) (Kd.Zbg (p := ⟨gb1074, 5, none⟩) (Kd.Zbg (p := ⟨gb1074, 4, none⟩) (Kd.Zbg (p := ⟨gb1074, 3, none⟩) (Kd.Zbg (p := ⟨gb1074, 2, none⟩) (Kd.Zbg (p := ⟨gb1074, 1, none⟩) (Kd.Zbg (p := ⟨gb1074, 0, none⟩) (Kd.Zbs HO1066.out BK1074.out (by decide)) (fun _ hk => hk.2) (.int .i64 t1060)) (fun _ hk => hk.2) (.slice Ao12 t1061.length co12)) (fun _ hk => hk.2) (.slice Ao13 t1064.length co13)) (fun _ hk => hk.2) (.int .i64 t1067)) (fun _ hk => hk.2) (.int .i64 t1068)) (fun _ hk => hk.2) (.slice Ao14 t1069.length co14)) (fun _ hk => hk.2) (.int .i64 t1072)) (fun _ h_ => h_.1))) hb); have n3_ := Zaa.mk (Kd.Zb8 (by (with_reducible repeat (first | apply Kd.Zby | apply Kd.Zbz | apply Kd.Zb3)); exact (Kd.Zb7 (Kd.Zc (p := ⟨gb1074, 6, none⟩) (Kd.Zc (p := ⟨gb1074, 5, none⟩) (Kd.Zc (p := ⟨gb1074, 4, none⟩) (Kd.Zc (p := ⟨gb1074, 3, none⟩) (Kd.Zc (p := ⟨gb1074, 2, none⟩) (Kd.Zc (p := ⟨gb1074, 1, none⟩) (Kd.Zc (p := ⟨gb1074, 0, none⟩) (Kd.Zb7 HO1071.out (fun k_ hk => (⟨hk, hk.2⟩ : _ ∧ k_ ≠ gb1074))) (fun _ hk => hk.2) (.int .i64 t1060)) (fun _ hk => hk.2) (.slice Ao12 t1061.length co12)) (fun _ hk => hk.2) (.slice Ao13 t1064.length co13)) (fun _ hk => hk.2) (.int .i64 t1067)) (fun _ hk => hk.2) (.int .i64 t1068)) (fun _ hk => hk.2) (.slice Ao14 t1069.length co14)) (fun _ hk => hk.2) (.int .i64 t1072)) (fun _ h_ => h_.1))) (by first | exact Kd.Zd8 ho0 | exact Kd.Zew ho0 | exact Kd.Zb4 ho0) hb); have n4_ := Zaa.mk (Kd.Zdy (Kd.Zb7 (ok' := fun k_ => some k_ ≠ (.slice Ao15 t1057.length co15 : Value).ownBlock ∧ some k_ ≠ (.slice Ao12 t1061.length co12 : Value).ownBlock ∧ some k_ ≠ (.slice Ao13 t1064.length co13 : Value).ownBlock ∧ some k_ ≠ (.slice Ao14 t1069.length co14 : Value).ownBlock ∧ k_ ≠ gb1056 ∧ k_ ≠ gb1074) (Kd.S_N (Kd.Zd7 ho0)) (fun k_ hk_ => ⟨(Kd.fresh' (Kd.N_lt (by (with_reducible repeat (first | apply Kd.Zby | apply Kd.Zbz | apply Kd.Zb3)); exact (Kd.Zb7 (Kd.Zc (p := ⟨gb1074, 6, none⟩) (Kd.Zc (p := ⟨gb1074, 5, none⟩) (Kd.Zc (p := ⟨gb1074, 4, none⟩) (Kd.Zc (p := ⟨gb1074, 3, none⟩) (Kd.Zc (p := ⟨gb1074, 2, none⟩) (Kd.Zc (p := ⟨gb1074, 1, none⟩) (Kd.Zc (p := ⟨gb1074, 0, none⟩) (Kd.Zb7 HO1059.out (fun k_ hk => (⟨hk, hk.2⟩ : _ ∧ k_ ≠ gb1074))) (fun _ hk => hk.2) (.int .i64 t1060)) (fun _ hk => hk.2) (.slice Ao12 t1061.length co12)) (fun _ hk => hk.2) (.slice Ao13 t1064.length co13)) (fun _ hk => hk.2) (.int .i64 t1067)) (fun _ hk => hk.2) (.int .i64 t1068)) (fun _ hk => hk.2) (.slice Ao14 t1069.length co14)) (fun _ hk => hk.2) (.int .i64 t1072)) (fun _ h_ => h_.1)))) k_ hk_.2.1), (Kd.fresh' (Kd.R_lt (by (with_reducible repeat (first | apply Kd.Zan | apply Kd.Zam | apply Kd.Zar)); exact (Kd.Zbe (Kd.Zbg (p := ⟨gb1074, 6, none⟩) (Kd.Zbg (p := ⟨gb1074, 5, none⟩) (Kd.Zbg (p := ⟨gb1074, 4, none⟩) (Kd.Zbg (p := ⟨gb1074, 3, none⟩) (Kd.Zbg (p := ⟨gb1074, 2, none⟩) (Kd.Zbg (p := ⟨gb1074, 1, none⟩) (Kd.Zbg (p := ⟨gb1074, 0, none⟩) (Kd.Zbs HO1063.out BK1074.out (by decide)) (fun _ hk => hk.2) (.int .i64 t1060)) (fun _ hk => hk.2) (.slice Ao12 t1061.length co12)) (fun _ hk => hk.2) (.slice Ao13 t1064.length co13)) (fun _ hk => hk.2) (.int .i64 t1067)) (fun _ hk => hk.2) (.int .i64 t1068)) (fun _ hk => hk.2) (.slice Ao14 t1069.length co14)) (fun _ hk => hk.2) (.int .i64 t1072)) (fun _ h_ => h_.1)))) k_ hk_.2.1), (Kd.fresh' (Kd.R_lt (by (with_reducible repeat (first | apply Kd.Zan | apply Kd.Zam | apply Kd.Zar)); exact (Kd.Zbe (Kd.Zbg (p := ⟨gb1074, 6, none⟩) (Kd.Zbg (p := ⟨gb1074, 5, none⟩) (Kd.Zbg (p := ⟨gb1074, 4, none⟩) (Kd.Zbg (p := ⟨gb1074, 3, none⟩) (Kd.Zbg (p := ⟨gb1074, 2, none⟩) (Kd.Zbg (p := ⟨gb1074, 1, none⟩) (Kd.Zbg (p := ⟨gb1074, 0, none⟩) (Kd.Zbs HO1066.out BK1074.out (by decide)) (fun _ hk => hk.2) (.int .i64 t1060)) (fun _ hk => hk.2) (.slice Ao12 t1061.length co12)) (fun _ hk => hk.2) (.slice Ao13 t1064.length co13)) (fun _ hk => hk.2) (.int .i64 t1067)) (fun _ hk => hk.2) (.int .i64 t1068)) (fun _ hk => hk.2) (.slice Ao14 t1069.length co14)) (fun _ hk => hk.2) (.int .i64 t1072)) (fun _ h_ => h_.1)))) k_ hk_.2.1), (Kd.fresh' (Kd.N_lt (by (with_reducible repeat (first | apply Kd.Zby | apply Kd.Zbz | apply Kd.Zb3)); exact (Kd.Zb7 (Kd.Zc (p := ⟨gb1074, 6, none⟩) (Kd.Zc (p := ⟨gb1074, 5, none⟩) (Kd.Zc (p := ⟨gb1074, 4, none⟩) (Kd.Zc (p := ⟨gb1074, 3, none⟩) (Kd.Zc (p := ⟨gb1074, 2, none⟩) (Kd.Zc (p := ⟨gb1074, 1, none⟩) (Kd.Zc (p := ⟨gb1074, 0, none⟩) (Kd.Zb7 HO1071.out (fun k_ hk => (⟨hk, hk.2⟩ : _ ∧ k_ ≠ gb1074))) (fun _ hk => hk.2) (.int .i64 t1060)) (fun _ hk => hk.2) (.slice Ao12 t1061.length co12)) (fun _ hk => hk.2) (.slice Ao13 t1064.length co13)) (fun _ hk => hk.2) (.int .i64 t1067)) (fun _ hk => hk.2) (.int .i64 t1068)) (fun _ hk => hk.2) (.slice Ao14 t1069.length co14)) (fun _ hk => hk.2) (.int .i64 t1072)) (fun _ h_ => h_.1)))) k_ hk_.2.1), (Kd.freshB (g := gb1056) (o := .cells #[.slice A0_0 l0_0.length c0_0, .int .i64 a0_1, .slice A0_2 l0_2.length c0_2, .slice A0_3 l0_3.length c0_3, .int .i64 a0_4, .int .i64 a0_5, .slice A0_6 l0_6.length c0_6, .int .i64 a0_7, .slice A0_8 l0_8.length c0_8, .slice A0_9 l0_9.length c0_9] 27 (0, 0)) (by (with_reducible repeat (first | refine Zae ?_ _ | refine Zag ?_ | refine Zad ?_ _)); refine Zbt ?_ NB1056_1074.out _; (with_reducible repeat (first | refine Zae ?_ _ | refine Zag ?_ | refine Zad ?_ _)); refine Zbt ?_ NB1056_1074.out _; (with_reducible repeat (first | refine Zae ?_ _ | refine Zag ?_ | refine Zad ?_ _)); refine Zbt ?_ NB1056_1074.out _; (with_reducible repeat (first | refine Zae ?_ _ | refine Zag ?_ | refine Zad ?_ _)); refine Zbt ?_ NB1056_1074.out _; (with_reducible repeat (first | refine Zae ?_ _ | refine Zag ?_ | refine Zad ?_ _)); refine Zbt ?_ NB1056_1074.out _; (with_reducible repeat (first | refine Zae ?_ _ | refine Zag ?_ | refine Zad ?_ _)); refine Zbt ?_ NB1056_1074.out _; (with_reducible repeat (first | refine Zae ?_ _ | refine Zag ?_ | refine Zad ?_ _)); refine Zbt ?_ NB1056_1074.out _; (with_reducible repeat (first | refine Zae ?_ _ | refine Zag ?_ | refine Zad ?_ _)); exact BK1056.out) k_ hk_.2.1), (Kd.freshB (g := gb1074) (o := .cells #[.int .i64 t1060, .slice Ao12 t1061.length co12, .slice Ao13 t1064.length co13, .int .i64 t1067, .int .i64 t1068, .slice Ao14 t1069.length co14, .int .i64 t1072] 25 (0, 0)) (by (with_reducible repeat (first | refine Zae ?_ _ | refine Zag ?_ | refine Zad ?_ _)); refine Zbm (cs := #[.int .i64 t1060, .slice Ao12 t1061.length co12, .slice Ao13 t1064.length co13, .int .i64 t1067, .int .i64 t1068, .slice Ao14 t1069.length co14, .int .i64 0]) ?_ 6 _ rfl; (with_reducible repeat (first | refine Zae ?_ _ | refine Zag ?_ | refine Zad ?_ _)); refine Zbm (cs := #[.int .i64 t1060, .slice Ao12 t1061.length co12, .slice Ao13 t1064.length co13, .int .i64 t1067, .int .i64 t1068, .slice none 0 0, .int .i64 0]) ?_ 5 _ rfl; (with_reducible repeat (first | refine Zae ?_ _ | refine Zag ?_ | refine Zad ?_ _)); refine Zbm (cs := #[.int .i64 t1060, .slice Ao12 t1061.length co12, .slice Ao13 t1064.length co13, .int .i64 t1067, .int .i64 0, .slice none 0 0, .int .i64 0]) ?_ 4 _ rfl; (with_reducible repeat (first | refine Zae ?_ _ | refine Zag ?_ | refine Zad ?_ _)); refine Zbm (cs := #[.int .i64 t1060, .slice Ao12 t1061.length co12, .slice Ao13 t1064.length co13, .int .i64 0, .int .i64 0, .slice none 0 0, .int .i64 0]) ?_ 3 _ rfl; (with_reducible repeat (first | refine Zae ?_ _ | refine Zag ?_ | refine Zad ?_ _)); refine Zbm (cs := #[.int .i64 t1060, .slice Ao12 t1061.length co12, .slice none 0 0, .int .i64 0, .int .i64 0, .slice none 0 0, .int .i64 0]) ?_ 2 _ rfl; (with_reducible repeat (first | refine Zae ?_ _ | refine Zag ?_ | refine Zad ?_ _)); refine Zbm (cs := #[.int .i64 t1060, .slice none 0 0, .slice none 0 0, .int .i64 0, .int .i64 0, .slice none 0 0, .int .i64 0]) ?_ 1 _ rfl; (with_reducible repeat (first | refine Zae ?_ _ | refine Zag ?_ | refine Zad ?_ _)); refine Zbm (cs := #[.int .i64 0, .slice none 0 0, .slice none 0 0, .int .i64 0, .int .i64 0, .slice none 0 0, .int .i64 0]) ?_ 0 _ rfl; (with_reducible repeat (first | refine Zae ?_ _ | refine Zag ?_ | refine Zad ?_ _)); exact BK1074.out) k_ hk_.2.1)⟩)) (Zal (by repeat (first | (with_reducible first | exact HB.out | apply Zab | apply Za | apply Zac | refine Zai ?_ GE1056.out | refine Zai ?_ GE1074.out) | exact HB.out)))); have n5_ := Zaa.mk (Zba (g := gb1056) (o := .cells #[.slice A0_0 l0_0.length c0_0, .int .i64 a0_1, .slice A0_2 l0_2.length c0_2, .slice A0_3 l0_3.length c0_3, .int .i64 a0_4, .int .i64 a0_5, .slice A0_6 l0_6.length c0_6, .int .i64 a0_7, .slice A0_8 l0_8.length c0_8, .slice A0_9 l0_9.length c0_9] 27 (0, 0)) (by (with_reducible repeat (first | refine Zae ?_ _ | refine Zag ?_ | refine Zad ?_ _)); refine Zbt ?_ NB1056_1074.out _; (with_reducible repeat (first | refine Zae ?_ _ | refine Zag ?_ | refine Zad ?_ _)); refine Zbt ?_ NB1056_1074.out _; (with_reducible repeat (first | refine Zae ?_ _ | refine Zag ?_ | refine Zad ?_ _)); refine Zbt ?_ NB1056_1074.out _; (with_reducible repeat (first | refine Zae ?_ _ | refine Zag ?_ | refine Zad ?_ _)); refine Zbt ?_ NB1056_1074.out _; (with_reducible repeat (first | refine Zae ?_ _ | refine Zag ?_ | refine Zad ?_ _)); refine Zbt ?_ NB1056_1074.out _; (with_reducible repeat (first | refine Zae ?_ _ | refine Zag ?_ | refine Zad ?_ _)); refine Zbt ?_ NB1056_1074.out _; (with_reducible repeat (first | refine Zae ?_ _ | refine Zag ?_ | refine Zad ?_ _)); refine Zbt ?_ NB1056_1074.out _; (with_reducible repeat (first | refine Zae ?_ _ | refine Zag ?_ | refine Zad ?_ _)); exact BK1056.out) hb); have n6_ := Zaa.mk (Zba (g := gb1074) (o := .cells #[.int .i64 t1060, .slice Ao12 t1061.length co12, .slice Ao13 t1064.length co13, .int .i64 t1067, .int .i64 t1068, .slice Ao14 t1069.length co14, .int .i64 t1072] 25 (0, 0)) (by (with_reducible repeat (first | refine Zae ?_ _ | refine Zag ?_ | refine Zad ?_ _)); refine Zbm (cs := #[.int .i64 t1060, .slice Ao12 t1061.length co12, .slice Ao13 t1064.length co13, .int .i64 t1067, .int .i64 t1068, .slice Ao14 t1069.length co14, .int .i64 0]) ?_ 6 _ rfl; (with_reducible repeat (first | refine Zae ?_ _ | refine Zag ?_ | refine Zad ?_ _)); refine Zbm (cs := #[.int .i64 t1060, .slice Ao12 t1061.length co12, .slice Ao13 t1064.length co13, .int .i64 t1067, .int .i64 t1068, .slice none 0 0, .int .i64 0]) ?_ 5 _ rfl; (with_reducible repeat (first | refine Zae ?_ _ | refine Zag ?_ | refine Zad ?_ _)); refine Zbm (cs := #[.int .i64 t1060, .slice Ao12 t1061.length co12, .slice Ao13 t1064.length co13, .int .i64 t1067, .int .i64 0, .slice none 0 0, .int .i64 0]) ?_ 4 _ rfl; (with_reducible repeat (first | refine Zae ?_ _ | refine Zag ?_ | refine Zad ?_ _)); refine Zbm (cs := #[.int .i64 t1060, .slice Ao12 t1061.length co12, .slice Ao13 t1064.length co13, .int .i64 0, .int .i64 0, .slice none 0 0, .int .i64 0]) ?_ 3 _ rfl; (with_reducible repeat (first | refine Zae ?_ _ | refine Zag ?_ | refine Zad ?_ _)); refine Zbm (cs := #[.int .i64 t1060, .slice Ao12 t1061.length co12, .slice none 0 0, .int .i64 0, .int .i64 0, .slice none 0 0, .int .i64 0]) ?_ 2 _ rfl; (with_reducible repeat (first | refine Zae ?_ _ | refine Zag ?_ | refine Zad ?_ _)); refine Zbm (cs := #[.int .i64 t1060, .slice none 0 0, .slice none 0 0, .int .i64 0, .int .i64 0, .slice none 0 0, .int .i64 0]) ?_ 1 _ rfl; (with_reducible repeat (first | refine Zae ?_ _ | refine Zag ?_ | refine Zad ?_ _)); refine Zbm (cs := #[.int .i64 0, .slice none 0 0, .slice none 0 0, .int .i64 0, .int .i64 0, .slice none 0 0, .int .i64 0]) ?_ 0 _ rfl; (with_reducible repeat (first | refine Zae ?_ _ | refine Zag ?_ | refine Zad ?_ _)); exact BK1074.out) hb); have n7_ := Zaa.mk (Zay (by repeat (first | (with_reducible first | exact HB.out | apply Zab | apply Za | apply Zac | refine Zai ?_ GE1056.out | refine Zai ?_ GE1074.out) | exact HB.out)) hb); clear HO1059; clear HO1063; clear HO1066; clear HO1071; clear BK1056; clear BK1074; clear HB; have HO1059 := n0_; have HO1063 := n1_; have HO1066 := n2_; have HO1071 := n3_; have HO1078 := n4_; have BK1056 := n5_; have BK1074 := n6_; have HB := n7_; clear n0_ n1_ n2_ n3_ n4_ n5_ n6_ n7_; (try clear hb); (try clear hb2); (try clear hk); (try clear hi); (try clear ho0)))
 (try simp only [Act.put, List.setIfInBounds_toArray, List.set_cons_zero, List.set_cons_succ])
 go_cut [34] (fun v34 wc => ∃ (kq : Nat) (x34_4 : Bool), v34 = .bool x34_4 ∧ Zaa (Zaf.j0 kq t1057 t1076 t1079 x34_4 t1060 t1061 t1064 t1067 t1068 t1069 t1072 = some r) ∧ Zaa (kq ≤ k) ∧ Zaa (Kd.N (Kd.slice 41 k41) 39 wc w.heap.size (fun k_ => some k_ ≠ (v1077 : Value).ownBlock ∧ some k_ ≠ ((.slice Ao12 t1061.length co12) : Value).ownBlock ∧ some k_ ≠ ((.slice Ao13 t1064.length co13) : Value).ownBlock ∧ some k_ ≠ ((.slice Ao14 t1069.length co14) : Value).ownBlock ∧ k_ ≠ gb1056 ∧ k_ ≠ gb1074) (.slice Ao15 t1057.length co15) t1057) ∧ Zaa (Kd.N (Kd.slice 41 k41) 39 wc w.heap.size (fun k_ => some k_ ≠ ((.slice Ao15 t1057.length co15) : Value).ownBlock ∧ some k_ ≠ ((.slice Ao12 t1061.length co12) : Value).ownBlock ∧ some k_ ≠ ((.slice Ao13 t1064.length co13) : Value).ownBlock ∧ some k_ ≠ ((.slice Ao14 t1069.length co14) : Value).ownBlock ∧ k_ ≠ gb1056 ∧ k_ ≠ gb1074) v1077 t1076) ∧ Zaa (Kd.R (Kd.int .i64) 3 wc w.heap.size (fun k_ => some k_ ≠ ((.slice Ao13 t1064.length co13) : Value).ownBlock) (.slice Ao12 t1061.length co12) t1061) ∧ Zaa (Kd.R (Kd.int .i64) 3 wc w.heap.size (fun k_ => some k_ ≠ ((.slice Ao12 t1061.length co12) : Value).ownBlock) (.slice Ao13 t1064.length co13) t1064) ∧ Zaa (Kd.N (Kd.slice 3 (Kd.int .i64)) 23 wc w.heap.size (fun k_ => some k_ ≠ ((.slice Ao15 t1057.length co15) : Value).ownBlock ∧ some k_ ≠ (v1077 : Value).ownBlock ∧ some k_ ≠ ((.slice Ao12 t1061.length co12) : Value).ownBlock ∧ some k_ ≠ ((.slice Ao13 t1064.length co13) : Value).ownBlock ∧ k_ ≠ gb1056 ∧ k_ ≠ gb1074) (.slice Ao14 t1069.length co14) t1069) ∧ Zaa (wc.heap[gb1056]? = some (.cells #[(.slice A0_0 l0_0.length c0_0), .int .i64 a0_1, (.slice A0_2 l0_2.length c0_2), (.slice A0_3 l0_3.length c0_3), .int .i64 a0_4, .int .i64 a0_5, (.slice A0_6 l0_6.length c0_6), .int .i64 a0_7, (.slice A0_8 l0_8.length c0_8), (.slice A0_9 l0_9.length c0_9)] 27 (0, 0))) ∧ Zaa (wc.heap[gb1074]? = some (.cells #[.int .i64 t1060, (.slice Ao12 t1061.length co12), (.slice Ao13 t1064.length co13), .int .i64 t1067, .int .i64 t1068, (.slice Ao14 t1069.length co14), .int .i64 t1072] 25 (0, 0))) ∧ Zaa (Below w.heap.size w wc))
 case first =>
  have H := HC5.out
  clear HC5
  by_cases c17 : t1079 = true
  rotate_left
  ·replace c17 := Bool.eq_false_iff.mpr c17
   subst c17
   have H1 : (Zaf.j0 k t1057 t1076 false false t1060 t1061 t1064 t1067 t1068 t1069 t1072) = some r := by rw [if_neg (show ¬ (false = true) by decide)] at H; exact H
   clear H
   have H := H1
   clear H1
   have H' := Zaa.mk H
   clear H
   go_wp2
   go_meet
   case rel => exact ⟨_, (false), (by first | rfl | (simp; done) | (simp [*]; done)), H', ⟨by first | omega | exact Nat.le_refl _⟩, ⟨by (with_reducible repeat (first | apply Kd.Zby | apply Kd.Zbz | apply Kd.Zb3)); exact Kd.Zb7 HO1059.out (fun _ hk => ⟨hk.2, ⟨hk.1.1.1, ⟨hk.1.1.2.1, ⟨hk.1.1.2.2.1, ⟨hk.1.1.2.2.2, hk.1.2⟩⟩⟩⟩⟩)⟩, ⟨by (with_reducible repeat (first | apply Kd.Zby | apply Kd.Zbz | apply Kd.Zb3)); exact HO1078.out⟩, ⟨by (with_reducible repeat (first | apply Kd.Zan | apply Kd.Zam | apply Kd.Zar)); exact HO1063.out⟩, ⟨by (with_reducible repeat (first | apply Kd.Zan | apply Kd.Zam | apply Kd.Zar)); exact HO1066.out⟩, ⟨by (with_reducible repeat (first | apply Kd.Zby | apply Kd.Zbz | apply Kd.Zb3)); exact Kd.Zb7 HO1071.out (fun _ hk => ⟨hk.1.1.1, ⟨hk.2, ⟨hk.1.1.2.1, ⟨hk.1.1.2.2.1, ⟨hk.1.1.2.2.2, hk.1.2⟩⟩⟩⟩⟩)⟩, ⟨by (with_reducible repeat (first | refine Zae ?_ _ | refine Zag ?_ | refine Zad ?_ _)); exact BK1056.out⟩, ⟨by (with_reducible repeat (first | refine Zae ?_ _ | refine Zag ?_ | refine Zad ?_ _)); exact BK1074.out⟩, ⟨by repeat (first | (with_reducible first | exact HB.out | apply Zab | apply Za | apply Zac | refine Zai ?_ GE1056.out | refine Zai ?_ GE1074.out) | exact HB.out)⟩⟩
  subst c17
  have H1 : (Zaf.j0 k t1057 t1076 true ((t1076.length : Int) != (t1057.length : Int)) t1060 t1061 t1064 t1067 t1068 t1069 t1072) = some r := by rw [if_pos rfl] at H; exact H
  clear H
  have H := H1
  clear H1
  have H' := Zaa.mk H
  clear H
  obtain ⟨Ao18, co18, eo18⟩ := Kd.Zd6 HO1078.out
  subst eo18
  go_wp2
  go_meet
  case rel => exact ⟨_, (((t1076.length : Int) != (t1057.length : Int))), (by first | rfl | (simp; done) | (simp [*]; done)), H', ⟨by first | omega | exact Nat.le_refl _⟩, ⟨by (with_reducible repeat (first | apply Kd.Zby | apply Kd.Zbz | apply Kd.Zb3)); exact Kd.Zb7 HO1059.out (fun _ hk => ⟨hk.2, ⟨hk.1.1.1, ⟨hk.1.1.2.1, ⟨hk.1.1.2.2.1, ⟨hk.1.1.2.2.2, hk.1.2⟩⟩⟩⟩⟩)⟩, ⟨by (with_reducible repeat (first | apply Kd.Zby | apply Kd.Zbz | apply Kd.Zb3)); exact HO1078.out⟩, ⟨by (with_reducible repeat (first | apply Kd.Zan | apply Kd.Zam | apply Kd.Zar)); exact HO1063.out⟩, ⟨by (with_reducible repeat (first | apply Kd.Zan | apply Kd.Zam | apply Kd.Zar)); exact HO1066.out⟩, ⟨by (with_reducible repeat (first | apply Kd.Zby | apply Kd.Zbz | apply Kd.Zb3)); exact Kd.Zb7 HO1071.out (fun _ hk => ⟨hk.1.1.1, ⟨hk.2, ⟨hk.1.1.2.1, ⟨hk.1.1.2.2.1, ⟨hk.1.1.2.2.2, hk.1.2⟩⟩⟩⟩⟩)⟩, ⟨by (with_reducible repeat (first | refine Zae ?_ _ | refine Zag ?_ | refine Zad ?_ _)); exact BK1056.out⟩, ⟨by (with_reducible repeat (first | refine Zae ?_ _ | refine Zag ?_ | refine Zad ?_ _)); exact BK1074.out⟩, ⟨by repeat (first | (with_reducible first | exact HB.out | apply Zab | apply Za | apply Zac | refine Zai ?_ GE1056.out | refine Zai ?_ GE1074.out) | exact HB.out)⟩⟩
 case rest =>
  clear HC5
  try clear c1
  try clear p2
  try clear c3
  try clear c10
  try clear c13
  try clear c14
  try clear c17
  try clear hcz11_0
  try clear hcz11_1
  try clear hcz11_2
  try clear hcz11_3
  try clear hcz11_4
  try clear hcz11_5
  try clear hcz11_6
  try clear hcz7_0
  try clear hcz7_1
  try clear hcz7_2
  try clear hcz7_3
  try clear hcz7_4
  try clear hcz7_5
  try clear hcz7_6
  try clear hcz7_7
  try clear hcz7_8
  try clear hcz7_9
  try clear hfz11_0
  try clear hfz11_1
  try clear hfz11_2
  try clear hfz11_3
  try clear hfz11_4
  try clear hfz11_5
  try clear hfz11_6
  try clear hfz7_0
  try clear hfz7_1
  try clear hfz7_2
  try clear hfz7_3
  try clear hfz7_4
  try clear hfz7_5
  try clear hfz7_6
  try clear hfz7_7
  try clear hfz7_8
  try clear hfz7_9
  obtain ⟨kq, x34_4, rfl, HA, HJ4, HO_3, HO_6, HO_1075001, HO_1075002, HO_1075005, BK1056, BK1074, HB⟩ := hcut
  cases kq with
  | zero => exact absurd HA.out (by simp [Zaf.j0])
  | succ kj4 =>
   have H := HA.out
   clear HA
   simp only [Zaf.j0] at H
   by_cases c19 : x34_4 = true
   ·subst c19
    have H1 : (none) = some r := by rw [if_pos rfl] at H; exact H
    clear H
    have H := H1
    clear H1
    exact absurd H (by simp)
   replace c19 := Bool.eq_false_iff.mpr c19
   subst c19
   have H1 : (if t1079 = true then (if 0 < (t1061.length : Int) then (if 0 ≤ (rd t1061 0) then (if (rd t1061 0) < (t1076.length : Int) then ((Zao.f kj4 (Zc3 t1076 (rd t1061 0))).bind fun t1082 => (Zaf.l0 kj4 t1057 t1082 0 t1060 t1061 t1064 t1067 t1068 t1069 t1072)) else (none)) else (none)) else (none)) else (if 0 < (t1061.length : Int) then (if 0 ≤ (rd t1061 0) then (if (rd t1061 0) < (t1057.length : Int) then ((Zah.f kj4 (t1057.set ((rd t1061 0) : Int).toNat (([(⟨wrap64 ((t1061.length : Int) - 2), 50⟩ : S41)] : List (S41)))) t1060 t1061 t1064 t1067 t1068 t1069 t1072).bind fun bt1102 => (if bt1102.2 = true then (none) else (if (bt1102.1.length : Int) = 0 then ((Za1.f kj4).bind fun t1106 => (some t1106)) else (none)))) else (none)) else (none)) else (none))) = some r := by rw [if_neg (show ¬ (false = true) by decide)] at H; exact H
   clear H
   have H := H1
   clear H1
   by_cases c20 : t1079 = true
   rotate_left
   ·replace c20 := Bool.eq_false_iff.mpr c20
    subst c20
    have H1 : (if 0 < (t1061.length : Int) then (if 0 ≤ (rd t1061 0) then (if (rd t1061 0) < (t1057.length : Int) then ((Zah.f kj4 (t1057.set ((rd t1061 0) : Int).toNat (([(⟨wrap64 ((t1061.length : Int) - 2), 50⟩ : S41)] : List (S41)))) t1060 t1061 t1064 t1067 t1068 t1069 t1072).bind fun bt1102 => (if bt1102.2 = true then (none) else (if (bt1102.1.length : Int) = 0 then ((Za1.f kj4).bind fun t1106 => (some t1106)) else (none)))) else (none)) else (none)) else (none)) = some r := by rw [if_neg (show ¬ (false = true) by decide)] at H; exact H
    clear H
    have H := H1
    clear H1
    by_cases c53 : 0 < (t1061.length : Int)
    rotate_left
    ·rw [if_neg c53] at H
     exact absurd H (by simp)
    rw [if_pos c53] at H
    have c53b0 : decide (0 < (t1061.length : Int)) = true := decide_eq_true c53
    have c53b1 : decide (0 < t1061.length) = true := decide_eq_true (by omega)
    clear c53
    obtain ⟨y1098, hy1098⟩ : ∃ y_ : List (S41), y_ = (([(⟨wrap64 ((t1061.length : Int) - 2), 50⟩ : S41)] : List (S41))) := ⟨_, rfl⟩
    replace H : (if 0 ≤ (rd t1061 0) then (if (rd t1061 0) < (t1057.length : Int) then ((Zah.f kj4 (t1057.set ((rd t1061 0) : Int).toNat y1098) t1060 t1061 t1064 t1067 t1068 t1069 t1072).bind fun bt1102 => (if bt1102.2 = true then (none) else (if (bt1102.1.length : Int) = 0 then ((Za1.f kj4).bind fun t1106 => (some t1106)) else (none)))) else (none)) else (none)) = some r := by first | (rw [hy1098]; with_reducible exact H) | (have H2_ := (Option.bind_some _ _).symm.trans H; rw [hy1098]; with_reducible exact H2_) | (have H2_ := (Option.bind_some _ _).symm.trans H; with_reducible exact H2_) | with_reducible exact H | (rw [hy1098]; exact H) | exact H
    have Ny1098 := Zaa.mk hy1098
    clear hy1098
    by_cases c54 : 0 ≤ (rd t1061 0)
    rotate_left
    ·rw [if_neg c54] at H
     exact absurd H (by simp)
    rw [if_pos c54] at H
    have c54b0 : decide (0 ≤ (rd t1061 0)) = true := decide_eq_true c54
    clear c54
    by_cases c55 : (rd t1061 0) < (t1057.length : Int)
    rotate_left
    ·rw [if_neg c55] at H
     exact absurd H (by simp)
    rw [if_pos c55] at H
    have c55b0 : decide ((rd t1061 0) < (t1057.length : Int)) = true := decide_eq_true c55
    clear c55
    obtain ⟨y1101, hy1101⟩ : ∃ y_ : List (List (S41)), y_ = (t1057.set ((rd t1061 0) : Int).toNat y1098) := ⟨_, rfl⟩
    replace H : ((Zah.f kj4 y1101 t1060 t1061 t1064 t1067 t1068 t1069 t1072).bind fun bt1102 => (if bt1102.2 = true then (none) else (if (bt1102.1.length : Int) = 0 then ((Za1.f kj4).bind fun t1106 => (some t1106)) else (none)))) = some r := by first | (rw [hy1101]; with_reducible exact H) | (have H2_ := (Option.bind_some _ _).symm.trans H; rw [hy1101]; with_reducible exact H2_) | (have H2_ := (Option.bind_some _ _).symm.trans H; with_reducible exact H2_) | with_reducible exact H | (rw [hy1101]; exact H) | exact H
    have Ny1101 := Zaa.mk hy1101
    clear hy1101
    replace H := Option.bind_eq_some_iff.mp H
    obtain ⟨⟨t1102, t1105⟩, A570, H⟩ := H
    replace H : (if t1105 = true then (none) else (if (t1102.length : Int) = 0 then ((Za1.f kj4).bind fun t1106 => (some t1106)) else (none))) = some r := H
    have A57 := Zaa.mk A570
    clear A570
    by_cases c58 : t1105 = true
    ·subst c58
     have H1 : (none) = some r := by rw [if_pos rfl] at H; exact H
     clear H
     have H := H1
     clear H1
     exact absurd H (by simp)
    replace c58 := Bool.eq_false_iff.mpr c58
    subst c58
    have H1 : (if (t1102.length : Int) = 0 then ((Za1.f kj4).bind fun t1106 => (some t1106)) else (none)) = some r := by rw [if_neg (show ¬ (false = true) by decide)] at H; exact H
    clear H
    have H := H1
    clear H1
    by_cases c59 : (t1102.length : Int) = 0
    rotate_left
    ·rw [if_neg c59] at H
     exact absurd H (by simp)
    rw [if_pos c59] at H
    have c59b0 : ((t1102.length : Int) == 0) = true := beq_iff_eq.mpr c59
    have c59b1 : ((t1102.length : Int) != 0) = false := bne_eq_false_iff_eq.mpr c59
    clear c59
    replace H := Option.bind_eq_some_iff.mp H
    obtain ⟨t1106, A600, H⟩ := H
    replace H : (some t1106) = some r := H
    have A60 := Zaa.mk A600
    clear A600
    obtain rfl := Option.some.inj H
    try go_wp2
    have n0_ := Zaa.mk (Kd.Zb3 HO_3.out)
    have n1_ := Zaa.mk (Kd.Zb3 HO_6.out)
    have n2_ := Zaa.mk (Kd.Zar HO_1075001.out)
    have n3_ := Zaa.mk (Kd.Zar HO_1075002.out)
    have n4_ := Zaa.mk (Kd.Zb3 HO_1075005.out)
    have n5_ := Zaa.mk (Zag BK1056.out)
    have n6_ := Zaa.mk (Zag BK1074.out)
    have n7_ := Zaa.mk (Zac HB.out)
    clear HO_3
    clear HO_6
    clear HO_1075001
    clear HO_1075002
    clear HO_1075005
    clear BK1056
    clear BK1074
    clear HB
    have HO_3 := n0_
    have HO_6 := n1_
    have HO_1075001 := n2_
    have HO_1075002 := n3_
    have HO_1075005 := n4_
    have BK1056 := n5_
    have BK1074 := n6_
    have HB := n7_
    clear n0_ n1_ n2_ n3_ n4_ n5_ n6_ n7_
    have p1097 : 0 ≤ (0 : Int) := (by omega)
    have q1097 : 0 < (t1061.length : Int) := of_decide_eq_true (by first | (with_reducible assumption) | assumption)
    obtain ⟨ad1097, e1097, hx1097_0⟩ := Kd.Zb5 (Kd.Za7 HO_1075001.out).2.2 0 p1097 q1097
    cases e1097
    have qi1097 : (0 < t1061.length) = True := eq_true (by omega)
    (try rw [show ((0 : Int)).toNat = 0 from rfl] at hx1097_0)
    (try rw [Addr.add_zero'] at hx1097_0)
    replace p1097 := eq_true p1097
    replace q1097 := eq_true q1097
    refine Zd0 (n := 13) (S := fun w' => w'.cell? ⟨gb1074, 0, none⟩ = some (.int .i64 t1060) ∧ w'.cell? ⟨gb1074, 1, none⟩ = some (.slice (some ad1097) t1061.length co12) ∧ w'.cell? ⟨gb1074, 2, none⟩ = some (.slice Ao13 t1064.length co13) ∧ w'.cell? ⟨gb1074, 3, none⟩ = some (.int .i64 t1067) ∧ w'.cell? ⟨gb1074, 4, none⟩ = some (.int .i64 t1068) ∧ w'.cell? ⟨gb1074, 5, none⟩ = some (.slice Ao14 t1069.length co14) ∧ w'.cell? ⟨gb1074, 6, none⟩ = some (.int .i64 t1072) ∧ w'.cell? ad1097 = some (.int .i64 (rd t1061 0))) (ds := [12]) #[false, false, false, false, false, false, false, false, false, false, false, false, false] (by kernel_rfl) rfl rfl ⟨(Zas BK1074.out 0).trans rfl, (Zas BK1074.out 1).trans rfl, (Zas BK1074.out 2).trans rfl, (Zas BK1074.out 3).trans rfl, (Zas BK1074.out 4).trans rfl, (Zas BK1074.out 5).trans rfl, (Zas BK1074.out 6).trans rfl, hx1097_0⟩ (fun hHeld => ?_); refine Zcx Zaf.tab14 Zaf.bits14 (fun HT_ HW_ => ?_)
    generalize wc.drew = w61 at HO_3 HO_6 HO_1075001 HO_1075002 HO_1075005 BK1056 BK1074 HB hx1097_0 hHeld ⊢
    refine Zbk (i := 0) (N := some 66) (v := ?_) (a' := ?_) #[true, false, false, false, false, false, false, false, false, false, false, false, false] rfl rfl (Za8 HT_.out (by kernel_rfl)) (fun _ _ _ h => h) (Or.inl ⟨by rfl, ?_⟩) ?_ ?_
    rotate_left
    ·intro w'
     go_simp
     with_reducible rfl
    rotate_left
    ·simp only [Act.put, List.setIfInBounds_toArray, List.set_cons_zero, List.set_cons_succ, Zbb, Zbc]
     rfl
    refine Zbk (i := 1) (N := some 67) (v := ?_) (a' := ?_) #[true, true, false, false, false, false, false, false, false, false, false, false, false] rfl rfl (Za8 HT_.out (by kernel_rfl)) (fun _ _ _ h => h) (Or.inl ⟨by rfl, ?_⟩) ?_ ?_
    rotate_left
    ·intro w'
     go_simp
     with_reducible rfl
    rotate_left
    ·simp only [Act.put, List.setIfInBounds_toArray, List.set_cons_zero, List.set_cons_succ, Zbb, Zbc]
     rfl
    refine Zbk (i := 5) (N := some 71) (v := ?_) (a' := ?_) #[true, true, false, false, false, true, false, false, false, false, false, false, false] rfl rfl (Za8 HT_.out (by kernel_rfl)) (fun _ _ _ h => h) (Or.inl ⟨by rfl, ?_⟩) ?_ ?_
    rotate_left
    ·intro w'
     go_simp
     with_reducible rfl
    rotate_left
    ·simp only [Act.put, List.setIfInBounds_toArray, List.set_cons_zero, List.set_cons_succ, Zbb, Zbc]
     rfl
    refine Zdg (i := 2) (N := some 68) (v := ?_) (a' := ?_) #[true, true, true, false, false, true, false, false, false, false, false, false, false] rfl rfl (Zcb HT_.out HW_.out (by kernel_rfl)) (fun _ _ _ h => h) (Or.inl ⟨by rfl, ?_⟩) hHeld ?_ ?_
    rotate_left
    ·rintro w' ⟨s0, s1, s2, s3, s4, s5, s6, s7⟩
     go_simp
     with_reducible rfl
    rotate_left
    ·simp only [Act.put, List.setIfInBounds_toArray, List.set_cons_zero, List.set_cons_succ, Zbb, Zbc]
     rfl
    refine Zbk (i := 3) (N := some 69) (v := ?_) (a' := ?_) #[true, true, true, true, false, true, false, false, false, false, false, false, false] rfl rfl (Za8 HT_.out (by kernel_rfl)) (fun _ _ _ h => h) (Or.inl ⟨by rfl, ?_⟩) ?_ ?_
    rotate_left
    ·intro w'
     go_simp
     with_reducible rfl
    rotate_left
    ·simp only [Act.put, List.setIfInBounds_toArray, List.set_cons_zero, List.set_cons_succ, Zbb, Zbc]
     rfl
    refine Zdg (i := 4) (N := some 70) (v := ?_) (a' := ?_) #[true, true, true, true, true, true, false, false, false, false, false, false, false] rfl rfl (Zcb HT_.out HW_.out (by kernel_rfl)) (fun _ _ _ h => h) (Or.inl ⟨by rfl, ?_⟩) hHeld ?_ ?_
    rotate_left
    ·rintro w' ⟨s0, s1, s2, s3, s4, s5, s6, s7⟩
     go_simp
     with_reducible rfl
    rotate_left
    ·simp only [Act.put, List.setIfInBounds_toArray, List.set_cons_zero, List.set_cons_succ, Zbb, Zbc]
     rfl
    refine Zdg (i := 6) (N := some 72) (v := ?_) (a' := ?_) #[true, true, true, true, true, true, true, false, false, false, false, false, false] rfl rfl (Zcb HT_.out HW_.out (by kernel_rfl)) (fun _ _ _ h => h) (Or.inl ⟨by rfl, ?_⟩) hHeld ?_ ?_
    rotate_left
    ·rintro w' ⟨s0, s1, s2, s3, s4, s5, s6, s7⟩
     go_simp
     with_reducible rfl
    rotate_left
    ·simp only [Act.put, List.setIfInBounds_toArray, List.set_cons_zero, List.set_cons_succ, Zbb, Zbc]
     rfl
    refine Zbk (i := 7) (N := some 73) (v := ?_) (a' := ?_) #[true, true, true, true, true, true, true, true, false, false, false, false, false] rfl rfl (Za8 HT_.out (by kernel_rfl)) (fun _ _ _ h => h) (Or.inl ⟨by rfl, ?_⟩) ?_ ?_
    rotate_left
    ·intro w'
     go_simp
     with_reducible rfl
    rotate_left
    ·simp only [Act.put, List.setIfInBounds_toArray, List.set_cons_zero, List.set_cons_succ, Zbb, Zbc]
     rfl
    refine Zbk (i := 8) (N := some 74) (v := ?_) (a' := ?_) #[true, true, true, true, true, true, true, true, true, false, false, false, false] rfl rfl (Za8 HT_.out (by kernel_rfl)) (fun _ _ _ h => h) (Or.inl ⟨by rfl, ?_⟩) ?_ ?_
    rotate_left
    ·intro w'
     go_simp
     with_reducible rfl
    rotate_left
    ·simp only [Act.put, List.setIfInBounds_toArray, List.set_cons_zero, List.set_cons_succ, Zbb, Zbc]
     rfl
    refine Zbk (i := 9) (N := some 75) (v := ?_) (a' := ?_) #[true, true, true, true, true, true, true, true, true, true, false, false, false] rfl rfl (Za8 HT_.out (by kernel_rfl)) (fun _ _ _ h => h) (Or.inl ⟨by rfl, ?_⟩) ?_ ?_
    rotate_left
    ·intro w'
     go_simp
     with_reducible rfl
    rotate_left
    ·simp only [Act.put, List.setIfInBounds_toArray, List.set_cons_zero, List.set_cons_succ, Zbb, Zbc]
     rfl
    refine one_ (i := 10) (N := some 76) #[true, true, true, true, true, true, true, true, true, true, true, false, false] rfl rfl (Zdw HT_.out (by kernel_rfl)) (by decide) (fun K hK => ?_)
    refine Kd.Zgn k41 _ 41 ?hg (N := 76) ?hd (xs := ([(⟨wrap64 ((t1061.length : Int) - 2), 50⟩ : S41)] : List (S41))) (inner := [.int .i64 (wrap64 ((t1061.length : Int) - 2)), .int .i64 50]) (ok := fun _ => True) (okp := fun _ => True) ?hr ?hp (fun _ hk => hk) trivial (Below.refl _ _) (Nat.le_refl _) (by simp) ?_; (case hd => rfl); (case hg => rfl); (case hr => first | (go_simp; done) | (go_simp; rfl)); (case hp => exact (Reps.c2 (show Kd.M k41 _ _ _ (⟨wrap64 ((t1061.length : Int) - 2), 50⟩ : S41) [.int .i64 (wrap64 ((t1061.length : Int) - 2)), .int .i64 50] from (Zcm _ _ _ (⟨wrap64 ((t1061.length : Int) - 2), 50⟩ : S41) )) (Reps.none _ _)))
    intro v1099 w62 ho63 hb hg_ hnew_
    have HS7_ := (hb.cell (World.block_lt_of_cell? _ _ (hHeld.2.2.2.2.2.2.2))).trans (hHeld.2.2.2.2.2.2.2)
    clear hg_ hnew_
    (first | rw [← Ny1098.out] at ho63 | (simp only [Int.reduceToNat] at ho63; rw [← Ny1098.out] at ho63))
    obtain ⟨Av1099, cv1099, ev1099⟩ := Kd.Zbo ho63
    subst ev1099
    have n0_ := Zaa.mk (Kd.Zb8 (mvN HO_3.out) (Kd.Zb4 ho63) hb)
    have n1_ := Zaa.mk (Kd.Zb8 (mvN HO_6.out) (Kd.Zb4 ho63) hb)
    have n2_ := Zaa.mk (Kd.Zbv (mvR HO_1075001.out) hb)
    have n3_ := Zaa.mk (Kd.Zbv (mvR HO_1075002.out) hb)
    have n4_ := Zaa.mk (Kd.Zb8 (mvN HO_1075005.out) (Kd.Zb4 ho63) hb)
    have n5_ := Zaa.mk (Kd.Zb1 ho63 (Zal (mvB HB.out)))
    have n6_ := Zaa.mk (Zba (g := gb1056) (o := .cells #[.slice A0_0 l0_0.length c0_0, .int .i64 a0_1, .slice A0_2 l0_2.length c0_2, .slice A0_3 l0_3.length c0_3, .int .i64 a0_4, .int .i64 a0_5, .slice A0_6 l0_6.length c0_6, .int .i64 a0_7, .slice A0_8 l0_8.length c0_8, .slice A0_9 l0_9.length c0_9] 27 (0, 0)) (mvK BK1056.out) hb)
    have n7_ := Zaa.mk (Zba (g := gb1074) (o := .cells #[.int .i64 t1060, .slice (some ad1097) t1061.length co12, .slice Ao13 t1064.length co13, .int .i64 t1067, .int .i64 t1068, .slice Ao14 t1069.length co14, .int .i64 t1072] 25 (0, 0)) (mvK BK1074.out) hb)
    have n8_ := Zaa.mk (Zay (mvB HB.out) hb)
    clear HO_3
    clear HO_6
    clear HO_1075001
    clear HO_1075002
    clear HO_1075005
    clear BK1056
    clear BK1074
    clear HB
    have HO_3 := n0_
    have HO_6 := n1_
    have HO_1075001 := n2_
    have HO_1075002 := n3_
    have HO_1075005 := n4_
    have HO1100 := n5_
    have BK1056 := n6_
    have BK1074 := n7_
    have HB := n8_
    clear n0_ n1_ n2_ n3_ n4_ n5_ n6_ n7_ n8_
    clear hb ho63
    have p56 : 0 ≤ ((rd t1061 0) : Int) := of_decide_eq_true (by first | (with_reducible assumption) | assumption)
    have q56 : ((rd t1061 0) : Int) < ((t1057.length : Int) : Int) := of_decide_eq_true (by first | (with_reducible assumption) | assumption)
    obtain ⟨go56, co56, eo56, gb56, gl56, cl56, HG56⟩ := Kd.N_form HO_3.out (by omega)
    (first | cases eo56 | (injection eo56 with ea_ en_ ec_; (first | subst ea_ | (injection ea_ with ea_; subst ea_)); subst ec_; clear en_))
    have GB56 := Zaa.mk gb56
    have GG56 := Zaa.mk HG56
    clear gb56 gl56 HG56
    obtain ⟨ce56, hcl56, hM56, hcc56, hfr56⟩ := Kd.Zfw HO_3.out [] ((rd t1061 0) : Int) p56 q56
    obtain ⟨ua56_0, uc56_0, rfl, ul56_0, ge56_0⟩ := Kd.Zc4 hM56
    have hx56_0 := hcc56 0 _ rfl
    have hf56_0 := hfr56 0
    (try simp only [show ((Kd.slice 41 k41)).sz = 1 from rfl, Nat.mul_one, Nat.add_zero] at hx56_0)
    (try simp only [show ((Kd.slice 41 k41)).sz = 1 from rfl, Nat.mul_one, Nat.add_zero] at hf56_0)
    (try clear hM56); clear hcl56 hcc56 hfr56
    replace p56 := eq_true p56
    replace q56 := eq_true q56
    have HX64 := Zaa.mk (show Kd.N (Kd.slice 41 k41) 39 _ w.heap.size (fun k_ => some k_ ≠ (v1077 : Value).ownBlock ∧ some k_ ≠ (.slice (some ad1097) t1061.length co12 : Value).ownBlock ∧ some k_ ≠ (.slice Ao13 t1064.length co13 : Value).ownBlock ∧ some k_ ≠ (.slice Ao14 t1069.length co14 : Value).ownBlock ∧ some k_ ≠ ((.slice Av1099 y1098.length cv1099) : Value).ownBlock ∧ k_ ≠ gb1056 ∧ k_ ≠ gb1074) (.slice (some ⟨go56, 0, none⟩) t1057.length co15) t1057 from (Kd.Zb7 (HO_3.out) (fun k_ hk => ⟨hk.1.1, ⟨hk.1.2.1, ⟨hk.1.2.2.1, ⟨hk.1.2.2.2.1, ⟨hk.2, ⟨hk.1.2.2.2.2.1, hk.1.2.2.2.2.2⟩⟩⟩⟩⟩⟩)))
    replace HX64 := Zaa.mk (show Kd.N (Kd.slice 41 k41) 39 _ w.heap.size (fun k_ => some k_ ≠ (v1077 : Value).ownBlock ∧ some k_ ≠ (.slice (some ad1097) t1061.length co12 : Value).ownBlock ∧ some k_ ≠ (.slice Ao13 t1064.length co13 : Value).ownBlock ∧ some k_ ≠ (.slice Ao14 t1069.length co14 : Value).ownBlock ∧ k_ ≠ gb1056 ∧ k_ ≠ gb1074) (.slice (some ⟨go56, 0, none⟩) t1057.length co15) t1057 from Kd.Zb7 HX64.out (fun k_ hk => ⟨hk.1, ⟨hk.2.1, ⟨hk.2.2.1, ⟨hk.2.2.2.1, ⟨hk.2.2.2.2.2.1, hk.2.2.2.2.2.2⟩⟩⟩⟩⟩))
    obtain ⟨ce64, hcl64, hM64, hcc64, hfr64⟩ := Kd.Zfw HX64.out [] ((rd t1061 0) : Int) (of_decide_eq_true (by first | (with_reducible assumption) | assumption)) (by have h_ : ((rd t1061 0) : Int) < ((t1057.length : Int) : Int) := of_decide_eq_true (by first | (with_reducible assumption) | assumption); first | exact h_ | (have e_ := (Kd.Zb9 HO_3.out).1; omega) | simpa using h_)
    obtain ⟨ua64_0, uc64_0, rfl, ul64_0, ge64_0⟩ := Kd.Zc4 hM64
    have HP64 := (Kd.N_seg HX64.out ((rd t1061 0) : Int) (of_decide_eq_true (by first | (with_reducible assumption) | assumption)) (by have h_ : ((rd t1061 0) : Int) < ((t1057.length : Int) : Int) := of_decide_eq_true (by first | (with_reducible assumption) | assumption); first | exact h_ | (have e_ := (Kd.Zb9 HO_3.out).1; omega) | simpa using h_) (seg := [(.slice Av1099 y1098.length cv1099)]) (j := 0) hcl64 hcc64 (show 1 ≤ 1 from by decide) (x' := y1098) (by obtain ⟨Aq_, cq_, eq_⟩ := Kd.Zbo HO1100.out; (try subst eq_); exact Kd.Zcu (Kd.Za7 (Kd.Zbe (ok' := (fun k_ => ((fun k_ => some k_ ≠ (v1077 : Value).ownBlock ∧ some k_ ≠ (.slice (some ad1097) t1061.length co12 : Value).ownBlock ∧ some k_ ≠ (.slice Ao13 t1064.length co13 : Value).ownBlock ∧ some k_ ≠ (.slice Ao14 t1069.length co14 : Value).ownBlock ∧ k_ ≠ gb1056 ∧ k_ ≠ gb1074)) k_ ∧ k_ ≠ go56)) (Kd.Zbs (Kd.Zbs (Kd.Zbl (Kd.Zbl (Kd.Zbl (Kd.Zbl (Kd.Zbl (HO1100.out) (Kd.Zca HO_6.out) (by decide)) (Kd.Zco HO_1075001.out) (by decide)) (Kd.Zco HO_1075002.out) (by decide)) (Kd.Zca HO_1075005.out) (by decide)) (Kd.Zca HO_3.out) (by decide)) BK1056.out (by decide)) BK1074.out (by decide)) (fun k_ hk => ⟨⟨hk.1.1.1.1.1.1.2, ⟨hk.1.1.1.1.1.2, ⟨hk.1.1.1.1.2, ⟨hk.1.1.1.2, ⟨hk.1.2, hk.2⟩⟩⟩⟩⟩, fun e_ => (hk.1.1.2) (by rw [e_]; rfl)⟩))).2.1 (Kd.R_F (Kd.Zbe (ok' := (fun k_ => ((fun k_ => some k_ ≠ (v1077 : Value).ownBlock ∧ some k_ ≠ (.slice (some ad1097) t1061.length co12 : Value).ownBlock ∧ some k_ ≠ (.slice Ao13 t1064.length co13 : Value).ownBlock ∧ some k_ ≠ (.slice Ao14 t1069.length co14 : Value).ownBlock ∧ k_ ≠ gb1056 ∧ k_ ≠ gb1074)) k_ ∧ k_ ≠ go56)) (Kd.Zbs (Kd.Zbs (Kd.Zbl (Kd.Zbl (Kd.Zbl (Kd.Zbl (Kd.Zbl (HO1100.out) (Kd.Zca HO_6.out) (by decide)) (Kd.Zco HO_1075001.out) (by decide)) (Kd.Zco HO_1075002.out) (by decide)) (Kd.Zca HO_1075005.out) (by decide)) (Kd.Zca HO_3.out) (by decide)) BK1056.out (by decide)) BK1074.out (by decide)) (fun k_ hk => ⟨⟨hk.1.1.1.1.1.1.2, ⟨hk.1.1.1.1.1.2, ⟨hk.1.1.1.1.2, ⟨hk.1.1.1.2, ⟨hk.1.2, hk.2⟩⟩⟩⟩⟩, fun e_ => (hk.1.1.2) (by rw [e_]; rfl)⟩)))) (fun _ hk => hk)).1
    (try simp only [show ((Kd.slice 41 k41)).sz = 1 from rfl, Nat.mul_one, Nat.add_zero] at HP64)
    rw [← Ny1101.out] at HP64
    have HQ64 := Zaa.mk HP64
    (try clear hM64); clear hcl64 hcc64 hfr64 HP64
    refine hK.out _ _ ⟨(Zas BK1074.out 0).trans rfl, (Zas BK1074.out 1).trans rfl, (Zas BK1074.out 2).trans rfl, (Zas BK1074.out 3).trans rfl, (Zas BK1074.out 4).trans rfl, (Zas BK1074.out 5).trans rfl, (Zas BK1074.out 6).trans rfl, HS7_⟩ (fun hHeld => ?_)
    clear hK K
    refine Zg (a' := ?_) ?_ ?_
    rotate_left
    ·show Act.put _ (some 76) _ = _
     simp only [Act.put, List.setIfInBounds_toArray, List.set_cons_zero, List.set_cons_succ, Zbb, Zbc]
     rfl
    refine Zbk (i := 11) (N := some 77) (v := ?_) (a' := ?_) #[true, true, true, true, true, true, true, true, true, true, true, true, false] rfl rfl (Za8 HT_.out (by kernel_rfl)) (fun _ _ _ h => h) (Or.inl ⟨by rfl, ?_⟩) ?_ ?_
    rotate_left
    ·intro w'
     go_simp
     with_reducible rfl
    rotate_left
    ·simp only [Act.put, List.setIfInBounds_toArray, List.set_cons_zero, List.set_cons_succ, Zbb, Zbc]
     rfl
    refine last_ (i := 12) (N := none) #[true, true, true, true, true, true, true, true, true, true, true, true, true] rfl rfl (Zdw HT_.out (by kernel_rfl)) (by decide) (fun K hK => ?_)
    refine skip_ (w1 := ?_) (by rfl) rfl ?_ ?_
    rotate_left
    ·go_simp
     rfl
    refine hK.out _ _ ?_
    clear hK K
    refine Ze0 (Zdk HT_.out (by kernel_rfl)) ?_
    have hnb65 := NB1074_1056.out
    have hnc65 := NB1056_1074.out
    have hcz66_0 : w62.cell? ⟨gb1074, 0, none⟩ = some (.int .i64 t1060) := (Zas BK1074.out 0).trans rfl
    have hbz_1074 := Zbt (p := ⟨go56, ((rd t1061 0) : Int).toNat, none⟩) BK1074.out (show gb1074 ≠ go56 from (by have h_ := Kd.Zev HQ64.out (fun _ hk => hk.2.2.2.2.2); intro e_; exact h_ (by rw [e_]; rfl))) (.slice Av1099 y1098.length cv1099)
    have hzz_1074_0 : (w62.setCell ⟨go56, ((rd t1061 0) : Int).toNat, none⟩ (.slice Av1099 y1098.length cv1099)).cell? ⟨gb1074, 0, none⟩ = some (.int .i64 t1060) := (Zas hbz_1074 0).trans rfl
    have hcz66_1 : w62.cell? ⟨gb1074, 1, none⟩ = some (.slice (some ad1097) t1061.length co12) := (Zas BK1074.out 1).trans rfl
    have hzz_1074_1 : (w62.setCell ⟨go56, ((rd t1061 0) : Int).toNat, none⟩ (.slice Av1099 y1098.length cv1099)).cell? ⟨gb1074, 1, none⟩ = some (.slice (some ad1097) t1061.length co12) := (Zas hbz_1074 1).trans rfl
    have hcz66_2 : w62.cell? ⟨gb1074, 2, none⟩ = some (.slice Ao13 t1064.length co13) := (Zas BK1074.out 2).trans rfl
    have hzz_1074_2 : (w62.setCell ⟨go56, ((rd t1061 0) : Int).toNat, none⟩ (.slice Av1099 y1098.length cv1099)).cell? ⟨gb1074, 2, none⟩ = some (.slice Ao13 t1064.length co13) := (Zas hbz_1074 2).trans rfl
    have hcz66_3 : w62.cell? ⟨gb1074, 3, none⟩ = some (.int .i64 t1067) := (Zas BK1074.out 3).trans rfl
    have hzz_1074_3 : (w62.setCell ⟨go56, ((rd t1061 0) : Int).toNat, none⟩ (.slice Av1099 y1098.length cv1099)).cell? ⟨gb1074, 3, none⟩ = some (.int .i64 t1067) := (Zas hbz_1074 3).trans rfl
    have hcz66_4 : w62.cell? ⟨gb1074, 4, none⟩ = some (.int .i64 t1068) := (Zas BK1074.out 4).trans rfl
    have hzz_1074_4 : (w62.setCell ⟨go56, ((rd t1061 0) : Int).toNat, none⟩ (.slice Av1099 y1098.length cv1099)).cell? ⟨gb1074, 4, none⟩ = some (.int .i64 t1068) := (Zas hbz_1074 4).trans rfl
    have hcz66_5 : w62.cell? ⟨gb1074, 5, none⟩ = some (.slice Ao14 t1069.length co14) := (Zas BK1074.out 5).trans rfl
    have hzz_1074_5 : (w62.setCell ⟨go56, ((rd t1061 0) : Int).toNat, none⟩ (.slice Av1099 y1098.length cv1099)).cell? ⟨gb1074, 5, none⟩ = some (.slice Ao14 t1069.length co14) := (Zas hbz_1074 5).trans rfl
    have hcz66_6 : w62.cell? ⟨gb1074, 6, none⟩ = some (.int .i64 t1072) := (Zas BK1074.out 6).trans rfl
    have hzz_1074_6 : (w62.setCell ⟨go56, ((rd t1061 0) : Int).toNat, none⟩ (.slice Av1099 y1098.length cv1099)).cell? ⟨gb1074, 6, none⟩ = some (.int .i64 t1072) := (Zas hbz_1074 6).trans rfl
    have hfz66_0 := Zbi BK1074.out 0
    have hfz66_1 := Zbi BK1074.out 1
    have hfz66_2 := Zbi BK1074.out 2
    have hfz66_3 := Zbi BK1074.out 3
    have hfz66_4 := Zbi BK1074.out 4
    have hfz66_5 := Zbi BK1074.out 5
    have hfz66_6 := Zbi BK1074.out 6
    try go_wp2_with (first | ((with_reducible refine Zbq (f := 35) rfl ?_); refine Zcp (some 81) rfl rfl Try.func35 (by kernel_rfl) rfl #[.slice (some ⟨go56, 0, none⟩) y1101.length co15, .agg #[.int .i64 t1060, .slice (some ad1097) t1061.length co12, .slice Ao13 t1064.length co13, .int .i64 t1067, .int .i64 t1068, .slice Ao14 t1069.length co14, .int .i64 t1072]] rfl (by (try simp only [List.map_toArray, List.map_cons, List.map_nil]); first | done | (rw [show y1101.length = t1057.length from (Kd.Zb9 HQ64.out).1.symm] <;> rfl) | rfl | (simp only [List.length_drop, List.length_take]; rfl)) ?_; (with_reducible refine (Zah.calls kj4 _ _ y1101 t1060 _ _ t1061 _ _ t1064 t1067 t1068 _ _ t1069 t1072 t1102 false _ ?side1 ?side2 ?side3 ?side4 ?side5 ?side6 ?side7 ?side8 A57.out).mono ?_); (case side1 => refine (Kd.Zb9 (e := 39) (base := w.heap.size) (ok := fun k_ => (some k_ ≠ (v1077 : Value).ownBlock ∧ (some k_ ≠ (.slice (some ad1097) t1061.length co12 : Value).ownBlock ∧ (some k_ ≠ (.slice Ao13 t1064.length co13 : Value).ownBlock ∧ (some k_ ≠ (.slice Ao14 t1069.length co14 : Value).ownBlock ∧ (k_ ≠ gb1056 ∧ k_ ≠ gb1074)))))) (n := t1057.length) (c := co15) ?_).2.2; exact (by (with_reducible repeat (first | apply Kd.Zby | apply Kd.Zbz | apply Kd.Zb3)); exact HQ64.out)); (case side2 => rw [show y1101.length = t1057.length from (Kd.Zb9 HQ64.out).1.symm]; exact (Kd.Zb9 HO_3.out).2.1); (case side3 => refine (Kd.Za7 (e := 3) (base := w.heap.size) (ok := fun k_ => some k_ ≠ (.slice Ao13 t1064.length co13 : Value).ownBlock) (n := t1061.length) (c := co12) ?_).2.2; exact (by (with_reducible repeat (first | apply Kd.Zan | apply Kd.Zam | apply Kd.Zar)); exact (Kd.Zbe (Kd.Zbg (p := ⟨go56, ((rd t1061 0) : Int).toNat, none⟩) (Kd.Zbs HO_1075001.out GG56.out (by decide)) (fun _ hk => hk.2) ((.slice Av1099 y1098.length cv1099))) (fun _ h_ => h_.1)))); (case side4 => exact (Kd.Za7 HO_1075001.out).2.1); (case side5 => refine (Kd.Za7 (e := 3) (base := w.heap.size) (ok := fun k_ => some k_ ≠ (.slice (some ad1097) t1061.length co12 : Value).ownBlock) (n := t1064.length) (c := co13) ?_).2.2; exact (by (with_reducible repeat (first | apply Kd.Zan | apply Kd.Zam | apply Kd.Zar)); exact (Kd.Zbe (Kd.Zbg (p := ⟨go56, ((rd t1061 0) : Int).toNat, none⟩) (Kd.Zbs HO_1075002.out GG56.out (by decide)) (fun _ hk => hk.2) ((.slice Av1099 y1098.length cv1099))) (fun _ h_ => h_.1)))); (case side6 => exact (Kd.Za7 HO_1075002.out).2.1); (case side7 => refine (Kd.Zb9 (e := 23) (base := w.heap.size) (ok := fun k_ => ((some k_ ≠ (.slice (some ⟨go56, 0, none⟩) t1057.length co15 : Value).ownBlock ∧ (some k_ ≠ (v1077 : Value).ownBlock ∧ (some k_ ≠ (.slice (some ad1097) t1061.length co12 : Value).ownBlock ∧ (some k_ ≠ (.slice Ao13 t1064.length co13 : Value).ownBlock ∧ (k_ ≠ gb1056 ∧ k_ ≠ gb1074))))) ∧ some k_ ≠ ((.slice Av1099 y1098.length cv1099) : Value).ownBlock)) (n := t1069.length) (c := co14) ?_).2.2; exact (by (with_reducible repeat (first | apply Kd.Zby | apply Kd.Zbz | apply Kd.Zb3)); exact (Kd.Zb7 (Kd.Zc (p := ⟨go56, ((rd t1061 0) : Int).toNat, none⟩) (Kd.Zb7 HO_1075005.out (fun k_ hk => (⟨hk, fun e_ => hk.1.1 (by rw [e_]; rfl)⟩ : _ ∧ k_ ≠ go56))) (fun _ hk => hk.2) ((.slice Av1099 y1098.length cv1099))) (fun _ h_ => h_.1)))); (case side8 => exact (Kd.Zb9 HO_1075005.out).2.1); rintro e w67 ⟨v1103, rfl, ho0, hb⟩; refine ⟨_, rfl, ?_⟩; have n0_ := Zaa.mk (Kd.Zb8 (by (with_reducible repeat (first | apply Kd.Zby | apply Kd.Zbz | apply Kd.Zb3)); exact HQ64.out) (by first | exact Kd.Zd8 ho0 | exact Kd.Zew ho0 | exact Kd.Zb4 ho0) hb); have n1_ := Zaa.mk (Kd.Zb8 (by (with_reducible repeat (first | apply Kd.Zby | apply Kd.Zbz | apply Kd.Zb3)); exact (Kd.Zb7 (Kd.Zc (p := ⟨go56, ((rd t1061 0) : Int).toNat, none⟩) (Kd.Zb7 HO_6.out (fun k_ hk => (⟨hk, fun e_ => hk.1.1 (by rw [e_]; rfl)⟩ : _ ∧ k_ ≠ go56))) (fun _ hk => hk.2) ((.slice Av1099 y1098.length cv1099))) (fun _ h_ => h_.1))) (by first | exact Kd.Zd8 ho0 | exact Kd.Zew ho0 | exact Kd.Zb4 ho0) hb); have n2_ := Zaa.mk (Kd.Zbv (by (with_reducible repeat (first | apply Kd.Zan | apply Kd.Zam | apply Kd.Zar)); exact (Kd.Zbe (Kd.Zbg (p := ⟨go56, ((rd t1061 0) : Int).toNat, none⟩) (Kd.Zbs HO_1075001.out GG56.out (by decide)) (fun _ hk => hk.2) ((.slice Av1099 y1098.length cv1099))) (fun _ h_ => h_.1))) hb); have n3_ := Zaa.mk (Kd.Zbv (by (with_reducible repeat (first | apply Kd.Zan | apply Kd.Zam | apply Kd.Zar)); exact (Kd.Zbe (Kd.Zbg (p := ⟨go56, ((rd t1061 0) : Int).toNat, none⟩) (Kd.Zbs HO_1075002.out GG56.out (by decide)) (fun _ hk => hk.2) ((.slice Av1099 y1098.length cv1099))) (fun _ h_ => h_.1))) hb); have n4_ := Zaa.mk (Kd.Zb8 (by (with_reducible repeat (first | apply Kd.Zby | apply Kd.Zbz | apply Kd.Zb3)); exact (Kd.Zb7 (Kd.Zc (p := ⟨go56, ((rd t1061 0) : Int).toNat, none⟩) (Kd.Zb7 HO_1075005.out (fun k_ hk => (⟨hk, fun e_ => hk.1.1 (by rw [e_]; rfl)⟩ : _ ∧ k_ ≠ go56))) (fun _ hk => hk.2) ((.slice Av1099 y1098.length cv1099))) (fun _ h_ => h_.1))) (by first | exact Kd.Zd8 ho0 | exact Kd.Zew ho0 | exact Kd.Zb4 ho0) hb); have n5_ := Zaa.mk (Kd.Zdy (Kd.Zb7 (ok' := fun k_ => some k_ ≠ (.slice (some ⟨go56, 0, none⟩) t1057.length co15 : Value).ownBlock ∧ some k_ ≠ (v1077 : Value).ownBlock ∧ some k_ ≠ (.slice (some ad1097) t1061.length co12 : Value).ownBlock ∧ some k_ ≠ (.slice Ao13 t1064.length co13 : Value).ownBlock ∧ some k_ ≠ (.slice Ao14 t1069.length co14 : Value).ownBlock ∧ k_ ≠ gb1056 ∧ k_ ≠ gb1074) (Kd.S_N (Kd.Zd7 ho0)) (fun k_ hk_ => ⟨(Kd.fresh' (Kd.N_lt (by (with_reducible repeat (first | apply Kd.Zby | apply Kd.Zbz | apply Kd.Zb3)); exact HQ64.out)) k_ hk_.2.1), (Kd.fresh' (Kd.N_lt (by (with_reducible repeat (first | apply Kd.Zby | apply Kd.Zbz | apply Kd.Zb3)); exact (Kd.Zb7 (Kd.Zc (p := ⟨go56, ((rd t1061 0) : Int).toNat, none⟩) (Kd.Zb7 HO_6.out (fun k_ hk => (⟨hk, fun e_ => hk.1.1 (by rw [e_]; rfl)⟩ : _ ∧ k_ ≠ go56))) (fun _ hk => hk.2) ((.slice Av1099 y1098.length cv1099))) (fun _ h_ => h_.1)))) k_ hk_.2.1), (Kd.fresh' (Kd.R_lt (by (with_reducible repeat (first | apply Kd.Zan | apply Kd.Zam | apply Kd.Zar)); exact (Kd.Zbe (Kd.Zbg (p := ⟨go56, ((rd t1061 0) : Int).toNat, none⟩) (Kd.Zbs HO_1075001.out GG56.out (by decide)) (fun _ hk => hk.2) ((.slice Av1099 y1098.length cv1099))) (fun _ h_ => h_.1)))) k_ hk_.2.1), (Kd.fresh' (Kd.R_lt (by (with_reducible repeat (first | apply Kd.Zan | apply Kd.Zam | apply Kd.Zar)); exact (Kd.Zbe (Kd.Zbg (p := ⟨go56, ((rd t1061 0) : Int).toNat, none⟩) (Kd.Zbs HO_1075002.out GG56.out (by decide)) (fun _ hk => hk.2) ((.slice Av1099 y1098.length cv1099))) (fun _ h_ => h_.1)))) k_ hk_.2.1), (Kd.fresh' (Kd.N_lt (by (with_reducible repeat (first | apply Kd.Zby | apply Kd.Zbz | apply Kd.Zb3)); exact (Kd.Zb7 (Kd.Zc (p := ⟨go56, ((rd t1061 0) : Int).toNat, none⟩) (Kd.Zb7 HO_1075005.out (fun k_ hk => (⟨hk, fun e_ => hk.1.1 (by rw [e_]; rfl)⟩ : _ ∧ k_ ≠ go56))) (fun _ hk => hk.2) ((.slice Av1099 y1098.length cv1099))) (fun _ h_ => h_.1)))) k_ hk_.2.1), (Kd.freshB (g := gb1056) (o := .cells #[.slice A0_0 l0_0.length c0_0, .int .i64 a0_1, .slice A0_2 l0_2.length c0_2, .slice A0_3 l0_3.length c0_3, .int .i64 a0_4, .int .i64 a0_5, .slice A0_6 l0_6.length c0_6, .int .i64 a0_7, .slice A0_8 l0_8.length c0_8, .slice A0_9 l0_9.length c0_9] 27 (0, 0)) (by (with_reducible repeat (first | refine Zae ?_ _ | refine Zag ?_ | refine Zad ?_ _)); refine Zbt ?_ (by have h_ := Kd.Zev HQ64.out (fun _ hk => hk.2.2.2.2.1); intro e_; exact h_ (by rw [e_]; rfl)) _; (with_reducible repeat (first | refine Zae ?_ _ | refine Zag ?_ | refine Zad ?_ _)); exact BK1056.out) k_ hk_.2.1), (Kd.freshB (g := gb1074) (o := .cells #[.int .i64 t1060, .slice (some ad1097) t1061.length co12, .slice Ao13 t1064.length co13, .int .i64 t1067, .int .i64 t1068, .slice Ao14 t1069.length co14, .int .i64 t1072] 25 (0, 0)) (by (with_reducible repeat (first | refine Zae ?_ _ | refine Zag ?_ | refine Zad ?_ _)); refine Zbt ?_ (by have h_ := Kd.Zev HQ64.out (fun _ hk => hk.2.2.2.2.2); intro e_; exact h_ (by rw [e_]; rfl)) _; (with_reducible repeat (first | refine Zae ?_ _ | refine Zag ?_ | refine Zad ?_ _)); exact BK1074.out) k_ hk_.2.1)⟩)) (Zal (by repeat (first | (with_reducible first | exact HB.out | apply Zab | apply Za | apply Zac | refine Zai ?_ GB56.out | refine Zai ?_ GE1056.out | refine Zai ?_ GE1074.out) | exact HB.out)))); have n6_ := Zaa.mk (Zba (g := gb1056) (o := .cells #[.slice A0_0 l0_0.length c0_0, .int .i64 a0_1, .slice A0_2 l0_2.length c0_2, .slice A0_3 l0_3.length c0_3, .int .i64 a0_4, .int .i64 a0_5, .slice A0_6 l0_6.length c0_6, .int .i64 a0_7, .slice A0_8 l0_8.length c0_8, .slice A0_9 l0_9.length c0_9] 27 (0, 0)) (by (with_reducible repeat (first | refine Zae ?_ _ | refine Zag ?_ | refine Zad ?_ _)); refine Zbt ?_ (by have h_ := Kd.Zev HQ64.out (fun _ hk => hk.2.2.2.2.1); intro e_; exact h_ (by rw [e_]; rfl)) _; (with_reducible repeat (first | refine Zae ?_ _ | refine Zag ?_ | refine Zad ?_ _)); exact BK1056.out) hb); have n7_ := Zaa.mk (Zba (g := gb1074) (o := .cells #[.int .i64 t1060, .slice (some ad1097) t1061.length co12, .slice Ao13 t1064.length co13, .int .i64 t1067, .int .i64 t1068, .slice Ao14 t1069.length co14, .int .i64 t1072] 25 (0, 0)) (by (with_reducible repeat (first | refine Zae ?_ _ | refine Zag ?_ | refine Zad ?_ _)); refine Zbt ?_ (by have h_ := Kd.Zev HQ64.out (fun _ hk => hk.2.2.2.2.2); intro e_; exact h_ (by rw [e_]; rfl)) _; (with_reducible repeat (first | refine Zae ?_ _ | refine Zag ?_ | refine Zad ?_ _)); exact BK1074.out) hb); have n8_ := Zaa.mk (Zay (by repeat (first | (with_reducible first | exact HB.out | apply Zab | apply Za | apply Zac | refine Zai ?_ GB56.out | refine Zai ?_ GE1056.out | refine Zai ?_ GE1074.out) | exact HB.out)) hb); clear HO_3; clear HO_6; clear HO_1075001; clear HO_1075002; clear HO_1075005; clear BK1056; clear BK1074; clear HB; have HO_3 := n0_; have HO_6 := n1_; have HO_1075001 := n2_; have HO_1075002 := n3_; have HO_1075005 := n4_; have HO1104 := n5_; have BK1056 := n6_; have BK1074 := n7_; have HB := n8_; clear n0_ n1_ n2_ n3_ n4_ n5_ n6_ n7_ n8_; (try clear hb); (try clear hb2); (try clear hk); (try clear hi); (try clear ho0); obtain ⟨Ao68, co68, eo68⟩ := Kd.Zd6 HO1104.out; subst eo68) | (go_at_call 34; (with_reducible refine (Za1.calls kj4  t1106 _ A60.out).mono ?_); rintro e w69 ⟨rfl, hb⟩; have n0_ := Zaa.mk (Kd.Zc5 (mvN HO_3.out) hb); have n1_ := Zaa.mk (Kd.Zc5 (mvN HO_6.out) hb); have n2_ := Zaa.mk (Kd.Zbv (mvR HO_1075001.out) hb); have n3_ := Zaa.mk (Kd.Zbv (mvR HO_1075002.out) hb); have n4_ := Zaa.mk (Kd.Zc5 (mvN HO_1075005.out) hb); have n5_ := Zaa.mk (Kd.Zc5 (mvN HO1104.out) hb); have n6_ := Zaa.mk (Zba (g := gb1056) (o := .cells #[.slice A0_0 l0_0.length c0_0, .int .i64 a0_1, .slice A0_2 l0_2.length c0_2, .slice A0_3 l0_3.length c0_3, .int .i64 a0_4, .int .i64 a0_5, .slice A0_6 l0_6.length c0_6, .int .i64 a0_7, .slice A0_8 l0_8.length c0_8, .slice A0_9 l0_9.length c0_9] 27 (0, 0)) (mvK BK1056.out) hb); have n7_ := Zaa.mk (Zba (g := gb1074) (o := .cells #[.int .i64 t1060, .slice (some ad1097) t1061.length co12, .slice Ao13 t1064.length co13, .int .i64 t1067, .int .i64 t1068, .slice Ao14 t1069.length co14, .int .i64 t1072] 25 (0, 0)) (mvK BK1074.out) hb); have n8_ := Zaa.mk (Zay (by repeat (first | (with_reducible first | exact HB.out | apply Zab | apply Za | apply Zac | refine Zai ?_ GE1056.out | refine Zai ?_ GE1074.out) | exact HB.out)) hb); clear HO_3; clear HO_6; clear HO_1075001; clear HO_1075002; clear HO_1075005; clear HO1104; clear BK1056; clear BK1074; clear HB; have HO_3 := n0_; have HO_6 := n1_; have HO_1075001 := n2_; have HO_1075002 := n3_; have HO_1075005 := n4_; have HO1104 := n5_; have BK1056 := n6_; have BK1074 := n7_; have HB := n8_; clear n0_ n1_ n2_ n3_ n4_ n5_ n6_ n7_ n8_; (try clear hb); (try clear hb2); (try clear hk); (try clear hi)))
    go_ret
    exact ⟨by first | rfl | (simp [Za5, Za6] <;> rfl) | (simp [*, Za5, Za6] <;> rfl), by repeat (first | (with_reducible first | exact HB.out | apply Zab | apply Za | apply Zac | refine Zai ?_ GE1056.out | refine Zai ?_ GE1074.out) | exact HB.out)⟩
   subst c20
   have H1 : (if 0 < (t1061.length : Int) then (if 0 ≤ (rd t1061 0) then (if (rd t1061 0) < (t1076.length : Int) then ((Zao.f kj4 (Zc3 t1076 (rd t1061 0))).bind fun t1082 => (Zaf.l0 kj4 t1057 t1082 0 t1060 t1061 t1064 t1067 t1068 t1069 t1072)) else (none)) else (none)) else (none)) = some r := by rw [if_pos rfl] at H; exact H
   clear H
   have H := H1
   clear H1
   by_cases c21 : 0 < (t1061.length : Int)
   rotate_left
   ·rw [if_neg c21] at H
    exact absurd H (by simp)
   rw [if_pos c21] at H
   have c21b0 : decide (0 < (t1061.length : Int)) = true := decide_eq_true c21
   have c21b1 : decide (0 < t1061.length) = true := decide_eq_true (by omega)
   clear c21
   by_cases c22 : 0 ≤ (rd t1061 0)
   rotate_left
   ·rw [if_neg c22] at H
    exact absurd H (by simp)
   rw [if_pos c22] at H
   have c22b0 : decide (0 ≤ (rd t1061 0)) = true := decide_eq_true c22
   clear c22
   by_cases c23 : (rd t1061 0) < (t1076.length : Int)
   rotate_left
   ·rw [if_neg c23] at H
    exact absurd H (by simp)
   rw [if_pos c23] at H
   have c23b0 : decide ((rd t1061 0) < (t1076.length : Int)) = true := decide_eq_true c23
   clear c23
   replace H := Option.bind_eq_some_iff.mp H
   obtain ⟨t1082, A240, H⟩ := H
   replace H : (Zaf.l0 kj4 t1057 t1082 0 t1060 t1061 t1064 t1067 t1068 t1069 t1072) = some r := H
   have A24 := Zaa.mk A240
   clear A240
   have H' := Zaa.mk H
   clear H
   have hnb25 := NB1074_1056.out
   have hnc25 := NB1056_1074.out
   obtain ⟨hcz26_0, hcz26_1, hcz26_2, hcz26_3, hcz26_4, hcz26_5, hcz26_6, hfz26_0, hfz26_1, hfz26_2, hfz26_3, hfz26_4, hfz26_5, hfz26_6⟩ := Zct BK1074.out
   have p1080 : 0 ≤ (0 : Int) := (by omega)
   have q1080 : 0 < (t1061.length : Int) := of_decide_eq_true (by first | (with_reducible assumption) | assumption)
   obtain ⟨ad1080, e1080, hx1080_0⟩ := Kd.Zb5 (Kd.Za7 HO_1075001.out).2.2 0 p1080 q1080
   cases e1080
   have qi1080 : (0 < t1061.length) = True := eq_true (by omega)
   (try rw [show ((0 : Int)).toNat = 0 from rfl] at hx1080_0)
   (try rw [Addr.add_zero'] at hx1080_0)
   replace p1080 := eq_true p1080
   replace q1080 := eq_true q1080
   obtain ⟨Ao27, co27, eo27⟩ := Kd.Zd6 HO_6.out
   subst eo27
   have p1081 : 0 ≤ ((rd t1061 0) : Int) := of_decide_eq_true (by first | (with_reducible assumption) | assumption)
   have q1081 : (rd t1061 0) < (t1076.length : Int) := of_decide_eq_true (by first | (with_reducible assumption) | assumption)
   obtain ⟨ad1081, A1081_0, c1081_0, e1081, hx1081_0, hl1081_0, hi1081_0⟩ := Zf2 (Kd.Zb9 HO_6.out).2.2 (rd t1061 0) p1081 q1081
   cases e1081
   obtain ⟨ce1081, hce1081, hMe1081, hcc1081⟩ := Kd.N_get HO_6.out [] (rd t1061 0) p1081 (by first | exact q1081 | exact of_decide_eq_true (by first | (with_reducible assumption) | assumption) | (have e_ := (Kd.Zb9 HO_6.out).1; omega))
   obtain ⟨ua1081_0, uc1081_0, rfl, ul1081_0, ge1081_0⟩ := Kd.Zc4 hMe1081
   have hv1081_0 := hcc1081 0 _ rfl
   rw [Nat.add_zero, show ((Kd.slice 41 k41)).sz = 1 from rfl, Nat.mul_one] at hv1081_0
   replace hv1081_0 := Option.some.inj (hv1081_0.symm.trans hx1081_0)
   injection hv1081_0 with hva_ hvn_ hvc_
   rw [hva_] at ge1081_0
   rw [hvc_] at ul1081_0
   have HL1081_0 := Zaa.mk (show Kd.V k41 41 _ w.heap.size _ _ (Zc3 t1076 (rd t1061 0)) from Kd.V_mk ul1081_0 ge1081_0)
   clear hva_ hvn_ hvc_ ge1081_0 ul1081_0
   clear hcc1081 hce1081
   have HR1081_0 := Zaa.mk hi1081_0
   have HC1081_0 := Zaa.mk hl1081_0
   clear hi1081_0 hl1081_0
   replace p1081 := eq_true p1081
   replace q1081 := eq_true q1081
   go_wp2_with (first | ((with_reducible refine Zbq (f := 29) rfl ?_); refine Zcp (some 43) rfl rfl Try.func29 (by kernel_rfl) rfl #[.slice A1081_0 (Zc3 t1076 (rd t1061 0)).length c1081_0] rfl (by (try simp only [List.map_toArray, List.map_cons, List.map_nil]); first | done | rfl | (simp only [List.length_drop, List.length_take]; rfl)) ?_; (with_reducible refine (Zao.calls kj4 _ _ (Zc3 t1076 (rd t1061 0)) t1082 _ ?side1 ?side2 A24.out).mono ?_); (case side1 => repeat (first | exact (by repeat (first | (with_reducible exact HR1081_0.out) | (with_reducible refine Kd.C_alloc ?_ _) | (with_reducible refine Kd.C_drewN ?_ _) | (with_reducible refine Kd.Zbp ?_) | exact HR1081_0.out)) | (with_reducible refine Kd.C_alloc ?_ _) | (with_reducible refine Kd.C_drewN ?_ _) | (with_reducible refine Kd.Zbp ?_))); (case side2 => exact HC1081_0.out); rintro e w28 ⟨v1083, rfl, ho0, hb⟩; refine ⟨_, rfl, ?_⟩; have n0_ := Zaa.mk (Kd.Zb8 (mvN HO_3.out) (Kd.Zb4 ho0) hb); have n1_ := Zaa.mk (Kd.Zb8 (mvN HO_6.out) (Kd.Zb4 ho0) hb); have n2_ := Zaa.mk (Kd.Zck (mvR HO_1075001.out) (Kd.Zb4 ho0) hb); have n3_ := Zaa.mk (Kd.Zck (mvR HO_1075002.out) (Kd.Zb4 ho0) hb); have n4_ := Zaa.mk (Kd.Zb8 (mvN HO_1075005.out) (Kd.Zb4 ho0) hb); have n5_ := Zaa.mk (Kd.V_elder' (by (with_reducible repeat (first | apply Kd.V_alloc | apply Kd.V_drewN | apply Kd.V_drew)); exact HL1081_0.out) (Kd.Zb4 ho0) hb); have n6_ := Zaa.mk (Kd.Zb1 (Kd.Zdc (Kd.Zdc ho0 (Kd.R_lt (mvR HO_1075001.out))) (Kd.R_lt (mvR HO_1075002.out))) (Zal (mvB HB.out))); have n7_ := Zaa.mk (Zba (g := gb1056) (o := .cells #[.slice A0_0 l0_0.length c0_0, .int .i64 a0_1, .slice A0_2 l0_2.length c0_2, .slice A0_3 l0_3.length c0_3, .int .i64 a0_4, .int .i64 a0_5, .slice A0_6 l0_6.length c0_6, .int .i64 a0_7, .slice A0_8 l0_8.length c0_8, .slice A0_9 l0_9.length c0_9] 27 (0, 0)) (mvK BK1056.out) hb); have n8_ := Zaa.mk (Zba (g := gb1074) (o := .cells #[.int .i64 t1060, .slice (some ad1080) t1061.length co12, .slice Ao13 t1064.length co13, .int .i64 t1067, .int .i64 t1068, .slice Ao14 t1069.length co14, .int .i64 t1072] 25 (0, 0)) (mvK BK1074.out) hb); have n9_ := Zaa.mk (Kd.Zbu (by first | (with_reducible exact HR1081_0.out) | (with_reducible exact Kd.C_drewN HR1081_0.out _) | (with_reducible exact Kd.Zbp HR1081_0.out) | repeat (first | (with_reducible exact HR1081_0.out) | (with_reducible refine Kd.C_alloc ?_ _) | (with_reducible refine Kd.C_drewN ?_ _) | (with_reducible refine Kd.Zbp ?_) | exact HR1081_0.out)) hb); have n10_ := Zaa.mk (Zay (mvB HB.out) hb); clear HO_3; clear HO_6; clear HO_1075001; clear HO_1075002; clear HO_1075005; clear HL1081_0; clear BK1056; clear BK1074; clear HR1081_0; clear HB; have HO_3 := n0_; have HO_6 := n1_; have HO_1075001 := n2_; have HO_1075002 := n3_; have HO_1075005 := n4_; have HL1081_0 := n5_; have HO1084 := n6_; have BK1056 := n7_; have BK1074 := n8_; have HR1081_0 := n9_; have HB := n10_; clear n0_ n1_ n2_ n3_ n4_ n5_ n6_ n7_ n8_ n9_ n10_; (try clear hb); (try clear hb2); (try clear hk); (try clear hi); (try clear ho0)))
   go_loopg [9] kj4 (fun kq v9 w' => ∃ (x9_2 : Int), v9 = .int .i64 x9_2 ∧ Zaa (Zaf.l0 kq t1057 t1082 x9_2 t1060 t1061 t1064 t1067 t1068 t1069 t1072 = some r) ∧ Zaa (kq ≤ kj4) ∧ Zaa (Kd.N (Kd.slice 41 k41) 39 w' w.heap.size (fun k_ => some k_ ≠ (v1083 : Value).ownBlock ∧ some k_ ≠ ((.slice (some ad1080) t1061.length co12) : Value).ownBlock ∧ some k_ ≠ ((.slice Ao13 t1064.length co13) : Value).ownBlock ∧ some k_ ≠ ((.slice Ao14 t1069.length co14) : Value).ownBlock ∧ k_ ≠ gb1056 ∧ k_ ≠ gb1074) (.slice Ao15 t1057.length co15) t1057) ∧ Zaa (Kd.R (Kd.int .i64) 3 w' w.heap.size (fun k_ => some k_ ≠ ((.slice (some ad1080) t1061.length co12) : Value).ownBlock ∧ some k_ ≠ ((.slice Ao13 t1064.length co13) : Value).ownBlock) v1083 t1082) ∧ Zaa (Kd.R (Kd.int .i64) 3 w' w.heap.size (fun k_ => some k_ ≠ (v1083 : Value).ownBlock ∧ some k_ ≠ ((.slice Ao13 t1064.length co13) : Value).ownBlock) (.slice (some ad1080) t1061.length co12) t1061) ∧ Zaa (Kd.R (Kd.int .i64) 3 w' w.heap.size (fun k_ => some k_ ≠ (v1083 : Value).ownBlock ∧ some k_ ≠ ((.slice (some ad1080) t1061.length co12) : Value).ownBlock) (.slice Ao13 t1064.length co13) t1064) ∧ Zaa (Kd.N (Kd.slice 3 (Kd.int .i64)) 23 w' w.heap.size (fun k_ => some k_ ≠ ((.slice Ao15 t1057.length co15) : Value).ownBlock ∧ some k_ ≠ (v1083 : Value).ownBlock ∧ some k_ ≠ ((.slice (some ad1080) t1061.length co12) : Value).ownBlock ∧ some k_ ≠ ((.slice Ao13 t1064.length co13) : Value).ownBlock ∧ k_ ≠ gb1056 ∧ k_ ≠ gb1074) (.slice Ao14 t1069.length co14) t1069) ∧ Zaa (w'.heap[gb1056]? = some (.cells #[(.slice A0_0 l0_0.length c0_0), .int .i64 a0_1, (.slice A0_2 l0_2.length c0_2), (.slice A0_3 l0_3.length c0_3), .int .i64 a0_4, .int .i64 a0_5, (.slice A0_6 l0_6.length c0_6), .int .i64 a0_7, (.slice A0_8 l0_8.length c0_8), (.slice A0_9 l0_9.length c0_9)] 27 (0, 0))) ∧ Zaa (w'.heap[gb1074]? = some (.cells #[.int .i64 t1060, (.slice (some ad1080) t1061.length co12), (.slice Ao13 t1064.length co13), .int .i64 t1067, .int .i64 t1068, (.slice Ao14 t1069.length co14), .int .i64 t1072] 25 (0, 0))) ∧ Zaa (Kd.C k41 w' A1081_0 (Zc3 t1076 (rd t1061 0)).length (Zc3 t1076 (rd t1061 0))) ∧ Zaa (Below w.heap.size w w'))
   case atStart => exact ⟨(0), (by first | rfl | (simp; done) | (simp [*]; done)), H', ⟨Nat.le_refl _⟩, ⟨by (with_reducible repeat (first | apply Kd.Zby | apply Kd.Zbz | apply Kd.Zb3)); exact Kd.Zb7 HO_3.out (fun _ hk => ⟨hk.2, ⟨hk.1.2.1, ⟨hk.1.2.2.1, ⟨hk.1.2.2.2.1, ⟨hk.1.2.2.2.2.1, hk.1.2.2.2.2.2⟩⟩⟩⟩⟩)⟩, ⟨by (with_reducible repeat (first | apply Kd.Zan | apply Kd.Zam | apply Kd.Zar)); exact Kd.Zbe HO1084.out (fun _ hk => ⟨hk.1.2, hk.2⟩)⟩, ⟨by (with_reducible repeat (first | apply Kd.Zan | apply Kd.Zam | apply Kd.Zar)); exact Kd.Zbe HO_1075001.out (fun _ hk => ⟨hk.2, hk.1⟩)⟩, ⟨by (with_reducible repeat (first | apply Kd.Zan | apply Kd.Zam | apply Kd.Zar)); exact Kd.Zbe HO_1075002.out (fun _ hk => ⟨hk.2, hk.1⟩)⟩, ⟨by (with_reducible repeat (first | apply Kd.Zby | apply Kd.Zbz | apply Kd.Zb3)); exact Kd.Zb7 HO_1075005.out (fun _ hk => ⟨hk.1.1, ⟨hk.2, ⟨hk.1.2.2.1, ⟨hk.1.2.2.2.1, ⟨hk.1.2.2.2.2.1, hk.1.2.2.2.2.2⟩⟩⟩⟩⟩)⟩, ⟨by (with_reducible repeat (first | refine Zae ?_ _ | refine Zag ?_ | refine Zad ?_ _)); exact BK1056.out⟩, ⟨by (with_reducible repeat (first | refine Zae ?_ _ | refine Zag ?_ | refine Zad ?_ _)); exact BK1074.out⟩, ⟨by repeat (first | (with_reducible exact HR1081_0.out) | (with_reducible refine Kd.C_alloc ?_ _) | (with_reducible refine Kd.C_drewN ?_ _) | (with_reducible refine Kd.Zbp ?_) | exact HR1081_0.out)⟩, ⟨by repeat (first | (with_reducible first | exact HB.out | apply Zab | apply Za | apply Zac | refine Zai ?_ GE1056.out | refine Zai ?_ GE1074.out) | exact HB.out)⟩⟩
   case round =>
    clear H'
    try clear c1
    try clear p1
    try clear q1
    try clear hx1
    try clear qi1
    try clear c2
    try clear p2
    try clear c3
    try clear p6
    try clear c10
    try clear p10
    try clear q10
    try clear hx10
    try clear qi10
    try clear c13
    try clear c14
    try clear c17
    try clear c19
    try clear c20
    try clear c21
    try clear c21b0
    try clear c21b1
    try clear c22
    try clear c22b0
    try clear c23
    try clear c23b0
    try clear c25
    try clear hcz11_0
    try clear hcz11_1
    try clear hcz11_2
    try clear hcz11_3
    try clear hcz11_4
    try clear hcz11_5
    try clear hcz11_6
    try clear hcz26_0
    try clear hcz26_1
    try clear hcz26_2
    try clear hcz26_3
    try clear hcz26_4
    try clear hcz26_5
    try clear hcz26_6
    try clear hcz7_0
    try clear hcz7_1
    try clear hcz7_2
    try clear hcz7_3
    try clear hcz7_4
    try clear hcz7_5
    try clear hcz7_6
    try clear hcz7_7
    try clear hcz7_8
    try clear hcz7_9
    try clear hfz11_0
    try clear hfz11_1
    try clear hfz11_2
    try clear hfz11_3
    try clear hfz11_4
    try clear hfz11_5
    try clear hfz11_6
    try clear hfz26_0
    try clear hfz26_1
    try clear hfz26_2
    try clear hfz26_3
    try clear hfz26_4
    try clear hfz26_5
    try clear hfz26_6
    try clear hfz7_0
    try clear hfz7_1
    try clear hfz7_2
    try clear hfz7_3
    try clear hfz7_4
    try clear hfz7_5
    try clear hfz7_6
    try clear hfz7_7
    try clear hfz7_8
    try clear hfz7_9
    try clear hx1080_0
    try clear hx1081_0
    try clear p1080
    try clear p1081
    try clear p2
    try clear q1080
    try clear q1081
    obtain ⟨x9_2, rfl, HA, HK2, HO_3, HO_8, HO_1075001, HO_1075002, HO_1075005, BK1056, BK1074, HR1081_0, HB⟩ := hrel
    cases gk with
    | zero => exact absurd HA.out (by simp [Zaf.l0])
    | succ k2 =>
     have H := HA.out
     clear HA
     simp only [Zaf.l0] at H
     by_cases c29 : x9_2 < (t1082.length : Int)
     ·rw [if_pos c29] at H
      have c29b0 : decide (x9_2 < (t1082.length : Int)) = true := decide_eq_true c29
      clear c29
      by_cases c30 : 0 ≤ x9_2
      rotate_left
      ·rw [if_neg c30] at H
       exact absurd H (by simp)
      rw [if_pos c30] at H
      have c30b0 : decide (0 ≤ x9_2) = true := decide_eq_true c30
      clear c30
      by_cases c31 : (rd t1082 x9_2) < 0
      ·rw [if_pos c31] at H
       have c31b0 : decide ((rd t1082 x9_2) < 0) = true := decide_eq_true c31
       clear c31
       exact absurd H (by simp)
      rw [if_neg c31] at H
      have c31b0 : decide ((rd t1082 x9_2) < 0) = false := decide_eq_false c31
      clear c31
      by_cases c32 : (rd t1082 x9_2) ≥ (wrap64 ((t1061.length : Int) - 2))
      ·rw [if_pos c32] at H
       exact absurd H (by simp)
      rw [if_neg c32] at H
      have c32b0 : decide ((wrap64 ((t1061.length : Int) - 2)) ≤ (rd t1082 x9_2)) = false := decide_eq_false c32
      clear c32
      have H' := Zaa.mk H
      clear H
      obtain ⟨Ao33, co33, eo33⟩ := Kd.Zbo HO_8.out
      subst eo33
      try go_wp2
      have n0_ := Zaa.mk (Kd.Zb3 HO_3.out)
      have n1_ := Zaa.mk (Kd.Zar HO_8.out)
      have n2_ := Zaa.mk (Kd.Zar HO_1075001.out)
      have n3_ := Zaa.mk (Kd.Zar HO_1075002.out)
      have n4_ := Zaa.mk (Kd.Zb3 HO_1075005.out)
      have n5_ := Zaa.mk (Zag BK1056.out)
      have n6_ := Zaa.mk (Zag BK1074.out)
      have n7_ := Zaa.mk (Kd.Zbp HR1081_0.out)
      have n8_ := Zaa.mk (Zac HB.out)
      clear HO_3
      clear HO_8
      clear HO_1075001
      clear HO_1075002
      clear HO_1075005
      clear BK1056
      clear BK1074
      clear HR1081_0
      clear HB
      have HO_3 := n0_
      have HO_8 := n1_
      have HO_1075001 := n2_
      have HO_1075002 := n3_
      have HO_1075005 := n4_
      have BK1056 := n5_
      have BK1074 := n6_
      have HR1081_0 := n7_
      have HB := n8_
      clear n0_ n1_ n2_ n3_ n4_ n5_ n6_ n7_ n8_
      have p1085 : 0 ≤ (x9_2 : Int) := of_decide_eq_true (by first | (with_reducible assumption) | assumption)
      have q1085 : x9_2 < (t1082.length : Int) := of_decide_eq_true (by first | (with_reducible assumption) | assumption)
      obtain ⟨ad1085, e1085, hx1085_0⟩ := Kd.Zb5 (Kd.Za7 HO_8.out).2.2 x9_2 p1085 q1085
      cases e1085
      replace p1085 := eq_true p1085
      replace q1085 := eq_true q1085
      have p1086 : 0 ≤ (x9_2 : Int) := of_decide_eq_true (by first | (with_reducible assumption) | assumption)
      have q1086 : x9_2 < (t1082.length : Int) := of_decide_eq_true (by first | (with_reducible assumption) | assumption)
      obtain ⟨ad1086, e1086, hx1086_0⟩ := Kd.Zb5 (Kd.Za7 HO_8.out).2.2 x9_2 p1086 q1086
      obtain rfl : ad1085 = ad1086 := (by injection e1086)
      replace p1086 := eq_true p1086
      replace q1086 := eq_true q1086
      refine Zd0 (n := 16) (S := fun w' => w'.cell? ⟨gb1074, 0, none⟩ = some (.int .i64 t1060) ∧ w'.cell? ⟨gb1074, 1, none⟩ = some (.slice (some ad1080) t1061.length co12) ∧ w'.cell? ⟨gb1074, 2, none⟩ = some (.slice Ao13 t1064.length co13) ∧ w'.cell? ⟨gb1074, 3, none⟩ = some (.int .i64 t1067) ∧ w'.cell? ⟨gb1074, 4, none⟩ = some (.int .i64 t1068) ∧ w'.cell? ⟨gb1074, 5, none⟩ = some (.slice Ao14 t1069.length co14) ∧ w'.cell? ⟨gb1074, 6, none⟩ = some (.int .i64 t1072) ∧ w'.cell? (ad1085.add (x9_2).toNat) = some (.int .i64 (rd t1082 x9_2)) ∧ w'.cell? (ad1085.add (x9_2).toNat) = some (.int .i64 (rd t1082 x9_2))) (ds := []) #[false, false, false, false, false, false, false, false, false, false, false, false, false, false, false, false] (by kernel_rfl) rfl rfl ⟨(Zas BK1074.out 0).trans rfl, (Zas BK1074.out 1).trans rfl, (Zas BK1074.out 2).trans rfl, (Zas BK1074.out 3).trans rfl, (Zas BK1074.out 4).trans rfl, (Zas BK1074.out 5).trans rfl, (Zas BK1074.out 6).trans rfl, hx1085_0, hx1086_0⟩ (fun hHeld => ?_); refine Zcx Zaf.tab12 Zaf.bits12 (fun HT_ HW_ => ?_)
      generalize wr.drew = w34 at HO_3 HO_8 HO_1075001 HO_1075002 HO_1075005 BK1056 BK1074 HR1081_0 HB hx1085_0 hx1086_0 hHeld ⊢
      refine Zbk (i := 0) (N := some 50) (v := ?_) (a' := ?_) #[true, false, false, false, false, false, false, false, false, false, false, false, false, false, false, false] rfl rfl (Za8 HT_.out (by kernel_rfl)) (fun _ _ _ h => h) (Or.inl ⟨by rfl, ?_⟩) ?_ ?_
      rotate_left
      ·intro w'
       go_simp
       with_reducible rfl
      rotate_left
      ·simp only [Act.put, List.setIfInBounds_toArray, List.set_cons_zero, List.set_cons_succ, Zbb, Zbc]
       rfl
      refine Zbk (i := 1) (N := some 51) (v := ?_) (a' := ?_) #[true, true, false, false, false, false, false, false, false, false, false, false, false, false, false, false] rfl rfl (Za8 HT_.out (by kernel_rfl)) (fun _ _ _ h => h) (Or.inl ⟨by rfl, ?_⟩) ?_ ?_
      rotate_left
      ·intro w'
       go_simp
       with_reducible rfl
      rotate_left
      ·simp only [Act.put, List.setIfInBounds_toArray, List.set_cons_zero, List.set_cons_succ, Zbb, Zbc]
       rfl
      refine Zbk (i := 2) (N := some 52) (v := ?_) (a' := ?_) #[true, true, true, false, false, false, false, false, false, false, false, false, false, false, false, false] rfl rfl (Za8 HT_.out (by kernel_rfl)) (fun _ _ _ h => h) (Or.inl ⟨by rfl, ?_⟩) ?_ ?_
      rotate_left
      ·intro w'
       go_simp
       with_reducible rfl
      rotate_left
      ·simp only [Act.put, List.setIfInBounds_toArray, List.set_cons_zero, List.set_cons_succ, Zbb, Zbc]
       rfl
      refine Zdg (i := 3) (N := some 53) (v := ?_) (a' := ?_) #[true, true, true, true, false, false, false, false, false, false, false, false, false, false, false, false] rfl rfl (Zcb HT_.out HW_.out (by kernel_rfl)) (fun _ _ _ h => h) (Or.inl ⟨by rfl, ?_⟩) hHeld ?_ ?_
      rotate_left
      ·rintro w' ⟨s0, s1, s2, s3, s4, s5, s6, s7, s8⟩
       go_simp
       with_reducible rfl
      rotate_left
      ·simp only [Act.put, List.setIfInBounds_toArray, List.set_cons_zero, List.set_cons_succ, Zbb, Zbc]
       rfl
      refine Zbk (i := 4) (N := some 54) (v := ?_) (a' := ?_) #[true, true, true, true, true, false, false, false, false, false, false, false, false, false, false, false] rfl rfl (Za8 HT_.out (by kernel_rfl)) (fun _ _ _ h => h) (Or.inl ⟨by rfl, ?_⟩) ?_ ?_
      rotate_left
      ·intro w'
       go_simp
       with_reducible rfl
      rotate_left
      ·simp only [Act.put, List.setIfInBounds_toArray, List.set_cons_zero, List.set_cons_succ, Zbb, Zbc]
       rfl
      refine Zbk (i := 5) (N := some 55) (v := ?_) (a' := ?_) #[true, true, true, true, true, true, false, false, false, false, false, false, false, false, false, false] rfl rfl (Za8 HT_.out (by kernel_rfl)) (fun _ _ _ h => h) (Or.inl ⟨by rfl, ?_⟩) ?_ ?_
      rotate_left
      ·intro w'
       go_simp
       with_reducible rfl
      rotate_left
      ·simp only [Act.put, List.setIfInBounds_toArray, List.set_cons_zero, List.set_cons_succ, Zbb, Zbc]
       rfl
      refine Zbk (i := 6) (N := some 56) (v := ?_) (a' := ?_) #[true, true, true, true, true, true, true, false, false, false, false, false, false, false, false, false] rfl rfl (Za8 HT_.out (by kernel_rfl)) (fun _ _ _ h => h) (Or.inl ⟨by rfl, ?_⟩) ?_ ?_
      rotate_left
      ·intro w'
       go_simp
       with_reducible rfl
      rotate_left
      ·simp only [Act.put, List.setIfInBounds_toArray, List.set_cons_zero, List.set_cons_succ, Zbb, Zbc]
       rfl
      refine Zbk (i := 7) (N := some 57) (v := ?_) (a' := ?_) #[true, true, true, true, true, true, true, true, false, false, false, false, false, false, false, false] rfl rfl (Za8 HT_.out (by kernel_rfl)) (fun _ _ _ h => h) (Or.inl ⟨by rfl, ?_⟩) ?_ ?_
      rotate_left
      ·intro w'
       go_simp
       with_reducible rfl
      rotate_left
      ·simp only [Act.put, List.setIfInBounds_toArray, List.set_cons_zero, List.set_cons_succ, Zbb, Zbc]
       rfl
      refine Zbk (i := 8) (N := some 58) (v := ?_) (a' := ?_) #[true, true, true, true, true, true, true, true, true, false, false, false, false, false, false, false] rfl rfl (Za8 HT_.out (by kernel_rfl)) (fun _ _ _ h => h) (Or.inl ⟨by rfl, ?_⟩) ?_ ?_
      rotate_left
      ·intro w'
       go_simp
       with_reducible rfl
      rotate_left
      ·simp only [Act.put, List.setIfInBounds_toArray, List.set_cons_zero, List.set_cons_succ, Zbb, Zbc]
       rfl
      refine Zbk (i := 10) (N := some 60) (v := ?_) (a' := ?_) #[true, true, true, true, true, true, true, true, true, false, true, false, false, false, false, false] rfl rfl (Za8 HT_.out (by kernel_rfl)) (fun _ _ _ h => h) (Or.inl ⟨by rfl, ?_⟩) ?_ ?_
      rotate_left
      ·intro w'
       go_simp
       with_reducible rfl
      rotate_left
      ·simp only [Act.put, List.setIfInBounds_toArray, List.set_cons_zero, List.set_cons_succ, Zbb, Zbc]
       rfl
      refine Zdg (i := 9) (N := some 59) (v := ?_) (a' := ?_) #[true, true, true, true, true, true, true, true, true, true, true, false, false, false, false, false] rfl rfl (Zcb HT_.out HW_.out (by kernel_rfl)) (fun _ _ _ h => h) (Or.inl ⟨by rfl, ?_⟩) hHeld ?_ ?_
      rotate_left
      ·rintro w' ⟨s0, s1, s2, s3, s4, s5, s6, s7, s8⟩
       go_simp
       with_reducible rfl
      rotate_left
      ·simp only [Act.put, List.setIfInBounds_toArray, List.set_cons_zero, List.set_cons_succ, Zbb, Zbc]
       rfl
      refine Zdg (i := 11) (N := some 61) (v := ?_) (a' := ?_) #[true, true, true, true, true, true, true, true, true, true, true, true, false, false, false, false] rfl rfl (Zcb HT_.out HW_.out (by kernel_rfl)) (fun _ _ _ h => h) (Or.inl ⟨by rfl, ?_⟩) hHeld ?_ ?_
      rotate_left
      ·rintro w' ⟨s0, s1, s2, s3, s4, s5, s6, s7, s8⟩
       go_simp
       with_reducible rfl
      rotate_left
      ·simp only [Act.put, List.setIfInBounds_toArray, List.set_cons_zero, List.set_cons_succ, Zbb, Zbc]
       rfl
      refine Zbk (i := 12) (N := some 62) (v := ?_) (a' := ?_) #[true, true, true, true, true, true, true, true, true, true, true, true, true, false, false, false] rfl rfl (Za8 HT_.out (by kernel_rfl)) (fun _ _ _ h => h) (Or.inl ⟨by rfl, ?_⟩) ?_ ?_
      rotate_left
      ·intro w'
       go_simp
       with_reducible rfl
      rotate_left
      ·simp only [Act.put, List.setIfInBounds_toArray, List.set_cons_zero, List.set_cons_succ, Zbb, Zbc]
       rfl
      refine Zbk (i := 13) (N := some 63) (v := ?_) (a' := ?_) #[true, true, true, true, true, true, true, true, true, true, true, true, true, true, false, false] rfl rfl (Za8 HT_.out (by kernel_rfl)) (fun _ _ _ h => h) (Or.inl ⟨by rfl, ?_⟩) ?_ ?_
      rotate_left
      ·intro w'
       go_simp
       with_reducible rfl
      rotate_left
      ·simp only [Act.put, List.setIfInBounds_toArray, List.set_cons_zero, List.set_cons_succ, Zbb, Zbc]
       rfl
      refine Zbk (i := 14) (N := some 64) (v := ?_) (a' := ?_) #[true, true, true, true, true, true, true, true, true, true, true, true, true, true, true, false] rfl rfl (Za8 HT_.out (by kernel_rfl)) (fun _ _ _ h => h) (Or.inl ⟨by rfl, ?_⟩) ?_ ?_
      rotate_left
      ·intro w'
       go_simp
       with_reducible rfl
      rotate_left
      ·simp only [Act.put, List.setIfInBounds_toArray, List.set_cons_zero, List.set_cons_succ, Zbb, Zbc]
       rfl
      refine Zbk (i := 15) (N := some 65) (v := ?_) (a' := ?_) #[true, true, true, true, true, true, true, true, true, true, true, true, true, true, true, true] rfl rfl (Za8 HT_.out (by kernel_rfl)) (fun _ _ _ h => h) (Or.inl ⟨by rfl, ?_⟩) ?_ ?_
      rotate_left
      ·intro w'
       go_simp
       with_reducible rfl
      rotate_left
      ·simp only [Act.put, List.setIfInBounds_toArray, List.set_cons_zero, List.set_cons_succ, Zbb, Zbc]
       rfl
      refine Ze0 (Zdk HT_.out (by kernel_rfl)) ?_
      try go_wp2
      go_roundg k2
      case measure => have := HJ4.out; have := HK2.out; omega
      case rel => exact ⟨(wrap64 (x9_2 + 1)), (by first | rfl | (simp; done) | (simp [*]; done)), H', ⟨by have := HJ4.out; have := HK2.out; omega⟩, ⟨by (with_reducible repeat (first | apply Kd.Zby | apply Kd.Zbz | apply Kd.Zb3)); exact HO_3.out⟩, ⟨by (with_reducible repeat (first | apply Kd.Zan | apply Kd.Zam | apply Kd.Zar)); exact HO_8.out⟩, ⟨by (with_reducible repeat (first | apply Kd.Zan | apply Kd.Zam | apply Kd.Zar)); exact HO_1075001.out⟩, ⟨by (with_reducible repeat (first | apply Kd.Zan | apply Kd.Zam | apply Kd.Zar)); exact HO_1075002.out⟩, ⟨by (with_reducible repeat (first | apply Kd.Zby | apply Kd.Zbz | apply Kd.Zb3)); exact HO_1075005.out⟩, ⟨by (with_reducible repeat (first | refine Zae ?_ _ | refine Zag ?_ | refine Zad ?_ _)); exact BK1056.out⟩, ⟨by (with_reducible repeat (first | refine Zae ?_ _ | refine Zag ?_ | refine Zad ?_ _)); exact BK1074.out⟩, ⟨by repeat (first | (with_reducible exact HR1081_0.out) | (with_reducible refine Kd.C_alloc ?_ _) | (with_reducible refine Kd.C_drewN ?_ _) | (with_reducible refine Kd.Zbp ?_) | exact HR1081_0.out)⟩, ⟨by repeat (first | (with_reducible first | exact HB.out | apply Zab | apply Za | apply Zac | refine Zai ?_ GE1056.out | refine Zai ?_ GE1074.out) | exact HB.out)⟩⟩
     rw [if_neg c29] at H
     have c29b0 : decide (x9_2 < (t1082.length : Int)) = false := decide_eq_false c29
     clear c29
     by_cases c35 : 0 < (t1061.length : Int)
     rotate_left
     ·rw [if_neg c35] at H
      exact absurd H (by simp)
     rw [if_pos c35] at H
     have c35b0 : decide (0 < (t1061.length : Int)) = true := decide_eq_true c35
     have c35b1 : decide (0 < t1061.length) = true := decide_eq_true (by omega)
     clear c35
     obtain ⟨y1088, hy1088⟩ : ∃ y_ : List (S41), y_ = (([(⟨wrap64 ((t1061.length : Int) - 2), 50⟩ : S41)] : List (S41))) := ⟨_, rfl⟩
     replace H : (if 0 ≤ (rd t1061 0) then (if (rd t1061 0) < (t1057.length : Int) then ((Zah.f k2 (t1057.set ((rd t1061 0) : Int).toNat y1088) t1060 t1061 t1064 t1067 t1068 t1069 t1072).bind fun bt1092 => (if bt1092.2 = true then (none) else (if (bt1092.1.length : Int) = 0 then ((Za1.f k2).bind fun t1096 => (some t1096)) else (none)))) else (none)) else (none)) = some r := by first | (rw [hy1088]; with_reducible exact H) | (have H2_ := (Option.bind_some _ _).symm.trans H; rw [hy1088]; with_reducible exact H2_) | (have H2_ := (Option.bind_some _ _).symm.trans H; with_reducible exact H2_) | with_reducible exact H | (rw [hy1088]; exact H) | exact H
     have Ny1088 := Zaa.mk hy1088
     clear hy1088
     by_cases c36 : 0 ≤ (rd t1061 0)
     rotate_left
     ·rw [if_neg c36] at H
      exact absurd H (by simp)
     rw [if_pos c36] at H
     have c36b0 : decide (0 ≤ (rd t1061 0)) = true := decide_eq_true c36
     clear c36
     by_cases c37 : (rd t1061 0) < (t1057.length : Int)
     rotate_left
     ·rw [if_neg c37] at H
      exact absurd H (by simp)
     rw [if_pos c37] at H
     have c37b0 : decide ((rd t1061 0) < (t1057.length : Int)) = true := decide_eq_true c37
     clear c37
     obtain ⟨y1091, hy1091⟩ : ∃ y_ : List (List (S41)), y_ = (t1057.set ((rd t1061 0) : Int).toNat y1088) := ⟨_, rfl⟩
     replace H : ((Zah.f k2 y1091 t1060 t1061 t1064 t1067 t1068 t1069 t1072).bind fun bt1092 => (if bt1092.2 = true then (none) else (if (bt1092.1.length : Int) = 0 then ((Za1.f k2).bind fun t1096 => (some t1096)) else (none)))) = some r := by first | (rw [hy1091]; with_reducible exact H) | (have H2_ := (Option.bind_some _ _).symm.trans H; rw [hy1091]; with_reducible exact H2_) | (have H2_ := (Option.bind_some _ _).symm.trans H; with_reducible exact H2_) | with_reducible exact H | (rw [hy1091]; exact H) | exact H
     have Ny1091 := Zaa.mk hy1091
     clear hy1091
     replace H := Option.bind_eq_some_iff.mp H
     obtain ⟨⟨t1092, t1095⟩, A390, H⟩ := H
     replace H : (if t1095 = true then (none) else (if (t1092.length : Int) = 0 then ((Za1.f k2).bind fun t1096 => (some t1096)) else (none))) = some r := H
     have A39 := Zaa.mk A390
     clear A390
     by_cases c40 : t1095 = true
     ·subst c40
      have H1 : (none) = some r := by rw [if_pos rfl] at H; exact H
      clear H
      have H := H1
      clear H1
      exact absurd H (by simp)
     replace c40 := Bool.eq_false_iff.mpr c40
     subst c40
     have H1 : (if (t1092.length : Int) = 0 then ((Za1.f k2).bind fun t1096 => (some t1096)) else (none)) = some r := by rw [if_neg (show ¬ (false = true) by decide)] at H; exact H
     clear H
     have H := H1
     clear H1
     by_cases c41 : (t1092.length : Int) = 0
     rotate_left
     ·rw [if_neg c41] at H
      exact absurd H (by simp)
     rw [if_pos c41] at H
     have c41b0 : ((t1092.length : Int) == 0) = true := beq_iff_eq.mpr c41
     have c41b1 : ((t1092.length : Int) != 0) = false := bne_eq_false_iff_eq.mpr c41
     clear c41
     replace H := Option.bind_eq_some_iff.mp H
     obtain ⟨t1096, A420, H⟩ := H
     replace H : (some t1096) = some r := H
     have A42 := Zaa.mk A420
     clear A420
     obtain rfl := Option.some.inj H
     obtain ⟨Ao43, co43, eo43⟩ := Kd.Zbo HO_8.out
     subst eo43
     try go_wp2
     have n0_ := Zaa.mk (Kd.Zb3 HO_3.out)
     have n1_ := Zaa.mk (Kd.Zar HO_8.out)
     have n2_ := Zaa.mk (Kd.Zar HO_1075001.out)
     have n3_ := Zaa.mk (Kd.Zar HO_1075002.out)
     have n4_ := Zaa.mk (Kd.Zb3 HO_1075005.out)
     have n5_ := Zaa.mk (Zag BK1056.out)
     have n6_ := Zaa.mk (Zag BK1074.out)
     have n7_ := Zaa.mk (Kd.Zbp HR1081_0.out)
     have n8_ := Zaa.mk (Zac HB.out)
     clear HO_3
     clear HO_8
     clear HO_1075001
     clear HO_1075002
     clear HO_1075005
     clear BK1056
     clear BK1074
     clear HR1081_0
     clear HB
     have HO_3 := n0_
     have HO_8 := n1_
     have HO_1075001 := n2_
     have HO_1075002 := n3_
     have HO_1075005 := n4_
     have BK1056 := n5_
     have BK1074 := n6_
     have HR1081_0 := n7_
     have HB := n8_
     clear n0_ n1_ n2_ n3_ n4_ n5_ n6_ n7_ n8_
     have p1087 : 0 ≤ (0 : Int) := (by omega)
     have q1087 : 0 < (t1061.length : Int) := of_decide_eq_true (by first | (with_reducible assumption) | assumption)
     obtain ⟨ad1087, e1087, hx1087_0⟩ := Kd.Zb5 (Kd.Za7 HO_1075001.out).2.2 0 p1087 q1087
     obtain rfl : ad1080 = ad1087 := (by injection e1087)
     have qi1087 : (0 < t1061.length) = True := eq_true (by omega)
     (try rw [show ((0 : Int)).toNat = 0 from rfl] at hx1087_0)
     (try rw [Addr.add_zero'] at hx1087_0)
     replace p1087 := eq_true p1087
     replace q1087 := eq_true q1087
     refine Zd0 (n := 13) (S := fun w' => w'.cell? ⟨gb1074, 0, none⟩ = some (.int .i64 t1060) ∧ w'.cell? ⟨gb1074, 1, none⟩ = some (.slice (some ad1080) t1061.length co12) ∧ w'.cell? ⟨gb1074, 2, none⟩ = some (.slice Ao13 t1064.length co13) ∧ w'.cell? ⟨gb1074, 3, none⟩ = some (.int .i64 t1067) ∧ w'.cell? ⟨gb1074, 4, none⟩ = some (.int .i64 t1068) ∧ w'.cell? ⟨gb1074, 5, none⟩ = some (.slice Ao14 t1069.length co14) ∧ w'.cell? ⟨gb1074, 6, none⟩ = some (.int .i64 t1072) ∧ w'.cell? ad1080 = some (.int .i64 (rd t1061 0))) (ds := [12]) #[false, false, false, false, false, false, false, false, false, false, false, false, false] (by kernel_rfl) rfl rfl ⟨(Zas BK1074.out 0).trans rfl, (Zas BK1074.out 1).trans rfl, (Zas BK1074.out 2).trans rfl, (Zas BK1074.out 3).trans rfl, (Zas BK1074.out 4).trans rfl, (Zas BK1074.out 5).trans rfl, (Zas BK1074.out 6).trans rfl, hx1087_0⟩ (fun hHeld => ?_); refine Zcx Zaf.tab14 Zaf.bits14 (fun HT_ HW_ => ?_)
     generalize wr.drew = w44 at HO_3 HO_8 HO_1075001 HO_1075002 HO_1075005 BK1056 BK1074 HR1081_0 HB hx1087_0 hHeld ⊢
     refine Zbk (i := 0) (N := some 66) (v := ?_) (a' := ?_) #[true, false, false, false, false, false, false, false, false, false, false, false, false] rfl rfl (Za8 HT_.out (by kernel_rfl)) (fun _ _ _ h => h) (Or.inl ⟨by rfl, ?_⟩) ?_ ?_
     rotate_left
     ·intro w'
      go_simp
      with_reducible rfl
     rotate_left
     ·simp only [Act.put, List.setIfInBounds_toArray, List.set_cons_zero, List.set_cons_succ, Zbb, Zbc]
      rfl
     refine Zbk (i := 1) (N := some 67) (v := ?_) (a' := ?_) #[true, true, false, false, false, false, false, false, false, false, false, false, false] rfl rfl (Za8 HT_.out (by kernel_rfl)) (fun _ _ _ h => h) (Or.inl ⟨by rfl, ?_⟩) ?_ ?_
     rotate_left
     ·intro w'
      go_simp
      with_reducible rfl
     rotate_left
     ·simp only [Act.put, List.setIfInBounds_toArray, List.set_cons_zero, List.set_cons_succ, Zbb, Zbc]
      rfl
     refine Zbk (i := 5) (N := some 71) (v := ?_) (a' := ?_) #[true, true, false, false, false, true, false, false, false, false, false, false, false] rfl rfl (Za8 HT_.out (by kernel_rfl)) (fun _ _ _ h => h) (Or.inl ⟨by rfl, ?_⟩) ?_ ?_
     rotate_left
     ·intro w'
      go_simp
      with_reducible rfl
     rotate_left
     ·simp only [Act.put, List.setIfInBounds_toArray, List.set_cons_zero, List.set_cons_succ, Zbb, Zbc]
      rfl
     refine Zdg (i := 2) (N := some 68) (v := ?_) (a' := ?_) #[true, true, true, false, false, true, false, false, false, false, false, false, false] rfl rfl (Zcb HT_.out HW_.out (by kernel_rfl)) (fun _ _ _ h => h) (Or.inl ⟨by rfl, ?_⟩) hHeld ?_ ?_
     rotate_left
     ·rintro w' ⟨s0, s1, s2, s3, s4, s5, s6, s7⟩
      go_simp
      with_reducible rfl
     rotate_left
     ·simp only [Act.put, List.setIfInBounds_toArray, List.set_cons_zero, List.set_cons_succ, Zbb, Zbc]
      rfl
     refine Zbk (i := 3) (N := some 69) (v := ?_) (a' := ?_) #[true, true, true, true, false, true, false, false, false, false, false, false, false] rfl rfl (Za8 HT_.out (by kernel_rfl)) (fun _ _ _ h => h) (Or.inl ⟨by rfl, ?_⟩) ?_ ?_
     rotate_left
     ·intro w'
      go_simp
      with_reducible rfl
     rotate_left
     ·simp only [Act.put, List.setIfInBounds_toArray, List.set_cons_zero, List.set_cons_succ, Zbb, Zbc]
      rfl
     refine Zdg (i := 4) (N := some 70) (v := ?_) (a' := ?_) #[true, true, true, true, true, true, false, false, false, false, false, false, false] rfl rfl (Zcb HT_.out HW_.out (by kernel_rfl)) (fun _ _ _ h => h) (Or.inl ⟨by rfl, ?_⟩) hHeld ?_ ?_
     rotate_left
     ·rintro w' ⟨s0, s1, s2, s3, s4, s5, s6, s7⟩
      go_simp
      with_reducible rfl
     rotate_left
     ·simp only [Act.put, List.setIfInBounds_toArray, List.set_cons_zero, List.set_cons_succ, Zbb, Zbc]
      rfl
     refine Zdg (i := 6) (N := some 72) (v := ?_) (a' := ?_) #[true, true, true, true, true, true, true, false, false, false, false, false, false] rfl rfl (Zcb HT_.out HW_.out (by kernel_rfl)) (fun _ _ _ h => h) (Or.inl ⟨by rfl, ?_⟩) hHeld ?_ ?_
     rotate_left
     ·rintro w' ⟨s0, s1, s2, s3, s4, s5, s6, s7⟩
      go_simp
      with_reducible rfl
     rotate_left
     ·simp only [Act.put, List.setIfInBounds_toArray, List.set_cons_zero, List.set_cons_succ, Zbb, Zbc]
      rfl
     refine Zbk (i := 7) (N := some 73) (v := ?_) (a' := ?_) #[true, true, true, true, true, true, true, true, false, false, false, false, false] rfl rfl (Za8 HT_.out (by kernel_rfl)) (fun _ _ _ h => h) (Or.inl ⟨by rfl, ?_⟩) ?_ ?_
     rotate_left
     ·intro w'
      go_simp
      with_reducible rfl
     rotate_left
     ·simp only [Act.put, List.setIfInBounds_toArray, List.set_cons_zero, List.set_cons_succ, Zbb, Zbc]
      rfl
     refine Zbk (i := 8) (N := some 74) (v := ?_) (a' := ?_) #[true, true, true, true, true, true, true, true, true, false, false, false, false] rfl rfl (Za8 HT_.out (by kernel_rfl)) (fun _ _ _ h => h) (Or.inl ⟨by rfl, ?_⟩) ?_ ?_
     rotate_left
     ·intro w'
      go_simp
      with_reducible rfl
     rotate_left
     ·simp only [Act.put, List.setIfInBounds_toArray, List.set_cons_zero, List.set_cons_succ, Zbb, Zbc]
      rfl
     refine Zbk (i := 9) (N := some 75) (v := ?_) (a' := ?_) #[true, true, true, true, true, true, true, true, true, true, false, false, false] rfl rfl (Za8 HT_.out (by kernel_rfl)) (fun _ _ _ h => h) (Or.inl ⟨by rfl, ?_⟩) ?_ ?_
     rotate_left
     ·intro w'
      go_simp
      with_reducible rfl
     rotate_left
     ·simp only [Act.put, List.setIfInBounds_toArray, List.set_cons_zero, List.set_cons_succ, Zbb, Zbc]
      rfl
     refine one_ (i := 10) (N := some 76) #[true, true, true, true, true, true, true, true, true, true, true, false, false] rfl rfl (Zdw HT_.out (by kernel_rfl)) (by decide) (fun K hK => ?_)
     refine Kd.Zgn k41 _ 41 ?hg (N := 76) ?hd (xs := ([(⟨wrap64 ((t1061.length : Int) - 2), 50⟩ : S41)] : List (S41))) (inner := [.int .i64 (wrap64 ((t1061.length : Int) - 2)), .int .i64 50]) (ok := fun _ => True) (okp := fun _ => True) ?hr ?hp (fun _ hk => hk) trivial (Below.refl _ _) (Nat.le_refl _) (by simp) ?_; (case hd => rfl); (case hg => rfl); (case hr => first | (go_simp; done) | (go_simp; rfl)); (case hp => exact (Reps.c2 (show Kd.M k41 _ _ _ (⟨wrap64 ((t1061.length : Int) - 2), 50⟩ : S41) [.int .i64 (wrap64 ((t1061.length : Int) - 2)), .int .i64 50] from (Zcm _ _ _ (⟨wrap64 ((t1061.length : Int) - 2), 50⟩ : S41) )) (Reps.none _ _)))
     intro v1089 w45 ho46 hb hg_ hnew_
     have HS7_ := (hb.cell (World.block_lt_of_cell? _ _ (hHeld.2.2.2.2.2.2.2))).trans (hHeld.2.2.2.2.2.2.2)
     clear hg_ hnew_
     (first | rw [← Ny1088.out] at ho46 | (simp only [Int.reduceToNat] at ho46; rw [← Ny1088.out] at ho46))
     obtain ⟨Av1089, cv1089, ev1089⟩ := Kd.Zbo ho46
     subst ev1089
     have n0_ := Zaa.mk (Kd.Zb8 (mvN HO_3.out) (Kd.Zb4 ho46) hb)
     have n1_ := Zaa.mk (Kd.Zbv (mvR HO_8.out) hb)
     have n2_ := Zaa.mk (Kd.Zbv (mvR HO_1075001.out) hb)
     have n3_ := Zaa.mk (Kd.Zbv (mvR HO_1075002.out) hb)
     have n4_ := Zaa.mk (Kd.Zb8 (mvN HO_1075005.out) (Kd.Zb4 ho46) hb)
     have n5_ := Zaa.mk (Kd.Zb1 ho46 (Zal (mvB HB.out)))
     have n6_ := Zaa.mk (Zba (g := gb1056) (o := .cells #[.slice A0_0 l0_0.length c0_0, .int .i64 a0_1, .slice A0_2 l0_2.length c0_2, .slice A0_3 l0_3.length c0_3, .int .i64 a0_4, .int .i64 a0_5, .slice A0_6 l0_6.length c0_6, .int .i64 a0_7, .slice A0_8 l0_8.length c0_8, .slice A0_9 l0_9.length c0_9] 27 (0, 0)) (mvK BK1056.out) hb)
     have n7_ := Zaa.mk (Zba (g := gb1074) (o := .cells #[.int .i64 t1060, .slice (some ad1080) t1061.length co12, .slice Ao13 t1064.length co13, .int .i64 t1067, .int .i64 t1068, .slice Ao14 t1069.length co14, .int .i64 t1072] 25 (0, 0)) (mvK BK1074.out) hb)
     have n8_ := Zaa.mk (Kd.Zbu (by first | (with_reducible exact HR1081_0.out) | (with_reducible exact Kd.C_drewN HR1081_0.out _) | (with_reducible exact Kd.Zbp HR1081_0.out) | repeat (first | (with_reducible exact HR1081_0.out) | (with_reducible refine Kd.C_alloc ?_ _) | (with_reducible refine Kd.C_drewN ?_ _) | (with_reducible refine Kd.Zbp ?_) | exact HR1081_0.out)) hb)
     have n9_ := Zaa.mk (Zay (mvB HB.out) hb)
     clear HO_3
     clear HO_8
     clear HO_1075001
     clear HO_1075002
     clear HO_1075005
     clear BK1056
     clear BK1074
     clear HR1081_0
     clear HB
     have HO_3 := n0_
     have HO_8 := n1_
     have HO_1075001 := n2_
     have HO_1075002 := n3_
     have HO_1075005 := n4_
     have HO1090 := n5_
     have BK1056 := n6_
     have BK1074 := n7_
     have HR1081_0 := n8_
     have HB := n9_
     clear n0_ n1_ n2_ n3_ n4_ n5_ n6_ n7_ n8_ n9_
     clear hb ho46
     have p38 : 0 ≤ ((rd t1061 0) : Int) := of_decide_eq_true (by first | (with_reducible assumption) | assumption)
     have q38 : ((rd t1061 0) : Int) < ((t1057.length : Int) : Int) := of_decide_eq_true (by first | (with_reducible assumption) | assumption)
     obtain ⟨go38, co38, eo38, gb38, gl38, cl38, HG38⟩ := Kd.N_form HO_3.out (by omega)
     (first | cases eo38 | (injection eo38 with ea_ en_ ec_; (first | subst ea_ | (injection ea_ with ea_; subst ea_)); subst ec_; clear en_))
     have GB38 := Zaa.mk gb38
     have GG38 := Zaa.mk HG38
     clear gb38 gl38 HG38
     obtain ⟨ce38, hcl38, hM38, hcc38, hfr38⟩ := Kd.Zfw HO_3.out [] ((rd t1061 0) : Int) p38 q38
     obtain ⟨ua38_0, uc38_0, rfl, ul38_0, ge38_0⟩ := Kd.Zc4 hM38
     have hx38_0 := hcc38 0 _ rfl
     have hf38_0 := hfr38 0
     (try simp only [show ((Kd.slice 41 k41)).sz = 1 from rfl, Nat.mul_one, Nat.add_zero] at hx38_0)
     (try simp only [show ((Kd.slice 41 k41)).sz = 1 from rfl, Nat.mul_one, Nat.add_zero] at hf38_0)
     (try clear hM38); clear hcl38 hcc38 hfr38
     replace p38 := eq_true p38
     replace q38 := eq_true q38
     have HX47 := Zaa.mk (show Kd.N (Kd.slice 41 k41) 39 _ w.heap.size (fun k_ => some k_ ≠ (.slice Ao43 t1082.length co43 : Value).ownBlock ∧ some k_ ≠ (.slice (some ad1080) t1061.length co12 : Value).ownBlock ∧ some k_ ≠ (.slice Ao13 t1064.length co13 : Value).ownBlock ∧ some k_ ≠ (.slice Ao14 t1069.length co14 : Value).ownBlock ∧ some k_ ≠ ((.slice Av1089 y1088.length cv1089) : Value).ownBlock ∧ k_ ≠ gb1056 ∧ k_ ≠ gb1074) (.slice (some ⟨go38, 0, none⟩) t1057.length co15) t1057 from (Kd.Zb7 (HO_3.out) (fun k_ hk => ⟨hk.1.1, ⟨hk.1.2.1, ⟨hk.1.2.2.1, ⟨hk.1.2.2.2.1, ⟨hk.2, ⟨hk.1.2.2.2.2.1, hk.1.2.2.2.2.2⟩⟩⟩⟩⟩⟩)))
     replace HX47 := Zaa.mk (show Kd.N (Kd.slice 41 k41) 39 _ w.heap.size (fun k_ => some k_ ≠ (.slice Ao43 t1082.length co43 : Value).ownBlock ∧ some k_ ≠ (.slice (some ad1080) t1061.length co12 : Value).ownBlock ∧ some k_ ≠ (.slice Ao13 t1064.length co13 : Value).ownBlock ∧ some k_ ≠ (.slice Ao14 t1069.length co14 : Value).ownBlock ∧ k_ ≠ gb1056 ∧ k_ ≠ gb1074) (.slice (some ⟨go38, 0, none⟩) t1057.length co15) t1057 from Kd.Zb7 HX47.out (fun k_ hk => ⟨hk.1, ⟨hk.2.1, ⟨hk.2.2.1, ⟨hk.2.2.2.1, ⟨hk.2.2.2.2.2.1, hk.2.2.2.2.2.2⟩⟩⟩⟩⟩))
     obtain ⟨ce47, hcl47, hM47, hcc47, hfr47⟩ := Kd.Zfw HX47.out [] ((rd t1061 0) : Int) (of_decide_eq_true (by first | (with_reducible assumption) | assumption)) (by have h_ : ((rd t1061 0) : Int) < ((t1057.length : Int) : Int) := of_decide_eq_true (by first | (with_reducible assumption) | assumption); first | exact h_ | (have e_ := (Kd.Zb9 HO_3.out).1; omega) | simpa using h_)
     obtain ⟨ua47_0, uc47_0, rfl, ul47_0, ge47_0⟩ := Kd.Zc4 hM47
     have HP47 := (Kd.N_seg HX47.out ((rd t1061 0) : Int) (of_decide_eq_true (by first | (with_reducible assumption) | assumption)) (by have h_ : ((rd t1061 0) : Int) < ((t1057.length : Int) : Int) := of_decide_eq_true (by first | (with_reducible assumption) | assumption); first | exact h_ | (have e_ := (Kd.Zb9 HO_3.out).1; omega) | simpa using h_) (seg := [(.slice Av1089 y1088.length cv1089)]) (j := 0) hcl47 hcc47 (show 1 ≤ 1 from by decide) (x' := y1088) (by obtain ⟨Aq_, cq_, eq_⟩ := Kd.Zbo HO1090.out; (try subst eq_); exact Kd.Zcu (Kd.Za7 (Kd.Zbe (ok' := (fun k_ => ((fun k_ => some k_ ≠ (.slice Ao43 t1082.length co43 : Value).ownBlock ∧ some k_ ≠ (.slice (some ad1080) t1061.length co12 : Value).ownBlock ∧ some k_ ≠ (.slice Ao13 t1064.length co13 : Value).ownBlock ∧ some k_ ≠ (.slice Ao14 t1069.length co14 : Value).ownBlock ∧ k_ ≠ gb1056 ∧ k_ ≠ gb1074)) k_ ∧ k_ ≠ go38)) (Kd.Zbs (Kd.Zbs (Kd.Zbl (Kd.Zbl (Kd.Zbl (Kd.Zbl (Kd.Zbl (HO1090.out) (Kd.Zco HO_8.out) (by decide)) (Kd.Zco HO_1075001.out) (by decide)) (Kd.Zco HO_1075002.out) (by decide)) (Kd.Zca HO_1075005.out) (by decide)) (Kd.Zca HO_3.out) (by decide)) BK1056.out (by decide)) BK1074.out (by decide)) (fun k_ hk => ⟨⟨hk.1.1.1.1.1.1.2, ⟨hk.1.1.1.1.1.2, ⟨hk.1.1.1.1.2, ⟨hk.1.1.1.2, ⟨hk.1.2, hk.2⟩⟩⟩⟩⟩, fun e_ => (hk.1.1.2) (by rw [e_]; rfl)⟩))).2.1 (Kd.R_F (Kd.Zbe (ok' := (fun k_ => ((fun k_ => some k_ ≠ (.slice Ao43 t1082.length co43 : Value).ownBlock ∧ some k_ ≠ (.slice (some ad1080) t1061.length co12 : Value).ownBlock ∧ some k_ ≠ (.slice Ao13 t1064.length co13 : Value).ownBlock ∧ some k_ ≠ (.slice Ao14 t1069.length co14 : Value).ownBlock ∧ k_ ≠ gb1056 ∧ k_ ≠ gb1074)) k_ ∧ k_ ≠ go38)) (Kd.Zbs (Kd.Zbs (Kd.Zbl (Kd.Zbl (Kd.Zbl (Kd.Zbl (Kd.Zbl (HO1090.out) (Kd.Zco HO_8.out) (by decide)) (Kd.Zco HO_1075001.out) (by decide)) (Kd.Zco HO_1075002.out) (by decide)) (Kd.Zca HO_1075005.out) (by decide)) (Kd.Zca HO_3.out) (by decide)) BK1056.out (by decide)) BK1074.out (by decide)) (fun k_ hk => ⟨⟨hk.1.1.1.1.1.1.2, ⟨hk.1.1.1.1.1.2, ⟨hk.1.1.1.1.2, ⟨hk.1.1.1.2, ⟨hk.1.2, hk.2⟩⟩⟩⟩⟩, fun e_ => (hk.1.1.2) (by rw [e_]; rfl)⟩)))) (fun _ hk => hk)).1
     (try simp only [show ((Kd.slice 41 k41)).sz = 1 from rfl, Nat.mul_one, Nat.add_zero] at HP47)
     rw [← Ny1091.out] at HP47
     have HQ47 := Zaa.mk HP47
     (try clear hM47); clear hcl47 hcc47 hfr47 HP47
     refine hK.out _ _ ⟨(Zas BK1074.out 0).trans rfl, (Zas BK1074.out 1).trans rfl, (Zas BK1074.out 2).trans rfl, (Zas BK1074.out 3).trans rfl, (Zas BK1074.out 4).trans rfl, (Zas BK1074.out 5).trans rfl, (Zas BK1074.out 6).trans rfl, HS7_⟩ (fun hHeld => ?_)
     clear hK K
     refine Zg (a' := ?_) ?_ ?_
     rotate_left
     ·show Act.put _ (some 76) _ = _
      simp only [Act.put, List.setIfInBounds_toArray, List.set_cons_zero, List.set_cons_succ, Zbb, Zbc]
      rfl
     refine Zbk (i := 11) (N := some 77) (v := ?_) (a' := ?_) #[true, true, true, true, true, true, true, true, true, true, true, true, false] rfl rfl (Za8 HT_.out (by kernel_rfl)) (fun _ _ _ h => h) (Or.inl ⟨by rfl, ?_⟩) ?_ ?_
     rotate_left
     ·intro w'
      go_simp
      with_reducible rfl
     rotate_left
     ·simp only [Act.put, List.setIfInBounds_toArray, List.set_cons_zero, List.set_cons_succ, Zbb, Zbc]
      rfl
     refine last_ (i := 12) (N := none) #[true, true, true, true, true, true, true, true, true, true, true, true, true] rfl rfl (Zdw HT_.out (by kernel_rfl)) (by decide) (fun K hK => ?_)
     refine skip_ (w1 := ?_) (by rfl) rfl ?_ ?_
     rotate_left
     ·go_simp
      rfl
     refine hK.out _ _ ?_
     clear hK K
     refine Ze0 (Zdk HT_.out (by kernel_rfl)) ?_
     have hnb48 := NB1074_1056.out
     have hnc48 := NB1056_1074.out
     have hcz49_0 : w45.cell? ⟨gb1074, 0, none⟩ = some (.int .i64 t1060) := (Zas BK1074.out 0).trans rfl
     have hbz_1074 := Zbt (p := ⟨go38, ((rd t1061 0) : Int).toNat, none⟩) BK1074.out (show gb1074 ≠ go38 from (by have h_ := Kd.Zev HQ47.out (fun _ hk => hk.2.2.2.2.2); intro e_; exact h_ (by rw [e_]; rfl))) (.slice Av1089 y1088.length cv1089)
     have hzz_1074_0 : (w45.setCell ⟨go38, ((rd t1061 0) : Int).toNat, none⟩ (.slice Av1089 y1088.length cv1089)).cell? ⟨gb1074, 0, none⟩ = some (.int .i64 t1060) := (Zas hbz_1074 0).trans rfl
     have hcz49_1 : w45.cell? ⟨gb1074, 1, none⟩ = some (.slice (some ad1080) t1061.length co12) := (Zas BK1074.out 1).trans rfl
     have hzz_1074_1 : (w45.setCell ⟨go38, ((rd t1061 0) : Int).toNat, none⟩ (.slice Av1089 y1088.length cv1089)).cell? ⟨gb1074, 1, none⟩ = some (.slice (some ad1080) t1061.length co12) := (Zas hbz_1074 1).trans rfl
     have hcz49_2 : w45.cell? ⟨gb1074, 2, none⟩ = some (.slice Ao13 t1064.length co13) := (Zas BK1074.out 2).trans rfl
     have hzz_1074_2 : (w45.setCell ⟨go38, ((rd t1061 0) : Int).toNat, none⟩ (.slice Av1089 y1088.length cv1089)).cell? ⟨gb1074, 2, none⟩ = some (.slice Ao13 t1064.length co13) := (Zas hbz_1074 2).trans rfl
     have hcz49_3 : w45.cell? ⟨gb1074, 3, none⟩ = some (.int .i64 t1067) := (Zas BK1074.out 3).trans rfl
     have hzz_1074_3 : (w45.setCell ⟨go38, ((rd t1061 0) : Int).toNat, none⟩ (.slice Av1089 y1088.length cv1089)).cell? ⟨gb1074, 3, none⟩ = some (.int .i64 t1067) := (Zas hbz_1074 3).trans rfl
     have hcz49_4 : w45.cell? ⟨gb1074, 4, none⟩ = some (.int .i64 t1068) := (Zas BK1074.out 4).trans rfl
     have hzz_1074_4 : (w45.setCell ⟨go38, ((rd t1061 0) : Int).toNat, none⟩ (.slice Av1089 y1088.length cv1089)).cell? ⟨gb1074, 4, none⟩ = some (.int .i64 t1068) := (Zas hbz_1074 4).trans rfl
     have hcz49_5 : w45.cell? ⟨gb1074, 5, none⟩ = some (.slice Ao14 t1069.length co14) := (Zas BK1074.out 5).trans rfl
     have hzz_1074_5 : (w45.setCell ⟨go38, ((rd t1061 0) : Int).toNat, none⟩ (.slice Av1089 y1088.length cv1089)).cell? ⟨gb1074, 5, none⟩ = some (.slice Ao14 t1069.length co14) := (Zas hbz_1074 5).trans rfl
     have hcz49_6 : w45.cell? ⟨gb1074, 6, none⟩ = some (.int .i64 t1072) := (Zas BK1074.out 6).trans rfl
     have hzz_1074_6 : (w45.setCell ⟨go38, ((rd t1061 0) : Int).toNat, none⟩ (.slice Av1089 y1088.length cv1089)).cell? ⟨gb1074, 6, none⟩ = some (.int .i64 t1072) := (Zas hbz_1074 6).trans rfl
     have hfz49_0 := Zbi BK1074.out 0
     have hfz49_1 := Zbi BK1074.out 1
     have hfz49_2 := Zbi BK1074.out 2
     have hfz49_3 := Zbi BK1074.out 3
     have hfz49_4 := Zbi BK1074.out 4
     have hfz49_5 := Zbi BK1074.out 5
     have hfz49_6 := Zbi BK1074.out 6
     try go_wp2_with (first | ((with_reducible refine Zbq (f := 35) rfl ?_); refine Zcp (some 81) rfl rfl Try.func35 (by kernel_rfl) rfl #[.slice (some ⟨go38, 0, none⟩) y1091.length co15, .agg #[.int .i64 t1060, .slice (some ad1080) t1061.length co12, .slice Ao13 t1064.length co13, .int .i64 t1067, .int .i64 t1068, .slice Ao14 t1069.length co14, .int .i64 t1072]] rfl (by (try simp only [List.map_toArray, List.map_cons, List.map_nil]); first | done | (rw [show y1091.length = t1057.length from (Kd.Zb9 HQ47.out).1.symm] <;> rfl) | rfl | (simp only [List.length_drop, List.length_take]; rfl)) ?_; (with_reducible refine (Zah.calls k2 _ _ y1091 t1060 _ _ t1061 _ _ t1064 t1067 t1068 _ _ t1069 t1072 t1092 false _ ?side1 ?side2 ?side3 ?side4 ?side5 ?side6 ?side7 ?side8 A39.out).mono ?_); (case side1 => refine (Kd.Zb9 (e := 39) (base := w.heap.size) (ok := fun k_ => (some k_ ≠ (.slice Ao43 t1082.length co43 : Value).ownBlock ∧ (some k_ ≠ (.slice (some ad1080) t1061.length co12 : Value).ownBlock ∧ (some k_ ≠ (.slice Ao13 t1064.length co13 : Value).ownBlock ∧ (some k_ ≠ (.slice Ao14 t1069.length co14 : Value).ownBlock ∧ (k_ ≠ gb1056 ∧ k_ ≠ gb1074)))))) (n := t1057.length) (c := co15) ?_).2.2; exact (by (with_reducible repeat (first | apply Kd.Zby | apply Kd.Zbz | apply Kd.Zb3)); exact HQ47.out)); (case side2 => rw [show y1091.length = t1057.length from (Kd.Zb9 HQ47.out).1.symm]; exact (Kd.Zb9 HO_3.out).2.1); (case side3 => refine (Kd.Za7 (e := 3) (base := w.heap.size) (ok := fun k_ => (some k_ ≠ (.slice Ao43 t1082.length co43 : Value).ownBlock ∧ some k_ ≠ (.slice Ao13 t1064.length co13 : Value).ownBlock)) (n := t1061.length) (c := co12) ?_).2.2; exact (by (with_reducible repeat (first | apply Kd.Zan | apply Kd.Zam | apply Kd.Zar)); exact (Kd.Zbe (Kd.Zbg (p := ⟨go38, ((rd t1061 0) : Int).toNat, none⟩) (Kd.Zbs HO_1075001.out GG38.out (by decide)) (fun _ hk => hk.2) ((.slice Av1089 y1088.length cv1089))) (fun _ h_ => h_.1)))); (case side4 => exact (Kd.Za7 HO_1075001.out).2.1); (case side5 => refine (Kd.Za7 (e := 3) (base := w.heap.size) (ok := fun k_ => (some k_ ≠ (.slice Ao43 t1082.length co43 : Value).ownBlock ∧ some k_ ≠ (.slice (some ad1080) t1061.length co12 : Value).ownBlock)) (n := t1064.length) (c := co13) ?_).2.2; exact (by (with_reducible repeat (first | apply Kd.Zan | apply Kd.Zam | apply Kd.Zar)); exact (Kd.Zbe (Kd.Zbg (p := ⟨go38, ((rd t1061 0) : Int).toNat, none⟩) (Kd.Zbs HO_1075002.out GG38.out (by decide)) (fun _ hk => hk.2) ((.slice Av1089 y1088.length cv1089))) (fun _ h_ => h_.1)))); (case side6 => exact (Kd.Za7 HO_1075002.out).2.1); (case side7 => refine (Kd.Zb9 (e := 23) (base := w.heap.size) (ok := fun k_ => ((some k_ ≠ (.slice (some ⟨go38, 0, none⟩) t1057.length co15 : Value).ownBlock ∧ (some k_ ≠ (.slice Ao43 t1082.length co43 : Value).ownBlock ∧ (some k_ ≠ (.slice (some ad1080) t1061.length co12 : Value).ownBlock ∧ (some k_ ≠ (.slice Ao13 t1064.length co13 : Value).ownBlock ∧ (k_ ≠ gb1056 ∧ k_ ≠ gb1074))))) ∧ some k_ ≠ ((.slice Av1089 y1088.length cv1089) : Value).ownBlock)) (n := t1069.length) (c := co14) ?_).2.2; exact (by (with_reducible repeat (first | apply Kd.Zby | apply Kd.Zbz | apply Kd.Zb3)); exact (Kd.Zb7 (Kd.Zc (p := ⟨go38, ((rd t1061 0) : Int).toNat, none⟩) (Kd.Zb7 HO_1075005.out (fun k_ hk => (⟨hk, fun e_ => hk.1.1 (by rw [e_]; rfl)⟩ : _ ∧ k_ ≠ go38))) (fun _ hk => hk.2) ((.slice Av1089 y1088.length cv1089))) (fun _ h_ => h_.1)))); (case side8 => exact (Kd.Zb9 HO_1075005.out).2.1); rintro e w50 ⟨v1093, rfl, ho0, hb⟩; refine ⟨_, rfl, ?_⟩; have n0_ := Zaa.mk (Kd.Zb8 (by (with_reducible repeat (first | apply Kd.Zby | apply Kd.Zbz | apply Kd.Zb3)); exact HQ47.out) (by first | exact Kd.Zd8 ho0 | exact Kd.Zew ho0 | exact Kd.Zb4 ho0) hb); have n1_ := Zaa.mk (Kd.Zbv (by (with_reducible repeat (first | apply Kd.Zan | apply Kd.Zam | apply Kd.Zar)); exact (Kd.Zbe (Kd.Zbg (p := ⟨go38, ((rd t1061 0) : Int).toNat, none⟩) (Kd.Zbs HO_8.out GG38.out (by decide)) (fun _ hk => hk.2) ((.slice Av1089 y1088.length cv1089))) (fun _ h_ => h_.1))) hb); have n2_ := Zaa.mk (Kd.Zbv (by (with_reducible repeat (first | apply Kd.Zan | apply Kd.Zam | apply Kd.Zar)); exact (Kd.Zbe (Kd.Zbg (p := ⟨go38, ((rd t1061 0) : Int).toNat, none⟩) (Kd.Zbs HO_1075001.out GG38.out (by decide)) (fun _ hk => hk.2) ((.slice Av1089 y1088.length cv1089))) (fun _ h_ => h_.1))) hb); have n3_ := Zaa.mk (Kd.Zbv (by (with_reducible repeat (first | apply Kd.Zan | apply Kd.Zam | apply Kd.Zar)); exact (Kd.Zbe (Kd.Zbg (p := ⟨go38, ((rd t1061 0) : Int).toNat, none⟩) (Kd.Zbs HO_1075002.out GG38.out (by decide)) (fun _ hk => hk.2) ((.slice Av1089 y1088.length cv1089))) (fun _ h_ => h_.1))) hb); have n4_ := Zaa.mk (Kd.Zb8 (by (with_reducible repeat (first | apply Kd.Zby | apply Kd.Zbz | apply Kd.Zb3)); exact (Kd.Zb7 (Kd.Zc (p := ⟨go38, ((rd t1061 0) : Int).toNat, none⟩) (Kd.Zb7 HO_1075005.out (fun k_ hk => (⟨hk, fun e_ => hk.1.1 (by rw [e_]; rfl)⟩ : _ ∧ k_ ≠ go38))) (fun _ hk => hk.2) ((.slice Av1089 y1088.length cv1089))) (fun _ h_ => h_.1))) (by first | exact Kd.Zd8 ho0 | exact Kd.Zew ho0 | exact Kd.Zb4 ho0) hb); have n5_ := Zaa.mk (Kd.Zdy (Kd.Zb7 (ok' := fun k_ => some k_ ≠ (.slice (some ⟨go38, 0, none⟩) t1057.length co15 : Value).ownBlock ∧ some k_ ≠ (.slice Ao43 t1082.length co43 : Value).ownBlock ∧ some k_ ≠ (.slice (some ad1080) t1061.length co12 : Value).ownBlock ∧ some k_ ≠ (.slice Ao13 t1064.length co13 : Value).ownBlock ∧ some k_ ≠ (.slice Ao14 t1069.length co14 : Value).ownBlock ∧ k_ ≠ gb1056 ∧ k_ ≠ gb1074) (Kd.S_N (Kd.Zd7 ho0)) (fun k_ hk_ => ⟨(Kd.fresh' (Kd.N_lt (by (with_reducible repeat (first | apply Kd.Zby | apply Kd.Zbz | apply Kd.Zb3)); exact HQ47.out)) k_ hk_.2.1), (Kd.fresh' (Kd.R_lt (by (with_reducible repeat (first | apply Kd.Zan | apply Kd.Zam | apply Kd.Zar)); exact (Kd.Zbe (Kd.Zbg (p := ⟨go38, ((rd t1061 0) : Int).toNat, none⟩) (Kd.Zbs HO_8.out GG38.out (by decide)) (fun _ hk => hk.2) ((.slice Av1089 y1088.length cv1089))) (fun _ h_ => h_.1)))) k_ hk_.2.1), (Kd.fresh' (Kd.R_lt (by (with_reducible repeat (first | apply Kd.Zan | apply Kd.Zam | apply Kd.Zar)); exact (Kd.Zbe (Kd.Zbg (p := ⟨go38, ((rd t1061 0) : Int).toNat, none⟩) (Kd.Zbs HO_1075001.out GG38.out (by decide)) (fun _ hk => hk.2) ((.slice Av1089 y1088.length cv1089))) (fun _ h_ => h_.1)))) k_ hk_.2.1), (Kd.fresh' (Kd.R_lt (by (with_reducible repeat (first | apply Kd.Zan | apply Kd.Zam | apply Kd.Zar)); exact (Kd.Zbe (Kd.Zbg (p := ⟨go38, ((rd t1061 0) : Int).toNat, none⟩) (Kd.Zbs HO_1075002.out GG38.out (by decide)) (fun _ hk => hk.2) ((.slice Av1089 y1088.length cv1089))) (fun _ h_ => h_.1)))) k_ hk_.2.1), (Kd.fresh' (Kd.N_lt (by (with_reducible repeat (first | apply Kd.Zby | apply Kd.Zbz | apply Kd.Zb3)); exact (Kd.Zb7 (Kd.Zc (p := ⟨go38, ((rd t1061 0) : Int).toNat, none⟩) (Kd.Zb7 HO_1075005.out (fun k_ hk => (⟨hk, fun e_ => hk.1.1 (by rw [e_]; rfl)⟩ : _ ∧ k_ ≠ go38))) (fun _ hk => hk.2) ((.slice Av1089 y1088.length cv1089))) (fun _ h_ => h_.1)))) k_ hk_.2.1), (Kd.freshB (g := gb1056) (o := .cells #[.slice A0_0 l0_0.length c0_0, .int .i64 a0_1, .slice A0_2 l0_2.length c0_2, .slice A0_3 l0_3.length c0_3, .int .i64 a0_4, .int .i64 a0_5, .slice A0_6 l0_6.length c0_6, .int .i64 a0_7, .slice A0_8 l0_8.length c0_8, .slice A0_9 l0_9.length c0_9] 27 (0, 0)) (by (with_reducible repeat (first | refine Zae ?_ _ | refine Zag ?_ | refine Zad ?_ _)); refine Zbt ?_ (by have h_ := Kd.Zev HQ47.out (fun _ hk => hk.2.2.2.2.1); intro e_; exact h_ (by rw [e_]; rfl)) _; (with_reducible repeat (first | refine Zae ?_ _ | refine Zag ?_ | refine Zad ?_ _)); exact BK1056.out) k_ hk_.2.1), (Kd.freshB (g := gb1074) (o := .cells #[.int .i64 t1060, .slice (some ad1080) t1061.length co12, .slice Ao13 t1064.length co13, .int .i64 t1067, .int .i64 t1068, .slice Ao14 t1069.length co14, .int .i64 t1072] 25 (0, 0)) (by (with_reducible repeat (first | refine Zae ?_ _ | refine Zag ?_ | refine Zad ?_ _)); refine Zbt ?_ (by have h_ := Kd.Zev HQ47.out (fun _ hk => hk.2.2.2.2.2); intro e_; exact h_ (by rw [e_]; rfl)) _; (with_reducible repeat (first | refine Zae ?_ _ | refine Zag ?_ | refine Zad ?_ _)); exact BK1074.out) k_ hk_.2.1)⟩)) (Zal (by repeat (first | (with_reducible first | exact HB.out | apply Zab | apply Za | apply Zac | refine Zai ?_ GB38.out | refine Zai ?_ GE1056.out | refine Zai ?_ GE1074.out) | exact HB.out)))); have n6_ := Zaa.mk (Zba (g := gb1056) (o := .cells #[.slice A0_0 l0_0.length c0_0, .int .i64 a0_1, .slice A0_2 l0_2.length c0_2, .slice A0_3 l0_3.length c0_3, .int .i64 a0_4, .int .i64 a0_5, .slice A0_6 l0_6.length c0_6, .int .i64 a0_7, .slice A0_8 l0_8.length c0_8, .slice A0_9 l0_9.length c0_9] 27 (0, 0)) (by (with_reducible repeat (first | refine Zae ?_ _ | refine Zag ?_ | refine Zad ?_ _)); refine Zbt ?_ (by have h_ := Kd.Zev HQ47.out (fun _ hk => hk.2.2.2.2.1); intro e_; exact h_ (by rw [e_]; rfl)) _; (with_reducible repeat (first | refine Zae ?_ _ | refine Zag ?_ | refine Zad ?_ _)); exact BK1056.out) hb); have n7_ := Zaa.mk (Zba (g := gb1074) (o := .cells #[.int .i64 t1060, .slice (some ad1080) t1061.length co12, .slice Ao13 t1064.length co13, .int .i64 t1067, .int .i64 t1068, .slice Ao14 t1069.length co14, .int .i64 t1072] 25 (0, 0)) (by (with_reducible repeat (first | refine Zae ?_ _ | refine Zag ?_ | refine Zad ?_ _)); refine Zbt ?_ (by have h_ := Kd.Zev HQ47.out (fun _ hk => hk.2.2.2.2.2); intro e_; exact h_ (by rw [e_]; rfl)) _; (with_reducible repeat (first | refine Zae ?_ _ | refine Zag ?_ | refine Zad ?_ _)); exact BK1074.out) hb); have n8_ := Zaa.mk (Zay (by repeat (first | (with_reducible first | exact HB.out | apply Zab | apply Za | apply Zac | refine Zai ?_ GB38.out | refine Zai ?_ GE1056.out | refine Zai ?_ GE1074.out) | exact HB.out)) hb); clear HO_3; clear HO_8; clear HO_1075001; clear HO_1075002; clear HO_1075005; clear BK1056; clear BK1074; clear HB; have HO_3 := n0_; have HO_8 := n1_; have HO_1075001 := n2_; have HO_1075002 := n3_; have HO_1075005 := n4_; have HO1094 := n5_; have BK1056 := n6_; have BK1074 := n7_; have HB := n8_; clear n0_ n1_ n2_ n3_ n4_ n5_ n6_ n7_ n8_; (try clear hb); (try clear hb2); (try clear hk); (try clear hi); (try clear ho0); obtain ⟨Ao51, co51, eo51⟩ := Kd.Zd6 HO1094.out; subst eo51) | (go_at_call 34; (with_reducible refine (Za1.calls k2  t1096 _ A42.out).mono ?_); rintro e w52 ⟨rfl, hb⟩; have n0_ := Zaa.mk (Kd.Zc5 (mvN HO_3.out) hb); have n1_ := Zaa.mk (Kd.Zbv (mvR HO_8.out) hb); have n2_ := Zaa.mk (Kd.Zbv (mvR HO_1075001.out) hb); have n3_ := Zaa.mk (Kd.Zbv (mvR HO_1075002.out) hb); have n4_ := Zaa.mk (Kd.Zc5 (mvN HO_1075005.out) hb); have n5_ := Zaa.mk (Kd.Zc5 (mvN HO1094.out) hb); have n6_ := Zaa.mk (Zba (g := gb1056) (o := .cells #[.slice A0_0 l0_0.length c0_0, .int .i64 a0_1, .slice A0_2 l0_2.length c0_2, .slice A0_3 l0_3.length c0_3, .int .i64 a0_4, .int .i64 a0_5, .slice A0_6 l0_6.length c0_6, .int .i64 a0_7, .slice A0_8 l0_8.length c0_8, .slice A0_9 l0_9.length c0_9] 27 (0, 0)) (mvK BK1056.out) hb); have n7_ := Zaa.mk (Zba (g := gb1074) (o := .cells #[.int .i64 t1060, .slice (some ad1080) t1061.length co12, .slice Ao13 t1064.length co13, .int .i64 t1067, .int .i64 t1068, .slice Ao14 t1069.length co14, .int .i64 t1072] 25 (0, 0)) (mvK BK1074.out) hb); have n8_ := Zaa.mk (Zay (by repeat (first | (with_reducible first | exact HB.out | apply Zab | apply Za | apply Zac | refine Zai ?_ GE1056.out | refine Zai ?_ GE1074.out) | exact HB.out)) hb); clear HO_3; clear HO_8; clear HO_1075001; clear HO_1075002; clear HO_1075005; clear HO1094; clear BK1056; clear BK1074; clear HB; have HO_3 := n0_; have HO_8 := n1_; have HO_1075001 := n2_; have HO_1075002 := n3_; have HO_1075005 := n4_; have HO1094 := n5_; have BK1056 := n6_; have BK1074 := n7_; have HB := n8_; clear n0_ n1_ n2_ n3_ n4_ n5_ n6_ n7_ n8_; (try clear hb); (try clear hb2); (try clear hk); (try clear hi)))
     go_ret
     exact ⟨by first | rfl | (simp [Za5, Za6] <;> rfl) | (simp [*, Za5, Za6] <;> rfl), by repeat (first | (with_reducible first | exact HB.out | apply Zab | apply Za | apply Zac | refine Zai ?_ GE1056.out | refine Zai ?_ GE1074.out) | exact HB.out)⟩
end Go.Proofs.Ytpbcigilipdedaa.P
/- ElementFar: an index that is no place of the list goes; where none is left none stays. -/
namespace Go.Proofs.Ytpbcigilipdedaa.P
open Go.RowKit Go.Proofs.YtpbcigilipdedaaW.PrintWords Go.Proofs.YtpbcigilipdedaaW.PrintLast Go.Proofs.YtpbcigilipdedaaW.PrintMore
set_option linter.unusedVariables false
set_option linter.unusedSimpArgs false

theorem doms_put {d : List (List Rg)} (hd : Doms d) (i : Nat) {lo hi : Int} (h0 : -1048576 ≤ lo) (h1 : hi ≤ 1048576) (h2 : lo ≤ hi) (h3 : hi ≤ lo + 4000) : Doms (d.set i [⟨lo, hi⟩]) := by
  refine ⟨by rw [List.length_set]; exact hd.1, fun x hx => ?_⟩
  rcases List.mem_or_eq_of_mem_set hx with h | rfl
  · exact hd.2 x h
  have g : Gd 1048576 (-1048576) [(⟨lo, hi⟩ : Rg)] := ⟨h0, h2, h1, trivial⟩
  have g2 : Gd hi lo [(⟨lo, hi⟩ : Rg)] := ⟨Int.le_refl _, h2, Int.le_refl _, trivial⟩
  have := Zc1 g2
  exact ⟨g, by omega⟩
theorem Va_from {lo hi i : Int} (h : Va [(⟨lo, hi⟩ : Rg)] i) : lo ≤ i := by
  obtain ⟨x, hx, h1, h2⟩ := h
  rw [List.mem_singleton] at hx
  subst hx
  exact h1
/-- The second call: none is left. -/
theorem far_ev {d : List (List Rg)} {ix rs : Int} {list : List Int} (kd : Int) (coefs : List Int) (op rhs : Int) (rows : List (List Int)) (b : Int) (hd : Doms d) (hm : ∀ v ∈ ix :: rs :: list, 0 ≤ v ∧ v < (d.length : Int)) (hl : list.length ≤ 50) :
    Ev (fun k => Zah.f k (d.set ix.toNat [(⟨(list.length : Int), 50⟩ : Rg)]) kd (ix :: rs :: list) coefs op rhs rows b) ([], false) := by
  have hix := hm ix List.mem_cons_self
  have hd' := doms_put hd ix.toNat (lo := (list.length : Int)) (hi := 50) (by omega) (by omega) (by omega) (by omega)
  have hdix : dv (d.set ix.toNat [(⟨(list.length : Int), 50⟩ : Rg)]) ix = [⟨(list.length : Int), 50⟩] := dv_same hix.1 hix.2
  have hm' : ∀ v ∈ ix :: rs :: list, 0 ≤ v ∧ v < ((d.set ix.toNat [(⟨(list.length : Int), 50⟩ : Rg)]).length : Int) := by rw [List.length_set]; exact hm
  rcases prune_ev _ hd' ix rs list hm' kd coefs op rhs rows b with ⟨_, hP⟩ | ⟨_, places, hss, hmem, ⟨_, hP⟩ | ⟨hp0, _⟩⟩
  · exact hP
  · exact hP
  obtain ⟨p, hp⟩ := List.exists_mem_of_ne_nil _ hp0
  obtain ⟨h1, h2, h3, _⟩ := (hmem p).1 hp
  rw [hdix] at h1
  have := Va_from h1
  omega
section
variable {d : List (List Rg)} {ix rs : Int} {list : List Int} (kd : Int) (coefs : List Int) (op rhs : Int) (rows : List (List Int)) (b : Int)
  (hd : Doms d) (hm : ∀ v ∈ ix :: rs :: list, 0 ≤ v ∧ v < (d.length : Int)) (hl : list.length ≤ 50)
include hd hm hl
theorem far_l0 (v : List Int) (hv : ∀ i ∈ v, 0 ≤ i ∧ i < (list.length : Int)) (hvl : v.length < 4611686018427387904) : ∀ (m n : Nat), n + m = v.length →
    Ev (fun k => Zaf.l0 k d v (n : Int) kd (ix :: rs :: list) coefs op rhs rows b) true := by
  have hlen : ((ix :: rs :: list).length : Int) = (list.length : Int) + 2 := by simp only [List.length_cons]; omega
  have hw := Zaa.mk (show wrap64 (((ix :: rs :: list).length : Int) - 2) = (list.length : Int) from by rw [hlen, w64 (by omega) (by omega)]; omega)
  have hix := hm ix List.mem_cons_self
  have eix : Go.Proofs.YtpbcigilipdedaaW.PrintWords.rd (ix :: rs :: list) 0 = ix := rfl
  intro m
  induction m with
  | zero =>
    intro n h
    refine Ev.step (fun k => by rw [Zaf.l0, if_neg (by omega), if_pos (by omega), eix, if_pos hix.1, if_pos hix.2, hw.out]) ?_
    exact Ev.bind (far_ev kd coefs op rhs rows b hd hm hl) (Ev.Zdi Bool.false_ne_true (Ev.Zc2 rfl Ze1))
  | succ m ih =>
    intro n h
    have hn : n < v.length := by omega
    have hb := hv _ (List.getElem_mem hn)
    refine Ev.step (fun k => by rw [Zaf.l0, if_pos (by omega), if_pos (by omega), Zcr v n hn, if_neg (by omega), hw.out, if_neg (by omega), w1 (show n < 4611686018427387904 by omega)]) (ih (n + 1) (by omega))
theorem far_j0 (l : List (List Rg)) (is : Bool) (v : List Int) (hl2 : is = true → ix < (l.length : Int) ∧ Ev (fun k => Zao.f k (dv l ix)) v ∧ (∀ i ∈ v, 0 ≤ i ∧ i < (list.length : Int)) ∧ v.length < 4611686018427387904) :
    Ev (fun k => Zaf.j0 k d l is false kd (ix :: rs :: list) coefs op rhs rows b) true := by
  have hlen : ((ix :: rs :: list).length : Int) = (list.length : Int) + 2 := by simp only [List.length_cons]; omega
  have hw := Zaa.mk (show wrap64 (((ix :: rs :: list).length : Int) - 2) = (list.length : Int) from by rw [hlen, w64 (by omega) (by omega)]; omega)
  have hix := hm ix List.mem_cons_self
  have eix : Go.Proofs.YtpbcigilipdedaaW.PrintWords.rd (ix :: rs :: list) 0 = ix := rfl
  cases is with
  | false =>
    refine Ev.step (fun k => by rw [Zaf.j0, if_neg Bool.false_ne_true, if_neg Bool.false_ne_true, if_pos (by omega), eix, if_pos hix.1, if_pos hix.2, hw.out]) ?_
    exact Ev.bind (far_ev kd coefs op rhs rows b hd hm hl) (Ev.Zdi Bool.false_ne_true (Ev.Zc2 rfl Ze1))
  | true =>
    obtain ⟨h1, h2, h3, h4⟩ := hl2 rfl
    refine Ev.step (fun k => by rw [Zaf.j0, if_neg Bool.false_ne_true, if_pos rfl, if_pos (by omega), eix, if_pos hix.1, if_pos h1, rdR_dv]) ?_
    exact Ev.bind h2 (far_l0 kd coefs op rhs rows b hd hm hl v h3 h4 v.length 0 (by omega))
end
theorem Zgg (A0 : Option Addr) (c0 : Nat) (x0 : List (List Int)) (x1 : Int) (A2 : Option Addr) (c2 : Nat) (x2 : List Int) (A3 : Option Addr) (c3 : Nat) (x3 : List Int) (x4 x5 : Int) (A6 : Option Addr) (c6 : Nat) (x6 : List (List Int)) (x7 : Int) (A8 : Option Addr) (c8 : Nat) (x8 : List Int) (A9 : Option Addr) (c9 : Nat) (x9 : List Int) (W : World)
    (hC0 : (Kd.slice 3 (Kd.int .i64)).C W A0 x0.length x0) (hc0 : x0.length ≤ c0) (ok0 : x0.length * 24 ≤ 140737488351232 ∧ ∀ x ∈ x0, x.length * 8 ≤ 140737488351232 ∧ ∀ y ∈ x, (Lit.int .i64 y).wf = true) (ok1 : (Lit.int .i64 x1).wf = true)
    (hC2 : (Kd.int .i64).C W A2 x2.length x2) (hc2 : x2.length ≤ c2) (ok2 : x2.length * 8 ≤ 140737488351232 ∧ ∀ y ∈ x2, (Lit.int .i64 y).wf = true)
    (hC3 : (Kd.int .i64).C W A3 x3.length x3) (hc3 : x3.length ≤ c3) (ok3 : x3.length * 8 ≤ 140737488351232 ∧ ∀ y ∈ x3, (Lit.int .i64 y).wf = true) (ok4 : (Lit.int .i64 x4).wf = true) (ok5 : (Lit.int .i64 x5).wf = true)
    (hC6 : (Kd.slice 3 (Kd.int .i64)).C W A6 x6.length x6) (hc6 : x6.length ≤ c6) (ok6 : x6.length * 24 ≤ 140737488351232 ∧ ∀ x ∈ x6, x.length * 8 ≤ 140737488351232 ∧ ∀ y ∈ x, (Lit.int .i64 y).wf = true) (ok7 : (Lit.int .i64 x7).wf = true)
    (hC8 : (Kd.int .i64).C W A8 x8.length x8) (hc8 : x8.length ≤ c8) (ok8 : x8.length * 8 ≤ 140737488351232 ∧ ∀ y ∈ x8, (Lit.int .i64 y).wf = true)
    (hC9 : (Kd.int .i64).C W A9 x9.length x9) (hc9 : x9.length ≤ c9) (ok9 : x9.length * 8 ≤ 140737488351232 ∧ ∀ y ∈ x9, (Lit.int .i64 y).wf = true) :
    Calls Try.prog 13 #[.agg #[.slice A0 x0.length c0, .int .i64 x1, .slice A2 x2.length c2, .slice A3 x3.length c3, .int .i64 x4, .int .i64 x5, .slice A6 x6.length c6, .int .i64 x7, .slice A8 x8.length c8, .slice A9 x9.length c9]] W fun e W' => e = .returned (.bool true) ∧ Below W.heap.size W W' := by
  have hb : ∀ x ∈ x6, x.length * 8 ≤ 140737488351232 := fun x hx => (ok6.2 x hx).1
  obtain ⟨ok, hL, hok⟩ := laid_ev x0 x1 x2 x3 x4 x5 x6 x7 x8 x9 3 (.inr rfl) ok2.1 ok3.1 ok6.1 hb
  have hE : Ev (fun k => Zaf.f k x0 x1 x2 x3 x4 x5 x6 x7 x8 x9) true := by
    unfold Zaf.f
    refine Ev.bind hL ?_
    cases ok with
    | false => exact Ev.Zdi Bool.false_ne_true Ze1
    | true =>
      have hT := (hok rfl).elem
      have hd := domsC_doms x0
      have hdl := Zd3 x0
      obtain ⟨ix, rs, list, rfl, hne, hir, hi, hr, hll⟩ := hT.form
      have h50 : list.length ≤ 50 := by omega
      refine Ev.Zc2 rfl ?_
      rcases prune_ev (domsC x0) hd ix rs list hT.mem 3 x3 x4 x5 (x6.take 20) x7 with ⟨_, hP⟩ | ⟨_, places, hss, hmem, ⟨_, hP⟩ | ⟨_, o, may, hO, hM, hP⟩⟩
      · exact Ev.bind hP (Ev.Zdi Bool.false_ne_true (far_j0 3 x3 x4 x5 (x6.take 20) x7 hd hT.mem h50 [] false [] (fun h => by cases h)))
      · exact Ev.bind hP (Ev.Zdi Bool.false_ne_true (far_j0 3 x3 x4 x5 (x6.take 20) x7 hd hT.mem h50 [] false [] (fun h => by cases h)))
      refine Ev.bind hP (Ev.Zc2 rfl ?_)
      have hpb : ∀ i ∈ places, 0 ≤ i ∧ i < (list.length : Int) := fun i h => by
        obtain ⟨_, h0, h1, _⟩ := (hmem i).1 h
        exact ⟨h0, h1⟩
      have e : ((((Zah.last (domsC x0) ix rs list places o may).length : Int) != ((domsC x0).length : Int))) = false := by rw [Zf7]; simp
      dsimp only
      rw [e]
      have hvl := vlen hO.1
      refine far_j0 3 x3 x4 x5 (x6.take 20) x7 hd hT.mem h50 _ true (vals o) (fun _ => ⟨by rw [Zf7]; exact (hT.mem ix List.mem_cons_self).2, ?_, fun i h => hpb i ((hO.2 i).1 ((Zdf i o).1 h)), by omega⟩)
      rw [last_ix hT.mem hir hi hr hpb]
      exact Zfj o hO.1 (Int.le_refl _)
  obtain ⟨k, hk⟩ := hE.out
  exact Zaf.calls k A0 c0 x0 x1 A2 c2 x2 A3 c3 x3 x4 x5 A6 c6 x6 x7 A8 c8 x8 A9 c9 x9 true W hC0 hc0 hC2 hc2 hC3 hc3 hC6 hc6 hC8 hc8 hC9 hc9 hk
end Go.Proofs.Ytpbcigilipdedaa.P
/- What a datum of a statement's arguments holds: a number, a text, a row, a struct, whatever is nested: its cells read as a value of the kind; and how long its rows are at most (by the weight of the whole). -/
namespace Go.Proofs.Ytpbcigilipdedaa.P
open Go.RowKit Go.ChangeShapes Go.WideShapes Go.Proofs.YtpbcigilipdedaaW.PrintWords
set_option linter.unusedVariables false

/-- Whatever reads as a datum of type t is a value of kind d, of which ok is true. -/
structure OpensZ {α : Type} (P : Program) (d : Kd α) (ok : α → Prop) (t : TypeId) : Prop where
  out : ∀ {H : Type} (enc : TypeId × Value → H) (w : World) (base : Nat) (sp : Nat → Bool) (held : Bool) (fuel : Nat) (cs : List Value) (x : DataW H × List MemPlace),
    DataW.trod enc P w base sp held fuel t cs = some x → (∀ n ∈ x.1.weights P t, n ≤ reachBytes) → ∃ v : α, d.K w v cs ∧ ok v
theorem OpensZ.int {P : Program} {t : TypeId} {k : IntKind} (ht : P.underlying t = some (.int k)) : OpensZ P (Kd.int k) (fun n => (Lit.int k n).wf = true) t := by
  refine ⟨?_⟩
  intro H enc w base sp held fuel cs x h hz
  obtain ⟨n, rfl, rfl, hw⟩ := DataW.trod_int ht h
  exact ⟨n, rfl, hw⟩
theorem OpensZ.bool {P : Program} {t : TypeId} (ht : P.underlying t = some .bool) : OpensZ P Kd.bool (fun _ => True) t := by
  refine ⟨?_⟩
  intro H enc w base sp held fuel cs x h hz
  obtain ⟨b, rfl, rfl⟩ := DataW.trod_bool ht h
  exact ⟨b, rfl, trivial⟩
theorem OpensZ.string {P : Program} {t : TypeId} (ht : P.underlying t = some .string) : OpensZ P Kd.string (fun s => s.size ≤ maxLen) t := by
  refine ⟨?_⟩
  intro H enc w base sp held fuel cs x h hz
  obtain ⟨s, rfl, rfl, hs⟩ := DataW.trod_string ht h
  exact ⟨s, rfl, hs⟩
theorem OpensZ.iso {α β : Type} {P : Program} {d : Kd α} {ok : α → Prop} {t : TypeId} (h : OpensZ P d ok t) (f : β → α) (g : α → β) (hfg : ∀ a, f (g a) = a) : OpensZ P (Kd.iso d f) (fun b => ok (f b)) t := by
  refine ⟨?_⟩
  intro H enc w base sp held fuel cs x hx hz
  obtain ⟨v, hK, hok⟩ := h.out enc w base sp held fuel cs x hx hz
  exact ⟨g v, by show d.K w (f (g v)) cs; rw [hfg]; exact hK, by show ok (f (g v)); rw [hfg]; exact hok⟩
theorem Zfc {H : Type} {P : Program} {t e : TypeId} (ht : P.underlying t = some (.slice e)) {el sp : List (DataW H)} : (DataW.slice el sp : DataW H).weights P t = (el.length + sp.length) * P.bytesOf e :: (DataW.weightsAll P e el ++ DataW.weightsAll P e sp) := by simp [DataW.weights, ht]
theorem weights_agg {H : Type} {P : Program} {t : TypeId} {fs : Array Field} (ht : P.underlying t = some (.struct fs)) {ps : List (DataW H)} : (DataW.agg ps : DataW H).weights P t = DataW.weightsEach P (fs.toList.map (·.type)) ps := by simp [DataW.weights, ht]
theorem Zex {H : Type} {P : Program} {e : TypeId} {d : DataW H} : ∀ {l : List (DataW H)}, d ∈ l → ∀ {n : Nat}, n ∈ d.weights P e → n ∈ DataW.weightsAll P e l
  | x :: l, hd, n, hn => by
    simp only [DataW.weightsAll, List.mem_append]
    rcases List.mem_cons.1 hd with rfl | hd
    · exact .inl hn
    exact .inr (Zex hd hn)
theorem choose_list {α : Type} {n : Nat} {R : Nat → α → Prop} (h : ∀ i, i < n → ∃ a, R i a) : ∃ l : List α, l.length = n ∧ ∀ i (hi : i < l.length), R i l[i] := by
  induction n with
  | zero => exact ⟨[], rfl, fun i hi => absurd hi (by simp)⟩
  | succ n ih =>
    obtain ⟨l, hl, hR⟩ := ih (fun i hi => h i (by omega))
    obtain ⟨a, ha⟩ := h n (by omega)
    refine ⟨l ++ [a], by simp [hl], fun i hi => ?_⟩
    rcases Nat.lt_or_ge i l.length with hlt | hge
    · rw [List.getElem_append_left hlt]
      exact hR i hlt
    have : i = l.length := by simp at hi; omega
    subst this
    rw [List.getElem_append_right (by omega)]
    simpa [hl] using ha
theorem addr_add (a : Addr) (i j : Nat) : (a.add i).add j = a.add (i + j) := by
  by_cases h : i = 0
  · subst h; simp [Addr.add]
  by_cases h2 : j = 0
  · subst h2; simp [Addr.add]
  simp [Addr.add, h, h2, Nat.add_assoc]
theorem OpensZ.row {α : Type} {P : Program} {d : Kd α} {ok : α → Prop} {t e : TypeId} {B : Nat} (ht : P.underlying t = some (.slice e)) (hc : P.cellsOf e = d.sz) (hB : P.bytesOf e = B) (h : OpensZ P d ok e) :
    OpensZ P (Kd.slice e d) (fun l => l.length * B ≤ 140737488351232 ∧ ∀ x ∈ l, ok x) t := by
  refine ⟨?_⟩
  intro H enc w base sp held fuel cs x hx hz
  rcases Go.Deep.open_slice ht hx with ⟨rfl, rfl⟩ | ⟨a, len, cap, m, n, D, Pl, rfl, hb, hl, hm, hmm, rfl, he⟩
  · exact ⟨[], ⟨none, 0, rfl, Nat.le_refl _, rfl, by simp, fun h => absurd h (by simp)⟩, by simp, fun x hx => by simp at hx⟩
  have hlm : len ≤ m := by rw [hmm]; split <;> omega
  have each : ∀ i, i < len → ∃ v : α, ok v ∧ ∃ c, c.length = d.sz ∧ d.K w v c ∧ ∀ j u, c[j]? = some u → w.cell? (a.add (i * d.sz + j)) = some u := fun i hi => by
    obtain ⟨cs', h1, h2⟩ := he i (by omega)
    obtain ⟨v, hK, hok⟩ := h.out enc w base sp held n cs' _ h2 (fun q hq => hz q (by
      rw [Zfc ht]
      refine List.mem_cons_of_mem _ (List.mem_append_left _ (Zex (d := D i) (List.mem_map.2 ⟨i, List.mem_range.2 hi, rfl⟩) hq))))
    obtain ⟨_, hlen, hcell⟩ := World.cells?_some h1
    rw [hc] at hlen hcell
    refine ⟨v, hok, cs', hlen, hK, fun j u hu => ?_⟩
    have hj : j < d.sz := by rw [← hlen]; exact (List.getElem?_eq_some_iff.1 hu).1
    have := hcell j hj
    rw [hu] at this
    rw [← this, addr_add]
  obtain ⟨l, hll, hR⟩ := choose_list each
  have hmax : cap ≤ 9223372036854775807 := by unfold maxLen at hm; exact hm
  refine ⟨l, ⟨some a, cap, by rw [hll], by omega, rfl, by omega, fun _ => ⟨a, rfl, fun j p hp => ?_⟩⟩, ?_, fun x hx => ?_⟩
  · obtain ⟨hj, rfl⟩ := List.getElem?_eq_some_iff.1 hp
    obtain ⟨_, c, h1, h2, h3⟩ := hR j hj
    exact ⟨c, h1, h2, h3⟩
  · have h3 := hz ((len + (m - len)) * P.bytesOf e) (by rw [Zfc ht]; simp)
    rw [hB] at h3
    rw [hll]
    exact Nat.le_trans (Nat.mul_le_mul_right _ (by omega)) h3
  obtain ⟨i, hi, rfl⟩ := List.mem_iff_getElem.1 hx
  exact (hR i hi).1
/-- The fields from an offset on. -/
structure OpensZF {α : Type} (P : Program) (d : Kd α) (ok : α → Prop) (fs : List Field) (off : Nat) : Prop where
  out : ∀ {H : Type} (enc : TypeId × Value → H) (w : World) (base : Nat) (sp : Nat → Bool) (held : Bool) (fuel : Nat) (cs : List Value), cs.length = off + d.sz →
    (∀ f ∈ fs, ∃ x, DataW.trod enc P w base sp held fuel f.type ((cs.drop f.offset).take (P.cellsOf f.type)) = some x ∧ ∀ n ∈ x.1.weights P f.type, n ≤ reachBytes) → ∃ v : α, d.K w v (cs.drop off) ∧ ok v
theorem OpensZF.last {α : Type} {P : Program} {d : Kd α} {ok : α → Prop} {f : Field} {off : Nat} (ho : f.offset = off) (hc : P.cellsOf f.type = d.sz) (h : OpensZ P d ok f.type) : OpensZF P d ok [f] off := by
  refine ⟨?_⟩
  intro H enc w base sp held fuel cs hl hf
  obtain ⟨x, hx, hz⟩ := hf f (by simp)
  rw [ho, hc, List.take_of_length_le (by simp; omega)] at hx
  exact h.out enc w base sp held fuel _ x hx hz
theorem OpensZF.cons {α β : Type} {P : Program} {d : Kd α} {ok : α → Prop} {d' : Kd β} {ok' : β → Prop} {f : Field} {fs : List Field} {off : Nat} (ho : f.offset = off) (hc : P.cellsOf f.type = d.sz) (h : OpensZ P d ok f.type) (h' : OpensZF P d' ok' fs (off + d.sz)) :
    OpensZF P (Kd.pair d d') (fun z => ok z.1 ∧ ok' z.2) (f :: fs) off := by
  refine ⟨?_⟩
  intro H enc w base sp held fuel cs hl hf
  have hl' : cs.length = off + (d.sz + d'.sz) := hl
  obtain ⟨x, hx, hz⟩ := hf f (by simp)
  obtain ⟨v, hK, hok⟩ := h.out enc w base sp held fuel _ x hx hz
  obtain ⟨v', hK', hok'⟩ := h'.out enc w base sp held fuel cs (by omega) (fun g hg => hf g (List.mem_cons_of_mem _ hg))
  rw [ho, hc] at hK
  refine ⟨(v, v'), ⟨(cs.drop off).take d.sz, cs.drop (off + d.sz), ?_, hK, hK'⟩, hok, hok'⟩
  rw [← List.drop_drop, List.take_append_drop]
theorem OpensZ.struct {α : Type} {P : Program} {d : Kd α} {ok : α → Prop} {t : TypeId} {fs : List Field} (ht : P.underlying t = some (.struct fs.toArray)) (hc : P.cellsOf t = d.sz) (h : OpensZF P d ok fs 0) : OpensZ P d ok t := by
  refine ⟨?_⟩
  intro H enc w base sp held fuel cs x hx hz
  obtain ⟨xs, n, rfl, rfl, hl, hxl, hf⟩ := DataW.trod_struct ht hx
  have := h.out enc w base sp held n cs (by omega) (fun f hf' => by
    obtain ⟨i, hi, rfl⟩ := List.mem_iff_getElem.1 hf'
    have := hf i fs[i] (by simp [hi])
    have hix : i < xs.length := by simp at hxl; omega
    rw [List.getElem?_eq_getElem hix] at this
    refine ⟨xs[i], by simpa using this, fun q hq => hz q ?_⟩
    rw [weights_agg ht]
    exact DataW.weights_mem_each (j := i) (t := fs[i].type) (d := xs[i].1) (by simp [hi]) (by simp [hix]) q hq)
  simpa using this
/-- A slice that is an argument. -/
theorem OpensZ.arg {α H : Type} {P : Program} {d : Kd α} {ok : List α → Prop} {e t : TypeId} (h : OpensZ P (Kd.slice e d) ok t) {enc : TypeId × Value → H} {w : World} {base : Nat} {sp : Nat → Bool} {held : Bool} {A : Option Addr} {len cap : Nat} {dt : DataW H} {ps : List MemPlace}
    (hT : DataW.Trod enc P w base sp held t (.slice A len cap) dt ps) (hz : ∀ n ∈ dt.weights P t, n ≤ reachBytes) : ∃ l : List α, l.length = len ∧ l.length ≤ cap ∧ d.C w A l.length l ∧ ok l := by
  obtain ⟨fuel, hf⟩ := hT
  obtain ⟨l, ⟨A', c, hcs, hl, hC⟩, hok⟩ := h.out enc w base sp held fuel _ _ hf hz
  simp [Value.cells] at hcs
  obtain ⟨rfl, rfl, rfl⟩ := hcs
  exact ⟨l, rfl, hl, hC, hok⟩
theorem each_weights {H : Type} {P : Program} {ts : List TypeId} {ds : List (DataW H)} (h : (DataW.weightsEach P ts ds).all (· ≤ reachBytes) = true) {j : Nat} {t : TypeId} {d : DataW H} (ht : ts[j]? = some t) (hd : ds[j]? = some d) : ∀ n ∈ d.weights P t, n ≤ reachBytes := fun n hn => by
  have := List.all_eq_true.1 h n (DataW.weights_mem_each ht hd n hn)
  simpa using this
end Go.Proofs.Ytpbcigilipdedaa.P
namespace Go.Proofs.Ytpbcigilipdedaa.elementFar
open Go.ChangeShapes Go.WideShapes Go.ChangeAt Go.RowKit
open Go.ChangeMaps (open_string shut_string)
open Go.Proofs.Ytpbcigilipdedaa.P
open Go.Proofs.YtpbcigilipdedaaW.PrintWords
set_option linter.unusedVariables false
theorem own : ownKnob Try.prog.godebug = none := by kernel_rfl
theorem laidOut : laidOutB Try.prog = true := by kernel_rfl
theorem o_int : OpensZ Try.prog (Kd.int .i64) (fun n => (Lit.int .i64 n).wf = true) 3 := OpensZ.int Try.underlying3
theorem o_Lint : OpensZ Try.prog (Kd.slice 3 (Kd.int .i64)) (fun l => (List.length l * 8 ≤ 140737488351232 ∧ ∀ y1_ ∈ l, (Lit.int .i64 y1_).wf = true)) 23 := OpensZ.row Try.underlying23 (by kernel_rfl) (by kernel_rfl) o_int
theorem o_LLint : OpensZ Try.prog (Kd.slice 23 (Kd.slice 3 (Kd.int .i64))) (fun l => (List.length l * 24 ≤ 140737488351232 ∧ ∀ y1_ ∈ l, (List.length y1_ * 8 ≤ 140737488351232 ∧ ∀ y2_ ∈ y1_, (Lit.int .i64 y2_).wf = true))) 22 := OpensZ.row Try.underlying22 (by kernel_rfl) (by kernel_rfl) o_Lint
set_option maxHeartbeats 2000000 in
theorem p_api_Con : OpensZ Try.prog (Kd.pair (Kd.int .i64) (Kd.pair (Kd.slice 3 (Kd.int .i64)) (Kd.pair (Kd.slice 3 (Kd.int .i64)) (Kd.pair (Kd.int .i64) (Kd.pair (Kd.int .i64) (Kd.pair (Kd.slice 23 (Kd.slice 3 (Kd.int .i64))) (Kd.int .i64))))))) (fun z => ((Lit.int .i64 (z).1).wf = true ∧ ((List.length ((z).2).1 * 8 ≤ 140737488351232 ∧ ∀ y1_ ∈ ((z).2).1, (Lit.int .i64 y1_).wf = true) ∧ ((List.length (((z).2).2).1 * 8 ≤ 140737488351232 ∧ ∀ y1_ ∈ (((z).2).2).1, (Lit.int .i64 y1_).wf = true) ∧ ((Lit.int .i64 ((((z).2).2).2).1).wf = true ∧ ((Lit.int .i64 (((((z).2).2).2).2).1).wf = true ∧ ((List.length ((((((z).2).2).2).2).2).1 * 24 ≤ 140737488351232 ∧ ∀ y1_ ∈ ((((((z).2).2).2).2).2).1, (List.length y1_ * 8 ≤ 140737488351232 ∧ ∀ y2_ ∈ y1_, (Lit.int .i64 y2_).wf = true)) ∧ (Lit.int .i64 ((((((z).2).2).2).2).2).2).wf = true))))))) 25 := by
 refine OpensZ.struct (d := (Kd.pair (Kd.int .i64) (Kd.pair (Kd.slice 3 (Kd.int .i64)) (Kd.pair (Kd.slice 3 (Kd.int .i64)) (Kd.pair (Kd.int .i64) (Kd.pair (Kd.int .i64) (Kd.pair (Kd.slice 23 (Kd.slice 3 (Kd.int .i64))) (Kd.int .i64)))))))) Try.underlying25 (by kernel_rfl) ?_
 refine OpensZF.cons (d := (Kd.int .i64)) (ok := fun v_ : Int => (Lit.int .i64 v_).wf = true) (ok' := fun z_ : ((List Int) × (List Int) × Int × Int × (List (List Int)) × Int) => ((List.length (z_).1 * 8 ≤ 140737488351232 ∧ ∀ y1_ ∈ (z_).1, (Lit.int .i64 y1_).wf = true) ∧ ((List.length ((z_).2).1 * 8 ≤ 140737488351232 ∧ ∀ y1_ ∈ ((z_).2).1, (Lit.int .i64 y1_).wf = true) ∧ ((Lit.int .i64 (((z_).2).2).1).wf = true ∧ ((Lit.int .i64 ((((z_).2).2).2).1).wf = true ∧ ((List.length (((((z_).2).2).2).2).1 * 24 ≤ 140737488351232 ∧ ∀ y1_ ∈ (((((z_).2).2).2).2).1, (List.length y1_ * 8 ≤ 140737488351232 ∧ ∀ y2_ ∈ y1_, (Lit.int .i64 y2_).wf = true)) ∧ (Lit.int .i64 (((((z_).2).2).2).2).2).wf = true)))))) (by kernel_rfl) (by kernel_rfl) o_int ?_
 refine OpensZF.cons (d := (Kd.slice 3 (Kd.int .i64))) (ok := fun v_ : (List Int) => (List.length v_ * 8 ≤ 140737488351232 ∧ ∀ y1_ ∈ v_, (Lit.int .i64 y1_).wf = true)) (ok' := fun z_ : ((List Int) × Int × Int × (List (List Int)) × Int) => ((List.length (z_).1 * 8 ≤ 140737488351232 ∧ ∀ y1_ ∈ (z_).1, (Lit.int .i64 y1_).wf = true) ∧ ((Lit.int .i64 ((z_).2).1).wf = true ∧ ((Lit.int .i64 (((z_).2).2).1).wf = true ∧ ((List.length ((((z_).2).2).2).1 * 24 ≤ 140737488351232 ∧ ∀ y1_ ∈ ((((z_).2).2).2).1, (List.length y1_ * 8 ≤ 140737488351232 ∧ ∀ y2_ ∈ y1_, (Lit.int .i64 y2_).wf = true)) ∧ (Lit.int .i64 ((((z_).2).2).2).2).wf = true))))) (by kernel_rfl) (by kernel_rfl) o_Lint ?_
 refine OpensZF.cons (d := (Kd.slice 3 (Kd.int .i64))) (ok := fun v_ : (List Int) => (List.length v_ * 8 ≤ 140737488351232 ∧ ∀ y1_ ∈ v_, (Lit.int .i64 y1_).wf = true)) (ok' := fun z_ : (Int × Int × (List (List Int)) × Int) => ((Lit.int .i64 (z_).1).wf = true ∧ ((Lit.int .i64 ((z_).2).1).wf = true ∧ ((List.length (((z_).2).2).1 * 24 ≤ 140737488351232 ∧ ∀ y1_ ∈ (((z_).2).2).1, (List.length y1_ * 8 ≤ 140737488351232 ∧ ∀ y2_ ∈ y1_, (Lit.int .i64 y2_).wf = true)) ∧ (Lit.int .i64 (((z_).2).2).2).wf = true)))) (by kernel_rfl) (by kernel_rfl) o_Lint ?_
 refine OpensZF.cons (d := (Kd.int .i64)) (ok := fun v_ : Int => (Lit.int .i64 v_).wf = true) (ok' := fun z_ : (Int × (List (List Int)) × Int) => ((Lit.int .i64 (z_).1).wf = true ∧ ((List.length ((z_).2).1 * 24 ≤ 140737488351232 ∧ ∀ y1_ ∈ ((z_).2).1, (List.length y1_ * 8 ≤ 140737488351232 ∧ ∀ y2_ ∈ y1_, (Lit.int .i64 y2_).wf = true)) ∧ (Lit.int .i64 ((z_).2).2).wf = true))) (by kernel_rfl) (by kernel_rfl) o_int ?_
 refine OpensZF.cons (d := (Kd.int .i64)) (ok := fun v_ : Int => (Lit.int .i64 v_).wf = true) (ok' := fun z_ : ((List (List Int)) × Int) => ((List.length (z_).1 * 24 ≤ 140737488351232 ∧ ∀ y1_ ∈ (z_).1, (List.length y1_ * 8 ≤ 140737488351232 ∧ ∀ y2_ ∈ y1_, (Lit.int .i64 y2_).wf = true)) ∧ (Lit.int .i64 (z_).2).wf = true)) (by kernel_rfl) (by kernel_rfl) o_int ?_
 refine OpensZF.cons (d := (Kd.slice 23 (Kd.slice 3 (Kd.int .i64)))) (ok := fun v_ : (List (List Int)) => (List.length v_ * 24 ≤ 140737488351232 ∧ ∀ y1_ ∈ v_, (List.length y1_ * 8 ≤ 140737488351232 ∧ ∀ y2_ ∈ y1_, (Lit.int .i64 y2_).wf = true))) (ok' := fun z_ : (Int) => (Lit.int .i64 z_).wf = true) (by kernel_rfl) (by kernel_rfl) o_LLint ?_
 exact OpensZF.last (d := (Kd.int .i64)) (ok := fun v_ : Int => (Lit.int .i64 v_).wf = true) (by kernel_rfl) (by kernel_rfl) o_int
set_option maxHeartbeats 2000000 in
theorem Zeu : OpensZ Try.prog (Kd.pair (Kd.slice 23 (Kd.slice 3 (Kd.int .i64))) (Kd.pair (Kd.pair (Kd.int .i64) (Kd.pair (Kd.slice 3 (Kd.int .i64)) (Kd.pair (Kd.slice 3 (Kd.int .i64)) (Kd.pair (Kd.int .i64) (Kd.pair (Kd.int .i64) (Kd.pair (Kd.slice 23 (Kd.slice 3 (Kd.int .i64))) (Kd.int .i64))))))) (Kd.pair (Kd.slice 3 (Kd.int .i64)) (Kd.slice 3 (Kd.int .i64))))) (fun z => ((List.length (z).1 * 24 ≤ 140737488351232 ∧ ∀ y1_ ∈ (z).1, (List.length y1_ * 8 ≤ 140737488351232 ∧ ∀ y2_ ∈ y1_, (Lit.int .i64 y2_).wf = true)) ∧ (((Lit.int .i64 (((z).2).1).1).wf = true ∧ ((List.length ((((z).2).1).2).1 * 8 ≤ 140737488351232 ∧ ∀ y1_ ∈ ((((z).2).1).2).1, (Lit.int .i64 y1_).wf = true) ∧ ((List.length (((((z).2).1).2).2).1 * 8 ≤ 140737488351232 ∧ ∀ y1_ ∈ (((((z).2).1).2).2).1, (Lit.int .i64 y1_).wf = true) ∧ ((Lit.int .i64 ((((((z).2).1).2).2).2).1).wf = true ∧ ((Lit.int .i64 (((((((z).2).1).2).2).2).2).1).wf = true ∧ ((List.length ((((((((z).2).1).2).2).2).2).2).1 * 24 ≤ 140737488351232 ∧ ∀ y1_ ∈ ((((((((z).2).1).2).2).2).2).2).1, (List.length y1_ * 8 ≤ 140737488351232 ∧ ∀ y2_ ∈ y1_, (Lit.int .i64 y2_).wf = true)) ∧ (Lit.int .i64 ((((((((z).2).1).2).2).2).2).2).2).wf = true)))))) ∧ ((List.length (((z).2).2).1 * 8 ≤ 140737488351232 ∧ ∀ y1_ ∈ (((z).2).2).1, (Lit.int .i64 y1_).wf = true) ∧ (List.length (((z).2).2).2 * 8 ≤ 140737488351232 ∧ ∀ y1_ ∈ (((z).2).2).2, (Lit.int .i64 y1_).wf = true))))) 27 := by
 refine OpensZ.struct (d := (Kd.pair (Kd.slice 23 (Kd.slice 3 (Kd.int .i64))) (Kd.pair (Kd.pair (Kd.int .i64) (Kd.pair (Kd.slice 3 (Kd.int .i64)) (Kd.pair (Kd.slice 3 (Kd.int .i64)) (Kd.pair (Kd.int .i64) (Kd.pair (Kd.int .i64) (Kd.pair (Kd.slice 23 (Kd.slice 3 (Kd.int .i64))) (Kd.int .i64))))))) (Kd.pair (Kd.slice 3 (Kd.int .i64)) (Kd.slice 3 (Kd.int .i64)))))) Try.underlying27 (by kernel_rfl) ?_
 refine OpensZF.cons (d := (Kd.slice 23 (Kd.slice 3 (Kd.int .i64)))) (ok := fun v_ : (List (List Int)) => (List.length v_ * 24 ≤ 140737488351232 ∧ ∀ y1_ ∈ v_, (List.length y1_ * 8 ≤ 140737488351232 ∧ ∀ y2_ ∈ y1_, (Lit.int .i64 y2_).wf = true))) (ok' := fun z_ : ((Int × (List Int) × (List Int) × Int × Int × (List (List Int)) × Int) × (List Int) × (List Int)) => (((Lit.int .i64 ((z_).1).1).wf = true ∧ ((List.length (((z_).1).2).1 * 8 ≤ 140737488351232 ∧ ∀ y1_ ∈ (((z_).1).2).1, (Lit.int .i64 y1_).wf = true) ∧ ((List.length ((((z_).1).2).2).1 * 8 ≤ 140737488351232 ∧ ∀ y1_ ∈ ((((z_).1).2).2).1, (Lit.int .i64 y1_).wf = true) ∧ ((Lit.int .i64 (((((z_).1).2).2).2).1).wf = true ∧ ((Lit.int .i64 ((((((z_).1).2).2).2).2).1).wf = true ∧ ((List.length (((((((z_).1).2).2).2).2).2).1 * 24 ≤ 140737488351232 ∧ ∀ y1_ ∈ (((((((z_).1).2).2).2).2).2).1, (List.length y1_ * 8 ≤ 140737488351232 ∧ ∀ y2_ ∈ y1_, (Lit.int .i64 y2_).wf = true)) ∧ (Lit.int .i64 (((((((z_).1).2).2).2).2).2).2).wf = true)))))) ∧ ((List.length ((z_).2).1 * 8 ≤ 140737488351232 ∧ ∀ y1_ ∈ ((z_).2).1, (Lit.int .i64 y1_).wf = true) ∧ (List.length ((z_).2).2 * 8 ≤ 140737488351232 ∧ ∀ y1_ ∈ ((z_).2).2, (Lit.int .i64 y1_).wf = true)))) (by kernel_rfl) (by kernel_rfl) o_LLint ?_
 refine OpensZF.cons (d := (Kd.pair (Kd.int .i64) (Kd.pair (Kd.slice 3 (Kd.int .i64)) (Kd.pair (Kd.slice 3 (Kd.int .i64)) (Kd.pair (Kd.int .i64) (Kd.pair (Kd.int .i64) (Kd.pair (Kd.slice 23 (Kd.slice 3 (Kd.int .i64))) (Kd.int .i64)))))))) (ok := fun v_ : (Int × (List Int) × (List Int) × Int × Int × (List (List Int)) × Int) => ((Lit.int .i64 (v_).1).wf = true ∧ ((List.length ((v_).2).1 * 8 ≤ 140737488351232 ∧ ∀ y1_ ∈ ((v_).2).1, (Lit.int .i64 y1_).wf = true) ∧ ((List.length (((v_).2).2).1 * 8 ≤ 140737488351232 ∧ ∀ y1_ ∈ (((v_).2).2).1, (Lit.int .i64 y1_).wf = true) ∧ ((Lit.int .i64 ((((v_).2).2).2).1).wf = true ∧ ((Lit.int .i64 (((((v_).2).2).2).2).1).wf = true ∧ ((List.length ((((((v_).2).2).2).2).2).1 * 24 ≤ 140737488351232 ∧ ∀ y1_ ∈ ((((((v_).2).2).2).2).2).1, (List.length y1_ * 8 ≤ 140737488351232 ∧ ∀ y2_ ∈ y1_, (Lit.int .i64 y2_).wf = true)) ∧ (Lit.int .i64 ((((((v_).2).2).2).2).2).2).wf = true))))))) (ok' := fun z_ : ((List Int) × (List Int)) => ((List.length (z_).1 * 8 ≤ 140737488351232 ∧ ∀ y1_ ∈ (z_).1, (Lit.int .i64 y1_).wf = true) ∧ (List.length (z_).2 * 8 ≤ 140737488351232 ∧ ∀ y1_ ∈ (z_).2, (Lit.int .i64 y1_).wf = true))) (by kernel_rfl) (by kernel_rfl) p_api_Con ?_
 refine OpensZF.cons (d := (Kd.slice 3 (Kd.int .i64))) (ok := fun v_ : (List Int) => (List.length v_ * 8 ≤ 140737488351232 ∧ ∀ y1_ ∈ v_, (Lit.int .i64 y1_).wf = true)) (ok' := fun z_ : ((List Int)) => (List.length z_ * 8 ≤ 140737488351232 ∧ ∀ y1_ ∈ z_, (Lit.int .i64 y1_).wf = true)) (by kernel_rfl) (by kernel_rfl) o_Lint ?_
 exact OpensZF.last (d := (Kd.slice 3 (Kd.int .i64))) (ok := fun v_ : (List Int) => (List.length v_ * 8 ≤ 140737488351232 ∧ ∀ y1_ ∈ v_, (Lit.int .i64 y1_).wf = true)) (by kernel_rfl) (by kernel_rfl) o_Lint
set_option maxRecDepth 100000 in
theorem lifted (os : Os) (started : os.Started) (H : Type) (enc : TypeId × Value → H) :
  ReturnsInHanded {} Try.checked os 13 .any (Rows.elementFarSpec.pre6 enc Try.prog Try.f13 Rows.elementFarRow.domain false) (Rows.elementFarSpec.post enc Try.prog Try.f13 false true false false) := by
 refine returnsInHanded_of_change_sized (C := Try.checked) own started (by kernel_rfl) Try.func13
  (ChangeSpec.witness6 (enc := enc) (C := Try.checked) false ⟨#[], #[.agg #[.slice none 0 0, .int .i64 0, .slice none 0 0, .slice none 0 0, .int .i64 0, .int .i64 0, .slice none 0 0, .int .i64 0, .slice none 0 0, .slice none 0 0]], []⟩ 8 (by kernel_rfl) (by kernel_rfl) (by kernel_rfl) (by kernel_rfl)) ?_
 intro W base args ds gs before hval0 hW hcnd hsz0 _
 have hsz : (DataW.weightsEach Try.prog (Try.f13.params.toList ++ Rows.elementFarSpec.plain.varTypes Try.prog) (ds ++ gs)).all (· ≤ reachBytes) = true := hsz0
 have hval : ∀ (j : Nat) t v, Try.f13.params[j]? = some t → args[j]? = some v → Value.okWide Try.prog W .any base t v := hval0
 have hW' := hW
 obtain ⟨p, q, hA0, hV, rfl, hfz, hnd⟩ := hW
 have hA : DataW.TrodAll enc Try.prog W 0 (fun _ => true) true Try.f13.params.toList args.toList ds p := hA0
 rw [Try.params13] at hA hval hsz
 obtain ⟨v0, vs0, d0, ds0, p0, q0, hargs, rfl, rfl, h0, r0⟩ := trodAll_cons hA
 obtain ⟨rfl, rfl, rfl⟩ := trodAll_nil r0
 obtain rfl : args = #[v0] := by cases args; simp_all
 obtain ⟨rfl, rfl⟩ := trodVars_none hV
 have k0 := h0
 have lt0 : ∀ x ∈ p0, x.block < W.heap.size := by obtain ⟨m, hm⟩ := k0; exact DataW.trod_lt m _ _ _ hm
 obtain ⟨cs0, rfl, _⟩ := okWide_struct Try.underlying27 (hval 0 27 v0 rfl rfl)
 obtain ⟨fu0, hf0⟩ := h0
 obtain ⟨⟨x0, ⟨⟨x1, ⟨x2, ⟨x3, ⟨x4, ⟨x5, ⟨x6, x7⟩⟩⟩⟩⟩⟩, ⟨x8, x9⟩⟩⟩, hK0, ⟨ok0, ⟨⟨ok1, ⟨ok2, ⟨ok3, ⟨ok4, ⟨ok5, ⟨ok6, ok7⟩⟩⟩⟩⟩⟩, ⟨ok8, ok9⟩⟩⟩⟩ := Zeu.out _ _ _ _ _ _ _ _ hf0 (each_weights hsz (j := 0) (t := 27) rfl rfl)
 obtain ⟨_, _, e, ⟨A0, c0, rfl, hc0, hC0⟩, ⟨_, _, rfl, ⟨_, _, rfl, rfl, ⟨_, _, rfl, ⟨A2, c2, rfl, hc2, hC2⟩, ⟨_, _, rfl, ⟨A3, c3, rfl, hc3, hC3⟩, ⟨_, _, rfl, rfl, ⟨_, _, rfl, rfl, ⟨_, _, rfl, ⟨A6, c6, rfl, hc6, hC6⟩, rfl⟩⟩⟩⟩⟩⟩, ⟨_, _, rfl, ⟨A8, c8, rfl, hc8, hC8⟩, ⟨A9, c9, rfl, hc9, hC9⟩⟩⟩⟩ := hK0
 obtain rfl : cs0 = #[.slice A0 x0.length c0, .int .i64 x1, .slice A2 x2.length c2, .slice A3 x3.length c3, .int .i64 x4, .int .i64 x5, .slice A6 x6.length c6, .int .i64 x7, .slice A8 x8.length c8, .slice A9 x9.length c9] := by
  apply Array.ext'
  simpa [Value.cells] using e
 clear hA0 hval0 hsz0 hsz
 refine (P.Zgg A0 c0 x0 x1 A2 c2 x2 A3 c3 x3 x4 x5 A6 c6 x6 x7 A8 c8 x8 A9 c9 x9 W hC0 hc0 ok0 ok1 hC2 hc2 ok2 hC3 hc3 ok3 ok4 ok5 hC6 hc6 ok6 ok7 hC8 hc8 ok8 hC9 hc9 ok9).mono fun e W' ⟨he, bel⟩ => ?_
 subst he
 exact ⟨_, rfl, _, _, _, [], _, [], hW', trodAll_mk1 (shut_bool Try.underlying4 _), (trodAll_cons_mk (Below.trod laidOut (by kernel_rfl) (of_decide_eq_true (by kernel_rfl)) k0 bel lt0) trodAll_mk0), rfl, bel.frame _, fun h => by cases h⟩
theorem over : Rows.elementFarRow.holds Try.pinned (OpenSpec.ofChange Rows.elementFarSpec) :=
 OpenClaim.holds_of_wide 13 Try.f13 rfl rfl rfl rfl rfl rfl rfl ⟨rfl, rfl, rfl, rfl, rfl⟩ rfl rfl rfl rfl rfl (by kernel_rfl) Try.func13 (by kernel_rfl)
  (of_decide_eq_true (by kernel_rfl)) (by unfold Func.isWrapper; first | (rw [if_pos (by decide +kernel)]; kernel_rfl) | (rw [if_neg (by decide +kernel)]; exact ⟨rfl, rfl⟩))
  (fun os started H enc _ => lifted os started H enc)
theorem proved : Rows.ElementFarSaid := over
end Go.Proofs.Ytpbcigilipdedaa.elementFar
namespace Go.Proofs.Ytpbcigilipdedaa
/-- The row, under a short name, for the claim. -/
theorem elementFar_holds : Rows.ElementFarSaid := elementFar.proved
end Go.Proofs.Ytpbcigilipdedaa
