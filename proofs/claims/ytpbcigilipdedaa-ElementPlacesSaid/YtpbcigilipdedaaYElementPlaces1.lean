/- Proved: the statement ElementPlaces. Conditions: none but those of the statement. -/
import Derived.Test.YtpbcigilipdedaaZ1
import Derived.Test.YtpbcigilipdedaaZ2
import Derived.Test.YtpbcigilipdedaaZ3
import Derived.Test.YtpbcigilipdedaaZ4
import Derived.Test.YtpbcigilipdedaaZ5
import Derived.Test.YtpbcigilipdedaaU1
import Derived.Deep.Slices
import Derived.ChangeArms
import Derived.DataReads
import Derived.SizedLaws
import Derived.Test.YtpbcigilipdedaaRows
import Derived.WalkKit
import Derived.ProofKit
import Derived.OpenShut
import Derived.ShutString
import Derived.ChangeOld
import Derived.Below

namespace Go.Proofs.Ytpbcigilipdedaa.P
open Go.RowKit Go.Proofs.YtpbcigilipdedaaW.PrintWords Go.Proofs.YtpbcigilipdedaaW.PrintLast Go.Proofs.YtpbcigilipdedaaW.PrintMore
attribute [local go_sem] Zdb Zdd Zdn Zdo Zc4 Zc5 Zdc Zde
set_option linter.unusedVariables false
set_option linter.unusedSimpArgs false
/-! ### Zad: function 10 -/
def Zad.l0 : Nat → List (List (S41)) → List (List (S41)) → List Int → List Int → Int → Int → List Int → List Int → Int → Int → List (List Int) → Int → Option (Bool)
 | 0, _, _, _, _, _, _, _, _, _, _, _, _ => none
 | k + 1, x3, x6, x8, x9, x10, x948000, x948001, x948002, x948003, x948004, x948005, x948006 => if x10 < (wrap64 ((x948001.length : Int) - 2)) then (if 0 ≤ (wrap64 (x10 + 2)) then (if (wrap64 (x10 + 2)) < (x948001.length : Int) then (if 0 ≤ (rd x948001 (wrap64 (x10 + 2))) then (if (rd x948001 (wrap64 (x10 + 2))) < (x3.length : Int) then (if 1 < (x948001.length : Int) then (if 0 ≤ (rd x948001 1) then (if (rd x948001 1) < (x3.length : Int) then ((Za4.f k (Zcf x3 (rd x948001 (wrap64 (x10 + 2)))) (Zcf x3 (rd x948001 1)) true).bind fun t964 => (if 0 < (x948001.length : Int) then (if 0 ≤ (rd x948001 0) then (if (rd x948001 0) < (x3.length : Int) then ((Zaj.f k (Zcf x3 (rd x948001 0))).bind fun t969 => ((Zay.f k t969 x10).bind fun t972 => (if t972 = true then (if (t964.length : Int) > 0 then (if x8.length < 17592186044416 then ((Zaj.f k t964).bind fun t976 => (if x9.length + t976.length < 17592186044416 then (Zad.l0 k x3 x6 (x8 ++ [x10]) (x9 ++ t976) (wrap64 (x10 + 1)) x948000 x948001 x948002 x948003 x948004 x948005 x948006) else (none))) else (none)) else (Zad.l0 k x3 x6 x8 x9 (wrap64 (x10 + 1)) x948000 x948001 x948002 x948003 x948004 x948005 x948006)) else (Zad.l0 k x3 x6 x8 x9 (wrap64 (x10 + 1)) x948000 x948001 x948002 x948003 x948004 x948005 x948006)))) else (none)) else (none)) else (none))) else (none)) else (none)) else (none)) else (none)) else (none)) else (none)) else (none)) else (if 0 < (x948001.length : Int) then (if 0 ≤ (rd x948001 0) then (if (rd x948001 0) < (x6.length : Int) then ((Zaj.f k (Zcf x6 (rd x948001 0))).bind fun t984 => ((Za1.f k t984 x8).bind fun t987 => (if t987 = true then (if 1 < (x948001.length : Int) then (if 0 ≤ (rd x948001 1) then (if (rd x948001 1) < (x6.length : Int) then ((Zaj.f k (Zcf x6 (rd x948001 1))).bind fun t990 => ((Zaf.f k x9).bind fun t993 => ((Za1.f k t990 t993).bind fun t996 => (if t996 = true then ((Za5.f k).bind fun t997 => (some t997)) else (none))))) else (none)) else (none)) else (none)) else (none)))) else (none)) else (none)) else (none))
def Zad.f (k : Nat) (l0_0 : List (List Int)) (a0_1 : Int) (l0_2 : List Int) (l0_3 : List Int) (a0_4 : Int) (a0_5 : Int) (l0_6 : List (List Int)) (a0_7 : Int) (l0_8 : List Int) (l0_9 : List Int) : Option (Bool) := (Zar.f k l0_0 a0_1 l0_2 l0_3 a0_4 a0_5 l0_6 a0_7 l0_8 l0_9 3).bind fun bt930 => (if bt930.2.2.2.2.2.2.2.2 = true then ((Zak.f k bt930.1 bt930.2.1 bt930.2.2.1 bt930.2.2.2.1 bt930.2.2.2.2.1 bt930.2.2.2.2.2.1 bt930.2.2.2.2.2.2.1 bt930.2.2.2.2.2.2.2.1).bind fun bt949 => (if bt949.2 = true then (if (bt949.1.length : Int) = (bt930.1.length : Int) then (Zad.l0 k bt930.1 bt949.1 (([] : List Int)) (([] : List Int)) 0 bt930.2.1 bt930.2.2.1 bt930.2.2.2.1 bt930.2.2.2.2.1 bt930.2.2.2.2.2.1 bt930.2.2.2.2.2.2.1 bt930.2.2.2.2.2.2.2.1) else (none)) else (if (bt949.1.length : Int) = 0 then ((Za5.f k).bind fun t953 => (some t953)) else (none)))) else ((Za5.f k).bind fun t948 => (some t948)))
theorem Zad.Zcd : ∀ k, (∀ y0 y1 y2 y3 y4 y5 y6 y7 y8 y9 y10 y11, LeO (Zad.l0 k y0 y1 y2 y3 y4 y5 y6 y7 y8 y9 y10 y11) (Zad.l0 (k + 1) y0 y1 y2 y3 y4 y5 y6 y7 y8 y9 y10 y11))
 | 0 => fun _ _ _ _ _ _ _ _ _ _ _ _ r h => by simp [Zad.l0] at h
 | k + 1 => by
  have ih0 := Zad.Zcd k
  intro y0 y1 y2 y3 y4 y5 y6 y7 y8 y9 y10 y11
  unfold Zad.l0
  repeat' first
  | (with_reducible exact ih0 _ _ _ _ _ _ _ _ _ _ _ _)
  | (with_reducible exact Zak.mono _ _ _ _ _ _ _ _ _)
  | (with_reducible exact Zar.mono _ _ _ _ _ _ _ _ _ _ _ _)
  | (with_reducible exact Za5.mono _)
  | (with_reducible exact Zay.mono _ _ _)
  | (with_reducible exact Za1.mono _ _ _)
  | (with_reducible exact Za4.mono _ _ _ _)
  | (with_reducible exact Zaf.mono _ _)
  | (with_reducible exact Zaj.mono _ _)
  | (with_reducible exact LeO.refl _)
  | (with_reducible exact LeO.none _)
  | (with_reducible refine LeO.ite ?_ ?_)
  | (with_reducible refine LeO.bind ?_ (fun _ => ?_))
  | exact ih0 _ _ _ _ _ _ _ _ _ _ _ _
  | exact Zak.mono _ _ _ _ _ _ _ _ _
  | exact Zar.mono _ _ _ _ _ _ _ _ _ _ _ _
  | exact Za5.mono _
  | exact Zay.mono _ _ _
  | exact Za1.mono _ _ _
  | exact Za4.mono _ _ _ _
  | exact Zaf.mono _ _
  | exact Zaj.mono _ _
  | exact LeO.none _
  | refine LeO.ite ?_ ?_
  | refine LeO.bind ?_ (fun _ => ?_)
theorem Zad.mono : ∀ a0 a1 a2 a3 a4 a5 a6 a7 a8 a9 k, LeO (Zad.f k a0 a1 a2 a3 a4 a5 a6 a7 a8 a9) (Zad.f (k + 1) a0 a1 a2 a3 a4 a5 a6 a7 a8 a9) := by
 intro a0 a1 a2 a3 a4 a5 a6 a7 a8 a9 k
 have ih0 := Zad.Zcd k
 unfold Zad.f
 repeat' first
   | (with_reducible exact ih0 _ _ _ _ _ _ _ _ _ _ _ _)
   | (with_reducible exact Zak.mono _ _ _ _ _ _ _ _ _)
   | (with_reducible exact Zar.mono _ _ _ _ _ _ _ _ _ _ _ _)
   | (with_reducible exact Za5.mono _)
   | (with_reducible exact Zay.mono _ _ _)
   | (with_reducible exact Za1.mono _ _ _)
   | (with_reducible exact Za4.mono _ _ _ _)
   | (with_reducible exact Zaf.mono _ _)
   | (with_reducible exact Zaj.mono _ _)
   | (with_reducible exact LeO.refl _)
   | (with_reducible exact LeO.none _)
   | (with_reducible refine LeO.ite ?_ ?_)
   | (with_reducible refine LeO.bind ?_ (fun _ => ?_))
   | exact ih0 _ _ _ _ _ _ _ _ _ _ _ _
   | exact Zak.mono _ _ _ _ _ _ _ _ _
   | exact Zar.mono _ _ _ _ _ _ _ _ _ _ _ _
   | exact Za5.mono _
   | exact Zay.mono _ _ _
   | exact Za1.mono _ _ _
   | exact Za4.mono _ _ _ _
   | exact Zaf.mono _ _
   | exact Zaj.mono _ _
   | exact LeO.none _
   | refine LeO.ite ?_ ?_
   | refine LeO.bind ?_ (fun _ => ?_)
def Zad.T13 : Bool × List (List Nat × List Nat) := (true, [([], []), ([], []), ([1], [1]), ([], []), ([3], [3]), ([2, 4], [2, 4]), ([5], [5]), ([0, 6], [0, 6]), ([7], [7]), ([], []), ([], []), ([10], [10]), ([11], [11]), ([12], [12]), ([9, 13], [9, 13]), ([14], [14]), ([8, 15], [8, 15]), ([16, 16, 0, 1, 2, 3, 4, 5, 6, 7, 8, 9, 10, 11, 12, 13, 14, 15, 16], [16])])
def Zad.B13 : List Nat := [0, 0, 2, 0, 8, 30, 62, 127, 255, 0, 0, 1024, 3072, 7168, 15872, 32256, 65535, 131071]
theorem Zad.tab13 : rtab .any (opsOf Try.f10 13) = Zad.T13 := by kernel_rfl
theorem Zad.bits13 : waitsOk Zad.T13.2 Zad.B13 = true := by kernel_rfl
set_option maxHeartbeats 8000000 in
set_option maxRecDepth 100000 in
theorem Zad.calls (k : Nat) (A0_0 : Option Addr) (c0_0 : Nat) (l0_0 : List (List Int)) (a0_1 : Int) (A0_2 : Option Addr) (c0_2 : Nat) (l0_2 : List Int) (A0_3 : Option Addr) (c0_3 : Nat) (l0_3 : List Int) (a0_4 : Int) (a0_5 : Int) (A0_6 : Option Addr) (c0_6 : Nat) (l0_6 : List (List Int)) (a0_7 : Int) (A0_8 : Option Addr) (c0_8 : Nat) (l0_8 : List Int) (A0_9 : Option Addr) (c0_9 : Nat) (l0_9 : List Int) (r : Bool) (w : World) (hr0_0 : Kd.C (Kd.slice 3 (Kd.int .i64)) w A0_0 l0_0.length l0_0) (hc0_0 : l0_0.length ≤ c0_0) (hr0_2 : Kd.C (Kd.int .i64) w A0_2 l0_2.length l0_2) (hc0_2 : l0_2.length ≤ c0_2) (hr0_3 : Kd.C (Kd.int .i64) w A0_3 l0_3.length l0_3) (hc0_3 : l0_3.length ≤ c0_3) (hr0_6 : Kd.C (Kd.slice 3 (Kd.int .i64)) w A0_6 l0_6.length l0_6) (hc0_6 : l0_6.length ≤ c0_6) (hr0_8 : Kd.C (Kd.int .i64) w A0_8 l0_8.length l0_8) (hc0_8 : l0_8.length ≤ c0_8) (hr0_9 : Kd.C (Kd.int .i64) w A0_9 l0_9.length l0_9) (hc0_9 : l0_9.length ≤ c0_9) (h : Zad.f k l0_0 a0_1 l0_2 l0_3 a0_4 a0_5 l0_6 a0_7 l0_8 l0_9 = some r) :
  Calls Try.prog 10 #[.agg #[.slice A0_0 l0_0.length c0_0, .int .i64 a0_1, .slice A0_2 l0_2.length c0_2, .slice A0_3 l0_3.length c0_3, .int .i64 a0_4, .int .i64 a0_5, .slice A0_6 l0_6.length c0_6, .int .i64 a0_7, .slice A0_8 l0_8.length c0_8, .slice A0_9 l0_9.length c0_9]] w fun e w' => e = .returned (.bool r) ∧ Below w.heap.size w w' := by
 have hu27 := Try.underlying27
 have hu25 := Try.underlying25
 have HR0_0 := Za.mk hr0_0
 have HC0_0 := Za.mk hc0_0
 clear hr0_0 hc0_0
 have HR0_2 := Za.mk hr0_2
 have HC0_2 := Za.mk hc0_2
 clear hr0_2 hc0_2
 have HR0_3 := Za.mk hr0_3
 have HC0_3 := Za.mk hc0_3
 clear hr0_3 hc0_3
 have HR0_6 := Za.mk hr0_6
 have HC0_6 := Za.mk hc0_6
 clear hr0_6 hc0_6
 have HR0_8 := Za.mk hr0_8
 have HC0_8 := Za.mk hc0_8
 clear hr0_8 hc0_8
 have HR0_9 := Za.mk hr0_9
 have HC0_9 := Za.mk hc0_9
 clear hr0_9 hc0_9
 have HB := Za.mk (Below.refl w.heap.size w)
 have H : ((Zar.f k l0_0 a0_1 l0_2 l0_3 a0_4 a0_5 l0_6 a0_7 l0_8 l0_9 3).bind fun bt930 => (if bt930.2.2.2.2.2.2.2.2 = true then ((Zak.f k bt930.1 bt930.2.1 bt930.2.2.1 bt930.2.2.2.1 bt930.2.2.2.2.1 bt930.2.2.2.2.2.1 bt930.2.2.2.2.2.2.1 bt930.2.2.2.2.2.2.2.1).bind fun bt949 => (if bt949.2 = true then (if (bt949.1.length : Int) = (bt930.1.length : Int) then (Zad.l0 k bt930.1 bt949.1 (([] : List Int)) (([] : List Int)) 0 bt930.2.1 bt930.2.2.1 bt930.2.2.2.1 bt930.2.2.2.2.1 bt930.2.2.2.2.2.1 bt930.2.2.2.2.2.2.1 bt930.2.2.2.2.2.2.2.1) else (none)) else (if (bt949.1.length : Int) = 0 then ((Za5.f k).bind fun t953 => (some t953)) else (none)))) else ((Za5.f k).bind fun t948 => (some t948)))) = some r := h
 clear h
 replace H := Option.bind_eq_some_iff.mp H
 obtain ⟨⟨t930, t933, t934, t937, t940, t941, t942, t945, t946⟩, A20, H⟩ := H
 replace H : (if t946 = true then ((Zak.f k t930 t933 t934 t937 t940 t941 t942 t945).bind fun bt949 => (if bt949.2 = true then (if (bt949.1.length : Int) = (t930.length : Int) then (Zad.l0 k t930 bt949.1 (([] : List Int)) (([] : List Int)) 0 t933 t934 t937 t940 t941 t942 t945) else (none)) else (if (bt949.1.length : Int) = 0 then ((Za5.f k).bind fun t953 => (some t953)) else (none)))) else ((Za5.f k).bind fun t948 => (some t948))) = some r := H
 have A2 := Za.mk A20
 clear A20
 by_cases c3 : t946 = true
 rotate_left
 ·replace c3 := Bool.eq_false_iff.mpr c3
  subst c3
  have H1 : ((Za5.f k).bind fun t948 => (some t948)) = some r := by rw [if_neg (show ¬ (false = true) by decide)] at H; exact H
  clear H
  have H := H1
  clear H1
  replace H := Option.bind_eq_some_iff.mp H
  obtain ⟨t948, A1110, H⟩ := H
  replace H : (some t948) = some r := H
  have A111 := Za.mk A1110
  clear A1110
  obtain rfl := Option.some.inj H
  go_enter Try.func10, Try.ntmps10
  go_wp2_with (first | ((with_reducible refine Zbx (N := 1) rfl ?_); (try (refine Zco (by rfl) ?_; dsimp only)); refine Zcj ?hg (N := 1) ?hd (cs := #[.slice A0_0 l0_0.length c0_0, .int .i64 a0_1, .slice A0_2 l0_2.length c0_2, .slice A0_3 l0_3.length c0_3, .int .i64 a0_4, .int .i64 a0_5, .slice A0_6 l0_6.length c0_6, .int .i64 a0_7, .slice A0_8 l0_8.length c0_8, .slice A0_9 l0_9.length c0_9]) (t := 27) ?hr ?_; (case hd => rfl); (case hg => rfl); (case hr => first | (go_simp; done) | (go_simp; rfl)); intro gb929 hg w112 hbox hb; have n0_ := Za.mk (Zau (by repeat (first | (with_reducible first | exact HB.out | apply Zab | apply Zaa | apply Zac) | exact HB.out)) hb); have n1_ := Za.mk (hbox); have n2_ := Za.mk ((by rw [hg]; exact (Zam (by repeat (first | (with_reducible first | exact HB.out | apply Zab | apply Zaa | apply Zac) | exact HB.out))) : w.heap.size ≤ gb929)); have n3_ := Za.mk ((by rw [hg]; exact (Zam (by repeat (first | (with_reducible first | exact HB.out | apply Zab | apply Zaa | apply Zac) | exact HB.out))) : w.heap.size ≤ gb929)); clear HB; have HB := n0_; have BK929 := n1_; have GW929 := n2_; have GE929 := n3_; clear n0_ n1_ n2_ n3_; clear hb hbox hg; obtain ⟨hcz113_0, hcz113_1, hcz113_2, hcz113_3, hcz113_4, hcz113_5, hcz113_6, hcz113_7, hcz113_8, hcz113_9, hfz113_0, hfz113_1, hfz113_2, hfz113_3, hfz113_4, hfz113_5, hfz113_6, hfz113_7, hfz113_8, hfz113_9⟩ := Zgm BK929.out) | ((with_reducible refine Zbn (f := 14) rfl ?_); refine Zcp (some 14) rfl rfl Try.func14 (by kernel_rfl) rfl #[.agg #[.slice A0_0 l0_0.length c0_0, .int .i64 a0_1, .slice A0_2 l0_2.length c0_2, .slice A0_3 l0_3.length c0_3, .int .i64 a0_4, .int .i64 a0_5, .slice A0_6 l0_6.length c0_6, .int .i64 a0_7, .slice A0_8 l0_8.length c0_8, .slice A0_9 l0_9.length c0_9], .int .i64 3] rfl (by (try simp only [List.map_toArray, List.map_cons, List.map_nil]); first | done | rfl | (simp only [List.length_drop, List.length_take]; rfl)) ?_; (with_reducible refine (Zar.calls k _ _ l0_0 a0_1 _ _ l0_2 _ _ l0_3 a0_4 a0_5 _ _ l0_6 a0_7 _ _ l0_8 _ _ l0_9 3 t930 t933 t934 t937 t940 t941 t942 t945 false _ ?side1 ?side2 ?side3 ?side4 ?side5 ?side6 ?side7 ?side8 ?side9 ?side10 ?side11 ?side12 A2.out).mono ?_); (case side1 => repeat (first | exact (Kd.Zbk HR0_0.out HB.out) | (with_reducible refine Kd.Za6 ?_ _) | (with_reducible refine Kd.Za0 ?_ _) | (with_reducible refine Kd.Zbd ?_))); (case side2 => exact HC0_0.out); (case side3 => repeat (first | exact (Kd.Zbk HR0_2.out HB.out) | (with_reducible refine Kd.Za6 ?_ _) | (with_reducible refine Kd.Za0 ?_ _) | (with_reducible refine Kd.Zbd ?_))); (case side4 => exact HC0_2.out); (case side5 => repeat (first | exact (Kd.Zbk HR0_3.out HB.out) | (with_reducible refine Kd.Za6 ?_ _) | (with_reducible refine Kd.Za0 ?_ _) | (with_reducible refine Kd.Zbd ?_))); (case side6 => exact HC0_3.out); (case side7 => repeat (first | exact (Kd.Zbk HR0_6.out HB.out) | (with_reducible refine Kd.Za6 ?_ _) | (with_reducible refine Kd.Za0 ?_ _) | (with_reducible refine Kd.Zbd ?_))); (case side8 => exact HC0_6.out); (case side9 => repeat (first | exact (Kd.Zbk HR0_8.out HB.out) | (with_reducible refine Kd.Za6 ?_ _) | (with_reducible refine Kd.Za0 ?_ _) | (with_reducible refine Kd.Zbd ?_))); (case side10 => exact HC0_8.out); (case side11 => repeat (first | exact (Kd.Zbk HR0_9.out HB.out) | (with_reducible refine Kd.Za6 ?_ _) | (with_reducible refine Kd.Za0 ?_ _) | (with_reducible refine Kd.Zbd ?_))); (case side12 => exact HC0_9.out); rintro e w114 ⟨v931, v935, v938, v943, rfl, ho0, ho1, ho2, ho3, hb⟩; refine ⟨_, rfl, ?_⟩; have n0_ := Za.mk (Kd.Zdt ho0 (Zam (by repeat (first | (with_reducible first | exact HB.out | apply Zab | apply Zaa | apply Zac | refine Zah ?_ GE929.out) | exact HB.out)))); have n1_ := Za.mk (Kd.Zbw ho1 (Zam (by repeat (first | (with_reducible first | exact HB.out | apply Zab | apply Zaa | apply Zac | refine Zah ?_ GE929.out) | exact HB.out)))); have n2_ := Za.mk (Kd.Zbw ho2 (Zam (by repeat (first | (with_reducible first | exact HB.out | apply Zab | apply Zaa | apply Zac | refine Zah ?_ GE929.out) | exact HB.out)))); have n3_ := Za.mk (Kd.Zdt ho3 (Zam (by repeat (first | (with_reducible first | exact HB.out | apply Zab | apply Zaa | apply Zac | refine Zah ?_ GE929.out) | exact HB.out)))); have n4_ := Za.mk (Za9 (g := gb929) (o := .cells #[.slice A0_0 l0_0.length c0_0, .int .i64 a0_1, .slice A0_2 l0_2.length c0_2, .slice A0_3 l0_3.length c0_3, .int .i64 a0_4, .int .i64 a0_5, .slice A0_6 l0_6.length c0_6, .int .i64 a0_7, .slice A0_8 l0_8.length c0_8, .slice A0_9 l0_9.length c0_9] 27 (0, 0)) (mvK BK929.out) hb); have n5_ := Za.mk (Zau (by repeat (first | (with_reducible first | exact HB.out | apply Zab | apply Zaa | apply Zac | refine Zah ?_ GE929.out) | exact HB.out)) hb); clear BK929; clear HB; have HO932 := n0_; have HO936 := n1_; have HO939 := n2_; have HO944 := n3_; have BK929 := n4_; have HB := n5_; clear n0_ n1_ n2_ n3_ n4_ n5_; (try clear hb); (try clear hb2); (try clear hk); (try clear hi); (try clear ho0); (try clear ho1); (try clear ho2); (try clear ho3)) | ((with_reducible refine Zbx (N := 4) rfl ?_); (try (refine Zco (by rfl) ?_; dsimp only)); refine Zcj ?hg (N := 4) ?hd (cs := #[.int .i64 0, .slice none 0 0, .slice none 0 0, .int .i64 0, .int .i64 0, .slice none 0 0, .int .i64 0]) (t := 25) ?hr ?_; (case hd => rfl); (case hg => rfl); (case hr => first | (go_simp; done) | (go_simp; rfl)); intro gb947 hg w115 hbox hb; have n0_ := Za.mk (Kd.Zb8 (mvS HO932.out) hb); have n1_ := Za.mk (Kd.Zbj (mvR HO936.out) hb); have n2_ := Za.mk (Kd.Zbj (mvR HO939.out) hb); have n3_ := Za.mk (Kd.Zb8 (mvS HO944.out) hb); have n4_ := Za.mk (Za9 (g := gb929) (o := .cells #[.slice A0_0 l0_0.length c0_0, .int .i64 a0_1, .slice A0_2 l0_2.length c0_2, .slice A0_3 l0_3.length c0_3, .int .i64 a0_4, .int .i64 a0_5, .slice A0_6 l0_6.length c0_6, .int .i64 a0_7, .slice A0_8 l0_8.length c0_8, .slice A0_9 l0_9.length c0_9] 27 (0, 0)) (mvK BK929.out) hb); have n5_ := Za.mk (Zau (by repeat (first | (with_reducible first | exact HB.out | apply Zab | apply Zaa | apply Zac | refine Zah ?_ GE929.out) | exact HB.out)) hb); have n6_ := Za.mk (hbox); have n7_ := Za.mk ((by rw [hg]; exact (Zam (by repeat (first | (with_reducible first | exact HB.out | apply Zab | apply Zaa | apply Zac | refine Zah ?_ GE929.out) | exact HB.out))) : w.heap.size ≤ gb947)); have n8_ := Za.mk ((by rw [hg]; exact (Zam (by repeat (first | (with_reducible first | exact HB.out | apply Zab | apply Zaa | apply Zac | refine Zah ?_ GE929.out) | exact HB.out))) : w.heap.size ≤ gb947)); have n9_ := Za.mk ((by rw [hg]; exact Nat.ne_of_lt (Zdh (g := gb929) (o := .cells #[.slice A0_0 l0_0.length c0_0, .int .i64 a0_1, .slice A0_2 l0_2.length c0_2, .slice A0_3 l0_3.length c0_3, .int .i64 a0_4, .int .i64 a0_5, .slice A0_6 l0_6.length c0_6, .int .i64 a0_7, .slice A0_8 l0_8.length c0_8, .slice A0_9 l0_9.length c0_9] 27 (0, 0)) (mvK BK929.out)) : gb929 ≠ gb947)); have n10_ := Za.mk ((by rw [hg]; exact Nat.ne_of_gt (Zdh (g := gb929) (o := .cells #[.slice A0_0 l0_0.length c0_0, .int .i64 a0_1, .slice A0_2 l0_2.length c0_2, .slice A0_3 l0_3.length c0_3, .int .i64 a0_4, .int .i64 a0_5, .slice A0_6 l0_6.length c0_6, .int .i64 a0_7, .slice A0_8 l0_8.length c0_8, .slice A0_9 l0_9.length c0_9] 27 (0, 0)) (mvK BK929.out)) : gb947 ≠ gb929)); clear HO932; clear HO936; clear HO939; clear HO944; clear BK929; clear HB; have HO932 := n0_; have HO936 := n1_; have HO939 := n2_; have HO944 := n3_; have BK929 := n4_; have HB := n5_; have BK947 := n6_; have GW947 := n7_; have GE947 := n8_; have NB929_947 := n9_; have NB947_929 := n10_; clear n0_ n1_ n2_ n3_ n4_ n5_ n6_ n7_ n8_ n9_ n10_; clear hb hbox hg; have hnb116 := NB947_929.out; have hnc116 := NB929_947.out; obtain ⟨hcz117_0, hcz117_1, hcz117_2, hcz117_3, hcz117_4, hcz117_5, hcz117_6, hfz117_0, hfz117_1, hfz117_2, hfz117_3, hfz117_4, hfz117_5, hfz117_6⟩ := Zcw BK947.out; obtain ⟨Ao118, co118, eo118⟩ := Kd.Zbu HO936.out; subst eo118; obtain ⟨Ao119, co119, eo119⟩ := Kd.Zbu HO939.out; subst eo119; obtain ⟨Ao120, co120, eo120⟩ := Kd.Zdx HO944.out; subst eo120) | ((with_reducible refine Zbn (f := 34) rfl ?_); refine Zcp (some 20) rfl rfl Try.func34 (by kernel_rfl) rfl #[] rfl (by (try simp only [List.map_toArray, List.map_cons, List.map_nil]); first | done | rfl | (simp only [List.length_drop, List.length_take]; rfl)) ?_; (with_reducible refine (Za5.calls k  t948 _ A111.out).mono ?_); rintro e w121 ⟨rfl, hb⟩; refine ⟨_, rfl, ?_⟩; have n0_ := Za.mk (Kd.Zb8 (by (with_reducible repeat (first | apply Kd.Zb5 | apply Kd.Zb6 | apply Kd.Zb9)); exact (Kd.Zck (Kd.Zbv (p := ⟨gb947, 6, none⟩) (Kd.Zbv (p := ⟨gb947, 5, none⟩) (Kd.Zbv (p := ⟨gb947, 4, none⟩) (Kd.Zbv (p := ⟨gb947, 3, none⟩) (Kd.Zbv (p := ⟨gb947, 2, none⟩) (Kd.Zbv (p := ⟨gb947, 1, none⟩) (Kd.Zbv (p := ⟨gb947, 0, none⟩) (Kd.Zcu HO932.out BK947.out (by decide)) (fun _ hk => hk.2) (.int .i64 t933)) (fun _ hk => hk.2) (.slice Ao118 t934.length co118)) (fun _ hk => hk.2) (.slice Ao119 t937.length co119)) (fun _ hk => hk.2) (.int .i64 t940)) (fun _ hk => hk.2) (.int .i64 t941)) (fun _ hk => hk.2) (.slice Ao120 t942.length co120)) (fun _ hk => hk.2) (.int .i64 t945)) (fun _ h_ => h_.1))) hb); have n1_ := Za.mk (Kd.Zbj (by (with_reducible repeat (first | apply Kd.Zao | apply Kd.Zan | apply Kd.Zaq)); exact (Kd.Zbh (Kd.Zbl (p := ⟨gb947, 6, none⟩) (Kd.Zbl (p := ⟨gb947, 5, none⟩) (Kd.Zbl (p := ⟨gb947, 4, none⟩) (Kd.Zbl (p := ⟨gb947, 3, none⟩) (Kd.Zbl (p := ⟨gb947, 2, none⟩) (Kd.Zbl (p := ⟨gb947, 1, none⟩) (Kd.Zbl (p := ⟨gb947, 0, none⟩) (Kd.Zcb HO936.out BK947.out (by decide)) (fun _ hk => hk.2) (.int .i64 t933)) (fun _ hk => hk.2) (.slice Ao118 t934.length co118)) (fun _ hk => hk.2) (.slice Ao119 t937.length co119)) (fun _ hk => hk.2) (.int .i64 t940)) (fun _ hk => hk.2) (.int .i64 t941)) (fun _ hk => hk.2) (.slice Ao120 t942.length co120)) (fun _ hk => hk.2) (.int .i64 t945)) (fun _ h_ => h_.1))) hb); have n2_ := Za.mk (Kd.Zbj (by (with_reducible repeat (first | apply Kd.Zao | apply Kd.Zan | apply Kd.Zaq)); exact (Kd.Zbh (Kd.Zbl (p := ⟨gb947, 6, none⟩) (Kd.Zbl (p := ⟨gb947, 5, none⟩) (Kd.Zbl (p := ⟨gb947, 4, none⟩) (Kd.Zbl (p := ⟨gb947, 3, none⟩) (Kd.Zbl (p := ⟨gb947, 2, none⟩) (Kd.Zbl (p := ⟨gb947, 1, none⟩) (Kd.Zbl (p := ⟨gb947, 0, none⟩) (Kd.Zcb HO939.out BK947.out (by decide)) (fun _ hk => hk.2) (.int .i64 t933)) (fun _ hk => hk.2) (.slice Ao118 t934.length co118)) (fun _ hk => hk.2) (.slice Ao119 t937.length co119)) (fun _ hk => hk.2) (.int .i64 t940)) (fun _ hk => hk.2) (.int .i64 t941)) (fun _ hk => hk.2) (.slice Ao120 t942.length co120)) (fun _ hk => hk.2) (.int .i64 t945)) (fun _ h_ => h_.1))) hb); have n3_ := Za.mk (Kd.Zb8 (by (with_reducible repeat (first | apply Kd.Zb5 | apply Kd.Zb6 | apply Kd.Zb9)); exact (Kd.Zck (Kd.Zbv (p := ⟨gb947, 6, none⟩) (Kd.Zbv (p := ⟨gb947, 5, none⟩) (Kd.Zbv (p := ⟨gb947, 4, none⟩) (Kd.Zbv (p := ⟨gb947, 3, none⟩) (Kd.Zbv (p := ⟨gb947, 2, none⟩) (Kd.Zbv (p := ⟨gb947, 1, none⟩) (Kd.Zbv (p := ⟨gb947, 0, none⟩) (Kd.Zcu HO944.out BK947.out (by decide)) (fun _ hk => hk.2) (.int .i64 t933)) (fun _ hk => hk.2) (.slice Ao118 t934.length co118)) (fun _ hk => hk.2) (.slice Ao119 t937.length co119)) (fun _ hk => hk.2) (.int .i64 t940)) (fun _ hk => hk.2) (.int .i64 t941)) (fun _ hk => hk.2) (.slice Ao120 t942.length co120)) (fun _ hk => hk.2) (.int .i64 t945)) (fun _ h_ => h_.1))) hb); have n4_ := Za.mk (Za9 (g := gb929) (o := .cells #[.slice A0_0 l0_0.length c0_0, .int .i64 a0_1, .slice A0_2 l0_2.length c0_2, .slice A0_3 l0_3.length c0_3, .int .i64 a0_4, .int .i64 a0_5, .slice A0_6 l0_6.length c0_6, .int .i64 a0_7, .slice A0_8 l0_8.length c0_8, .slice A0_9 l0_9.length c0_9] 27 (0, 0)) (by (with_reducible repeat (first | refine Zag ?_ _ | refine Zai ?_ | refine Zae ?_ _)); refine Zb2 ?_ NB929_947.out _; (with_reducible repeat (first | refine Zag ?_ _ | refine Zai ?_ | refine Zae ?_ _)); refine Zb2 ?_ NB929_947.out _; (with_reducible repeat (first | refine Zag ?_ _ | refine Zai ?_ | refine Zae ?_ _)); refine Zb2 ?_ NB929_947.out _; (with_reducible repeat (first | refine Zag ?_ _ | refine Zai ?_ | refine Zae ?_ _)); refine Zb2 ?_ NB929_947.out _; (with_reducible repeat (first | refine Zag ?_ _ | refine Zai ?_ | refine Zae ?_ _)); refine Zb2 ?_ NB929_947.out _; (with_reducible repeat (first | refine Zag ?_ _ | refine Zai ?_ | refine Zae ?_ _)); refine Zb2 ?_ NB929_947.out _; (with_reducible repeat (first | refine Zag ?_ _ | refine Zai ?_ | refine Zae ?_ _)); refine Zb2 ?_ NB929_947.out _; (with_reducible repeat (first | refine Zag ?_ _ | refine Zai ?_ | refine Zae ?_ _)); exact BK929.out) hb); have n5_ := Za.mk (Za9 (g := gb947) (o := .cells #[.int .i64 t933, .slice Ao118 t934.length co118, .slice Ao119 t937.length co119, .int .i64 t940, .int .i64 t941, .slice Ao120 t942.length co120, .int .i64 t945] 25 (0, 0)) (by (with_reducible repeat (first | refine Zag ?_ _ | refine Zai ?_ | refine Zae ?_ _)); refine Zbq (cs := #[.int .i64 t933, .slice Ao118 t934.length co118, .slice Ao119 t937.length co119, .int .i64 t940, .int .i64 t941, .slice Ao120 t942.length co120, .int .i64 0]) ?_ 6 _ rfl; (with_reducible repeat (first | refine Zag ?_ _ | refine Zai ?_ | refine Zae ?_ _)); refine Zbq (cs := #[.int .i64 t933, .slice Ao118 t934.length co118, .slice Ao119 t937.length co119, .int .i64 t940, .int .i64 t941, .slice none 0 0, .int .i64 0]) ?_ 5 _ rfl; (with_reducible repeat (first | refine Zag ?_ _ | refine Zai ?_ | refine Zae ?_ _)); refine Zbq (cs := #[.int .i64 t933, .slice Ao118 t934.length co118, .slice Ao119 t937.length co119, .int .i64 t940, .int .i64 0, .slice none 0 0, .int .i64 0]) ?_ 4 _ rfl; (with_reducible repeat (first | refine Zag ?_ _ | refine Zai ?_ | refine Zae ?_ _)); refine Zbq (cs := #[.int .i64 t933, .slice Ao118 t934.length co118, .slice Ao119 t937.length co119, .int .i64 0, .int .i64 0, .slice none 0 0, .int .i64 0]) ?_ 3 _ rfl; (with_reducible repeat (first | refine Zag ?_ _ | refine Zai ?_ | refine Zae ?_ _)); refine Zbq (cs := #[.int .i64 t933, .slice Ao118 t934.length co118, .slice none 0 0, .int .i64 0, .int .i64 0, .slice none 0 0, .int .i64 0]) ?_ 2 _ rfl; (with_reducible repeat (first | refine Zag ?_ _ | refine Zai ?_ | refine Zae ?_ _)); refine Zbq (cs := #[.int .i64 t933, .slice none 0 0, .slice none 0 0, .int .i64 0, .int .i64 0, .slice none 0 0, .int .i64 0]) ?_ 1 _ rfl; (with_reducible repeat (first | refine Zag ?_ _ | refine Zai ?_ | refine Zae ?_ _)); refine Zbq (cs := #[.int .i64 0, .slice none 0 0, .slice none 0 0, .int .i64 0, .int .i64 0, .slice none 0 0, .int .i64 0]) ?_ 0 _ rfl; (with_reducible repeat (first | refine Zag ?_ _ | refine Zai ?_ | refine Zae ?_ _)); exact BK947.out) hb); have n6_ := Za.mk (Zau (by repeat (first | (with_reducible first | exact HB.out | apply Zab | apply Zaa | apply Zac | refine Zah ?_ GE929.out | refine Zah ?_ GE947.out) | exact HB.out)) hb); clear HO932; clear HO936; clear HO939; clear HO944; clear BK929; clear BK947; clear HB; have HO932 := n0_; have HO936 := n1_; have HO939 := n2_; have HO944 := n3_; have BK929 := n4_; have BK947 := n5_; have HB := n6_; clear n0_ n1_ n2_ n3_ n4_ n5_ n6_; (try clear hb); (try clear hb2); (try clear hk); (try clear hi)))
  go_ret
  exact ⟨by first | rfl | (simp [Zba, Zbb] <;> rfl) | (simp [*, Zba, Zbb] <;> rfl), by repeat (first | (with_reducible first | exact HB.out | apply Zab | apply Zaa | apply Zac | refine Zah ?_ GE929.out | refine Zah ?_ GE947.out) | exact HB.out)⟩

 subst c3
 have H1 : ((Zak.f k t930 t933 t934 t937 t940 t941 t942 t945).bind fun bt949 => (if bt949.2 = true then (if (bt949.1.length : Int) = (t930.length : Int) then (Zad.l0 k t930 bt949.1 (([] : List Int)) (([] : List Int)) 0 t933 t934 t937 t940 t941 t942 t945) else (none)) else (if (bt949.1.length : Int) = 0 then ((Za5.f k).bind fun t953 => (some t953)) else (none)))) = some r := by rw [if_pos rfl] at H; exact H
 clear H
 have H := H1
 clear H1
 replace H := Option.bind_eq_some_iff.mp H
 obtain ⟨⟨t949, t952⟩, A40, H⟩ := H
 replace H : (if t952 = true then (if (t949.length : Int) = (t930.length : Int) then (Zad.l0 k t930 t949 (([] : List Int)) (([] : List Int)) 0 t933 t934 t937 t940 t941 t942 t945) else (none)) else (if (t949.length : Int) = 0 then ((Za5.f k).bind fun t953 => (some t953)) else (none))) = some r := H
 have A4 := Za.mk A40
 clear A40
 by_cases c5 : t952 = true
 rotate_left
 ·replace c5 := Bool.eq_false_iff.mpr c5
  subst c5
  have H1 : (if (t949.length : Int) = 0 then ((Za5.f k).bind fun t953 => (some t953)) else (none)) = some r := by rw [if_neg (show ¬ (false = true) by decide)] at H; exact H
  clear H
  have H := H1
  clear H1
  by_cases c96 : (t949.length : Int) = 0
  rotate_left
  ·rw [if_neg c96] at H
   exact absurd H (by simp)
  rw [if_pos c96] at H
  have c96b0 : ((t949.length : Int) == 0) = true := beq_iff_eq.mpr c96
  have c96b1 : ((t949.length : Int) != 0) = false := bne_eq_false_iff_eq.mpr c96
  clear c96
  replace H := Option.bind_eq_some_iff.mp H
  obtain ⟨t953, A970, H⟩ := H
  replace H : (some t953) = some r := H
  have A97 := Za.mk A970
  clear A970
  obtain rfl := Option.some.inj H
  go_enter Try.func10, Try.ntmps10
  go_wp2_with (first | ((with_reducible refine Zbx (N := 1) rfl ?_); (try (refine Zco (by rfl) ?_; dsimp only)); refine Zcj ?hg (N := 1) ?hd (cs := #[.slice A0_0 l0_0.length c0_0, .int .i64 a0_1, .slice A0_2 l0_2.length c0_2, .slice A0_3 l0_3.length c0_3, .int .i64 a0_4, .int .i64 a0_5, .slice A0_6 l0_6.length c0_6, .int .i64 a0_7, .slice A0_8 l0_8.length c0_8, .slice A0_9 l0_9.length c0_9]) (t := 27) ?hr ?_; (case hd => rfl); (case hg => rfl); (case hr => first | (go_simp; done) | (go_simp; rfl)); intro gb929 hg w98 hbox hb; have n0_ := Za.mk (Zau (by repeat (first | (with_reducible first | exact HB.out | apply Zab | apply Zaa | apply Zac) | exact HB.out)) hb); have n1_ := Za.mk (hbox); have n2_ := Za.mk ((by rw [hg]; exact (Zam (by repeat (first | (with_reducible first | exact HB.out | apply Zab | apply Zaa | apply Zac) | exact HB.out))) : w.heap.size ≤ gb929)); have n3_ := Za.mk ((by rw [hg]; exact (Zam (by repeat (first | (with_reducible first | exact HB.out | apply Zab | apply Zaa | apply Zac) | exact HB.out))) : w.heap.size ≤ gb929)); clear HB; have HB := n0_; have BK929 := n1_; have GW929 := n2_; have GE929 := n3_; clear n0_ n1_ n2_ n3_; clear hb hbox hg; obtain ⟨hcz99_0, hcz99_1, hcz99_2, hcz99_3, hcz99_4, hcz99_5, hcz99_6, hcz99_7, hcz99_8, hcz99_9, hfz99_0, hfz99_1, hfz99_2, hfz99_3, hfz99_4, hfz99_5, hfz99_6, hfz99_7, hfz99_8, hfz99_9⟩ := Zgm BK929.out) | ((with_reducible refine Zbn (f := 14) rfl ?_); refine Zcp (some 14) rfl rfl Try.func14 (by kernel_rfl) rfl #[.agg #[.slice A0_0 l0_0.length c0_0, .int .i64 a0_1, .slice A0_2 l0_2.length c0_2, .slice A0_3 l0_3.length c0_3, .int .i64 a0_4, .int .i64 a0_5, .slice A0_6 l0_6.length c0_6, .int .i64 a0_7, .slice A0_8 l0_8.length c0_8, .slice A0_9 l0_9.length c0_9], .int .i64 3] rfl (by (try simp only [List.map_toArray, List.map_cons, List.map_nil]); first | done | rfl | (simp only [List.length_drop, List.length_take]; rfl)) ?_; (with_reducible refine (Zar.calls k _ _ l0_0 a0_1 _ _ l0_2 _ _ l0_3 a0_4 a0_5 _ _ l0_6 a0_7 _ _ l0_8 _ _ l0_9 3 t930 t933 t934 t937 t940 t941 t942 t945 true _ ?side1 ?side2 ?side3 ?side4 ?side5 ?side6 ?side7 ?side8 ?side9 ?side10 ?side11 ?side12 A2.out).mono ?_); (case side1 => repeat (first | exact (Kd.Zbk HR0_0.out HB.out) | (with_reducible refine Kd.Za6 ?_ _) | (with_reducible refine Kd.Za0 ?_ _) | (with_reducible refine Kd.Zbd ?_))); (case side2 => exact HC0_0.out); (case side3 => repeat (first | exact (Kd.Zbk HR0_2.out HB.out) | (with_reducible refine Kd.Za6 ?_ _) | (with_reducible refine Kd.Za0 ?_ _) | (with_reducible refine Kd.Zbd ?_))); (case side4 => exact HC0_2.out); (case side5 => repeat (first | exact (Kd.Zbk HR0_3.out HB.out) | (with_reducible refine Kd.Za6 ?_ _) | (with_reducible refine Kd.Za0 ?_ _) | (with_reducible refine Kd.Zbd ?_))); (case side6 => exact HC0_3.out); (case side7 => repeat (first | exact (Kd.Zbk HR0_6.out HB.out) | (with_reducible refine Kd.Za6 ?_ _) | (with_reducible refine Kd.Za0 ?_ _) | (with_reducible refine Kd.Zbd ?_))); (case side8 => exact HC0_6.out); (case side9 => repeat (first | exact (Kd.Zbk HR0_8.out HB.out) | (with_reducible refine Kd.Za6 ?_ _) | (with_reducible refine Kd.Za0 ?_ _) | (with_reducible refine Kd.Zbd ?_))); (case side10 => exact HC0_8.out); (case side11 => repeat (first | exact (Kd.Zbk HR0_9.out HB.out) | (with_reducible refine Kd.Za6 ?_ _) | (with_reducible refine Kd.Za0 ?_ _) | (with_reducible refine Kd.Zbd ?_))); (case side12 => exact HC0_9.out); rintro e w100 ⟨v931, v935, v938, v943, rfl, ho0, ho1, ho2, ho3, hb⟩; refine ⟨_, rfl, ?_⟩; have n0_ := Za.mk (Kd.Zdt ho0 (Zam (by repeat (first | (with_reducible first | exact HB.out | apply Zab | apply Zaa | apply Zac | refine Zah ?_ GE929.out) | exact HB.out)))); have n1_ := Za.mk (Kd.Zbw ho1 (Zam (by repeat (first | (with_reducible first | exact HB.out | apply Zab | apply Zaa | apply Zac | refine Zah ?_ GE929.out) | exact HB.out)))); have n2_ := Za.mk (Kd.Zbw ho2 (Zam (by repeat (first | (with_reducible first | exact HB.out | apply Zab | apply Zaa | apply Zac | refine Zah ?_ GE929.out) | exact HB.out)))); have n3_ := Za.mk (Kd.Zdt ho3 (Zam (by repeat (first | (with_reducible first | exact HB.out | apply Zab | apply Zaa | apply Zac | refine Zah ?_ GE929.out) | exact HB.out)))); have n4_ := Za.mk (Za9 (g := gb929) (o := .cells #[.slice A0_0 l0_0.length c0_0, .int .i64 a0_1, .slice A0_2 l0_2.length c0_2, .slice A0_3 l0_3.length c0_3, .int .i64 a0_4, .int .i64 a0_5, .slice A0_6 l0_6.length c0_6, .int .i64 a0_7, .slice A0_8 l0_8.length c0_8, .slice A0_9 l0_9.length c0_9] 27 (0, 0)) (mvK BK929.out) hb); have n5_ := Za.mk (Zau (by repeat (first | (with_reducible first | exact HB.out | apply Zab | apply Zaa | apply Zac | refine Zah ?_ GE929.out) | exact HB.out)) hb); clear BK929; clear HB; have HO932 := n0_; have HO936 := n1_; have HO939 := n2_; have HO944 := n3_; have BK929 := n4_; have HB := n5_; clear n0_ n1_ n2_ n3_ n4_ n5_; (try clear hb); (try clear hb2); (try clear hk); (try clear hi); (try clear ho0); (try clear ho1); (try clear ho2); (try clear ho3)) | ((with_reducible refine Zbx (N := 4) rfl ?_); (try (refine Zco (by rfl) ?_; dsimp only)); refine Zcj ?hg (N := 4) ?hd (cs := #[.int .i64 0, .slice none 0 0, .slice none 0 0, .int .i64 0, .int .i64 0, .slice none 0 0, .int .i64 0]) (t := 25) ?hr ?_; (case hd => rfl); (case hg => rfl); (case hr => first | (go_simp; done) | (go_simp; rfl)); intro gb947 hg w101 hbox hb; have n0_ := Za.mk (Kd.Zb8 (mvS HO932.out) hb); have n1_ := Za.mk (Kd.Zbj (mvR HO936.out) hb); have n2_ := Za.mk (Kd.Zbj (mvR HO939.out) hb); have n3_ := Za.mk (Kd.Zb8 (mvS HO944.out) hb); have n4_ := Za.mk (Za9 (g := gb929) (o := .cells #[.slice A0_0 l0_0.length c0_0, .int .i64 a0_1, .slice A0_2 l0_2.length c0_2, .slice A0_3 l0_3.length c0_3, .int .i64 a0_4, .int .i64 a0_5, .slice A0_6 l0_6.length c0_6, .int .i64 a0_7, .slice A0_8 l0_8.length c0_8, .slice A0_9 l0_9.length c0_9] 27 (0, 0)) (mvK BK929.out) hb); have n5_ := Za.mk (Zau (by repeat (first | (with_reducible first | exact HB.out | apply Zab | apply Zaa | apply Zac | refine Zah ?_ GE929.out) | exact HB.out)) hb); have n6_ := Za.mk (hbox); have n7_ := Za.mk ((by rw [hg]; exact (Zam (by repeat (first | (with_reducible first | exact HB.out | apply Zab | apply Zaa | apply Zac | refine Zah ?_ GE929.out) | exact HB.out))) : w.heap.size ≤ gb947)); have n8_ := Za.mk ((by rw [hg]; exact (Zam (by repeat (first | (with_reducible first | exact HB.out | apply Zab | apply Zaa | apply Zac | refine Zah ?_ GE929.out) | exact HB.out))) : w.heap.size ≤ gb947)); have n9_ := Za.mk ((by rw [hg]; exact Nat.ne_of_lt (Zdh (g := gb929) (o := .cells #[.slice A0_0 l0_0.length c0_0, .int .i64 a0_1, .slice A0_2 l0_2.length c0_2, .slice A0_3 l0_3.length c0_3, .int .i64 a0_4, .int .i64 a0_5, .slice A0_6 l0_6.length c0_6, .int .i64 a0_7, .slice A0_8 l0_8.length c0_8, .slice A0_9 l0_9.length c0_9] 27 (0, 0)) (mvK BK929.out)) : gb929 ≠ gb947)); have n10_ := Za.mk ((by rw [hg]; exact Nat.ne_of_gt (Zdh (g := gb929) (o := .cells #[.slice A0_0 l0_0.length c0_0, .int .i64 a0_1, .slice A0_2 l0_2.length c0_2, .slice A0_3 l0_3.length c0_3, .int .i64 a0_4, .int .i64 a0_5, .slice A0_6 l0_6.length c0_6, .int .i64 a0_7, .slice A0_8 l0_8.length c0_8, .slice A0_9 l0_9.length c0_9] 27 (0, 0)) (mvK BK929.out)) : gb947 ≠ gb929)); clear HO932; clear HO936; clear HO939; clear HO944; clear BK929; clear HB; have HO932 := n0_; have HO936 := n1_; have HO939 := n2_; have HO944 := n3_; have BK929 := n4_; have HB := n5_; have BK947 := n6_; have GW947 := n7_; have GE947 := n8_; have NB929_947 := n9_; have NB947_929 := n10_; clear n0_ n1_ n2_ n3_ n4_ n5_ n6_ n7_ n8_ n9_ n10_; clear hb hbox hg; have hnb102 := NB947_929.out; have hnc102 := NB929_947.out; obtain ⟨hcz103_0, hcz103_1, hcz103_2, hcz103_3, hcz103_4, hcz103_5, hcz103_6, hfz103_0, hfz103_1, hfz103_2, hfz103_3, hfz103_4, hfz103_5, hfz103_6⟩ := Zcw BK947.out; obtain ⟨Ao104, co104, eo104⟩ := Kd.Zbu HO936.out; subst eo104; obtain ⟨Ao105, co105, eo105⟩ := Kd.Zbu HO939.out; subst eo105; obtain ⟨Ao106, co106, eo106⟩ := Kd.Zdx HO944.out; subst eo106; obtain ⟨Ao107, co107, eo107⟩ := Kd.Zdx HO932.out; subst eo107) | ((with_reducible refine Zbn (f := 35) rfl ?_); refine Zcp (some 24) rfl rfl Try.func35 (by kernel_rfl) rfl #[.slice Ao107 t930.length co107, .agg #[.int .i64 t933, .slice Ao104 t934.length co104, .slice Ao105 t937.length co105, .int .i64 t940, .int .i64 t941, .slice Ao106 t942.length co106, .int .i64 t945]] rfl (by (try simp only [List.map_toArray, List.map_cons, List.map_nil]); first | done | rfl | (simp only [List.length_drop, List.length_take]; rfl)) ?_; (with_reducible refine (Zak.calls k _ _ t930 t933 _ _ t934 _ _ t937 t940 t941 _ _ t942 t945 t949 false _ ?side1 ?side2 ?side3 ?side4 ?side5 ?side6 ?side7 ?side8 A4.out).mono ?_); (case side1 => refine (Kd.Zc (e := 39) (base := w.heap.size) (ok := fun k_ => True) (n := t930.length) (c := co107) ?_).2.2; exact (by (with_reducible repeat (first | apply Kd.Zb5 | apply Kd.Zb6 | apply Kd.Zb9)); exact (Kd.Zck (Kd.Zbv (p := ⟨gb947, 6, none⟩) (Kd.Zbv (p := ⟨gb947, 5, none⟩) (Kd.Zbv (p := ⟨gb947, 4, none⟩) (Kd.Zbv (p := ⟨gb947, 3, none⟩) (Kd.Zbv (p := ⟨gb947, 2, none⟩) (Kd.Zbv (p := ⟨gb947, 1, none⟩) (Kd.Zbv (p := ⟨gb947, 0, none⟩) (Kd.Zcu HO932.out BK947.out (by decide)) (fun _ hk => hk.2) (.int .i64 t933)) (fun _ hk => hk.2) (.slice Ao104 t934.length co104)) (fun _ hk => hk.2) (.slice Ao105 t937.length co105)) (fun _ hk => hk.2) (.int .i64 t940)) (fun _ hk => hk.2) (.int .i64 t941)) (fun _ hk => hk.2) (.slice Ao106 t942.length co106)) (fun _ hk => hk.2) (.int .i64 t945)) (fun _ h_ => h_.1)))); (case side2 => exact (Kd.Zc HO932.out).2.1); (case side3 => refine (Kd.Za3 (e := 3) (base := w.heap.size) (ok := fun k_ => some k_ ≠ (.slice Ao105 t937.length co105 : Value).ownBlock) (n := t934.length) (c := co104) ?_).2.2; exact (by (with_reducible repeat (first | apply Kd.Zao | apply Kd.Zan | apply Kd.Zaq)); exact (Kd.Zbh (Kd.Zbl (p := ⟨gb947, 6, none⟩) (Kd.Zbl (p := ⟨gb947, 5, none⟩) (Kd.Zbl (p := ⟨gb947, 4, none⟩) (Kd.Zbl (p := ⟨gb947, 3, none⟩) (Kd.Zbl (p := ⟨gb947, 2, none⟩) (Kd.Zbl (p := ⟨gb947, 1, none⟩) (Kd.Zbl (p := ⟨gb947, 0, none⟩) (Kd.Zcb HO936.out BK947.out (by decide)) (fun _ hk => hk.2) (.int .i64 t933)) (fun _ hk => hk.2) (.slice Ao104 t934.length co104)) (fun _ hk => hk.2) (.slice Ao105 t937.length co105)) (fun _ hk => hk.2) (.int .i64 t940)) (fun _ hk => hk.2) (.int .i64 t941)) (fun _ hk => hk.2) (.slice Ao106 t942.length co106)) (fun _ hk => hk.2) (.int .i64 t945)) (fun _ h_ => h_.1)))); (case side4 => exact (Kd.Za3 HO936.out).2.1); (case side5 => refine (Kd.Za3 (e := 3) (base := w.heap.size) (ok := fun k_ => some k_ ≠ (.slice Ao104 t934.length co104 : Value).ownBlock) (n := t937.length) (c := co105) ?_).2.2; exact (by (with_reducible repeat (first | apply Kd.Zao | apply Kd.Zan | apply Kd.Zaq)); exact (Kd.Zbh (Kd.Zbl (p := ⟨gb947, 6, none⟩) (Kd.Zbl (p := ⟨gb947, 5, none⟩) (Kd.Zbl (p := ⟨gb947, 4, none⟩) (Kd.Zbl (p := ⟨gb947, 3, none⟩) (Kd.Zbl (p := ⟨gb947, 2, none⟩) (Kd.Zbl (p := ⟨gb947, 1, none⟩) (Kd.Zbl (p := ⟨gb947, 0, none⟩) (Kd.Zcb HO939.out BK947.out (by decide)) (fun _ hk => hk.2) (.int .i64 t933)) (fun _ hk => hk.2) (.slice Ao104 t934.length co104)) (fun _ hk => hk.2) (.slice Ao105 t937.length co105)) (fun _ hk => hk.2) (.int .i64 t940)) (fun _ hk => hk.2) (.int .i64 t941)) (fun _ hk => hk.2) (.slice Ao106 t942.length co106)) (fun _ hk => hk.2) (.int .i64 t945)) (fun _ h_ => h_.1)))); (case side6 => exact (Kd.Za3 HO939.out).2.1); (case side7 => refine (Kd.Zc (e := 23) (base := w.heap.size) (ok := fun k_ => (some k_ ≠ (.slice Ao104 t934.length co104 : Value).ownBlock ∧ some k_ ≠ (.slice Ao105 t937.length co105 : Value).ownBlock)) (n := t942.length) (c := co106) ?_).2.2; exact (by (with_reducible repeat (first | apply Kd.Zb5 | apply Kd.Zb6 | apply Kd.Zb9)); exact (Kd.Zck (Kd.Zbv (p := ⟨gb947, 6, none⟩) (Kd.Zbv (p := ⟨gb947, 5, none⟩) (Kd.Zbv (p := ⟨gb947, 4, none⟩) (Kd.Zbv (p := ⟨gb947, 3, none⟩) (Kd.Zbv (p := ⟨gb947, 2, none⟩) (Kd.Zbv (p := ⟨gb947, 1, none⟩) (Kd.Zbv (p := ⟨gb947, 0, none⟩) (Kd.Zcu HO944.out BK947.out (by decide)) (fun _ hk => hk.2) (.int .i64 t933)) (fun _ hk => hk.2) (.slice Ao104 t934.length co104)) (fun _ hk => hk.2) (.slice Ao105 t937.length co105)) (fun _ hk => hk.2) (.int .i64 t940)) (fun _ hk => hk.2) (.int .i64 t941)) (fun _ hk => hk.2) (.slice Ao106 t942.length co106)) (fun _ hk => hk.2) (.int .i64 t945)) (fun _ h_ => h_.1)))); (case side8 => exact (Kd.Zc HO944.out).2.1); rintro e w108 ⟨v950, rfl, ho0, hb⟩; refine ⟨_, rfl, ?_⟩; have n0_ := Za.mk (Kd.Zcs (by (with_reducible repeat (first | apply Kd.Zb5 | apply Kd.Zb6 | apply Kd.Zb9)); exact (Kd.Zck (Kd.Zbv (p := ⟨gb947, 6, none⟩) (Kd.Zbv (p := ⟨gb947, 5, none⟩) (Kd.Zbv (p := ⟨gb947, 4, none⟩) (Kd.Zbv (p := ⟨gb947, 3, none⟩) (Kd.Zbv (p := ⟨gb947, 2, none⟩) (Kd.Zbv (p := ⟨gb947, 1, none⟩) (Kd.Zbv (p := ⟨gb947, 0, none⟩) (Kd.Zcu HO932.out BK947.out (by decide)) (fun _ hk => hk.2) (.int .i64 t933)) (fun _ hk => hk.2) (.slice Ao104 t934.length co104)) (fun _ hk => hk.2) (.slice Ao105 t937.length co105)) (fun _ hk => hk.2) (.int .i64 t940)) (fun _ hk => hk.2) (.int .i64 t941)) (fun _ hk => hk.2) (.slice Ao106 t942.length co106)) (fun _ hk => hk.2) (.int .i64 t945)) (fun _ h_ => h_.1))) (Kd.S_base ho0) hb); have n1_ := Za.mk (Kd.Zbj (by (with_reducible repeat (first | apply Kd.Zao | apply Kd.Zan | apply Kd.Zaq)); exact (Kd.Zbh (Kd.Zbl (p := ⟨gb947, 6, none⟩) (Kd.Zbl (p := ⟨gb947, 5, none⟩) (Kd.Zbl (p := ⟨gb947, 4, none⟩) (Kd.Zbl (p := ⟨gb947, 3, none⟩) (Kd.Zbl (p := ⟨gb947, 2, none⟩) (Kd.Zbl (p := ⟨gb947, 1, none⟩) (Kd.Zbl (p := ⟨gb947, 0, none⟩) (Kd.Zcb HO936.out BK947.out (by decide)) (fun _ hk => hk.2) (.int .i64 t933)) (fun _ hk => hk.2) (.slice Ao104 t934.length co104)) (fun _ hk => hk.2) (.slice Ao105 t937.length co105)) (fun _ hk => hk.2) (.int .i64 t940)) (fun _ hk => hk.2) (.int .i64 t941)) (fun _ hk => hk.2) (.slice Ao106 t942.length co106)) (fun _ hk => hk.2) (.int .i64 t945)) (fun _ h_ => h_.1))) hb); have n2_ := Za.mk (Kd.Zbj (by (with_reducible repeat (first | apply Kd.Zao | apply Kd.Zan | apply Kd.Zaq)); exact (Kd.Zbh (Kd.Zbl (p := ⟨gb947, 6, none⟩) (Kd.Zbl (p := ⟨gb947, 5, none⟩) (Kd.Zbl (p := ⟨gb947, 4, none⟩) (Kd.Zbl (p := ⟨gb947, 3, none⟩) (Kd.Zbl (p := ⟨gb947, 2, none⟩) (Kd.Zbl (p := ⟨gb947, 1, none⟩) (Kd.Zbl (p := ⟨gb947, 0, none⟩) (Kd.Zcb HO939.out BK947.out (by decide)) (fun _ hk => hk.2) (.int .i64 t933)) (fun _ hk => hk.2) (.slice Ao104 t934.length co104)) (fun _ hk => hk.2) (.slice Ao105 t937.length co105)) (fun _ hk => hk.2) (.int .i64 t940)) (fun _ hk => hk.2) (.int .i64 t941)) (fun _ hk => hk.2) (.slice Ao106 t942.length co106)) (fun _ hk => hk.2) (.int .i64 t945)) (fun _ h_ => h_.1))) hb); have n3_ := Za.mk (Kd.Zb8 (by (with_reducible repeat (first | apply Kd.Zb5 | apply Kd.Zb6 | apply Kd.Zb9)); exact (Kd.Zck (Kd.Zbv (p := ⟨gb947, 6, none⟩) (Kd.Zbv (p := ⟨gb947, 5, none⟩) (Kd.Zbv (p := ⟨gb947, 4, none⟩) (Kd.Zbv (p := ⟨gb947, 3, none⟩) (Kd.Zbv (p := ⟨gb947, 2, none⟩) (Kd.Zbv (p := ⟨gb947, 1, none⟩) (Kd.Zbv (p := ⟨gb947, 0, none⟩) (Kd.Zcu HO944.out BK947.out (by decide)) (fun _ hk => hk.2) (.int .i64 t933)) (fun _ hk => hk.2) (.slice Ao104 t934.length co104)) (fun _ hk => hk.2) (.slice Ao105 t937.length co105)) (fun _ hk => hk.2) (.int .i64 t940)) (fun _ hk => hk.2) (.int .i64 t941)) (fun _ hk => hk.2) (.slice Ao106 t942.length co106)) (fun _ hk => hk.2) (.int .i64 t945)) (fun _ h_ => h_.1))) hb); have n4_ := Za.mk (Kd.Zdt (Kd.S_new' ho0 (Kd.S_lt (by (with_reducible repeat (first | apply Kd.Zb5 | apply Kd.Zb6 | apply Kd.Zb9)); exact (Kd.Zck (Kd.Zbv (p := ⟨gb947, 6, none⟩) (Kd.Zbv (p := ⟨gb947, 5, none⟩) (Kd.Zbv (p := ⟨gb947, 4, none⟩) (Kd.Zbv (p := ⟨gb947, 3, none⟩) (Kd.Zbv (p := ⟨gb947, 2, none⟩) (Kd.Zbv (p := ⟨gb947, 1, none⟩) (Kd.Zbv (p := ⟨gb947, 0, none⟩) (Kd.Zcu HO932.out BK947.out (by decide)) (fun _ hk => hk.2) (.int .i64 t933)) (fun _ hk => hk.2) (.slice Ao104 t934.length co104)) (fun _ hk => hk.2) (.slice Ao105 t937.length co105)) (fun _ hk => hk.2) (.int .i64 t940)) (fun _ hk => hk.2) (.int .i64 t941)) (fun _ hk => hk.2) (.slice Ao106 t942.length co106)) (fun _ hk => hk.2) (.int .i64 t945)) (fun _ h_ => h_.1))))) (Zam (by repeat (first | (with_reducible first | exact HB.out | apply Zab | apply Zaa | apply Zac | refine Zah ?_ GE929.out | refine Zah ?_ GE947.out) | exact HB.out)))); have n5_ := Za.mk (Za9 (g := gb929) (o := .cells #[.slice A0_0 l0_0.length c0_0, .int .i64 a0_1, .slice A0_2 l0_2.length c0_2, .slice A0_3 l0_3.length c0_3, .int .i64 a0_4, .int .i64 a0_5, .slice A0_6 l0_6.length c0_6, .int .i64 a0_7, .slice A0_8 l0_8.length c0_8, .slice A0_9 l0_9.length c0_9] 27 (0, 0)) (by (with_reducible repeat (first | refine Zag ?_ _ | refine Zai ?_ | refine Zae ?_ _)); refine Zb2 ?_ NB929_947.out _; (with_reducible repeat (first | refine Zag ?_ _ | refine Zai ?_ | refine Zae ?_ _)); refine Zb2 ?_ NB929_947.out _; (with_reducible repeat (first | refine Zag ?_ _ | refine Zai ?_ | refine Zae ?_ _)); refine Zb2 ?_ NB929_947.out _; (with_reducible repeat (first | refine Zag ?_ _ | refine Zai ?_ | refine Zae ?_ _)); refine Zb2 ?_ NB929_947.out _; (with_reducible repeat (first | refine Zag ?_ _ | refine Zai ?_ | refine Zae ?_ _)); refine Zb2 ?_ NB929_947.out _; (with_reducible repeat (first | refine Zag ?_ _ | refine Zai ?_ | refine Zae ?_ _)); refine Zb2 ?_ NB929_947.out _; (with_reducible repeat (first | refine Zag ?_ _ | refine Zai ?_ | refine Zae ?_ _)); refine Zb2 ?_ NB929_947.out _; (with_reducible repeat (first | refine Zag ?_ _ | refine Zai ?_ | refine Zae ?_ _)); exact BK929.out) hb); have n6_ := Za.mk (Za9 (g := gb947) (o := .cells #[.int .i64 t933, .slice Ao104 t934.length co104, .slice Ao105 t937.length co105, .int .i64 t940, .int .i64 t941, .slice Ao106 t942.length co106, .int .i64 t945] 25 (0, 0)) (by (with_reducible repeat (first | refine Zag ?_ _ | refine Zai ?_ | refine Zae ?_ _)); refine Zbq (cs := #[.int .i64 t933, .slice Ao104 t934.length co104, .slice Ao105 t937.length co105, .int .i64 t940, .int .i64 t941, .slice Ao106 t942.length co106, .int .i64 0]) ?_ 6 _ rfl; (with_reducible repeat (first | refine Zag ?_ _ | refine Zai ?_ | refine Zae ?_ _)); refine Zbq (cs := #[.int .i64 t933, .slice Ao104 t934.length co104, .slice Ao105 t937.length co105, .int .i64 t940, .int .i64 t941, .slice none 0 0, .int .i64 0]) ?_ 5 _ rfl; (with_reducible repeat (first | refine Zag ?_ _ | refine Zai ?_ | refine Zae ?_ _)); refine Zbq (cs := #[.int .i64 t933, .slice Ao104 t934.length co104, .slice Ao105 t937.length co105, .int .i64 t940, .int .i64 0, .slice none 0 0, .int .i64 0]) ?_ 4 _ rfl; (with_reducible repeat (first | refine Zag ?_ _ | refine Zai ?_ | refine Zae ?_ _)); refine Zbq (cs := #[.int .i64 t933, .slice Ao104 t934.length co104, .slice Ao105 t937.length co105, .int .i64 0, .int .i64 0, .slice none 0 0, .int .i64 0]) ?_ 3 _ rfl; (with_reducible repeat (first | refine Zag ?_ _ | refine Zai ?_ | refine Zae ?_ _)); refine Zbq (cs := #[.int .i64 t933, .slice Ao104 t934.length co104, .slice none 0 0, .int .i64 0, .int .i64 0, .slice none 0 0, .int .i64 0]) ?_ 2 _ rfl; (with_reducible repeat (first | refine Zag ?_ _ | refine Zai ?_ | refine Zae ?_ _)); refine Zbq (cs := #[.int .i64 t933, .slice none 0 0, .slice none 0 0, .int .i64 0, .int .i64 0, .slice none 0 0, .int .i64 0]) ?_ 1 _ rfl; (with_reducible repeat (first | refine Zag ?_ _ | refine Zai ?_ | refine Zae ?_ _)); refine Zbq (cs := #[.int .i64 0, .slice none 0 0, .slice none 0 0, .int .i64 0, .int .i64 0, .slice none 0 0, .int .i64 0]) ?_ 0 _ rfl; (with_reducible repeat (first | refine Zag ?_ _ | refine Zai ?_ | refine Zae ?_ _)); exact BK947.out) hb); have n7_ := Za.mk (Zau (by repeat (first | (with_reducible first | exact HB.out | apply Zab | apply Zaa | apply Zac | refine Zah ?_ GE929.out | refine Zah ?_ GE947.out) | exact HB.out)) hb); clear HO932; clear HO936; clear HO939; clear HO944; clear BK929; clear BK947; clear HB; have HO932 := n0_; have HO936 := n1_; have HO939 := n2_; have HO944 := n3_; have HO951 := n4_; have BK929 := n5_; have BK947 := n6_; have HB := n7_; clear n0_ n1_ n2_ n3_ n4_ n5_ n6_ n7_; (try clear hb); (try clear hb2); (try clear hk); (try clear hi); (try clear ho0); obtain ⟨Ao109, co109, eo109⟩ := Kd.Zdx HO951.out; subst eo109) | (go_at_call 34; (with_reducible refine (Za5.calls k  t953 _ A97.out).mono ?_); rintro e w110 ⟨rfl, hb⟩; have n0_ := Za.mk (Kd.Zb8 (mvS HO932.out) hb); have n1_ := Za.mk (Kd.Zbj (mvR HO936.out) hb); have n2_ := Za.mk (Kd.Zbj (mvR HO939.out) hb); have n3_ := Za.mk (Kd.Zb8 (mvS HO944.out) hb); have n4_ := Za.mk (Kd.Zb8 (mvS HO951.out) hb); have n5_ := Za.mk (Za9 (g := gb929) (o := .cells #[.slice A0_0 l0_0.length c0_0, .int .i64 a0_1, .slice A0_2 l0_2.length c0_2, .slice A0_3 l0_3.length c0_3, .int .i64 a0_4, .int .i64 a0_5, .slice A0_6 l0_6.length c0_6, .int .i64 a0_7, .slice A0_8 l0_8.length c0_8, .slice A0_9 l0_9.length c0_9] 27 (0, 0)) (mvK BK929.out) hb); have n6_ := Za.mk (Za9 (g := gb947) (o := .cells #[.int .i64 t933, .slice Ao104 t934.length co104, .slice Ao105 t937.length co105, .int .i64 t940, .int .i64 t941, .slice Ao106 t942.length co106, .int .i64 t945] 25 (0, 0)) (mvK BK947.out) hb); have n7_ := Za.mk (Zau (by repeat (first | (with_reducible first | exact HB.out | apply Zab | apply Zaa | apply Zac | refine Zah ?_ GE929.out | refine Zah ?_ GE947.out) | exact HB.out)) hb); clear HO932; clear HO936; clear HO939; clear HO944; clear HO951; clear BK929; clear BK947; clear HB; have HO932 := n0_; have HO936 := n1_; have HO939 := n2_; have HO944 := n3_; have HO951 := n4_; have BK929 := n5_; have BK947 := n6_; have HB := n7_; clear n0_ n1_ n2_ n3_ n4_ n5_ n6_ n7_; (try clear hb); (try clear hb2); (try clear hk); (try clear hi)))
  go_ret
  exact ⟨by first | rfl | (simp [Zba, Zbb] <;> rfl) | (simp [*, Zba, Zbb] <;> rfl), by repeat (first | (with_reducible first | exact HB.out | apply Zab | apply Zaa | apply Zac | refine Zah ?_ GE929.out | refine Zah ?_ GE947.out) | exact HB.out)⟩
 subst c5
 have H1 : (if (t949.length : Int) = (t930.length : Int) then (Zad.l0 k t930 t949 (([] : List Int)) (([] : List Int)) 0 t933 t934 t937 t940 t941 t942 t945) else (none)) = some r := by rw [if_pos rfl] at H; exact H
 clear H
 have H := H1
 clear H1
 by_cases c6 : (t949.length : Int) = (t930.length : Int)
 rotate_left
 ·rw [if_neg c6] at H
  exact absurd H (by simp)
 rw [if_pos c6] at H
 have c6b0 : ((t949.length : Int) == (t930.length : Int)) = true := beq_iff_eq.mpr c6
 have c6b1 : ((t949.length : Int) != (t930.length : Int)) = false := bne_eq_false_iff_eq.mpr c6
 have c6b2 : (t949.length == t930.length) = true := by first | simpa using c6 | (simp at c6 ⊢; omega)
 clear c6
 obtain ⟨y954, hy954⟩ : ∃ y_ : List Int, y_ = (([] : List Int)) := ⟨_, rfl⟩
 replace H : (Zad.l0 k t930 t949 y954 (([] : List Int)) 0 t933 t934 t937 t940 t941 t942 t945) = some r := by first | (rw [hy954]; with_reducible exact H) | (have H2_ := (Option.bind_some _ _).symm.trans H; rw [hy954]; with_reducible exact H2_) | (have H2_ := (Option.bind_some _ _).symm.trans H; with_reducible exact H2_) | with_reducible exact H | (rw [hy954]; exact H) | exact H
 have Ny954 := Za.mk hy954
 clear hy954
 obtain ⟨y957, hy957⟩ : ∃ y_ : List Int, y_ = (([] : List Int)) := ⟨_, rfl⟩
 replace H : (Zad.l0 k t930 t949 y954 y957 0 t933 t934 t937 t940 t941 t942 t945) = some r := by first | (rw [hy957]; with_reducible exact H) | (have H2_ := (Option.bind_some _ _).symm.trans H; rw [hy957]; with_reducible exact H2_) | (have H2_ := (Option.bind_some _ _).symm.trans H; with_reducible exact H2_) | with_reducible exact H | (rw [hy957]; exact H) | exact H
 have Ny957 := Za.mk hy957
 clear hy957
 have H' := Za.mk H
 clear H
 go_enter Try.func10, Try.ntmps10
 go_wp2_with (first | ((with_reducible refine Zbx (N := 1) rfl ?_); (try (refine Zco (by rfl) ?_; dsimp only)); refine Zcj ?hg (N := 1) ?hd (cs := #[.slice A0_0 l0_0.length c0_0, .int .i64 a0_1, .slice A0_2 l0_2.length c0_2, .slice A0_3 l0_3.length c0_3, .int .i64 a0_4, .int .i64 a0_5, .slice A0_6 l0_6.length c0_6, .int .i64 a0_7, .slice A0_8 l0_8.length c0_8, .slice A0_9 l0_9.length c0_9]) (t := 27) ?hr ?_; (case hd => rfl); (case hg => rfl); (case hr => first | (go_simp; done) | (go_simp; rfl)); intro gb929 hg w7 hbox hb; have n0_ := Za.mk (Zau (by repeat (first | (with_reducible first | exact HB.out | apply Zab | apply Zaa | apply Zac) | exact HB.out)) hb); have n1_ := Za.mk (hbox); have n2_ := Za.mk ((by rw [hg]; exact (Zam (by repeat (first | (with_reducible first | exact HB.out | apply Zab | apply Zaa | apply Zac) | exact HB.out))) : w.heap.size ≤ gb929)); have n3_ := Za.mk ((by rw [hg]; exact (Zam (by repeat (first | (with_reducible first | exact HB.out | apply Zab | apply Zaa | apply Zac) | exact HB.out))) : w.heap.size ≤ gb929)); clear HB; have HB := n0_; have BK929 := n1_; have GW929 := n2_; have GE929 := n3_; clear n0_ n1_ n2_ n3_; clear hb hbox hg; obtain ⟨hcz8_0, hcz8_1, hcz8_2, hcz8_3, hcz8_4, hcz8_5, hcz8_6, hcz8_7, hcz8_8, hcz8_9, hfz8_0, hfz8_1, hfz8_2, hfz8_3, hfz8_4, hfz8_5, hfz8_6, hfz8_7, hfz8_8, hfz8_9⟩ := Zgm BK929.out) | ((with_reducible refine Zbn (f := 14) rfl ?_); refine Zcp (some 14) rfl rfl Try.func14 (by kernel_rfl) rfl #[.agg #[.slice A0_0 l0_0.length c0_0, .int .i64 a0_1, .slice A0_2 l0_2.length c0_2, .slice A0_3 l0_3.length c0_3, .int .i64 a0_4, .int .i64 a0_5, .slice A0_6 l0_6.length c0_6, .int .i64 a0_7, .slice A0_8 l0_8.length c0_8, .slice A0_9 l0_9.length c0_9], .int .i64 3] rfl (by (try simp only [List.map_toArray, List.map_cons, List.map_nil]); first | done | rfl | (simp only [List.length_drop, List.length_take]; rfl)) ?_; (with_reducible refine (Zar.calls k _ _ l0_0 a0_1 _ _ l0_2 _ _ l0_3 a0_4 a0_5 _ _ l0_6 a0_7 _ _ l0_8 _ _ l0_9 3 t930 t933 t934 t937 t940 t941 t942 t945 true _ ?side1 ?side2 ?side3 ?side4 ?side5 ?side6 ?side7 ?side8 ?side9 ?side10 ?side11 ?side12 A2.out).mono ?_); (case side1 => repeat (first | exact (Kd.Zbk HR0_0.out HB.out) | (with_reducible refine Kd.Za6 ?_ _) | (with_reducible refine Kd.Za0 ?_ _) | (with_reducible refine Kd.Zbd ?_))); (case side2 => exact HC0_0.out); (case side3 => repeat (first | exact (Kd.Zbk HR0_2.out HB.out) | (with_reducible refine Kd.Za6 ?_ _) | (with_reducible refine Kd.Za0 ?_ _) | (with_reducible refine Kd.Zbd ?_))); (case side4 => exact HC0_2.out); (case side5 => repeat (first | exact (Kd.Zbk HR0_3.out HB.out) | (with_reducible refine Kd.Za6 ?_ _) | (with_reducible refine Kd.Za0 ?_ _) | (with_reducible refine Kd.Zbd ?_))); (case side6 => exact HC0_3.out); (case side7 => repeat (first | exact (Kd.Zbk HR0_6.out HB.out) | (with_reducible refine Kd.Za6 ?_ _) | (with_reducible refine Kd.Za0 ?_ _) | (with_reducible refine Kd.Zbd ?_))); (case side8 => exact HC0_6.out); (case side9 => repeat (first | exact (Kd.Zbk HR0_8.out HB.out) | (with_reducible refine Kd.Za6 ?_ _) | (with_reducible refine Kd.Za0 ?_ _) | (with_reducible refine Kd.Zbd ?_))); (case side10 => exact HC0_8.out); (case side11 => repeat (first | exact (Kd.Zbk HR0_9.out HB.out) | (with_reducible refine Kd.Za6 ?_ _) | (with_reducible refine Kd.Za0 ?_ _) | (with_reducible refine Kd.Zbd ?_))); (case side12 => exact HC0_9.out); rintro e w9 ⟨v931, v935, v938, v943, rfl, ho0, ho1, ho2, ho3, hb⟩; refine ⟨_, rfl, ?_⟩; have n0_ := Za.mk (Kd.Zdt ho0 (Zam (by repeat (first | (with_reducible first | exact HB.out | apply Zab | apply Zaa | apply Zac | refine Zah ?_ GE929.out) | exact HB.out)))); have n1_ := Za.mk (Kd.Zbw ho1 (Zam (by repeat (first | (with_reducible first | exact HB.out | apply Zab | apply Zaa | apply Zac | refine Zah ?_ GE929.out) | exact HB.out)))); have n2_ := Za.mk (Kd.Zbw ho2 (Zam (by repeat (first | (with_reducible first | exact HB.out | apply Zab | apply Zaa | apply Zac | refine Zah ?_ GE929.out) | exact HB.out)))); have n3_ := Za.mk (Kd.Zdt ho3 (Zam (by repeat (first | (with_reducible first | exact HB.out | apply Zab | apply Zaa | apply Zac | refine Zah ?_ GE929.out) | exact HB.out)))); have n4_ := Za.mk (Za9 (g := gb929) (o := .cells #[.slice A0_0 l0_0.length c0_0, .int .i64 a0_1, .slice A0_2 l0_2.length c0_2, .slice A0_3 l0_3.length c0_3, .int .i64 a0_4, .int .i64 a0_5, .slice A0_6 l0_6.length c0_6, .int .i64 a0_7, .slice A0_8 l0_8.length c0_8, .slice A0_9 l0_9.length c0_9] 27 (0, 0)) (mvK BK929.out) hb); have n5_ := Za.mk (Zau (by repeat (first | (with_reducible first | exact HB.out | apply Zab | apply Zaa | apply Zac | refine Zah ?_ GE929.out) | exact HB.out)) hb); clear BK929; clear HB; have HO932 := n0_; have HO936 := n1_; have HO939 := n2_; have HO944 := n3_; have BK929 := n4_; have HB := n5_; clear n0_ n1_ n2_ n3_ n4_ n5_; (try clear hb); (try clear hb2); (try clear hk); (try clear hi); (try clear ho0); (try clear ho1); (try clear ho2); (try clear ho3)) | ((with_reducible refine Zbx (N := 4) rfl ?_); (try (refine Zco (by rfl) ?_; dsimp only)); refine Zcj ?hg (N := 4) ?hd (cs := #[.int .i64 0, .slice none 0 0, .slice none 0 0, .int .i64 0, .int .i64 0, .slice none 0 0, .int .i64 0]) (t := 25) ?hr ?_; (case hd => rfl); (case hg => rfl); (case hr => first | (go_simp; done) | (go_simp; rfl)); intro gb947 hg w10 hbox hb; have n0_ := Za.mk (Kd.Zb8 (mvS HO932.out) hb); have n1_ := Za.mk (Kd.Zbj (mvR HO936.out) hb); have n2_ := Za.mk (Kd.Zbj (mvR HO939.out) hb); have n3_ := Za.mk (Kd.Zb8 (mvS HO944.out) hb); have n4_ := Za.mk (Za9 (g := gb929) (o := .cells #[.slice A0_0 l0_0.length c0_0, .int .i64 a0_1, .slice A0_2 l0_2.length c0_2, .slice A0_3 l0_3.length c0_3, .int .i64 a0_4, .int .i64 a0_5, .slice A0_6 l0_6.length c0_6, .int .i64 a0_7, .slice A0_8 l0_8.length c0_8, .slice A0_9 l0_9.length c0_9] 27 (0, 0)) (mvK BK929.out) hb); have n5_ := Za.mk (Zau (by repeat (first | (with_reducible first | exact HB.out | apply Zab | apply Zaa | apply Zac | refine Zah ?_ GE929.out) | exact HB.out)) hb); have n6_ := Za.mk (hbox); have n7_ := Za.mk ((by rw [hg]; exact (Zam (by repeat (first | (with_reducible first | exact HB.out | apply Zab | apply Zaa | apply Zac | refine Zah ?_ GE929.out) | exact HB.out))) : w.heap.size ≤ gb947)); have n8_ := Za.mk ((by rw [hg]; exact (Zam (by repeat (first | (with_reducible first | exact HB.out | apply Zab | apply Zaa | apply Zac | refine Zah ?_ GE929.out) | exact HB.out))) : w.heap.size ≤ gb947)); have n9_ := Za.mk ((by rw [hg]; exact Nat.ne_of_lt (Zdh (g := gb929) (o := .cells #[.slice A0_0 l0_0.length c0_0, .int .i64 a0_1, .slice A0_2 l0_2.length c0_2, .slice A0_3 l0_3.length c0_3, .int .i64 a0_4, .int .i64 a0_5, .slice A0_6 l0_6.length c0_6, .int .i64 a0_7, .slice A0_8 l0_8.length c0_8, .slice A0_9 l0_9.length c0_9] 27 (0, 0)) (mvK BK929.out)) : gb929 ≠ gb947)); have n10_ := Za.mk ((by rw [hg]; exact Nat.ne_of_gt (Zdh (g := gb929) (o := .cells #[.slice A0_0 l0_0.length c0_0, .int .i64 a0_1, .slice A0_2 l0_2.length c0_2, .slice A0_3 l0_3.length c0_3, .int .i64 a0_4, .int .i64 a0_5, .slice A0_6 l0_6.length c0_6, .int .i64 a0_7, .slice A0_8 l0_8.length c0_8, .slice A0_9 l0_9.length c0_9] 27 (0, 0)) (mvK BK929.out)) : gb947 ≠ gb929)); clear HO932; clear HO936; clear HO939; clear HO944; clear BK929; clear HB; have HO932 := n0_; have HO936 := n1_; have HO939 := n2_; have HO944 := n3_; have BK929 := n4_; have HB := n5_; have BK947 := n6_; have GW947 := n7_; have GE947 := n8_; have NB929_947 := n9_; have NB947_929 := n10_; clear n0_ n1_ n2_ n3_ n4_ n5_ n6_ n7_ n8_ n9_ n10_; clear hb hbox hg; have hnb11 := NB947_929.out; have hnc11 := NB929_947.out; obtain ⟨hcz12_0, hcz12_1, hcz12_2, hcz12_3, hcz12_4, hcz12_5, hcz12_6, hfz12_0, hfz12_1, hfz12_2, hfz12_3, hfz12_4, hfz12_5, hfz12_6⟩ := Zcw BK947.out; obtain ⟨Ao13, co13, eo13⟩ := Kd.Zbu HO936.out; subst eo13; obtain ⟨Ao14, co14, eo14⟩ := Kd.Zbu HO939.out; subst eo14; obtain ⟨Ao15, co15, eo15⟩ := Kd.Zdx HO944.out; subst eo15; obtain ⟨Ao16, co16, eo16⟩ := Kd.Zdx HO932.out; subst eo16) | ((with_reducible refine Zbn (f := 35) rfl ?_); refine Zcp (some 24) rfl rfl Try.func35 (by kernel_rfl) rfl #[.slice Ao16 t930.length co16, .agg #[.int .i64 t933, .slice Ao13 t934.length co13, .slice Ao14 t937.length co14, .int .i64 t940, .int .i64 t941, .slice Ao15 t942.length co15, .int .i64 t945]] rfl (by (try simp only [List.map_toArray, List.map_cons, List.map_nil]); first | done | rfl | (simp only [List.length_drop, List.length_take]; rfl)) ?_; (with_reducible refine (Zak.calls k _ _ t930 t933 _ _ t934 _ _ t937 t940 t941 _ _ t942 t945 t949 true _ ?side1 ?side2 ?side3 ?side4 ?side5 ?side6 ?side7 ?side8 A4.out).mono ?_); (case side1 => refine (Kd.Zc (e := 39) (base := w.heap.size) (ok := fun k_ => True) (n := t930.length) (c := co16) ?_).2.2; exact (by (with_reducible repeat (first | apply Kd.Zb5 | apply Kd.Zb6 | apply Kd.Zb9)); exact (Kd.Zck (Kd.Zbv (p := ⟨gb947, 6, none⟩) (Kd.Zbv (p := ⟨gb947, 5, none⟩) (Kd.Zbv (p := ⟨gb947, 4, none⟩) (Kd.Zbv (p := ⟨gb947, 3, none⟩) (Kd.Zbv (p := ⟨gb947, 2, none⟩) (Kd.Zbv (p := ⟨gb947, 1, none⟩) (Kd.Zbv (p := ⟨gb947, 0, none⟩) (Kd.Zcu HO932.out BK947.out (by decide)) (fun _ hk => hk.2) (.int .i64 t933)) (fun _ hk => hk.2) (.slice Ao13 t934.length co13)) (fun _ hk => hk.2) (.slice Ao14 t937.length co14)) (fun _ hk => hk.2) (.int .i64 t940)) (fun _ hk => hk.2) (.int .i64 t941)) (fun _ hk => hk.2) (.slice Ao15 t942.length co15)) (fun _ hk => hk.2) (.int .i64 t945)) (fun _ h_ => h_.1)))); (case side2 => exact (Kd.Zc HO932.out).2.1); (case side3 => refine (Kd.Za3 (e := 3) (base := w.heap.size) (ok := fun k_ => some k_ ≠ (.slice Ao14 t937.length co14 : Value).ownBlock) (n := t934.length) (c := co13) ?_).2.2; exact (by (with_reducible repeat (first | apply Kd.Zao | apply Kd.Zan | apply Kd.Zaq)); exact (Kd.Zbh (Kd.Zbl (p := ⟨gb947, 6, none⟩) (Kd.Zbl (p := ⟨gb947, 5, none⟩) (Kd.Zbl (p := ⟨gb947, 4, none⟩) (Kd.Zbl (p := ⟨gb947, 3, none⟩) (Kd.Zbl (p := ⟨gb947, 2, none⟩) (Kd.Zbl (p := ⟨gb947, 1, none⟩) (Kd.Zbl (p := ⟨gb947, 0, none⟩) (Kd.Zcb HO936.out BK947.out (by decide)) (fun _ hk => hk.2) (.int .i64 t933)) (fun _ hk => hk.2) (.slice Ao13 t934.length co13)) (fun _ hk => hk.2) (.slice Ao14 t937.length co14)) (fun _ hk => hk.2) (.int .i64 t940)) (fun _ hk => hk.2) (.int .i64 t941)) (fun _ hk => hk.2) (.slice Ao15 t942.length co15)) (fun _ hk => hk.2) (.int .i64 t945)) (fun _ h_ => h_.1)))); (case side4 => exact (Kd.Za3 HO936.out).2.1); (case side5 => refine (Kd.Za3 (e := 3) (base := w.heap.size) (ok := fun k_ => some k_ ≠ (.slice Ao13 t934.length co13 : Value).ownBlock) (n := t937.length) (c := co14) ?_).2.2; exact (by (with_reducible repeat (first | apply Kd.Zao | apply Kd.Zan | apply Kd.Zaq)); exact (Kd.Zbh (Kd.Zbl (p := ⟨gb947, 6, none⟩) (Kd.Zbl (p := ⟨gb947, 5, none⟩) (Kd.Zbl (p := ⟨gb947, 4, none⟩) (Kd.Zbl (p := ⟨gb947, 3, none⟩) (Kd.Zbl (p := ⟨gb947, 2, none⟩) (Kd.Zbl (p := ⟨gb947, 1, none⟩) (Kd.Zbl (p := ⟨gb947, 0, none⟩) (Kd.Zcb HO939.out BK947.out (by decide)) (fun _ hk => hk.2) (.int .i64 t933)) (fun _ hk => hk.2) (.slice Ao13 t934.length co13)) (fun _ hk => hk.2) (.slice Ao14 t937.length co14)) (fun _ hk => hk.2) (.int .i64 t940)) (fun _ hk => hk.2) (.int .i64 t941)) (fun _ hk => hk.2) (.slice Ao15 t942.length co15)) (fun _ hk => hk.2) (.int .i64 t945)) (fun _ h_ => h_.1)))); (case side6 => exact (Kd.Za3 HO939.out).2.1); (case side7 => refine (Kd.Zc (e := 23) (base := w.heap.size) (ok := fun k_ => (some k_ ≠ (.slice Ao13 t934.length co13 : Value).ownBlock ∧ some k_ ≠ (.slice Ao14 t937.length co14 : Value).ownBlock)) (n := t942.length) (c := co15) ?_).2.2; exact (by (with_reducible repeat (first | apply Kd.Zb5 | apply Kd.Zb6 | apply Kd.Zb9)); exact (Kd.Zck (Kd.Zbv (p := ⟨gb947, 6, none⟩) (Kd.Zbv (p := ⟨gb947, 5, none⟩) (Kd.Zbv (p := ⟨gb947, 4, none⟩) (Kd.Zbv (p := ⟨gb947, 3, none⟩) (Kd.Zbv (p := ⟨gb947, 2, none⟩) (Kd.Zbv (p := ⟨gb947, 1, none⟩) (Kd.Zbv (p := ⟨gb947, 0, none⟩) (Kd.Zcu HO944.out BK947.out (by decide)) (fun _ hk => hk.2) (.int .i64 t933)) (fun _ hk => hk.2) (.slice Ao13 t934.length co13)) (fun _ hk => hk.2) (.slice Ao14 t937.length co14)) (fun _ hk => hk.2) (.int .i64 t940)) (fun _ hk => hk.2) (.int .i64 t941)) (fun _ hk => hk.2) (.slice Ao15 t942.length co15)) (fun _ hk => hk.2) (.int .i64 t945)) (fun _ h_ => h_.1)))); (case side8 => exact (Kd.Zc HO944.out).2.1); rintro e w17 ⟨v950, rfl, ho0, hb⟩; refine ⟨_, rfl, ?_⟩; have n0_ := Za.mk (Kd.Zcs (by (with_reducible repeat (first | apply Kd.Zb5 | apply Kd.Zb6 | apply Kd.Zb9)); exact (Kd.Zck (Kd.Zbv (p := ⟨gb947, 6, none⟩) (Kd.Zbv (p := ⟨gb947, 5, none⟩) (Kd.Zbv (p := ⟨gb947, 4, none⟩) (Kd.Zbv (p := ⟨gb947, 3, none⟩) (Kd.Zbv (p := ⟨gb947, 2, none⟩) (Kd.Zbv (p := ⟨gb947, 1, none⟩) (Kd.Zbv (p := ⟨gb947, 0, none⟩) (Kd.Zcu HO932.out BK947.out (by decide)) (fun _ hk => hk.2) (.int .i64 t933)) (fun _ hk => hk.2) (.slice Ao13 t934.length co13)) (fun _ hk => hk.2) (.slice Ao14 t937.length co14)) (fun _ hk => hk.2) (.int .i64 t940)) (fun _ hk => hk.2) (.int .i64 t941)) (fun _ hk => hk.2) (.slice Ao15 t942.length co15)) (fun _ hk => hk.2) (.int .i64 t945)) (fun _ h_ => h_.1))) (Kd.S_base ho0) hb); have n1_ := Za.mk (Kd.Zbj (by (with_reducible repeat (first | apply Kd.Zao | apply Kd.Zan | apply Kd.Zaq)); exact (Kd.Zbh (Kd.Zbl (p := ⟨gb947, 6, none⟩) (Kd.Zbl (p := ⟨gb947, 5, none⟩) (Kd.Zbl (p := ⟨gb947, 4, none⟩) (Kd.Zbl (p := ⟨gb947, 3, none⟩) (Kd.Zbl (p := ⟨gb947, 2, none⟩) (Kd.Zbl (p := ⟨gb947, 1, none⟩) (Kd.Zbl (p := ⟨gb947, 0, none⟩) (Kd.Zcb HO936.out BK947.out (by decide)) (fun _ hk => hk.2) (.int .i64 t933)) (fun _ hk => hk.2) (.slice Ao13 t934.length co13)) (fun _ hk => hk.2) (.slice Ao14 t937.length co14)) (fun _ hk => hk.2) (.int .i64 t940)) (fun _ hk => hk.2) (.int .i64 t941)) (fun _ hk => hk.2) (.slice Ao15 t942.length co15)) (fun _ hk => hk.2) (.int .i64 t945)) (fun _ h_ => h_.1))) hb); have n2_ := Za.mk (Kd.Zbj (by (with_reducible repeat (first | apply Kd.Zao | apply Kd.Zan | apply Kd.Zaq)); exact (Kd.Zbh (Kd.Zbl (p := ⟨gb947, 6, none⟩) (Kd.Zbl (p := ⟨gb947, 5, none⟩) (Kd.Zbl (p := ⟨gb947, 4, none⟩) (Kd.Zbl (p := ⟨gb947, 3, none⟩) (Kd.Zbl (p := ⟨gb947, 2, none⟩) (Kd.Zbl (p := ⟨gb947, 1, none⟩) (Kd.Zbl (p := ⟨gb947, 0, none⟩) (Kd.Zcb HO939.out BK947.out (by decide)) (fun _ hk => hk.2) (.int .i64 t933)) (fun _ hk => hk.2) (.slice Ao13 t934.length co13)) (fun _ hk => hk.2) (.slice Ao14 t937.length co14)) (fun _ hk => hk.2) (.int .i64 t940)) (fun _ hk => hk.2) (.int .i64 t941)) (fun _ hk => hk.2) (.slice Ao15 t942.length co15)) (fun _ hk => hk.2) (.int .i64 t945)) (fun _ h_ => h_.1))) hb); have n3_ := Za.mk (Kd.Zb8 (by (with_reducible repeat (first | apply Kd.Zb5 | apply Kd.Zb6 | apply Kd.Zb9)); exact (Kd.Zck (Kd.Zbv (p := ⟨gb947, 6, none⟩) (Kd.Zbv (p := ⟨gb947, 5, none⟩) (Kd.Zbv (p := ⟨gb947, 4, none⟩) (Kd.Zbv (p := ⟨gb947, 3, none⟩) (Kd.Zbv (p := ⟨gb947, 2, none⟩) (Kd.Zbv (p := ⟨gb947, 1, none⟩) (Kd.Zbv (p := ⟨gb947, 0, none⟩) (Kd.Zcu HO944.out BK947.out (by decide)) (fun _ hk => hk.2) (.int .i64 t933)) (fun _ hk => hk.2) (.slice Ao13 t934.length co13)) (fun _ hk => hk.2) (.slice Ao14 t937.length co14)) (fun _ hk => hk.2) (.int .i64 t940)) (fun _ hk => hk.2) (.int .i64 t941)) (fun _ hk => hk.2) (.slice Ao15 t942.length co15)) (fun _ hk => hk.2) (.int .i64 t945)) (fun _ h_ => h_.1))) hb); have n4_ := Za.mk (Kd.Zdt (Kd.S_new' ho0 (Kd.S_lt (by (with_reducible repeat (first | apply Kd.Zb5 | apply Kd.Zb6 | apply Kd.Zb9)); exact (Kd.Zck (Kd.Zbv (p := ⟨gb947, 6, none⟩) (Kd.Zbv (p := ⟨gb947, 5, none⟩) (Kd.Zbv (p := ⟨gb947, 4, none⟩) (Kd.Zbv (p := ⟨gb947, 3, none⟩) (Kd.Zbv (p := ⟨gb947, 2, none⟩) (Kd.Zbv (p := ⟨gb947, 1, none⟩) (Kd.Zbv (p := ⟨gb947, 0, none⟩) (Kd.Zcu HO932.out BK947.out (by decide)) (fun _ hk => hk.2) (.int .i64 t933)) (fun _ hk => hk.2) (.slice Ao13 t934.length co13)) (fun _ hk => hk.2) (.slice Ao14 t937.length co14)) (fun _ hk => hk.2) (.int .i64 t940)) (fun _ hk => hk.2) (.int .i64 t941)) (fun _ hk => hk.2) (.slice Ao15 t942.length co15)) (fun _ hk => hk.2) (.int .i64 t945)) (fun _ h_ => h_.1))))) (Zam (by repeat (first | (with_reducible first | exact HB.out | apply Zab | apply Zaa | apply Zac | refine Zah ?_ GE929.out | refine Zah ?_ GE947.out) | exact HB.out)))); have n5_ := Za.mk (Za9 (g := gb929) (o := .cells #[.slice A0_0 l0_0.length c0_0, .int .i64 a0_1, .slice A0_2 l0_2.length c0_2, .slice A0_3 l0_3.length c0_3, .int .i64 a0_4, .int .i64 a0_5, .slice A0_6 l0_6.length c0_6, .int .i64 a0_7, .slice A0_8 l0_8.length c0_8, .slice A0_9 l0_9.length c0_9] 27 (0, 0)) (by (with_reducible repeat (first | refine Zag ?_ _ | refine Zai ?_ | refine Zae ?_ _)); refine Zb2 ?_ NB929_947.out _; (with_reducible repeat (first | refine Zag ?_ _ | refine Zai ?_ | refine Zae ?_ _)); refine Zb2 ?_ NB929_947.out _; (with_reducible repeat (first | refine Zag ?_ _ | refine Zai ?_ | refine Zae ?_ _)); refine Zb2 ?_ NB929_947.out _; (with_reducible repeat (first | refine Zag ?_ _ | refine Zai ?_ | refine Zae ?_ _)); refine Zb2 ?_ NB929_947.out _; (with_reducible repeat (first | refine Zag ?_ _ | refine Zai ?_ | refine Zae ?_ _)); refine Zb2 ?_ NB929_947.out _; (with_reducible repeat (first | refine Zag ?_ _ | refine Zai ?_ | refine Zae ?_ _)); refine Zb2 ?_ NB929_947.out _; (with_reducible repeat (first | refine Zag ?_ _ | refine Zai ?_ | refine Zae ?_ _)); refine Zb2 ?_ NB929_947.out _; (with_reducible repeat (first | refine Zag ?_ _ | refine Zai ?_ | refine Zae ?_ _)); exact BK929.out) hb); have n6_ := Za.mk (Za9 (g := gb947) (o := .cells #[.int .i64 t933, .slice Ao13 t934.length co13, .slice Ao14 t937.length co14, .int .i64 t940, .int .i64 t941, .slice Ao15 t942.length co15, .int .i64 t945] 25 (0, 0)) (by (with_reducible repeat (first | refine Zag ?_ _ | refine Zai ?_ | refine Zae ?_ _)); refine Zbq (cs := #[.int .i64 t933, .slice Ao13 t934.length co13, .slice Ao14 t937.length co14, .int .i64 t940, .int .i64 t941, .slice Ao15 t942.length co15, .int .i64 0]) ?_ 6 _ rfl; (with_reducible repeat (first | refine Zag ?_ _ | refine Zai ?_ | refine Zae ?_ _)); refine Zbq (cs := #[.int .i64 t933, .slice Ao13 t934.length co13, .slice Ao14 t937.length co14, .int .i64 t940, .int .i64 t941, .slice none 0 0, .int .i64 0]) ?_ 5 _ rfl; (with_reducible repeat (first | refine Zag ?_ _ | refine Zai ?_ | refine Zae ?_ _)); refine Zbq (cs := #[.int .i64 t933, .slice Ao13 t934.length co13, .slice Ao14 t937.length co14, .int .i64 t940, .int .i64 0, .slice none 0 0, .int .i64 0]) ?_ 4 _ rfl; (with_reducible repeat (first | refine Zag ?_ _ | refine Zai ?_ | refine Zae ?_ _)); refine Zbq (cs := #[.int .i64 t933, .slice Ao13 t934.length co13, .slice Ao14 t937.length co14, .int .i64 0, .int .i64 0, .slice none 0 0, .int .i64 0]) ?_ 3 _ rfl; (with_reducible repeat (first | refine Zag ?_ _ | refine Zai ?_ | refine Zae ?_ _)); refine Zbq (cs := #[.int .i64 t933, .slice Ao13 t934.length co13, .slice none 0 0, .int .i64 0, .int .i64 0, .slice none 0 0, .int .i64 0]) ?_ 2 _ rfl; (with_reducible repeat (first | refine Zag ?_ _ | refine Zai ?_ | refine Zae ?_ _)); refine Zbq (cs := #[.int .i64 t933, .slice none 0 0, .slice none 0 0, .int .i64 0, .int .i64 0, .slice none 0 0, .int .i64 0]) ?_ 1 _ rfl; (with_reducible repeat (first | refine Zag ?_ _ | refine Zai ?_ | refine Zae ?_ _)); refine Zbq (cs := #[.int .i64 0, .slice none 0 0, .slice none 0 0, .int .i64 0, .int .i64 0, .slice none 0 0, .int .i64 0]) ?_ 0 _ rfl; (with_reducible repeat (first | refine Zag ?_ _ | refine Zai ?_ | refine Zae ?_ _)); exact BK947.out) hb); have n7_ := Za.mk (Zau (by repeat (first | (with_reducible first | exact HB.out | apply Zab | apply Zaa | apply Zac | refine Zah ?_ GE929.out | refine Zah ?_ GE947.out) | exact HB.out)) hb); clear HO932; clear HO936; clear HO939; clear HO944; clear BK929; clear BK947; clear HB; have HO932 := n0_; have HO936 := n1_; have HO939 := n2_; have HO944 := n3_; have HO951 := n4_; have BK929 := n5_; have BK947 := n6_; have HB := n7_; clear n0_ n1_ n2_ n3_ n4_ n5_ n6_ n7_; (try clear hb); (try clear hb2); (try clear hk); (try clear hi); (try clear ho0); obtain ⟨Ao18, co18, eo18⟩ := Kd.Zdx HO951.out; subst eo18) | ((with_reducible refine Zbx (N := 40) rfl ?_); (try (refine Zco (by rfl) ?_; dsimp only)); refine Kd.Zdr (Kd.int .i64) _ 3 ?hg (N := 40) ?hd (xs := ([] : List Int)) (inner := []) (ok := fun _ => True) (okp := fun _ => True) ?hr ?hp (fun _ hk => hk) trivial (Below.refl _ _) (Nat.le_refl _) (by simp) ?_; (case hd => rfl); (case hg => rfl); (case hr => first | (go_simp; done) | (go_simp; rfl)); (case hp => exact (Reps.none _ _)); intro v955 w19 ho20 hb hg_ hnew_; clear hg_ hnew_; (first | rw [← Ny954.out] at ho20 | (simp only [Int.reduceToNat] at ho20; rw [← Ny954.out] at ho20)); have n0_ := Za.mk (Kd.Zb8 (mvS HO932.out) hb); have n1_ := Za.mk (Kd.Zbr (mvR HO936.out) (Kd.Zbs ho20) hb); have n2_ := Za.mk (Kd.Zbr (mvR HO939.out) (Kd.Zbs ho20) hb); have n3_ := Za.mk (Kd.Zcs (mvS HO944.out) (Kd.Zbs ho20) hb); have n4_ := Za.mk (Kd.Zb8 (mvS HO951.out) hb); have n5_ := Za.mk (Kd.Zbw (Kd.Zcc (Kd.Zcc ho20 (Kd.R_lt (mvR HO936.out))) (Kd.R_lt (mvR HO939.out))) (Zam (by repeat (first | (with_reducible first | exact HB.out | apply Zab | apply Zaa | apply Zac | refine Zah ?_ GE929.out | refine Zah ?_ GE947.out) | exact HB.out)))); have n6_ := Za.mk (Za9 (g := gb929) (o := .cells #[.slice A0_0 l0_0.length c0_0, .int .i64 a0_1, .slice A0_2 l0_2.length c0_2, .slice A0_3 l0_3.length c0_3, .int .i64 a0_4, .int .i64 a0_5, .slice A0_6 l0_6.length c0_6, .int .i64 a0_7, .slice A0_8 l0_8.length c0_8, .slice A0_9 l0_9.length c0_9] 27 (0, 0)) (mvK BK929.out) hb); have n7_ := Za.mk (Za9 (g := gb947) (o := .cells #[.int .i64 t933, .slice Ao13 t934.length co13, .slice Ao14 t937.length co14, .int .i64 t940, .int .i64 t941, .slice Ao15 t942.length co15, .int .i64 t945] 25 (0, 0)) (mvK BK947.out) hb); have n8_ := Za.mk (Zau (by repeat (first | (with_reducible first | exact HB.out | apply Zab | apply Zaa | apply Zac | refine Zah ?_ GE929.out | refine Zah ?_ GE947.out) | exact HB.out)) hb); clear HO932; clear HO936; clear HO939; clear HO944; clear HO951; clear BK929; clear BK947; clear HB; have HO932 := n0_; have HO936 := n1_; have HO939 := n2_; have HO944 := n3_; have HO951 := n4_; have HO956 := n5_; have BK929 := n6_; have BK947 := n7_; have HB := n8_; clear n0_ n1_ n2_ n3_ n4_ n5_ n6_ n7_ n8_; clear hb ho20) | ((with_reducible refine Zbx (N := 41) rfl ?_); (try (refine Zco (by rfl) ?_; dsimp only)); refine Kd.Zdr (Kd.int .i64) _ 3 ?hg (N := 41) ?hd (xs := ([] : List Int)) (inner := []) (ok := fun _ => True) (okp := fun _ => True) ?hr ?hp (fun _ hk => hk) trivial (Below.refl _ _) (Nat.le_refl _) (by simp) ?_; (case hd => rfl); (case hg => rfl); (case hr => first | (go_simp; done) | (go_simp; rfl)); (case hp => exact (Reps.none _ _)); intro v958 w21 ho22 hb hg_ hnew_; clear hg_ hnew_; (first | rw [← Ny957.out] at ho22 | (simp only [Int.reduceToNat] at ho22; rw [← Ny957.out] at ho22)); have n0_ := Za.mk (Kd.Zb8 (mvS HO932.out) hb); have n1_ := Za.mk (Kd.Zbr (mvR HO936.out) (Kd.Zbs ho22) hb); have n2_ := Za.mk (Kd.Zbr (mvR HO939.out) (Kd.Zbs ho22) hb); have n3_ := Za.mk (Kd.Zcs (mvS HO944.out) (Kd.Zbs ho22) hb); have n4_ := Za.mk (Kd.Zb8 (mvS HO951.out) hb); have n5_ := Za.mk (Kd.Zbr (mvR HO956.out) (Kd.Zbs ho22) hb); have n6_ := Za.mk (Kd.Zbw (Kd.Zcc (Kd.Zcc (Kd.Zcc ho22 (Kd.R_lt (mvR HO936.out))) (Kd.R_lt (mvR HO939.out))) (Kd.R_lt (mvR HO956.out))) (Zam (by repeat (first | (with_reducible first | exact HB.out | apply Zab | apply Zaa | apply Zac | refine Zah ?_ GE929.out | refine Zah ?_ GE947.out) | exact HB.out)))); have n7_ := Za.mk (Za9 (g := gb929) (o := .cells #[.slice A0_0 l0_0.length c0_0, .int .i64 a0_1, .slice A0_2 l0_2.length c0_2, .slice A0_3 l0_3.length c0_3, .int .i64 a0_4, .int .i64 a0_5, .slice A0_6 l0_6.length c0_6, .int .i64 a0_7, .slice A0_8 l0_8.length c0_8, .slice A0_9 l0_9.length c0_9] 27 (0, 0)) (mvK BK929.out) hb); have n8_ := Za.mk (Za9 (g := gb947) (o := .cells #[.int .i64 t933, .slice Ao13 t934.length co13, .slice Ao14 t937.length co14, .int .i64 t940, .int .i64 t941, .slice Ao15 t942.length co15, .int .i64 t945] 25 (0, 0)) (mvK BK947.out) hb); have n9_ := Za.mk (Zau (by repeat (first | (with_reducible first | exact HB.out | apply Zab | apply Zaa | apply Zac | refine Zah ?_ GE929.out | refine Zah ?_ GE947.out) | exact HB.out)) hb); clear HO932; clear HO936; clear HO939; clear HO944; clear HO951; clear HO956; clear BK929; clear BK947; clear HB; have HO932 := n0_; have HO936 := n1_; have HO939 := n2_; have HO944 := n3_; have HO951 := n4_; have HO956 := n5_; have HO959 := n6_; have BK929 := n7_; have BK947 := n8_; have HB := n9_; clear n0_ n1_ n2_ n3_ n4_ n5_ n6_ n7_ n8_ n9_; clear hb ho22))
 go_loopg [8, 9, 10] k (fun kq v8 v9 v10 w' => ∃ (x8_1 : List Int) (x9_1 : List Int) (x10_1 : Int), v10 = .int .i64 x10_1 ∧ Za (Zad.l0 kq t930 t949 x8_1 x9_1 x10_1 t933 t934 t937 t940 t941 t942 t945 = some r) ∧ Za (kq ≤ k) ∧ Za (Kd.S (Kd.slice 41 k41) 39 w' w.heap.size (fun k_ => some k_ ≠ ((.slice Ao18 t949.length co18) : Value).ownBlock) (.slice Ao16 t930.length co16) t930) ∧ Za (Kd.S (Kd.slice 41 k41) 39 w' w.heap.size (fun k_ => some k_ ≠ ((.slice Ao16 t930.length co16) : Value).ownBlock) (.slice Ao18 t949.length co18) t949) ∧ Za (Kd.R (Kd.int .i64) 3 w' w.heap.size (fun k_ => some k_ ≠ (v9 : Value).ownBlock ∧ some k_ ≠ ((.slice Ao13 t934.length co13) : Value).ownBlock ∧ some k_ ≠ ((.slice Ao14 t937.length co14) : Value).ownBlock) v8 x8_1) ∧ Za (Kd.R (Kd.int .i64) 3 w' w.heap.size (fun k_ => some k_ ≠ (v8 : Value).ownBlock ∧ some k_ ≠ ((.slice Ao13 t934.length co13) : Value).ownBlock ∧ some k_ ≠ ((.slice Ao14 t937.length co14) : Value).ownBlock) v9 x9_1) ∧ Za (Kd.R (Kd.int .i64) 3 w' w.heap.size (fun k_ => some k_ ≠ (v8 : Value).ownBlock ∧ some k_ ≠ (v9 : Value).ownBlock ∧ some k_ ≠ ((.slice Ao14 t937.length co14) : Value).ownBlock) (.slice Ao13 t934.length co13) t934) ∧ Za (Kd.R (Kd.int .i64) 3 w' w.heap.size (fun k_ => some k_ ≠ (v8 : Value).ownBlock ∧ some k_ ≠ (v9 : Value).ownBlock ∧ some k_ ≠ ((.slice Ao13 t934.length co13) : Value).ownBlock) (.slice Ao14 t937.length co14) t937) ∧ Za (Kd.S (Kd.slice 3 (Kd.int .i64)) 23 w' w.heap.size (fun k_ => some k_ ≠ (v8 : Value).ownBlock ∧ some k_ ≠ (v9 : Value).ownBlock ∧ some k_ ≠ ((.slice Ao13 t934.length co13) : Value).ownBlock ∧ some k_ ≠ ((.slice Ao14 t937.length co14) : Value).ownBlock) (.slice Ao15 t942.length co15) t942) ∧ Za (w'.heap[gb929]? = some (.cells #[(.slice A0_0 l0_0.length c0_0), .int .i64 a0_1, (.slice A0_2 l0_2.length c0_2), (.slice A0_3 l0_3.length c0_3), .int .i64 a0_4, .int .i64 a0_5, (.slice A0_6 l0_6.length c0_6), .int .i64 a0_7, (.slice A0_8 l0_8.length c0_8), (.slice A0_9 l0_9.length c0_9)] 27 (0, 0))) ∧ Za (w'.heap[gb947]? = some (.cells #[.int .i64 t933, (.slice Ao13 t934.length co13), (.slice Ao14 t937.length co14), .int .i64 t940, .int .i64 t941, (.slice Ao15 t942.length co15), .int .i64 t945] 25 (0, 0))) ∧ Za (Below w.heap.size w w'))
 case atStart => exact ⟨(y954), (y957), (0), (by first | rfl | (simp; done) | (simp [*]; done)), H', ⟨Nat.le_refl _⟩, ⟨by (with_reducible repeat (first | apply Kd.Zb5 | apply Kd.Zb6 | apply Kd.Zb9)); exact Kd.Zck HO932.out (fun _ hk => hk.2)⟩, ⟨by (with_reducible repeat (first | apply Kd.Zb5 | apply Kd.Zb6 | apply Kd.Zb9)); exact Kd.Zck HO951.out (fun _ hk => hk.2)⟩, ⟨by (with_reducible repeat (first | apply Kd.Zao | apply Kd.Zan | apply Kd.Zaq)); exact Kd.Zbh HO956.out (fun _ hk => ⟨hk.2, ⟨hk.1.1.2, hk.1.2⟩⟩)⟩, ⟨by (with_reducible repeat (first | apply Kd.Zao | apply Kd.Zan | apply Kd.Zaq)); exact Kd.Zbh HO959.out (fun _ hk => ⟨hk.2, ⟨hk.1.1.2, hk.1.2⟩⟩)⟩, ⟨by (with_reducible repeat (first | apply Kd.Zao | apply Kd.Zan | apply Kd.Zaq)); exact Kd.Zbh HO936.out (fun _ hk => ⟨hk.1.2, ⟨hk.2, hk.1.1⟩⟩)⟩, ⟨by (with_reducible repeat (first | apply Kd.Zao | apply Kd.Zan | apply Kd.Zaq)); exact Kd.Zbh HO939.out (fun _ hk => ⟨hk.1.2, ⟨hk.2, hk.1.1⟩⟩)⟩, ⟨by (with_reducible repeat (first | apply Kd.Zb5 | apply Kd.Zb6 | apply Kd.Zb9)); exact Kd.Zck HO944.out (fun _ hk => ⟨hk.1.2, ⟨hk.2, ⟨hk.1.1.1, hk.1.1.2⟩⟩⟩)⟩, ⟨by (with_reducible repeat (first | refine Zag ?_ _ | refine Zai ?_ | refine Zae ?_ _)); exact BK929.out⟩, ⟨by (with_reducible repeat (first | refine Zag ?_ _ | refine Zai ?_ | refine Zae ?_ _)); exact BK947.out⟩, ⟨by repeat (first | (with_reducible first | exact HB.out | apply Zab | apply Zaa | apply Zac | refine Zah ?_ GE929.out | refine Zah ?_ GE947.out) | exact HB.out)⟩⟩
 case round =>
  clear H'
  try clear c1
  try clear p2
  try clear c3
  try clear c5
  try clear c6
  try clear c6b0
  try clear c6b1
  try clear c6b2
  try clear c10
  try clear c11
  try clear c14
  try clear hcz12_0
  try clear hcz12_1
  try clear hcz12_2
  try clear hcz12_3
  try clear hcz12_4
  try clear hcz12_5
  try clear hcz12_6
  try clear hcz8_0
  try clear hcz8_1
  try clear hcz8_2
  try clear hcz8_3
  try clear hcz8_4
  try clear hcz8_5
  try clear hcz8_6
  try clear hcz8_7
  try clear hcz8_8
  try clear hcz8_9
  try clear hfz12_0
  try clear hfz12_1
  try clear hfz12_2
  try clear hfz12_3
  try clear hfz12_4
  try clear hfz12_5
  try clear hfz12_6
  try clear hfz8_0
  try clear hfz8_1
  try clear hfz8_2
  try clear hfz8_3
  try clear hfz8_4
  try clear hfz8_5
  try clear hfz8_6
  try clear hfz8_7
  try clear hfz8_8
  try clear hfz8_9
  obtain ⟨x8_1, x9_1, x10_1, rfl, HA, HK1, HO_3, HO_6, HO_8, HO_9, HO_948001, HO_948002, HO_948005, BK929, BK947, HB⟩ := hrel
  cases gk with
  | zero => exact absurd HA.out (by simp [Zad.l0])
  | succ k1 =>
   have H := HA.out
   clear HA
   simp only [Zad.l0] at H
   by_cases c23 : x10_1 < (wrap64 ((t934.length : Int) - 2))
   rotate_left
   ·rw [if_neg c23] at H
    have c23b0 : decide (x10_1 < (wrap64 ((t934.length : Int) - 2))) = false := decide_eq_false c23
    clear c23
    by_cases c70 : 0 < (t934.length : Int)
    rotate_left
    ·rw [if_neg c70] at H
     exact absurd H (by simp)
    rw [if_pos c70] at H
    have c70b0 : decide (0 < (t934.length : Int)) = true := decide_eq_true c70
    have c70b1 : decide (0 < t934.length) = true := decide_eq_true (by omega)
    clear c70
    by_cases c71 : 0 ≤ (rd t934 0)
    rotate_left
    ·rw [if_neg c71] at H
     exact absurd H (by simp)
    rw [if_pos c71] at H
    have c71b0 : decide (0 ≤ (rd t934 0)) = true := decide_eq_true c71
    clear c71
    by_cases c72 : (rd t934 0) < (t949.length : Int)
    rotate_left
    ·rw [if_neg c72] at H
     exact absurd H (by simp)
    rw [if_pos c72] at H
    have c72b0 : decide ((rd t934 0) < (t949.length : Int)) = true := decide_eq_true c72
    clear c72
    replace H := Option.bind_eq_some_iff.mp H
    obtain ⟨t984, A730, H⟩ := H
    replace H : ((Za1.f k1 t984 x8_1).bind fun t987 => (if t987 = true then (if 1 < (t934.length : Int) then (if 0 ≤ (rd t934 1) then (if (rd t934 1) < (t949.length : Int) then ((Zaj.f k1 (Zcf t949 (rd t934 1))).bind fun t990 => ((Zaf.f k1 x9_1).bind fun t993 => ((Za1.f k1 t990 t993).bind fun t996 => (if t996 = true then ((Za5.f k1).bind fun t997 => (some t997)) else (none))))) else (none)) else (none)) else (none)) else (none))) = some r := H
    have A73 := Za.mk A730
    clear A730
    replace H := Option.bind_eq_some_iff.mp H
    obtain ⟨t987, A740, H⟩ := H
    replace H : (if t987 = true then (if 1 < (t934.length : Int) then (if 0 ≤ (rd t934 1) then (if (rd t934 1) < (t949.length : Int) then ((Zaj.f k1 (Zcf t949 (rd t934 1))).bind fun t990 => ((Zaf.f k1 x9_1).bind fun t993 => ((Za1.f k1 t990 t993).bind fun t996 => (if t996 = true then ((Za5.f k1).bind fun t997 => (some t997)) else (none))))) else (none)) else (none)) else (none)) else (none)) = some r := H
    have A74 := Za.mk A740
    clear A740
    by_cases c75 : t987 = true
    rotate_left
    ·replace c75 := Bool.eq_false_iff.mpr c75
     subst c75
     have H1 : (none) = some r := by rw [if_neg (show ¬ (false = true) by decide)] at H; exact H
     clear H
     have H := H1
     clear H1
     exact absurd H (by simp)
    subst c75
    have H1 : (if 1 < (t934.length : Int) then (if 0 ≤ (rd t934 1) then (if (rd t934 1) < (t949.length : Int) then ((Zaj.f k1 (Zcf t949 (rd t934 1))).bind fun t990 => ((Zaf.f k1 x9_1).bind fun t993 => ((Za1.f k1 t990 t993).bind fun t996 => (if t996 = true then ((Za5.f k1).bind fun t997 => (some t997)) else (none))))) else (none)) else (none)) else (none)) = some r := by rw [if_pos rfl] at H; exact H
    clear H
    have H := H1
    clear H1
    by_cases c76 : 1 < (t934.length : Int)
    rotate_left
    ·rw [if_neg c76] at H
     exact absurd H (by simp)
    rw [if_pos c76] at H
    have c76b0 : decide (1 < (t934.length : Int)) = true := decide_eq_true c76
    have c76b1 : decide (1 < t934.length) = true := decide_eq_true (by omega)
    clear c76
    by_cases c77 : 0 ≤ (rd t934 1)
    rotate_left
    ·rw [if_neg c77] at H
     exact absurd H (by simp)
    rw [if_pos c77] at H
    have c77b0 : decide (0 ≤ (rd t934 1)) = true := decide_eq_true c77
    clear c77
    by_cases c78 : (rd t934 1) < (t949.length : Int)
    rotate_left
    ·rw [if_neg c78] at H
     exact absurd H (by simp)
    rw [if_pos c78] at H
    have c78b0 : decide ((rd t934 1) < (t949.length : Int)) = true := decide_eq_true c78
    clear c78
    replace H := Option.bind_eq_some_iff.mp H
    obtain ⟨t990, A790, H⟩ := H
    replace H : ((Zaf.f k1 x9_1).bind fun t993 => ((Za1.f k1 t990 t993).bind fun t996 => (if t996 = true then ((Za5.f k1).bind fun t997 => (some t997)) else (none)))) = some r := H
    have A79 := Za.mk A790
    clear A790
    replace H := Option.bind_eq_some_iff.mp H
    obtain ⟨t993, A800, H⟩ := H
    replace H : ((Za1.f k1 t990 t993).bind fun t996 => (if t996 = true then ((Za5.f k1).bind fun t997 => (some t997)) else (none))) = some r := H
    have A80 := Za.mk A800
    clear A800
    replace H := Option.bind_eq_some_iff.mp H
    obtain ⟨t996, A810, H⟩ := H
    replace H : (if t996 = true then ((Za5.f k1).bind fun t997 => (some t997)) else (none)) = some r := H
    have A81 := Za.mk A810
    clear A810
    by_cases c82 : t996 = true
    rotate_left
    ·replace c82 := Bool.eq_false_iff.mpr c82
     subst c82
     have H1 : (none) = some r := by rw [if_neg (show ¬ (false = true) by decide)] at H; exact H
     clear H
     have H := H1
     clear H1
     exact absurd H (by simp)
    subst c82
    have H1 : ((Za5.f k1).bind fun t997 => (some t997)) = some r := by rw [if_pos rfl] at H; exact H
    clear H
    have H := H1
    clear H1
    replace H := Option.bind_eq_some_iff.mp H
    obtain ⟨t997, A830, H⟩ := H
    replace H : (some t997) = some r := H
    have A83 := Za.mk A830
    clear A830
    obtain rfl := Option.some.inj H
    have hnb84 := NB947_929.out
    have hnc84 := NB929_947.out
    obtain ⟨hcz85_0, hcz85_1, hcz85_2, hcz85_3, hcz85_4, hcz85_5, hcz85_6, hfz85_0, hfz85_1, hfz85_2, hfz85_3, hfz85_4, hfz85_5, hfz85_6⟩ := Zcw BK947.out
    have p982 : 0 ≤ (0 : Int) := (by omega)
    have q982 : 0 < (t934.length : Int) := of_decide_eq_true (by first | (with_reducible assumption) | assumption)
    obtain ⟨ad982, e982, hx982_0⟩ := Kd.Zb7 (Kd.Za3 HO_948001.out).2.2 0 p982 q982
    cases e982
    have qi982 : (0 < t934.length) = True := eq_true (by omega)
    (try rw [show ((0 : Int)).toNat = 0 from rfl] at hx982_0)
    (try rw [Addr.add_zero'] at hx982_0)
    replace p982 := eq_true p982
    replace q982 := eq_true q982
    have p983 : 0 ≤ ((rd t934 0) : Int) := of_decide_eq_true (by first | (with_reducible assumption) | assumption)
    have q983 : (rd t934 0) < (t949.length : Int) := of_decide_eq_true (by first | (with_reducible assumption) | assumption)
    obtain ⟨ad983, A983_0, c983_0, e983, hx983_0, hl983_0, hi983_0⟩ := Zd9 (Kd.Zc HO_6.out).2.2 (rd t934 0) p983 q983
    cases e983
    obtain ⟨ce983, hce983, hMe983, hcc983⟩ := Kd.Zf3 HO_6.out [] (rd t934 0) p983 (by first | exact q983 | exact of_decide_eq_true (by first | (with_reducible assumption) | assumption) | (have e_ := (Kd.Zc HO_6.out).1; omega))
    obtain ⟨ve983_0, rfl, ge983_0⟩ := hMe983
    have hv983_0 := hcc983 0 _ rfl
    rw [Nat.add_zero, show ((Kd.slice 41 k41)).sz = 1 from rfl, Nat.mul_one] at hv983_0
    replace hv983_0 := Option.some.inj (hv983_0.symm.trans hx983_0)
    rw [hv983_0] at ge983_0
    have HL983_0 := Za.mk (show Kd.R k41 41 _ _ _ _ (Zcf t949 (rd t934 0)) from ge983_0)
    clear hv983_0 ge983_0
    clear hcc983 hce983
    have HR983_0 := Za.mk hi983_0
    have HC983_0 := Za.mk hl983_0
    clear hi983_0 hl983_0
    replace p983 := eq_true p983
    replace q983 := eq_true q983
    go_wp2_with (first | ((with_reducible refine Zbn (f := 29) rfl ?_); refine Zcp (some 97) rfl rfl Try.func29 (by kernel_rfl) rfl #[.slice A983_0 (Zcf t949 (rd t934 0)).length c983_0] rfl (by (try simp only [List.map_toArray, List.map_cons, List.map_nil]); first | done | rfl | (simp only [List.length_drop, List.length_take]; rfl)) ?_; (with_reducible refine (Zaj.calls k1 _ _ (Zcf t949 (rd t934 0)) t984 _ ?side1 ?side2 A73.out).mono ?_); (case side1 => repeat (first | exact (by repeat (first | (with_reducible exact HR983_0.out) | (with_reducible refine Kd.Za6 ?_ _) | (with_reducible refine Kd.Za0 ?_ _) | (with_reducible refine Kd.Zbd ?_) | exact HR983_0.out)) | (with_reducible refine Kd.Za6 ?_ _) | (with_reducible refine Kd.Za0 ?_ _) | (with_reducible refine Kd.Zbd ?_))); (case side2 => exact HC983_0.out); rintro e w86 ⟨v985, rfl, ho0, hb⟩; refine ⟨_, rfl, ?_⟩; have n0_ := Za.mk (Kd.Zb8 (mvS HO_3.out) hb); have n1_ := Za.mk (Kd.Zb8 (mvS HO_6.out) hb); have n2_ := Za.mk (Kd.Zbr (mvR HO_8.out) (Kd.Zbs ho0) hb); have n3_ := Za.mk (Kd.Zbr (mvR HO_9.out) (Kd.Zbs ho0) hb); have n4_ := Za.mk (Kd.Zbr (mvR HO_948001.out) (Kd.Zbs ho0) hb); have n5_ := Za.mk (Kd.Zbr (mvR HO_948002.out) (Kd.Zbs ho0) hb); have n6_ := Za.mk (Kd.Zcs (mvS HO_948005.out) (Kd.Zbs ho0) hb); have n7_ := Za.mk (Kd.Zbj (mvR HL983_0.out) hb); have n8_ := Za.mk (Kd.Zbw (Kd.Zcc (Kd.Zcc (Kd.Zcc (Kd.Zcc ho0 (Kd.R_lt (mvR HO_8.out))) (Kd.R_lt (mvR HO_9.out))) (Kd.R_lt (mvR HO_948001.out))) (Kd.R_lt (mvR HO_948002.out))) (Zam (mvB HB.out))); have n9_ := Za.mk (Za9 (g := gb929) (o := .cells #[.slice A0_0 l0_0.length c0_0, .int .i64 a0_1, .slice A0_2 l0_2.length c0_2, .slice A0_3 l0_3.length c0_3, .int .i64 a0_4, .int .i64 a0_5, .slice A0_6 l0_6.length c0_6, .int .i64 a0_7, .slice A0_8 l0_8.length c0_8, .slice A0_9 l0_9.length c0_9] 27 (0, 0)) (mvK BK929.out) hb); have n10_ := Za.mk (Za9 (g := gb947) (o := .cells #[.int .i64 t933, .slice (some ad982) t934.length co13, .slice Ao14 t937.length co14, .int .i64 t940, .int .i64 t941, .slice Ao15 t942.length co15, .int .i64 t945] 25 (0, 0)) (mvK BK947.out) hb); have n11_ := Za.mk (Kd.Zbk (by first | (with_reducible exact HR983_0.out) | (with_reducible exact Kd.Za0 HR983_0.out _) | (with_reducible exact Kd.Zbd HR983_0.out) | repeat (first | (with_reducible exact HR983_0.out) | (with_reducible refine Kd.Za6 ?_ _) | (with_reducible refine Kd.Za0 ?_ _) | (with_reducible refine Kd.Zbd ?_) | exact HR983_0.out)) hb); have n12_ := Za.mk (Zau (mvB HB.out) hb); clear HO_3; clear HO_6; clear HO_8; clear HO_9; clear HO_948001; clear HO_948002; clear HO_948005; clear HL983_0; clear BK929; clear BK947; clear HR983_0; clear HB; have HO_3 := n0_; have HO_6 := n1_; have HO_8 := n2_; have HO_9 := n3_; have HO_948001 := n4_; have HO_948002 := n5_; have HO_948005 := n6_; have HL983_0 := n7_; have HO986 := n8_; have BK929 := n9_; have BK947 := n10_; have HR983_0 := n11_; have HB := n12_; clear n0_ n1_ n2_ n3_ n4_ n5_ n6_ n7_ n8_ n9_ n10_ n11_ n12_; (try clear hb); (try clear hb2); (try clear hk); (try clear hi); (try clear ho0); obtain ⟨Ao87, co87, eo87⟩ := Kd.Zbu HO986.out; subst eo87; obtain ⟨Ao88, co88, eo88⟩ := Kd.Zbu HO_8.out; subst eo88) | ((with_reducible refine Zbn (f := 28) rfl ?_); refine Zcp (some 99) rfl rfl Try.func28 (by kernel_rfl) rfl #[.slice Ao87 t984.length co87, .slice Ao88 x8_1.length co88] rfl (by (try simp only [List.map_toArray, List.map_cons, List.map_nil]); first | done | rfl | (simp only [List.length_drop, List.length_take]; rfl)) ?_; (with_reducible refine (Za1.calls k1 _ _ t984 _ _ x8_1 true _ ?side1 ?side2 ?side3 ?side4 A74.out).mono ?_); (case side1 => repeat (first | exact (Kd.Za3 HO986.out).2.2 | (with_reducible refine Kd.Za6 ?_ _) | (with_reducible refine Kd.Za0 ?_ _) | (with_reducible refine Kd.Zbd ?_))); (case side2 => exact (Kd.Za3 HO986.out).2.1); (case side3 => repeat (first | exact (Kd.Za3 HO_8.out).2.2 | (with_reducible refine Kd.Za6 ?_ _) | (with_reducible refine Kd.Za0 ?_ _) | (with_reducible refine Kd.Zbd ?_))); (case side4 => exact (Kd.Za3 HO_8.out).2.1); rintro e w' ⟨rfl, ⟨nd, rfl⟩⟩; refine ⟨_, rfl, ?_⟩; obtain ⟨hcz89_0, hcz89_1, hcz89_2, hcz89_3, hcz89_4, hcz89_5, hcz89_6, hfz89_0, hfz89_1, hfz89_2, hfz89_3, hfz89_4, hfz89_5, hfz89_6⟩ := Zcw BK947.out; have p988 : 0 ≤ (1 : Int) := (by omega); have q988 : 1 < (t934.length : Int) := of_decide_eq_true (by first | (with_reducible assumption) | assumption); obtain ⟨ad988, e988, hx988_0⟩ := Kd.Zb7 (Kd.Za3 HO_948001.out).2.2 1 p988 q988; obtain rfl : ad982 = ad988 := (by injection e988); (try simp only [show (1 : Int).toNat = 1 from rfl, Nat.reduceMul, Nat.reduceEqDiff, Go.Addr.add, ↓reduceIte] at hx988_0); have qi988 : (1 < t934.length) = True := eq_true (by omega); (try rw [show ((1 : Int)).toNat = 1 from rfl] at hx988_0); replace p988 := eq_true p988; replace q988 := eq_true q988; have p989 : 0 ≤ ((rd t934 1) : Int) := of_decide_eq_true (by first | (with_reducible assumption) | assumption); have q989 : (rd t934 1) < (t949.length : Int) := of_decide_eq_true (by first | (with_reducible assumption) | assumption); obtain ⟨ad989, A989_0, c989_0, e989, hx989_0, hl989_0, hi989_0⟩ := Zd9 (Kd.Zc HO_6.out).2.2 (rd t934 1) p989 q989; obtain rfl : ad983 = ad989 := (by injection e989); obtain ⟨ce989, hce989, hMe989, hcc989⟩ := Kd.Zf3 HO_6.out [] (rd t934 1) p989 (by first | exact q989 | exact of_decide_eq_true (by first | (with_reducible assumption) | assumption) | (have e_ := (Kd.Zc HO_6.out).1; omega)); obtain ⟨ve989_0, rfl, ge989_0⟩ := hMe989; have hv989_0 := hcc989 0 _ rfl; rw [Nat.add_zero, show ((Kd.slice 41 k41)).sz = 1 from rfl, Nat.mul_one] at hv989_0; replace hv989_0 := Option.some.inj (hv989_0.symm.trans hx989_0); rw [hv989_0] at ge989_0; have HL989_0 := Za.mk (show Kd.R k41 41 _ _ _ _ (Zcf t949 (rd t934 1)) from ge989_0); clear hv989_0 ge989_0; clear hcc989 hce989; have HR989_0 := Za.mk hi989_0; have HC989_0 := Za.mk hl989_0; clear hi989_0 hl989_0; replace p989 := eq_true p989; replace q989 := eq_true q989) | (go_at_call 29; (with_reducible refine (Zaj.calls k1 _ _ (Zcf t949 (rd t934 1)) t990 _ ?side1 ?side2 A79.out).mono ?_); (case side1 => repeat (first | exact (by repeat (first | (with_reducible exact HR989_0.out) | (with_reducible refine Kd.Za6 ?_ _) | (with_reducible refine Kd.Za0 ?_ _) | (with_reducible refine Kd.Zbd ?_) | exact HR989_0.out)) | (with_reducible refine Kd.Za6 ?_ _) | (with_reducible refine Kd.Za0 ?_ _) | (with_reducible refine Kd.Zbd ?_))); (case side2 => exact HC989_0.out); rintro e w90 ⟨v991, rfl, ho0, hb⟩; have n0_ := Za.mk (Kd.Zb8 (mvS HO_3.out) hb); have n1_ := Za.mk (Kd.Zb8 (mvS HO_6.out) hb); have n2_ := Za.mk (Kd.Zbr (mvR HO_8.out) (Kd.Zbs ho0) hb); have n3_ := Za.mk (Kd.Zbr (mvR HO_9.out) (Kd.Zbs ho0) hb); have n4_ := Za.mk (Kd.Zbr (mvR HO_948001.out) (Kd.Zbs ho0) hb); have n5_ := Za.mk (Kd.Zbr (mvR HO_948002.out) (Kd.Zbs ho0) hb); have n6_ := Za.mk (Kd.Zcs (mvS HO_948005.out) (Kd.Zbs ho0) hb); have n7_ := Za.mk (Kd.Zbj (mvR HL983_0.out) hb); have n8_ := Za.mk (Kd.Zbr (mvR HO986.out) (Kd.Zbs ho0) hb); have n9_ := Za.mk (Kd.Zbj (mvR HL989_0.out) hb); have n10_ := Za.mk (Kd.Zbw (Kd.Zcc (Kd.Zcc (Kd.Zcc (Kd.Zcc (Kd.Zcc ho0 (Kd.R_lt (mvR HO_8.out))) (Kd.R_lt (mvR HO_9.out))) (Kd.R_lt (mvR HO_948001.out))) (Kd.R_lt (mvR HO_948002.out))) (Kd.R_lt (mvR HO986.out))) (Zam (mvB HB.out))); have n11_ := Za.mk (Za9 (g := gb929) (o := .cells #[.slice A0_0 l0_0.length c0_0, .int .i64 a0_1, .slice A0_2 l0_2.length c0_2, .slice A0_3 l0_3.length c0_3, .int .i64 a0_4, .int .i64 a0_5, .slice A0_6 l0_6.length c0_6, .int .i64 a0_7, .slice A0_8 l0_8.length c0_8, .slice A0_9 l0_9.length c0_9] 27 (0, 0)) (mvK BK929.out) hb); have n12_ := Za.mk (Za9 (g := gb947) (o := .cells #[.int .i64 t933, .slice (some ad982) t934.length co13, .slice Ao14 t937.length co14, .int .i64 t940, .int .i64 t941, .slice Ao15 t942.length co15, .int .i64 t945] 25 (0, 0)) (mvK BK947.out) hb); have n13_ := Za.mk (Kd.Zbk (by first | (with_reducible exact HR983_0.out) | (with_reducible exact Kd.Za0 HR983_0.out _) | (with_reducible exact Kd.Zbd HR983_0.out) | repeat (first | (with_reducible exact HR983_0.out) | (with_reducible refine Kd.Za6 ?_ _) | (with_reducible refine Kd.Za0 ?_ _) | (with_reducible refine Kd.Zbd ?_) | exact HR983_0.out)) hb); have n14_ := Za.mk (Kd.Zbk (by first | (with_reducible exact HR989_0.out) | (with_reducible exact Kd.Za0 HR989_0.out _) | (with_reducible exact Kd.Zbd HR989_0.out) | repeat (first | (with_reducible exact HR989_0.out) | (with_reducible refine Kd.Za6 ?_ _) | (with_reducible refine Kd.Za0 ?_ _) | (with_reducible refine Kd.Zbd ?_) | exact HR989_0.out)) hb); have n15_ := Za.mk (Zau (mvB HB.out) hb); clear HO_3; clear HO_6; clear HO_8; clear HO_9; clear HO_948001; clear HO_948002; clear HO_948005; clear HL983_0; clear HO986; clear HL989_0; clear BK929; clear BK947; clear HR983_0; clear HR989_0; clear HB; have HO_3 := n0_; have HO_6 := n1_; have HO_8 := n2_; have HO_9 := n3_; have HO_948001 := n4_; have HO_948002 := n5_; have HO_948005 := n6_; have HL983_0 := n7_; have HO986 := n8_; have HL989_0 := n9_; have HO992 := n10_; have BK929 := n11_; have BK947 := n12_; have HR983_0 := n13_; have HR989_0 := n14_; have HB := n15_; clear n0_ n1_ n2_ n3_ n4_ n5_ n6_ n7_ n8_ n9_ n10_ n11_ n12_ n13_ n14_ n15_; (try clear hb); (try clear hb2); (try clear hk); (try clear hi); (try clear ho0); obtain ⟨Ao91, co91, eo91⟩ := Kd.Zbu HO_9.out; subst eo91) | (go_at_call 38; (with_reducible refine (Zaf.calls k1 _ _ x9_1 t993 _ ?side1 ?side2 A80.out).mono ?_); (case side1 => repeat (first | exact (Kd.Za3 HO_9.out).2.2 | (with_reducible refine Kd.Za6 ?_ _) | (with_reducible refine Kd.Za0 ?_ _) | (with_reducible refine Kd.Zbd ?_))); (case side2 => exact (Kd.Za3 HO_9.out).2.1); rintro e w92 ⟨v994, rfl, ho0, hb⟩; have n0_ := Za.mk (Kd.Zb8 (mvS HO_3.out) hb); have n1_ := Za.mk (Kd.Zb8 (mvS HO_6.out) hb); have n2_ := Za.mk (Kd.Zbr (mvR HO_8.out) (Kd.Zbs ho0) hb); have n3_ := Za.mk (Kd.Zbr (mvR HO_9.out) (Kd.Zbs ho0) hb); have n4_ := Za.mk (Kd.Zbr (mvR HO_948001.out) (Kd.Zbs ho0) hb); have n5_ := Za.mk (Kd.Zbr (mvR HO_948002.out) (Kd.Zbs ho0) hb); have n6_ := Za.mk (Kd.Zcs (mvS HO_948005.out) (Kd.Zbs ho0) hb); have n7_ := Za.mk (Kd.Zbj (mvR HL983_0.out) hb); have n8_ := Za.mk (Kd.Zbr (mvR HO986.out) (Kd.Zbs ho0) hb); have n9_ := Za.mk (Kd.Zbj (mvR HL989_0.out) hb); have n10_ := Za.mk (Kd.Zbr (mvR HO992.out) (Kd.Zbs ho0) hb); have n11_ := Za.mk (Kd.Zbw (Kd.Zcc (Kd.Zcc (Kd.Zcc (Kd.Zcc (Kd.Zcc (Kd.Zcc ho0 (Kd.R_lt (mvR HO_8.out))) (Kd.R_lt (mvR HO_9.out))) (Kd.R_lt (mvR HO_948001.out))) (Kd.R_lt (mvR HO_948002.out))) (Kd.R_lt (mvR HO986.out))) (Kd.R_lt (mvR HO992.out))) (Zam (mvB HB.out))); have n12_ := Za.mk (Za9 (g := gb929) (o := .cells #[.slice A0_0 l0_0.length c0_0, .int .i64 a0_1, .slice A0_2 l0_2.length c0_2, .slice A0_3 l0_3.length c0_3, .int .i64 a0_4, .int .i64 a0_5, .slice A0_6 l0_6.length c0_6, .int .i64 a0_7, .slice A0_8 l0_8.length c0_8, .slice A0_9 l0_9.length c0_9] 27 (0, 0)) (mvK BK929.out) hb); have n13_ := Za.mk (Za9 (g := gb947) (o := .cells #[.int .i64 t933, .slice (some ad982) t934.length co13, .slice Ao14 t937.length co14, .int .i64 t940, .int .i64 t941, .slice Ao15 t942.length co15, .int .i64 t945] 25 (0, 0)) (mvK BK947.out) hb); have n14_ := Za.mk (Kd.Zbk (by first | (with_reducible exact HR983_0.out) | (with_reducible exact Kd.Za0 HR983_0.out _) | (with_reducible exact Kd.Zbd HR983_0.out) | repeat (first | (with_reducible exact HR983_0.out) | (with_reducible refine Kd.Za6 ?_ _) | (with_reducible refine Kd.Za0 ?_ _) | (with_reducible refine Kd.Zbd ?_) | exact HR983_0.out)) hb); have n15_ := Za.mk (Kd.Zbk (by first | (with_reducible exact HR989_0.out) | (with_reducible exact Kd.Za0 HR989_0.out _) | (with_reducible exact Kd.Zbd HR989_0.out) | repeat (first | (with_reducible exact HR989_0.out) | (with_reducible refine Kd.Za6 ?_ _) | (with_reducible refine Kd.Za0 ?_ _) | (with_reducible refine Kd.Zbd ?_) | exact HR989_0.out)) hb); have n16_ := Za.mk (Zau (mvB HB.out) hb); clear HO_3; clear HO_6; clear HO_8; clear HO_9; clear HO_948001; clear HO_948002; clear HO_948005; clear HL983_0; clear HO986; clear HL989_0; clear HO992; clear BK929; clear BK947; clear HR983_0; clear HR989_0; clear HB; have HO_3 := n0_; have HO_6 := n1_; have HO_8 := n2_; have HO_9 := n3_; have HO_948001 := n4_; have HO_948002 := n5_; have HO_948005 := n6_; have HL983_0 := n7_; have HO986 := n8_; have HL989_0 := n9_; have HO992 := n10_; have HO995 := n11_; have BK929 := n12_; have BK947 := n13_; have HR983_0 := n14_; have HR989_0 := n15_; have HB := n16_; clear n0_ n1_ n2_ n3_ n4_ n5_ n6_ n7_ n8_ n9_ n10_ n11_ n12_ n13_ n14_ n15_ n16_; (try clear hb); (try clear hb2); (try clear hk); (try clear hi); (try clear ho0); obtain ⟨Ao93, co93, eo93⟩ := Kd.Zbu HO992.out; subst eo93; obtain ⟨Ao94, co94, eo94⟩ := Kd.Zbu HO995.out; subst eo94) | (go_at_call 28; (with_reducible refine (Za1.calls k1 _ _ t990 _ _ t993 true _ ?side1 ?side2 ?side3 ?side4 A81.out).mono ?_); (case side1 => repeat (first | exact (Kd.Za3 HO992.out).2.2 | (with_reducible refine Kd.Za6 ?_ _) | (with_reducible refine Kd.Za0 ?_ _) | (with_reducible refine Kd.Zbd ?_))); (case side2 => exact (Kd.Za3 HO992.out).2.1); (case side3 => repeat (first | exact (Kd.Za3 HO995.out).2.2 | (with_reducible refine Kd.Za6 ?_ _) | (with_reducible refine Kd.Za0 ?_ _) | (with_reducible refine Kd.Zbd ?_))); (case side4 => exact (Kd.Za3 HO995.out).2.1); rintro e w' ⟨rfl, ⟨nd, rfl⟩⟩) | (go_at_call 34; (with_reducible refine (Za5.calls k1  t997 _ A83.out).mono ?_); rintro e w95 ⟨rfl, hb⟩; have n0_ := Za.mk (Kd.Zb8 (mvS HO_3.out) hb); have n1_ := Za.mk (Kd.Zb8 (mvS HO_6.out) hb); have n2_ := Za.mk (Kd.Zbj (mvR HO_8.out) hb); have n3_ := Za.mk (Kd.Zbj (mvR HO_9.out) hb); have n4_ := Za.mk (Kd.Zbj (mvR HO_948001.out) hb); have n5_ := Za.mk (Kd.Zbj (mvR HO_948002.out) hb); have n6_ := Za.mk (Kd.Zb8 (mvS HO_948005.out) hb); have n7_ := Za.mk (Kd.Zbj (mvR HL983_0.out) hb); have n8_ := Za.mk (Kd.Zbj (mvR HO986.out) hb); have n9_ := Za.mk (Kd.Zbj (mvR HL989_0.out) hb); have n10_ := Za.mk (Kd.Zbj (mvR HO992.out) hb); have n11_ := Za.mk (Kd.Zbj (mvR HO995.out) hb); have n12_ := Za.mk (Za9 (g := gb929) (o := .cells #[.slice A0_0 l0_0.length c0_0, .int .i64 a0_1, .slice A0_2 l0_2.length c0_2, .slice A0_3 l0_3.length c0_3, .int .i64 a0_4, .int .i64 a0_5, .slice A0_6 l0_6.length c0_6, .int .i64 a0_7, .slice A0_8 l0_8.length c0_8, .slice A0_9 l0_9.length c0_9] 27 (0, 0)) (mvK BK929.out) hb); have n13_ := Za.mk (Za9 (g := gb947) (o := .cells #[.int .i64 t933, .slice (some ad982) t934.length co13, .slice Ao14 t937.length co14, .int .i64 t940, .int .i64 t941, .slice Ao15 t942.length co15, .int .i64 t945] 25 (0, 0)) (mvK BK947.out) hb); have n14_ := Za.mk (Kd.Zbk (by first | (with_reducible exact HR983_0.out) | (with_reducible exact Kd.Za0 HR983_0.out _) | (with_reducible exact Kd.Zbd HR983_0.out) | repeat (first | (with_reducible exact HR983_0.out) | (with_reducible refine Kd.Za6 ?_ _) | (with_reducible refine Kd.Za0 ?_ _) | (with_reducible refine Kd.Zbd ?_) | exact HR983_0.out)) hb); have n15_ := Za.mk (Kd.Zbk (by first | (with_reducible exact HR989_0.out) | (with_reducible exact Kd.Za0 HR989_0.out _) | (with_reducible exact Kd.Zbd HR989_0.out) | repeat (first | (with_reducible exact HR989_0.out) | (with_reducible refine Kd.Za6 ?_ _) | (with_reducible refine Kd.Za0 ?_ _) | (with_reducible refine Kd.Zbd ?_) | exact HR989_0.out)) hb); have n16_ := Za.mk (Zau (mvB HB.out) hb); clear HO_3; clear HO_6; clear HO_8; clear HO_9; clear HO_948001; clear HO_948002; clear HO_948005; clear HL983_0; clear HO986; clear HL989_0; clear HO992; clear HO995; clear BK929; clear BK947; clear HR983_0; clear HR989_0; clear HB; have HO_3 := n0_; have HO_6 := n1_; have HO_8 := n2_; have HO_9 := n3_; have HO_948001 := n4_; have HO_948002 := n5_; have HO_948005 := n6_; have HL983_0 := n7_; have HO986 := n8_; have HL989_0 := n9_; have HO992 := n10_; have HO995 := n11_; have BK929 := n12_; have BK947 := n13_; have HR983_0 := n14_; have HR989_0 := n15_; have HB := n16_; clear n0_ n1_ n2_ n3_ n4_ n5_ n6_ n7_ n8_ n9_ n10_ n11_ n12_ n13_ n14_ n15_ n16_; (try clear hb); (try clear hb2); (try clear hk); (try clear hi)))
    go_ret
    exact ⟨by first | rfl | (simp [Zba, Zbb] <;> rfl) | (simp [*, Zba, Zbb] <;> rfl), by repeat (first | (with_reducible first | exact HB.out | apply Zab | apply Zaa | apply Zac | refine Zah ?_ GE929.out | refine Zah ?_ GE947.out) | exact HB.out)⟩
   rw [if_pos c23] at H
   have c23b0 : decide (x10_1 < (wrap64 ((t934.length : Int) - 2))) = true := decide_eq_true c23
   clear c23
   obtain ⟨ji24, hji24⟩ : ∃ j_ : Int, (wrap64 (x10_1 + 2)) = j_ := ⟨_, rfl⟩
   replace H : (if 0 ≤ (ji24) then (if (ji24) < (t934.length : Int) then (if 0 ≤ (rd t934 (ji24)) then (if (rd t934 (ji24)) < (t930.length : Int) then (if 1 < (t934.length : Int) then (if 0 ≤ (rd t934 1) then (if (rd t934 1) < (t930.length : Int) then ((Za4.f k1 (Zcf t930 (rd t934 (ji24))) (Zcf t930 (rd t934 1)) true).bind fun t964 => (if 0 < (t934.length : Int) then (if 0 ≤ (rd t934 0) then (if (rd t934 0) < (t930.length : Int) then ((Zaj.f k1 (Zcf t930 (rd t934 0))).bind fun t969 => ((Zay.f k1 t969 x10_1).bind fun t972 => (if t972 = true then (if (t964.length : Int) > 0 then (if x8_1.length < 17592186044416 then ((Zaj.f k1 t964).bind fun t976 => (if x9_1.length + t976.length < 17592186044416 then (Zad.l0 k1 t930 t949 (x8_1 ++ [x10_1]) (x9_1 ++ t976) (wrap64 (x10_1 + 1)) t933 t934 t937 t940 t941 t942 t945) else (none))) else (none)) else (Zad.l0 k1 t930 t949 x8_1 x9_1 (wrap64 (x10_1 + 1)) t933 t934 t937 t940 t941 t942 t945)) else (Zad.l0 k1 t930 t949 x8_1 x9_1 (wrap64 (x10_1 + 1)) t933 t934 t937 t940 t941 t942 t945)))) else (none)) else (none)) else (none))) else (none)) else (none)) else (none)) else (none)) else (none)) else (none)) else (none)) = some r := by first | (rw [hji24] at H; exact H) | (simp only [hji24] at H ⊢; exact H)
   have hji24w : (IntKind.i64.wrap (x10_1 + 2)) = ji24 := (Zbe _).trans hji24
   by_cases c25 : 0 ≤ (ji24)
   rotate_left
   ·rw [if_neg c25] at H
    exact absurd H (by simp)
   rw [if_pos c25] at H
   have c25b0 : decide (0 ≤ (ji24)) = true := decide_eq_true c25
   clear c25
   by_cases c26 : (ji24) < (t934.length : Int)
   rotate_left
   ·rw [if_neg c26] at H
    exact absurd H (by simp)
   rw [if_pos c26] at H
   have c26b0 : decide ((ji24) < (t934.length : Int)) = true := decide_eq_true c26
   clear c26
   by_cases c27 : 0 ≤ (rd t934 (ji24))
   rotate_left
   ·rw [if_neg c27] at H
    exact absurd H (by simp)
   rw [if_pos c27] at H
   have c27b0 : decide (0 ≤ (rd t934 (ji24))) = true := decide_eq_true c27
   clear c27
   by_cases c28 : (rd t934 (ji24)) < (t930.length : Int)
   rotate_left
   ·rw [if_neg c28] at H
    exact absurd H (by simp)
   rw [if_pos c28] at H
   have c28b0 : decide ((rd t934 (ji24)) < (t930.length : Int)) = true := decide_eq_true c28
   clear c28
   by_cases c29 : 1 < (t934.length : Int)
   rotate_left
   ·rw [if_neg c29] at H
    exact absurd H (by simp)
   rw [if_pos c29] at H
   have c29b0 : decide (1 < (t934.length : Int)) = true := decide_eq_true c29
   have c29b1 : decide (1 < t934.length) = true := decide_eq_true (by omega)
   clear c29
   by_cases c30 : 0 ≤ (rd t934 1)
   rotate_left
   ·rw [if_neg c30] at H
    exact absurd H (by simp)
   rw [if_pos c30] at H
   have c30b0 : decide (0 ≤ (rd t934 1)) = true := decide_eq_true c30
   clear c30
   by_cases c31 : (rd t934 1) < (t930.length : Int)
   rotate_left
   ·rw [if_neg c31] at H
    exact absurd H (by simp)
   rw [if_pos c31] at H
   have c31b0 : decide ((rd t934 1) < (t930.length : Int)) = true := decide_eq_true c31
   clear c31
   replace H := Option.bind_eq_some_iff.mp H
   obtain ⟨t964, A320, H⟩ := H
   replace H : (if 0 < (t934.length : Int) then (if 0 ≤ (rd t934 0) then (if (rd t934 0) < (t930.length : Int) then ((Zaj.f k1 (Zcf t930 (rd t934 0))).bind fun t969 => ((Zay.f k1 t969 x10_1).bind fun t972 => (if t972 = true then (if (t964.length : Int) > 0 then (if x8_1.length < 17592186044416 then ((Zaj.f k1 t964).bind fun t976 => (if x9_1.length + t976.length < 17592186044416 then (Zad.l0 k1 t930 t949 (x8_1 ++ [x10_1]) (x9_1 ++ t976) (wrap64 (x10_1 + 1)) t933 t934 t937 t940 t941 t942 t945) else (none))) else (none)) else (Zad.l0 k1 t930 t949 x8_1 x9_1 (wrap64 (x10_1 + 1)) t933 t934 t937 t940 t941 t942 t945)) else (Zad.l0 k1 t930 t949 x8_1 x9_1 (wrap64 (x10_1 + 1)) t933 t934 t937 t940 t941 t942 t945)))) else (none)) else (none)) else (none)) = some r := H
   have A32 := Za.mk A320
   clear A320
   by_cases c33 : 0 < (t934.length : Int)
   rotate_left
   ·rw [if_neg c33] at H
    exact absurd H (by simp)
   rw [if_pos c33] at H
   have c33b0 : decide (0 < (t934.length : Int)) = true := decide_eq_true c33
   have c33b1 : decide (0 < t934.length) = true := decide_eq_true (by omega)
   clear c33
   by_cases c34 : 0 ≤ (rd t934 0)
   rotate_left
   ·rw [if_neg c34] at H
    exact absurd H (by simp)
   rw [if_pos c34] at H
   have c34b0 : decide (0 ≤ (rd t934 0)) = true := decide_eq_true c34
   clear c34
   by_cases c35 : (rd t934 0) < (t930.length : Int)
   rotate_left
   ·rw [if_neg c35] at H
    exact absurd H (by simp)
   rw [if_pos c35] at H
   have c35b0 : decide ((rd t934 0) < (t930.length : Int)) = true := decide_eq_true c35
   clear c35
   replace H := Option.bind_eq_some_iff.mp H
   obtain ⟨t969, A360, H⟩ := H
   replace H : ((Zay.f k1 t969 x10_1).bind fun t972 => (if t972 = true then (if (t964.length : Int) > 0 then (if x8_1.length < 17592186044416 then ((Zaj.f k1 t964).bind fun t976 => (if x9_1.length + t976.length < 17592186044416 then (Zad.l0 k1 t930 t949 (x8_1 ++ [x10_1]) (x9_1 ++ t976) (wrap64 (x10_1 + 1)) t933 t934 t937 t940 t941 t942 t945) else (none))) else (none)) else (Zad.l0 k1 t930 t949 x8_1 x9_1 (wrap64 (x10_1 + 1)) t933 t934 t937 t940 t941 t942 t945)) else (Zad.l0 k1 t930 t949 x8_1 x9_1 (wrap64 (x10_1 + 1)) t933 t934 t937 t940 t941 t942 t945))) = some r := H
   have A36 := Za.mk A360
   clear A360
   replace H := Option.bind_eq_some_iff.mp H
   obtain ⟨t972, A370, H⟩ := H
   replace H : (if t972 = true then (if (t964.length : Int) > 0 then (if x8_1.length < 17592186044416 then ((Zaj.f k1 t964).bind fun t976 => (if x9_1.length + t976.length < 17592186044416 then (Zad.l0 k1 t930 t949 (x8_1 ++ [x10_1]) (x9_1 ++ t976) (wrap64 (x10_1 + 1)) t933 t934 t937 t940 t941 t942 t945) else (none))) else (none)) else (Zad.l0 k1 t930 t949 x8_1 x9_1 (wrap64 (x10_1 + 1)) t933 t934 t937 t940 t941 t942 t945)) else (Zad.l0 k1 t930 t949 x8_1 x9_1 (wrap64 (x10_1 + 1)) t933 t934 t937 t940 t941 t942 t945)) = some r := H
   have A37 := Za.mk A370
   clear A370
   by_cases c38 : t972 = true
   rotate_left
   ·replace c38 := Bool.eq_false_iff.mpr c38
    subst c38
    have H1 : (Zad.l0 k1 t930 t949 x8_1 x9_1 (wrap64 (x10_1 + 1)) t933 t934 t937 t940 t941 t942 t945) = some r := by rw [if_neg (show ¬ (false = true) by decide)] at H; exact H
    clear H
    have H := H1
    clear H1
    have H' := Za.mk H
    clear H
    have hnb63 := NB947_929.out
    have hnc63 := NB929_947.out
    obtain ⟨hcz64_0, hcz64_1, hcz64_2, hcz64_3, hcz64_4, hcz64_5, hcz64_6, hfz64_0, hfz64_1, hfz64_2, hfz64_3, hfz64_4, hfz64_5, hfz64_6⟩ := Zcw BK947.out
    try go_wp2
    have n0_ := Za.mk (Kd.Zb9 HO_3.out)
    have n1_ := Za.mk (Kd.Zb9 HO_6.out)
    have n2_ := Za.mk (Kd.Zaq HO_8.out)
    have n3_ := Za.mk (Kd.Zaq HO_9.out)
    have n4_ := Za.mk (Kd.Zaq HO_948001.out)
    have n5_ := Za.mk (Kd.Zaq HO_948002.out)
    have n6_ := Za.mk (Kd.Zb9 HO_948005.out)
    have n7_ := Za.mk (Zai BK929.out)
    have n8_ := Za.mk (Zai BK947.out)
    have n9_ := Za.mk (Zac HB.out)
    clear HO_3
    clear HO_6
    clear HO_8
    clear HO_9
    clear HO_948001
    clear HO_948002
    clear HO_948005
    clear BK929
    clear BK947
    clear HB
    have HO_3 := n0_
    have HO_6 := n1_
    have HO_8 := n2_
    have HO_9 := n3_
    have HO_948001 := n4_
    have HO_948002 := n5_
    have HO_948005 := n6_
    have BK929 := n7_
    have BK947 := n8_
    have HB := n9_
    clear n0_ n1_ n2_ n3_ n4_ n5_ n6_ n7_ n8_ n9_
    have p960 : 0 ≤ ((ji24) : Int) := of_decide_eq_true (by first | (with_reducible assumption) | assumption)
    have q960 : (ji24) < (t934.length : Int) := of_decide_eq_true (by first | (with_reducible assumption) | assumption)
    obtain ⟨ad960, e960, hx960_0⟩ := Kd.Zb7 (Kd.Za3 HO_948001.out).2.2 (ji24) p960 q960
    cases e960
    replace p960 := eq_true p960
    replace q960 := eq_true q960
    have p961 : 0 ≤ ((rd t934 (ji24)) : Int) := of_decide_eq_true (by first | (with_reducible assumption) | assumption)
    have q961 : (rd t934 (ji24)) < (t930.length : Int) := of_decide_eq_true (by first | (with_reducible assumption) | assumption)
    obtain ⟨ad961, A961_0, c961_0, e961, hx961_0, hl961_0, hi961_0⟩ := Zd9 (Kd.Zc HO_3.out).2.2 (rd t934 (ji24)) p961 q961
    cases e961
    obtain ⟨ce961, hce961, hMe961, hcc961⟩ := Kd.Zf3 HO_3.out [] (rd t934 (ji24)) p961 (by first | exact q961 | exact of_decide_eq_true (by first | (with_reducible assumption) | assumption) | (have e_ := (Kd.Zc HO_3.out).1; omega))
    obtain ⟨ve961_0, rfl, ge961_0⟩ := hMe961
    have hv961_0 := hcc961 0 _ rfl
    rw [Nat.add_zero, show ((Kd.slice 41 k41)).sz = 1 from rfl, Nat.mul_one] at hv961_0
    replace hv961_0 := Option.some.inj (hv961_0.symm.trans hx961_0)
    rw [hv961_0] at ge961_0
    have HL961_0 := Za.mk (show Kd.R k41 41 _ _ _ _ (Zcf t930 (rd t934 (ji24))) from ge961_0)
    clear hv961_0 ge961_0
    clear hcc961 hce961
    have HR961_0 := Za.mk hi961_0
    have HC961_0 := Za.mk hl961_0
    clear hi961_0 hl961_0
    replace p961 := eq_true p961
    replace q961 := eq_true q961
    have p962 : 0 ≤ (1 : Int) := (by omega)
    have q962 : 1 < (t934.length : Int) := of_decide_eq_true (by first | (with_reducible assumption) | assumption)
    obtain ⟨ad962, e962, hx962_0⟩ := Kd.Zb7 (Kd.Za3 HO_948001.out).2.2 1 p962 q962
    obtain rfl : ad960 = ad962 := (by injection e962)
    (try simp only [show (1 : Int).toNat = 1 from rfl, Nat.reduceMul, Nat.reduceEqDiff, Go.Addr.add, ↓reduceIte] at hx962_0)
    have qi962 : (1 < t934.length) = True := eq_true (by omega)
    (try rw [show ((1 : Int)).toNat = 1 from rfl] at hx962_0)
    replace p962 := eq_true p962
    replace q962 := eq_true q962
    have p963 : 0 ≤ ((rd t934 1) : Int) := of_decide_eq_true (by first | (with_reducible assumption) | assumption)
    have q963 : (rd t934 1) < (t930.length : Int) := of_decide_eq_true (by first | (with_reducible assumption) | assumption)
    obtain ⟨ad963, A963_0, c963_0, e963, hx963_0, hl963_0, hi963_0⟩ := Zd9 (Kd.Zc HO_3.out).2.2 (rd t934 1) p963 q963
    obtain rfl : ad961 = ad963 := (by injection e963)
    obtain ⟨ce963, hce963, hMe963, hcc963⟩ := Kd.Zf3 HO_3.out [] (rd t934 1) p963 (by first | exact q963 | exact of_decide_eq_true (by first | (with_reducible assumption) | assumption) | (have e_ := (Kd.Zc HO_3.out).1; omega))
    obtain ⟨ve963_0, rfl, ge963_0⟩ := hMe963
    have hv963_0 := hcc963 0 _ rfl
    rw [Nat.add_zero, show ((Kd.slice 41 k41)).sz = 1 from rfl, Nat.mul_one] at hv963_0
    replace hv963_0 := Option.some.inj (hv963_0.symm.trans hx963_0)
    rw [hv963_0] at ge963_0
    have HL963_0 := Za.mk (show Kd.R k41 41 _ _ _ _ (Zcf t930 (rd t934 1)) from ge963_0)
    clear hv963_0 ge963_0
    clear hcc963 hce963
    have HR963_0 := Za.mk hi963_0
    have HC963_0 := Za.mk hl963_0
    clear hi963_0 hl963_0
    replace p963 := eq_true p963
    replace q963 := eq_true q963
    refine Zd2 (n := 18) (S := fun w' => w'.cell? ⟨gb947, 0, none⟩ = some (.int .i64 t933) ∧ w'.cell? ⟨gb947, 1, none⟩ = some (.slice (some ad960) t934.length co13) ∧ w'.cell? ⟨gb947, 2, none⟩ = some (.slice Ao14 t937.length co14) ∧ w'.cell? ⟨gb947, 3, none⟩ = some (.int .i64 t940) ∧ w'.cell? ⟨gb947, 4, none⟩ = some (.int .i64 t941) ∧ w'.cell? ⟨gb947, 5, none⟩ = some (.slice Ao15 t942.length co15) ∧ w'.cell? ⟨gb947, 6, none⟩ = some (.int .i64 t945) ∧ w'.cell? (ad960.add ((ji24)).toNat) = some (.int .i64 (rd t934 (ji24))) ∧ w'.cell? (ad961.add ((rd t934 (ji24))).toNat) = some (.slice A961_0 (Zcf t930 (rd t934 (ji24))).length c961_0) ∧ w'.cell? ⟨ad960.block, ad960.off + 1, none⟩ = some (.int .i64 (rd t934 1)) ∧ w'.cell? (ad961.add ((rd t934 1)).toNat) = some (.slice A963_0 (Zcf t930 (rd t934 1)).length c963_0)) (ds := []) #[false, false, false, false, false, false, false, false, false, false, false, false, false, false, false, false, false, false] (by kernel_rfl) rfl rfl ⟨(Zax BK947.out 0).trans rfl, (Zax BK947.out 1).trans rfl, (Zax BK947.out 2).trans rfl, (Zax BK947.out 3).trans rfl, (Zax BK947.out 4).trans rfl, (Zax BK947.out 5).trans rfl, (Zax BK947.out 6).trans rfl, hx960_0, hx961_0, hx962_0, hx963_0⟩ (fun hHeld => ?_); refine Zc6 Zad.tab13 Zad.bits13 (fun HT_ HW_ => ?_)
    generalize wr.drew = w65 at HO_3 HO_6 HO_8 HO_9 HO_948001 HO_948002 HO_948005 BK929 BK947 HB HL961_0 HL963_0 HR961_0 HR963_0 hx960_0 hx961_0 hx962_0 hx963_0 hHeld ⊢
    refine Zbo (i := 0) (N := some 50) (v := ?_) (a' := ?_) #[true, false, false, false, false, false, false, false, false, false, false, false, false, false, false, false, false, false] rfl rfl (Zbc HT_.out (by kernel_rfl)) (fun _ _ _ h => h) (Or.inl ⟨by rfl, ?_⟩) ?_ ?_
    rotate_left
    ·intro w'
     go_simp
     with_reducible rfl
    rotate_left
    ·simp only [Act.put, List.setIfInBounds_toArray, List.set_cons_zero, List.set_cons_succ, Zbe, Zbg]
     rfl
    refine Zbo (i := 1) (N := some 51) (v := ?_) (a' := ?_) #[true, true, false, false, false, false, false, false, false, false, false, false, false, false, false, false, false, false] rfl rfl (Zbc HT_.out (by kernel_rfl)) (fun _ _ _ h => h) (Or.inl ⟨by rfl, ?_⟩) ?_ ?_
    rotate_left
    ·intro w'
     go_simp
     with_reducible rfl
    rotate_left
    ·simp only [Act.put, List.setIfInBounds_toArray, List.set_cons_zero, List.set_cons_succ, Zbe, Zbg]
     rfl
    refine Zbo (i := 3) (N := some 53) (v := ?_) (a' := ?_) #[true, true, false, true, false, false, false, false, false, false, false, false, false, false, false, false, false, false] rfl rfl (Zbc HT_.out (by kernel_rfl)) (fun _ _ _ h => h) (Or.inl ⟨by rfl, ?_⟩) ?_ ?_
    rotate_left
    ·intro w'
     go_simp
     with_reducible rfl
    rotate_left
    ·simp only [Act.put, List.setIfInBounds_toArray, List.set_cons_zero, List.set_cons_succ, Zbe, Zbg]
     rfl
    refine Zbo (i := 4) (N := some 54) (v := ?_) (a' := ?_) #[true, true, false, true, true, false, false, false, false, false, false, false, false, false, false, false, false, false] rfl rfl (Zbc HT_.out (by kernel_rfl)) (fun _ _ _ h => h) (Or.inl ⟨by rfl, ?_⟩) ?_ ?_
    rotate_left
    ·intro w'
     go_simp
     with_reducible rfl
    rotate_left
    ·simp only [Act.put, List.setIfInBounds_toArray, List.set_cons_zero, List.set_cons_succ, Zbe, Zbg]
     rfl
    refine Zbo (i := 9) (N := some 59) (v := ?_) (a' := ?_) #[true, true, false, true, true, false, false, false, false, true, false, false, false, false, false, false, false, false] rfl rfl (Zbc HT_.out (by kernel_rfl)) (fun _ _ _ h => h) (Or.inl ⟨by rfl, ?_⟩) ?_ ?_
    rotate_left
    ·intro w'
     go_simp
     with_reducible rfl
    rotate_left
    ·simp only [Act.put, List.setIfInBounds_toArray, List.set_cons_zero, List.set_cons_succ, Zbe, Zbg]
     rfl
    refine Zbo (i := 10) (N := some 60) (v := ?_) (a' := ?_) #[true, true, false, true, true, false, false, false, false, true, true, false, false, false, false, false, false, false] rfl rfl (Zbc HT_.out (by kernel_rfl)) (fun _ _ _ h => h) (Or.inl ⟨by rfl, ?_⟩) ?_ ?_
    rotate_left
    ·intro w'
     go_simp
     with_reducible rfl
    rotate_left
    ·simp only [Act.put, List.setIfInBounds_toArray, List.set_cons_zero, List.set_cons_succ, Zbe, Zbg]
     rfl
    refine Zd (i := 2) (N := some 52) (v := ?_) (a' := ?_) #[true, true, true, true, true, false, false, false, false, true, true, false, false, false, false, false, false, false] rfl rfl (Zca HT_.out HW_.out (by kernel_rfl)) (fun _ _ _ h => h) (Or.inl ⟨by rfl, ?_⟩) hHeld ?_ ?_
    rotate_left
    ·rintro w' ⟨s0, s1, s2, s3, s4, s5, s6, s7, s8, s9, s10⟩
     go_simp
     with_reducible rfl
    rotate_left
    ·simp only [Act.put, List.setIfInBounds_toArray, List.set_cons_zero, List.set_cons_succ, Zbe, Zbg]
     rfl
    refine Zbo (i := 5) (N := some 55) (v := ?_) (a' := ?_) #[true, true, true, true, true, true, false, false, false, true, true, false, false, false, false, false, false, false] rfl rfl (Zbc HT_.out (by kernel_rfl)) (fun _ _ _ h => h) (Or.inl ⟨by rfl, ?_⟩) ?_ ?_
    rotate_left
    ·intro w'
     go_simp
     with_reducible rfl
    rotate_left
    ·simp only [Act.put, List.setIfInBounds_toArray, List.set_cons_zero, List.set_cons_succ, Zbe, Zbg]
     rfl
    refine Zd (i := 6) (N := some 56) (v := ?_) (a' := ?_) #[true, true, true, true, true, true, true, false, false, true, true, false, false, false, false, false, false, false] rfl rfl (Zca HT_.out HW_.out (by kernel_rfl)) (fun _ _ _ h => h) (Or.inl ⟨by rfl, ?_⟩) hHeld ?_ ?_
    rotate_left
    ·rintro w' ⟨s0, s1, s2, s3, s4, s5, s6, s7, s8, s9, s10⟩
     go_simp
     with_reducible rfl
    rotate_left
    ·simp only [Act.put, List.setIfInBounds_toArray, List.set_cons_zero, List.set_cons_succ, Zbe, Zbg]
     rfl
    refine Zbo (i := 7) (N := some 57) (v := ?_) (a' := ?_) #[true, true, true, true, true, true, true, true, false, true, true, false, false, false, false, false, false, false] rfl rfl (Zbc HT_.out (by kernel_rfl)) (fun _ _ _ h => h) (Or.inl ⟨by rfl, ?_⟩) ?_ ?_
    rotate_left
    ·intro w'
     go_simp
     with_reducible rfl
    rotate_left
    ·simp only [Act.put, List.setIfInBounds_toArray, List.set_cons_zero, List.set_cons_succ, Zbe, Zbg]
     rfl
    refine Zd (i := 8) (N := some 58) (v := ?_) (a' := ?_) #[true, true, true, true, true, true, true, true, true, true, true, false, false, false, false, false, false, false] rfl rfl (Zca HT_.out HW_.out (by kernel_rfl)) (fun _ _ _ h => h) (Or.inl ⟨by rfl, ?_⟩) hHeld ?_ ?_
    rotate_left
    ·rintro w' ⟨s0, s1, s2, s3, s4, s5, s6, s7, s8, s9, s10⟩
     go_simp
     with_reducible rfl
    rotate_left
    ·simp only [Act.put, List.setIfInBounds_toArray, List.set_cons_zero, List.set_cons_succ, Zbe, Zbg]
     rfl
    refine Zd (i := 11) (N := some 61) (v := ?_) (a' := ?_) #[true, true, true, true, true, true, true, true, true, true, true, true, false, false, false, false, false, false] rfl rfl (Zca HT_.out HW_.out (by kernel_rfl)) (fun _ _ _ h => h) (Or.inl ⟨by rfl, ?_⟩) hHeld ?_ ?_
    rotate_left
    ·rintro w' ⟨s0, s1, s2, s3, s4, s5, s6, s7, s8, s9, s10⟩
     go_simp
     with_reducible rfl
    rotate_left
    ·simp only [Act.put, List.setIfInBounds_toArray, List.set_cons_zero, List.set_cons_succ, Zbe, Zbg]
     rfl
    refine Zbo (i := 12) (N := some 62) (v := ?_) (a' := ?_) #[true, true, true, true, true, true, true, true, true, true, true, true, true, false, false, false, false, false] rfl rfl (Zbc HT_.out (by kernel_rfl)) (fun _ _ _ h => h) (Or.inl ⟨by rfl, ?_⟩) ?_ ?_
    rotate_left
    ·intro w'
     go_simp
     with_reducible rfl
    rotate_left
    ·simp only [Act.put, List.setIfInBounds_toArray, List.set_cons_zero, List.set_cons_succ, Zbe, Zbg]
     rfl
    refine Zd (i := 13) (N := some 63) (v := ?_) (a' := ?_) #[true, true, true, true, true, true, true, true, true, true, true, true, true, true, false, false, false, false] rfl rfl (Zca HT_.out HW_.out (by kernel_rfl)) (fun _ _ _ h => h) (Or.inl ⟨by rfl, ?_⟩) hHeld ?_ ?_
    rotate_left
    ·rintro w' ⟨s0, s1, s2, s3, s4, s5, s6, s7, s8, s9, s10⟩
     go_simp
     with_reducible rfl
    rotate_left
    ·simp only [Act.put, List.setIfInBounds_toArray, List.set_cons_zero, List.set_cons_succ, Zbe, Zbg]
     rfl
    refine Zbo (i := 14) (N := some 64) (v := ?_) (a' := ?_) #[true, true, true, true, true, true, true, true, true, true, true, true, true, true, true, false, false, false] rfl rfl (Zbc HT_.out (by kernel_rfl)) (fun _ _ _ h => h) (Or.inl ⟨by rfl, ?_⟩) ?_ ?_
    rotate_left
    ·intro w'
     go_simp
     with_reducible rfl
    rotate_left
    ·simp only [Act.put, List.setIfInBounds_toArray, List.set_cons_zero, List.set_cons_succ, Zbe, Zbg]
     rfl
    refine Zd (i := 15) (N := some 65) (v := ?_) (a' := ?_) #[true, true, true, true, true, true, true, true, true, true, true, true, true, true, true, true, false, false] rfl rfl (Zca HT_.out HW_.out (by kernel_rfl)) (fun _ _ _ h => h) (Or.inl ⟨by rfl, ?_⟩) hHeld ?_ ?_
    rotate_left
    ·rintro w' ⟨s0, s1, s2, s3, s4, s5, s6, s7, s8, s9, s10⟩
     go_simp
     with_reducible rfl
    rotate_left
    ·simp only [Act.put, List.setIfInBounds_toArray, List.set_cons_zero, List.set_cons_succ, Zbe, Zbg]
     rfl
    refine one_ (i := 16) (N := some 66) #[true, true, true, true, true, true, true, true, true, true, true, true, true, true, true, true, true, false] rfl rfl (Zd1 HT_.out (by kernel_rfl)) (by decide) (fun K hK => ?_)
    refine goes_ Try.func37 (by kernel_rfl) rfl #[.slice A961_0 (Zcf t930 (rd t934 (ji24))).length c961_0, .slice A963_0 (Zcf t930 (rd t934 1)).length c963_0, .bool true] (by rfl) rfl rfl (by (try simp only [List.map_toArray, List.map_cons, List.map_nil]); first | done | (simp only [hji24]; rfl) | rfl | (simp only [List.length_drop, List.length_take]; rfl)) ?_
    with_reducible refine (Za4.calls k1 _ _ (Zcf t930 (rd t934 (ji24))) _ _ (Zcf t930 (rd t934 1)) true t964 _ ?side1 ?side2 ?side3 ?side4 A32.out).mono ?_
    (case side1 => repeat (first | exact (by repeat (first | (with_reducible exact HR961_0.out) | (with_reducible refine Kd.Za6 ?_ _) | (with_reducible refine Kd.Za0 ?_ _) | (with_reducible refine Kd.Zbd ?_) | exact HR961_0.out)) | (with_reducible refine Kd.Za6 ?_ _) | (with_reducible refine Kd.Za0 ?_ _) | (with_reducible refine Kd.Zbd ?_)))
    (case side2 => exact HC961_0.out)
    (case side3 => repeat (first | exact (by repeat (first | (with_reducible exact HR963_0.out) | (with_reducible refine Kd.Za6 ?_ _) | (with_reducible refine Kd.Za0 ?_ _) | (with_reducible refine Kd.Zbd ?_) | exact HR963_0.out)) | (with_reducible refine Kd.Za6 ?_ _) | (with_reducible refine Kd.Za0 ?_ _) | (with_reducible refine Kd.Zbd ?_)))
    (case side4 => exact HC963_0.out)
    rintro e w66 ⟨v965, rfl, ho0, hb⟩
    have HS7_ := (hb.cell (World.block_lt_of_cell? _ _ (hHeld.2.2.2.2.2.2.2.1))).trans (hHeld.2.2.2.2.2.2.2.1)
    have HS8_ := (hb.cell (World.block_lt_of_cell? _ _ (hHeld.2.2.2.2.2.2.2.2.1))).trans (hHeld.2.2.2.2.2.2.2.2.1)
    have HS9_ := (hb.cell (World.block_lt_of_cell? _ _ (hHeld.2.2.2.2.2.2.2.2.2.1))).trans (hHeld.2.2.2.2.2.2.2.2.2.1)
    have HS10_ := (hb.cell (World.block_lt_of_cell? _ _ (hHeld.2.2.2.2.2.2.2.2.2.2))).trans (hHeld.2.2.2.2.2.2.2.2.2.2)
    refine ⟨_, rfl, ?_⟩
    have n0_ := Za.mk (Kd.Zcs (mvS HO_3.out) (Kd.Zbs ho0) hb)
    have n1_ := Za.mk (Kd.Zcs (mvS HO_6.out) (Kd.Zbs ho0) hb)
    have n2_ := Za.mk (Kd.Zbj (mvR HO_8.out) hb)
    have n3_ := Za.mk (Kd.Zbj (mvR HO_9.out) hb)
    have n4_ := Za.mk (Kd.Zbj (mvR HO_948001.out) hb)
    have n5_ := Za.mk (Kd.Zbj (mvR HO_948002.out) hb)
    have n6_ := Za.mk (Kd.Zb8 (mvS HO_948005.out) hb)
    have n7_ := Za.mk (Kd.Zbr (mvR HL961_0.out) (Kd.Zbs ho0) hb)
    have n8_ := Za.mk (Kd.Zbr (mvR HL963_0.out) (Kd.Zbs ho0) hb)
    have n9_ := Za.mk (Kd.Zbw (Kd.Zcc (Kd.Zcc ho0 (Kd.R_lt (mvR HL961_0.out))) (Kd.R_lt (mvR HL963_0.out))) (Zam (mvB HB.out)))
    have n10_ := Za.mk (Za9 (g := gb929) (o := .cells #[.slice A0_0 l0_0.length c0_0, .int .i64 a0_1, .slice A0_2 l0_2.length c0_2, .slice A0_3 l0_3.length c0_3, .int .i64 a0_4, .int .i64 a0_5, .slice A0_6 l0_6.length c0_6, .int .i64 a0_7, .slice A0_8 l0_8.length c0_8, .slice A0_9 l0_9.length c0_9] 27 (0, 0)) (mvK BK929.out) hb)
    have n11_ := Za.mk (Za9 (g := gb947) (o := .cells #[.int .i64 t933, .slice (some ad960) t934.length co13, .slice Ao14 t937.length co14, .int .i64 t940, .int .i64 t941, .slice Ao15 t942.length co15, .int .i64 t945] 25 (0, 0)) (mvK BK947.out) hb)
    have n12_ := Za.mk (Kd.Zbk (by first | (with_reducible exact HR961_0.out) | (with_reducible exact Kd.Za0 HR961_0.out _) | (with_reducible exact Kd.Zbd HR961_0.out) | repeat (first | (with_reducible exact HR961_0.out) | (with_reducible refine Kd.Za6 ?_ _) | (with_reducible refine Kd.Za0 ?_ _) | (with_reducible refine Kd.Zbd ?_) | exact HR961_0.out)) hb)
    have n13_ := Za.mk (Kd.Zbk (by first | (with_reducible exact HR963_0.out) | (with_reducible exact Kd.Za0 HR963_0.out _) | (with_reducible exact Kd.Zbd HR963_0.out) | repeat (first | (with_reducible exact HR963_0.out) | (with_reducible refine Kd.Za6 ?_ _) | (with_reducible refine Kd.Za0 ?_ _) | (with_reducible refine Kd.Zbd ?_) | exact HR963_0.out)) hb)
    have n14_ := Za.mk (Zau (mvB HB.out) hb)
    clear HO_3
    clear HO_6
    clear HO_8
    clear HO_9
    clear HO_948001
    clear HO_948002
    clear HO_948005
    clear HL961_0
    clear HL963_0
    clear BK929
    clear BK947
    clear HR961_0
    clear HR963_0
    clear HB
    have HO_3 := n0_
    have HO_6 := n1_
    have HO_8 := n2_
    have HO_9 := n3_
    have HO_948001 := n4_
    have HO_948002 := n5_
    have HO_948005 := n6_
    have HL961_0 := n7_
    have HL963_0 := n8_
    have HO966 := n9_
    have BK929 := n10_
    have BK947 := n11_
    have HR961_0 := n12_
    have HR963_0 := n13_
    have HB := n14_
    clear n0_ n1_ n2_ n3_ n4_ n5_ n6_ n7_ n8_ n9_ n10_ n11_ n12_ n13_ n14_
    (try clear hb)
    (try clear hb2)
    (try clear hk)
    (try clear hi)
    (try clear ho0)
    refine hK.out _ _ ⟨(Zax BK947.out 0).trans rfl, (Zax BK947.out 1).trans rfl, (Zax BK947.out 2).trans rfl, (Zax BK947.out 3).trans rfl, (Zax BK947.out 4).trans rfl, (Zax BK947.out 5).trans rfl, (Zax BK947.out 6).trans rfl, HS7_, HS8_, HS9_, HS10_⟩ (fun hHeld => ?_)
    clear hK K
    refine Zfv (a' := ?_) ?_ ?_
    rotate_left
    ·show Act.put _ (some 66) _ = _
     simp only [Act.put, List.setIfInBounds_toArray, List.set_cons_zero, List.set_cons_succ, Zbe, Zbg]
     rfl
    refine Zbo (i := 17) (N := some 11) (v := ?_) (a' := ?_) #[true, true, true, true, true, true, true, true, true, true, true, true, true, true, true, true, true, true] rfl rfl (Zbc HT_.out (by kernel_rfl)) (fun _ _ _ h => h) (Or.inl ⟨by rfl, ?_⟩) ?_ ?_
    rotate_left
    ·intro w'
     go_simp
     with_reducible rfl
    rotate_left
    ·simp only [Act.put, List.setIfInBounds_toArray, List.set_cons_zero, List.set_cons_succ, Zbe, Zbg]
     rfl
    refine Ze0 (Zdm HT_.out (by kernel_rfl)) ?_
    obtain ⟨hcz67_0, hcz67_1, hcz67_2, hcz67_3, hcz67_4, hcz67_5, hcz67_6, hfz67_0, hfz67_1, hfz67_2, hfz67_3, hfz67_4, hfz67_5, hfz67_6⟩ := Zcw BK947.out
    have p967 : 0 ≤ (0 : Int) := (by omega)
    have q967 : 0 < (t934.length : Int) := of_decide_eq_true (by first | (with_reducible assumption) | assumption)
    obtain ⟨ad967, e967, hx967_0⟩ := Kd.Zb7 (Kd.Za3 HO_948001.out).2.2 0 p967 q967
    obtain rfl : ad960 = ad967 := (by injection e967)
    have qi967 : (0 < t934.length) = True := eq_true (by omega)
    (try rw [show ((0 : Int)).toNat = 0 from rfl] at hx967_0)
    (try rw [Addr.add_zero'] at hx967_0)
    replace p967 := eq_true p967
    replace q967 := eq_true q967
    have p968 : 0 ≤ ((rd t934 0) : Int) := of_decide_eq_true (by first | (with_reducible assumption) | assumption)
    have q968 : (rd t934 0) < (t930.length : Int) := of_decide_eq_true (by first | (with_reducible assumption) | assumption)
    obtain ⟨ad968, A968_0, c968_0, e968, hx968_0, hl968_0, hi968_0⟩ := Zd9 (Kd.Zc HO_3.out).2.2 (rd t934 0) p968 q968
    obtain rfl : ad961 = ad968 := (by injection e968)
    obtain ⟨ce968, hce968, hMe968, hcc968⟩ := Kd.Zf3 HO_3.out [] (rd t934 0) p968 (by first | exact q968 | exact of_decide_eq_true (by first | (with_reducible assumption) | assumption) | (have e_ := (Kd.Zc HO_3.out).1; omega))
    obtain ⟨ve968_0, rfl, ge968_0⟩ := hMe968
    have hv968_0 := hcc968 0 _ rfl
    rw [Nat.add_zero, show ((Kd.slice 41 k41)).sz = 1 from rfl, Nat.mul_one] at hv968_0
    replace hv968_0 := Option.some.inj (hv968_0.symm.trans hx968_0)
    rw [hv968_0] at ge968_0
    have HL968_0 := Za.mk (show Kd.R k41 41 _ _ _ _ (Zcf t930 (rd t934 0)) from ge968_0)
    clear hv968_0 ge968_0
    clear hcc968 hce968
    have HR968_0 := Za.mk hi968_0
    have HC968_0 := Za.mk hl968_0
    clear hi968_0 hl968_0
    replace p968 := eq_true p968
    replace q968 := eq_true q968
    try go_wp2_with (first | ((with_reducible refine Zbn (f := 29) rfl ?_); refine Zcp (some 74) rfl rfl Try.func29 (by kernel_rfl) rfl #[.slice A968_0 (Zcf t930 (rd t934 0)).length c968_0] rfl (by (try simp only [List.map_toArray, List.map_cons, List.map_nil]); first | done | rfl | (simp only [List.length_drop, List.length_take]; rfl)) ?_; (with_reducible refine (Zaj.calls k1 _ _ (Zcf t930 (rd t934 0)) t969 _ ?side1 ?side2 A36.out).mono ?_); (case side1 => repeat (first | exact (by repeat (first | (with_reducible exact HR968_0.out) | (with_reducible refine Kd.Za6 ?_ _) | (with_reducible refine Kd.Za0 ?_ _) | (with_reducible refine Kd.Zbd ?_) | exact HR968_0.out)) | (with_reducible refine Kd.Za6 ?_ _) | (with_reducible refine Kd.Za0 ?_ _) | (with_reducible refine Kd.Zbd ?_))); (case side2 => exact HC968_0.out); rintro e w68 ⟨v970, rfl, ho0, hb⟩; refine ⟨_, rfl, ?_⟩; have n0_ := Za.mk (Kd.Zb8 (mvS HO_3.out) hb); have n1_ := Za.mk (Kd.Zb8 (mvS HO_6.out) hb); have n2_ := Za.mk (Kd.Zbr (mvR HO_8.out) (Kd.Zbs ho0) hb); have n3_ := Za.mk (Kd.Zbr (mvR HO_9.out) (Kd.Zbs ho0) hb); have n4_ := Za.mk (Kd.Zbr (mvR HO_948001.out) (Kd.Zbs ho0) hb); have n5_ := Za.mk (Kd.Zbr (mvR HO_948002.out) (Kd.Zbs ho0) hb); have n6_ := Za.mk (Kd.Zcs (mvS HO_948005.out) (Kd.Zbs ho0) hb); have n7_ := Za.mk (Kd.Zbj (mvR HL961_0.out) hb); have n8_ := Za.mk (Kd.Zbj (mvR HL963_0.out) hb); have n9_ := Za.mk (Kd.Zbj (mvR HO966.out) hb); have n10_ := Za.mk (Kd.Zbj (mvR HL968_0.out) hb); have n11_ := Za.mk (Kd.Zbw (Kd.Zcc (Kd.Zcc (Kd.Zcc (Kd.Zcc ho0 (Kd.R_lt (mvR HO_8.out))) (Kd.R_lt (mvR HO_9.out))) (Kd.R_lt (mvR HO_948001.out))) (Kd.R_lt (mvR HO_948002.out))) (Zam (mvB HB.out))); have n12_ := Za.mk (Za9 (g := gb929) (o := .cells #[.slice A0_0 l0_0.length c0_0, .int .i64 a0_1, .slice A0_2 l0_2.length c0_2, .slice A0_3 l0_3.length c0_3, .int .i64 a0_4, .int .i64 a0_5, .slice A0_6 l0_6.length c0_6, .int .i64 a0_7, .slice A0_8 l0_8.length c0_8, .slice A0_9 l0_9.length c0_9] 27 (0, 0)) (mvK BK929.out) hb); have n13_ := Za.mk (Za9 (g := gb947) (o := .cells #[.int .i64 t933, .slice (some ad960) t934.length co13, .slice Ao14 t937.length co14, .int .i64 t940, .int .i64 t941, .slice Ao15 t942.length co15, .int .i64 t945] 25 (0, 0)) (mvK BK947.out) hb); have n14_ := Za.mk (Kd.Zbk (by first | (with_reducible exact HR961_0.out) | (with_reducible exact Kd.Za0 HR961_0.out _) | (with_reducible exact Kd.Zbd HR961_0.out) | repeat (first | (with_reducible exact HR961_0.out) | (with_reducible refine Kd.Za6 ?_ _) | (with_reducible refine Kd.Za0 ?_ _) | (with_reducible refine Kd.Zbd ?_) | exact HR961_0.out)) hb); have n15_ := Za.mk (Kd.Zbk (by first | (with_reducible exact HR963_0.out) | (with_reducible exact Kd.Za0 HR963_0.out _) | (with_reducible exact Kd.Zbd HR963_0.out) | repeat (first | (with_reducible exact HR963_0.out) | (with_reducible refine Kd.Za6 ?_ _) | (with_reducible refine Kd.Za0 ?_ _) | (with_reducible refine Kd.Zbd ?_) | exact HR963_0.out)) hb); have n16_ := Za.mk (Kd.Zbk (by first | (with_reducible exact HR968_0.out) | (with_reducible exact Kd.Za0 HR968_0.out _) | (with_reducible exact Kd.Zbd HR968_0.out) | repeat (first | (with_reducible exact HR968_0.out) | (with_reducible refine Kd.Za6 ?_ _) | (with_reducible refine Kd.Za0 ?_ _) | (with_reducible refine Kd.Zbd ?_) | exact HR968_0.out)) hb); have n17_ := Za.mk (Zau (mvB HB.out) hb); clear HO_3; clear HO_6; clear HO_8; clear HO_9; clear HO_948001; clear HO_948002; clear HO_948005; clear HL961_0; clear HL963_0; clear HO966; clear HL968_0; clear BK929; clear BK947; clear HR961_0; clear HR963_0; clear HR968_0; clear HB; have HO_3 := n0_; have HO_6 := n1_; have HO_8 := n2_; have HO_9 := n3_; have HO_948001 := n4_; have HO_948002 := n5_; have HO_948005 := n6_; have HL961_0 := n7_; have HL963_0 := n8_; have HO966 := n9_; have HL968_0 := n10_; have HO971 := n11_; have BK929 := n12_; have BK947 := n13_; have HR961_0 := n14_; have HR963_0 := n15_; have HR968_0 := n16_; have HB := n17_; clear n0_ n1_ n2_ n3_ n4_ n5_ n6_ n7_ n8_ n9_ n10_ n11_ n12_ n13_ n14_ n15_ n16_ n17_; (try clear hb); (try clear hb2); (try clear hk); (try clear hi); (try clear ho0); obtain ⟨Ao69, co69, eo69⟩ := Kd.Zbu HO971.out; subst eo69) | ((with_reducible refine Zbn (f := 31) rfl ?_); refine Zcp (some 76) rfl rfl Try.func31 (by kernel_rfl) rfl #[.slice Ao69 t969.length co69, .int .i64 x10_1] rfl (by (try simp only [List.map_toArray, List.map_cons, List.map_nil]); first | done | rfl | (simp only [List.length_drop, List.length_take]; rfl)) ?_; (with_reducible refine (Zay.calls k1 _ _ t969 x10_1 false _ ?side1 ?side2 A37.out).mono ?_); (case side1 => repeat (first | exact (Kd.Za3 HO971.out).2.2 | (with_reducible refine Kd.Za6 ?_ _) | (with_reducible refine Kd.Za0 ?_ _) | (with_reducible refine Kd.Zbd ?_))); (case side2 => exact (Kd.Za3 HO971.out).2.1); rintro e w' ⟨rfl, ⟨nd, rfl⟩⟩; refine ⟨_, rfl, ?_⟩))
    go_roundg k1
    case measure => have := HK1.out; omega
    case rel => exact ⟨(x8_1), (x9_1), (wrap64 (x10_1 + 1)), (by first | rfl | (simp; done) | (simp [*]; done)), H', ⟨by have := HK1.out; omega⟩, ⟨by (with_reducible repeat (first | apply Kd.Zb5 | apply Kd.Zb6 | apply Kd.Zb9)); exact Kd.Zck HO_3.out (fun _ hk => hk.1)⟩, ⟨by (with_reducible repeat (first | apply Kd.Zb5 | apply Kd.Zb6 | apply Kd.Zb9)); exact Kd.Zck HO_6.out (fun _ hk => hk.1)⟩, ⟨by (with_reducible repeat (first | apply Kd.Zao | apply Kd.Zan | apply Kd.Zaq)); exact Kd.Zbh HO_8.out (fun _ hk => ⟨hk.1.1, ⟨hk.1.2.1, hk.1.2.2⟩⟩)⟩, ⟨by (with_reducible repeat (first | apply Kd.Zao | apply Kd.Zan | apply Kd.Zaq)); exact Kd.Zbh HO_9.out (fun _ hk => ⟨hk.1.1, ⟨hk.1.2.1, hk.1.2.2⟩⟩)⟩, ⟨by (with_reducible repeat (first | apply Kd.Zao | apply Kd.Zan | apply Kd.Zaq)); exact Kd.Zbh HO_948001.out (fun _ hk => ⟨hk.1.1, ⟨hk.1.2.1, hk.1.2.2⟩⟩)⟩, ⟨by (with_reducible repeat (first | apply Kd.Zao | apply Kd.Zan | apply Kd.Zaq)); exact Kd.Zbh HO_948002.out (fun _ hk => ⟨hk.1.1, ⟨hk.1.2.1, hk.1.2.2⟩⟩)⟩, ⟨by (with_reducible repeat (first | apply Kd.Zb5 | apply Kd.Zb6 | apply Kd.Zb9)); exact Kd.Zck HO_948005.out (fun _ hk => ⟨hk.1.1, ⟨hk.1.2.1, ⟨hk.1.2.2.1, hk.1.2.2.2⟩⟩⟩)⟩, ⟨by (with_reducible repeat (first | refine Zag ?_ _ | refine Zai ?_ | refine Zae ?_ _)); exact BK929.out⟩, ⟨by (with_reducible repeat (first | refine Zag ?_ _ | refine Zai ?_ | refine Zae ?_ _)); exact BK947.out⟩, ⟨by repeat (first | (with_reducible first | exact HB.out | apply Zab | apply Zaa | apply Zac | refine Zah ?_ GE929.out | refine Zah ?_ GE947.out) | exact HB.out)⟩⟩
   subst c38
   have H1 : (if (t964.length : Int) > 0 then (if x8_1.length < 17592186044416 then ((Zaj.f k1 t964).bind fun t976 => (if x9_1.length + t976.length < 17592186044416 then (Zad.l0 k1 t930 t949 (x8_1 ++ [x10_1]) (x9_1 ++ t976) (wrap64 (x10_1 + 1)) t933 t934 t937 t940 t941 t942 t945) else (none))) else (none)) else (Zad.l0 k1 t930 t949 x8_1 x9_1 (wrap64 (x10_1 + 1)) t933 t934 t937 t940 t941 t942 t945)) = some r := by rw [if_pos rfl] at H; exact H
   clear H
   have H := H1
   clear H1
   by_cases c39 : (t964.length : Int) > 0
   rotate_left
   ·rw [if_neg c39] at H
    have c39b0 : decide (0 < (t964.length : Int)) = false := decide_eq_false c39
    have c39b1 : decide (0 < t964.length) = false := decide_eq_false (by omega)
    clear c39
    have H' := Za.mk H
    clear H
    have hnb55 := NB947_929.out
    have hnc55 := NB929_947.out
    obtain ⟨hcz56_0, hcz56_1, hcz56_2, hcz56_3, hcz56_4, hcz56_5, hcz56_6, hfz56_0, hfz56_1, hfz56_2, hfz56_3, hfz56_4, hfz56_5, hfz56_6⟩ := Zcw BK947.out
    try go_wp2
    have n0_ := Za.mk (Kd.Zb9 HO_3.out)
    have n1_ := Za.mk (Kd.Zb9 HO_6.out)
    have n2_ := Za.mk (Kd.Zaq HO_8.out)
    have n3_ := Za.mk (Kd.Zaq HO_9.out)
    have n4_ := Za.mk (Kd.Zaq HO_948001.out)
    have n5_ := Za.mk (Kd.Zaq HO_948002.out)
    have n6_ := Za.mk (Kd.Zb9 HO_948005.out)
    have n7_ := Za.mk (Zai BK929.out)
    have n8_ := Za.mk (Zai BK947.out)
    have n9_ := Za.mk (Zac HB.out)
    clear HO_3
    clear HO_6
    clear HO_8
    clear HO_9
    clear HO_948001
    clear HO_948002
    clear HO_948005
    clear BK929
    clear BK947
    clear HB
    have HO_3 := n0_
    have HO_6 := n1_
    have HO_8 := n2_
    have HO_9 := n3_
    have HO_948001 := n4_
    have HO_948002 := n5_
    have HO_948005 := n6_
    have BK929 := n7_
    have BK947 := n8_
    have HB := n9_
    clear n0_ n1_ n2_ n3_ n4_ n5_ n6_ n7_ n8_ n9_
    have p960 : 0 ≤ ((ji24) : Int) := of_decide_eq_true (by first | (with_reducible assumption) | assumption)
    have q960 : (ji24) < (t934.length : Int) := of_decide_eq_true (by first | (with_reducible assumption) | assumption)
    obtain ⟨ad960, e960, hx960_0⟩ := Kd.Zb7 (Kd.Za3 HO_948001.out).2.2 (ji24) p960 q960
    cases e960
    replace p960 := eq_true p960
    replace q960 := eq_true q960
    have p961 : 0 ≤ ((rd t934 (ji24)) : Int) := of_decide_eq_true (by first | (with_reducible assumption) | assumption)
    have q961 : (rd t934 (ji24)) < (t930.length : Int) := of_decide_eq_true (by first | (with_reducible assumption) | assumption)
    obtain ⟨ad961, A961_0, c961_0, e961, hx961_0, hl961_0, hi961_0⟩ := Zd9 (Kd.Zc HO_3.out).2.2 (rd t934 (ji24)) p961 q961
    cases e961
    obtain ⟨ce961, hce961, hMe961, hcc961⟩ := Kd.Zf3 HO_3.out [] (rd t934 (ji24)) p961 (by first | exact q961 | exact of_decide_eq_true (by first | (with_reducible assumption) | assumption) | (have e_ := (Kd.Zc HO_3.out).1; omega))
    obtain ⟨ve961_0, rfl, ge961_0⟩ := hMe961
    have hv961_0 := hcc961 0 _ rfl
    rw [Nat.add_zero, show ((Kd.slice 41 k41)).sz = 1 from rfl, Nat.mul_one] at hv961_0
    replace hv961_0 := Option.some.inj (hv961_0.symm.trans hx961_0)
    rw [hv961_0] at ge961_0
    have HL961_0 := Za.mk (show Kd.R k41 41 _ _ _ _ (Zcf t930 (rd t934 (ji24))) from ge961_0)
    clear hv961_0 ge961_0
    clear hcc961 hce961
    have HR961_0 := Za.mk hi961_0
    have HC961_0 := Za.mk hl961_0
    clear hi961_0 hl961_0
    replace p961 := eq_true p961
    replace q961 := eq_true q961
    have p962 : 0 ≤ (1 : Int) := (by omega)
    have q962 : 1 < (t934.length : Int) := of_decide_eq_true (by first | (with_reducible assumption) | assumption)
    obtain ⟨ad962, e962, hx962_0⟩ := Kd.Zb7 (Kd.Za3 HO_948001.out).2.2 1 p962 q962
    obtain rfl : ad960 = ad962 := (by injection e962)
    (try simp only [show (1 : Int).toNat = 1 from rfl, Nat.reduceMul, Nat.reduceEqDiff, Go.Addr.add, ↓reduceIte] at hx962_0)
    have qi962 : (1 < t934.length) = True := eq_true (by omega)
    (try rw [show ((1 : Int)).toNat = 1 from rfl] at hx962_0)
    replace p962 := eq_true p962
    replace q962 := eq_true q962
    have p963 : 0 ≤ ((rd t934 1) : Int) := of_decide_eq_true (by first | (with_reducible assumption) | assumption)
    have q963 : (rd t934 1) < (t930.length : Int) := of_decide_eq_true (by first | (with_reducible assumption) | assumption)
    obtain ⟨ad963, A963_0, c963_0, e963, hx963_0, hl963_0, hi963_0⟩ := Zd9 (Kd.Zc HO_3.out).2.2 (rd t934 1) p963 q963
    obtain rfl : ad961 = ad963 := (by injection e963)
    obtain ⟨ce963, hce963, hMe963, hcc963⟩ := Kd.Zf3 HO_3.out [] (rd t934 1) p963 (by first | exact q963 | exact of_decide_eq_true (by first | (with_reducible assumption) | assumption) | (have e_ := (Kd.Zc HO_3.out).1; omega))
    obtain ⟨ve963_0, rfl, ge963_0⟩ := hMe963
    have hv963_0 := hcc963 0 _ rfl
    rw [Nat.add_zero, show ((Kd.slice 41 k41)).sz = 1 from rfl, Nat.mul_one] at hv963_0
    replace hv963_0 := Option.some.inj (hv963_0.symm.trans hx963_0)
    rw [hv963_0] at ge963_0
    have HL963_0 := Za.mk (show Kd.R k41 41 _ _ _ _ (Zcf t930 (rd t934 1)) from ge963_0)
    clear hv963_0 ge963_0
    clear hcc963 hce963
    have HR963_0 := Za.mk hi963_0
    have HC963_0 := Za.mk hl963_0
    clear hi963_0 hl963_0
    replace p963 := eq_true p963
    replace q963 := eq_true q963
    refine Zd2 (n := 18) (S := fun w' => w'.cell? ⟨gb947, 0, none⟩ = some (.int .i64 t933) ∧ w'.cell? ⟨gb947, 1, none⟩ = some (.slice (some ad960) t934.length co13) ∧ w'.cell? ⟨gb947, 2, none⟩ = some (.slice Ao14 t937.length co14) ∧ w'.cell? ⟨gb947, 3, none⟩ = some (.int .i64 t940) ∧ w'.cell? ⟨gb947, 4, none⟩ = some (.int .i64 t941) ∧ w'.cell? ⟨gb947, 5, none⟩ = some (.slice Ao15 t942.length co15) ∧ w'.cell? ⟨gb947, 6, none⟩ = some (.int .i64 t945) ∧ w'.cell? (ad960.add ((ji24)).toNat) = some (.int .i64 (rd t934 (ji24))) ∧ w'.cell? (ad961.add ((rd t934 (ji24))).toNat) = some (.slice A961_0 (Zcf t930 (rd t934 (ji24))).length c961_0) ∧ w'.cell? ⟨ad960.block, ad960.off + 1, none⟩ = some (.int .i64 (rd t934 1)) ∧ w'.cell? (ad961.add ((rd t934 1)).toNat) = some (.slice A963_0 (Zcf t930 (rd t934 1)).length c963_0)) (ds := []) #[false, false, false, false, false, false, false, false, false, false, false, false, false, false, false, false, false, false] (by kernel_rfl) rfl rfl ⟨(Zax BK947.out 0).trans rfl, (Zax BK947.out 1).trans rfl, (Zax BK947.out 2).trans rfl, (Zax BK947.out 3).trans rfl, (Zax BK947.out 4).trans rfl, (Zax BK947.out 5).trans rfl, (Zax BK947.out 6).trans rfl, hx960_0, hx961_0, hx962_0, hx963_0⟩ (fun hHeld => ?_); refine Zc6 Zad.tab13 Zad.bits13 (fun HT_ HW_ => ?_)
    generalize wr.drew = w57 at HO_3 HO_6 HO_8 HO_9 HO_948001 HO_948002 HO_948005 BK929 BK947 HB HL961_0 HL963_0 HR961_0 HR963_0 hx960_0 hx961_0 hx962_0 hx963_0 hHeld ⊢
    refine Zbo (i := 0) (N := some 50) (v := ?_) (a' := ?_) #[true, false, false, false, false, false, false, false, false, false, false, false, false, false, false, false, false, false] rfl rfl (Zbc HT_.out (by kernel_rfl)) (fun _ _ _ h => h) (Or.inl ⟨by rfl, ?_⟩) ?_ ?_
    rotate_left
    ·intro w'
     go_simp
     with_reducible rfl
    rotate_left
    ·simp only [Act.put, List.setIfInBounds_toArray, List.set_cons_zero, List.set_cons_succ, Zbe, Zbg]
     rfl
    refine Zbo (i := 1) (N := some 51) (v := ?_) (a' := ?_) #[true, true, false, false, false, false, false, false, false, false, false, false, false, false, false, false, false, false] rfl rfl (Zbc HT_.out (by kernel_rfl)) (fun _ _ _ h => h) (Or.inl ⟨by rfl, ?_⟩) ?_ ?_
    rotate_left
    ·intro w'
     go_simp
     with_reducible rfl
    rotate_left
    ·simp only [Act.put, List.setIfInBounds_toArray, List.set_cons_zero, List.set_cons_succ, Zbe, Zbg]
     rfl
    refine Zbo (i := 3) (N := some 53) (v := ?_) (a' := ?_) #[true, true, false, true, false, false, false, false, false, false, false, false, false, false, false, false, false, false] rfl rfl (Zbc HT_.out (by kernel_rfl)) (fun _ _ _ h => h) (Or.inl ⟨by rfl, ?_⟩) ?_ ?_
    rotate_left
    ·intro w'
     go_simp
     with_reducible rfl
    rotate_left
    ·simp only [Act.put, List.setIfInBounds_toArray, List.set_cons_zero, List.set_cons_succ, Zbe, Zbg]
     rfl
    refine Zbo (i := 4) (N := some 54) (v := ?_) (a' := ?_) #[true, true, false, true, true, false, false, false, false, false, false, false, false, false, false, false, false, false] rfl rfl (Zbc HT_.out (by kernel_rfl)) (fun _ _ _ h => h) (Or.inl ⟨by rfl, ?_⟩) ?_ ?_
    rotate_left
    ·intro w'
     go_simp
     with_reducible rfl
    rotate_left
    ·simp only [Act.put, List.setIfInBounds_toArray, List.set_cons_zero, List.set_cons_succ, Zbe, Zbg]
     rfl
    refine Zbo (i := 9) (N := some 59) (v := ?_) (a' := ?_) #[true, true, false, true, true, false, false, false, false, true, false, false, false, false, false, false, false, false] rfl rfl (Zbc HT_.out (by kernel_rfl)) (fun _ _ _ h => h) (Or.inl ⟨by rfl, ?_⟩) ?_ ?_
    rotate_left
    ·intro w'
     go_simp
     with_reducible rfl
    rotate_left
    ·simp only [Act.put, List.setIfInBounds_toArray, List.set_cons_zero, List.set_cons_succ, Zbe, Zbg]
     rfl
    refine Zbo (i := 10) (N := some 60) (v := ?_) (a' := ?_) #[true, true, false, true, true, false, false, false, false, true, true, false, false, false, false, false, false, false] rfl rfl (Zbc HT_.out (by kernel_rfl)) (fun _ _ _ h => h) (Or.inl ⟨by rfl, ?_⟩) ?_ ?_
    rotate_left
    ·intro w'
     go_simp
     with_reducible rfl
    rotate_left
    ·simp only [Act.put, List.setIfInBounds_toArray, List.set_cons_zero, List.set_cons_succ, Zbe, Zbg]
     rfl
    refine Zd (i := 2) (N := some 52) (v := ?_) (a' := ?_) #[true, true, true, true, true, false, false, false, false, true, true, false, false, false, false, false, false, false] rfl rfl (Zca HT_.out HW_.out (by kernel_rfl)) (fun _ _ _ h => h) (Or.inl ⟨by rfl, ?_⟩) hHeld ?_ ?_
    rotate_left
    ·rintro w' ⟨s0, s1, s2, s3, s4, s5, s6, s7, s8, s9, s10⟩
     go_simp
     with_reducible rfl
    rotate_left
    ·simp only [Act.put, List.setIfInBounds_toArray, List.set_cons_zero, List.set_cons_succ, Zbe, Zbg]
     rfl
    refine Zbo (i := 5) (N := some 55) (v := ?_) (a' := ?_) #[true, true, true, true, true, true, false, false, false, true, true, false, false, false, false, false, false, false] rfl rfl (Zbc HT_.out (by kernel_rfl)) (fun _ _ _ h => h) (Or.inl ⟨by rfl, ?_⟩) ?_ ?_
    rotate_left
    ·intro w'
     go_simp
     with_reducible rfl
    rotate_left
    ·simp only [Act.put, List.setIfInBounds_toArray, List.set_cons_zero, List.set_cons_succ, Zbe, Zbg]
     rfl
    refine Zd (i := 6) (N := some 56) (v := ?_) (a' := ?_) #[true, true, true, true, true, true, true, false, false, true, true, false, false, false, false, false, false, false] rfl rfl (Zca HT_.out HW_.out (by kernel_rfl)) (fun _ _ _ h => h) (Or.inl ⟨by rfl, ?_⟩) hHeld ?_ ?_
    rotate_left
    ·rintro w' ⟨s0, s1, s2, s3, s4, s5, s6, s7, s8, s9, s10⟩
     go_simp
     with_reducible rfl
    rotate_left
    ·simp only [Act.put, List.setIfInBounds_toArray, List.set_cons_zero, List.set_cons_succ, Zbe, Zbg]
     rfl
    refine Zbo (i := 7) (N := some 57) (v := ?_) (a' := ?_) #[true, true, true, true, true, true, true, true, false, true, true, false, false, false, false, false, false, false] rfl rfl (Zbc HT_.out (by kernel_rfl)) (fun _ _ _ h => h) (Or.inl ⟨by rfl, ?_⟩) ?_ ?_
    rotate_left
    ·intro w'
     go_simp
     with_reducible rfl
    rotate_left
    ·simp only [Act.put, List.setIfInBounds_toArray, List.set_cons_zero, List.set_cons_succ, Zbe, Zbg]
     rfl
    refine Zd (i := 8) (N := some 58) (v := ?_) (a' := ?_) #[true, true, true, true, true, true, true, true, true, true, true, false, false, false, false, false, false, false] rfl rfl (Zca HT_.out HW_.out (by kernel_rfl)) (fun _ _ _ h => h) (Or.inl ⟨by rfl, ?_⟩) hHeld ?_ ?_
    rotate_left
    ·rintro w' ⟨s0, s1, s2, s3, s4, s5, s6, s7, s8, s9, s10⟩
     go_simp
     with_reducible rfl
    rotate_left
    ·simp only [Act.put, List.setIfInBounds_toArray, List.set_cons_zero, List.set_cons_succ, Zbe, Zbg]
     rfl
    refine Zd (i := 11) (N := some 61) (v := ?_) (a' := ?_) #[true, true, true, true, true, true, true, true, true, true, true, true, false, false, false, false, false, false] rfl rfl (Zca HT_.out HW_.out (by kernel_rfl)) (fun _ _ _ h => h) (Or.inl ⟨by rfl, ?_⟩) hHeld ?_ ?_
    rotate_left
    ·rintro w' ⟨s0, s1, s2, s3, s4, s5, s6, s7, s8, s9, s10⟩
     go_simp
     with_reducible rfl
    rotate_left
    ·simp only [Act.put, List.setIfInBounds_toArray, List.set_cons_zero, List.set_cons_succ, Zbe, Zbg]
     rfl
    refine Zbo (i := 12) (N := some 62) (v := ?_) (a' := ?_) #[true, true, true, true, true, true, true, true, true, true, true, true, true, false, false, false, false, false] rfl rfl (Zbc HT_.out (by kernel_rfl)) (fun _ _ _ h => h) (Or.inl ⟨by rfl, ?_⟩) ?_ ?_
    rotate_left
    ·intro w'
     go_simp
     with_reducible rfl
    rotate_left
    ·simp only [Act.put, List.setIfInBounds_toArray, List.set_cons_zero, List.set_cons_succ, Zbe, Zbg]
     rfl
    refine Zd (i := 13) (N := some 63) (v := ?_) (a' := ?_) #[true, true, true, true, true, true, true, true, true, true, true, true, true, true, false, false, false, false] rfl rfl (Zca HT_.out HW_.out (by kernel_rfl)) (fun _ _ _ h => h) (Or.inl ⟨by rfl, ?_⟩) hHeld ?_ ?_
    rotate_left
    ·rintro w' ⟨s0, s1, s2, s3, s4, s5, s6, s7, s8, s9, s10⟩
     go_simp
     with_reducible rfl
    rotate_left
    ·simp only [Act.put, List.setIfInBounds_toArray, List.set_cons_zero, List.set_cons_succ, Zbe, Zbg]
     rfl
    refine Zbo (i := 14) (N := some 64) (v := ?_) (a' := ?_) #[true, true, true, true, true, true, true, true, true, true, true, true, true, true, true, false, false, false] rfl rfl (Zbc HT_.out (by kernel_rfl)) (fun _ _ _ h => h) (Or.inl ⟨by rfl, ?_⟩) ?_ ?_
    rotate_left
    ·intro w'
     go_simp
     with_reducible rfl
    rotate_left
    ·simp only [Act.put, List.setIfInBounds_toArray, List.set_cons_zero, List.set_cons_succ, Zbe, Zbg]
     rfl
    refine Zd (i := 15) (N := some 65) (v := ?_) (a' := ?_) #[true, true, true, true, true, true, true, true, true, true, true, true, true, true, true, true, false, false] rfl rfl (Zca HT_.out HW_.out (by kernel_rfl)) (fun _ _ _ h => h) (Or.inl ⟨by rfl, ?_⟩) hHeld ?_ ?_
    rotate_left
    ·rintro w' ⟨s0, s1, s2, s3, s4, s5, s6, s7, s8, s9, s10⟩
     go_simp
     with_reducible rfl
    rotate_left
    ·simp only [Act.put, List.setIfInBounds_toArray, List.set_cons_zero, List.set_cons_succ, Zbe, Zbg]
     rfl
    refine one_ (i := 16) (N := some 66) #[true, true, true, true, true, true, true, true, true, true, true, true, true, true, true, true, true, false] rfl rfl (Zd1 HT_.out (by kernel_rfl)) (by decide) (fun K hK => ?_)
    refine goes_ Try.func37 (by kernel_rfl) rfl #[.slice A961_0 (Zcf t930 (rd t934 (ji24))).length c961_0, .slice A963_0 (Zcf t930 (rd t934 1)).length c963_0, .bool true] (by rfl) rfl rfl (by (try simp only [List.map_toArray, List.map_cons, List.map_nil]); first | done | (simp only [hji24]; rfl) | rfl | (simp only [List.length_drop, List.length_take]; rfl)) ?_
    with_reducible refine (Za4.calls k1 _ _ (Zcf t930 (rd t934 (ji24))) _ _ (Zcf t930 (rd t934 1)) true t964 _ ?side1 ?side2 ?side3 ?side4 A32.out).mono ?_
    (case side1 => repeat (first | exact (by repeat (first | (with_reducible exact HR961_0.out) | (with_reducible refine Kd.Za6 ?_ _) | (with_reducible refine Kd.Za0 ?_ _) | (with_reducible refine Kd.Zbd ?_) | exact HR961_0.out)) | (with_reducible refine Kd.Za6 ?_ _) | (with_reducible refine Kd.Za0 ?_ _) | (with_reducible refine Kd.Zbd ?_)))
    (case side2 => exact HC961_0.out)
    (case side3 => repeat (first | exact (by repeat (first | (with_reducible exact HR963_0.out) | (with_reducible refine Kd.Za6 ?_ _) | (with_reducible refine Kd.Za0 ?_ _) | (with_reducible refine Kd.Zbd ?_) | exact HR963_0.out)) | (with_reducible refine Kd.Za6 ?_ _) | (with_reducible refine Kd.Za0 ?_ _) | (with_reducible refine Kd.Zbd ?_)))
    (case side4 => exact HC963_0.out)
    rintro e w58 ⟨v965, rfl, ho0, hb⟩
    have HS7_ := (hb.cell (World.block_lt_of_cell? _ _ (hHeld.2.2.2.2.2.2.2.1))).trans (hHeld.2.2.2.2.2.2.2.1)
    have HS8_ := (hb.cell (World.block_lt_of_cell? _ _ (hHeld.2.2.2.2.2.2.2.2.1))).trans (hHeld.2.2.2.2.2.2.2.2.1)
    have HS9_ := (hb.cell (World.block_lt_of_cell? _ _ (hHeld.2.2.2.2.2.2.2.2.2.1))).trans (hHeld.2.2.2.2.2.2.2.2.2.1)
    have HS10_ := (hb.cell (World.block_lt_of_cell? _ _ (hHeld.2.2.2.2.2.2.2.2.2.2))).trans (hHeld.2.2.2.2.2.2.2.2.2.2)
    refine ⟨_, rfl, ?_⟩
    have n0_ := Za.mk (Kd.Zcs (mvS HO_3.out) (Kd.Zbs ho0) hb)
    have n1_ := Za.mk (Kd.Zcs (mvS HO_6.out) (Kd.Zbs ho0) hb)
    have n2_ := Za.mk (Kd.Zbj (mvR HO_8.out) hb)
    have n3_ := Za.mk (Kd.Zbj (mvR HO_9.out) hb)
    have n4_ := Za.mk (Kd.Zbj (mvR HO_948001.out) hb)
    have n5_ := Za.mk (Kd.Zbj (mvR HO_948002.out) hb)
    have n6_ := Za.mk (Kd.Zb8 (mvS HO_948005.out) hb)
    have n7_ := Za.mk (Kd.Zbr (mvR HL961_0.out) (Kd.Zbs ho0) hb)
    have n8_ := Za.mk (Kd.Zbr (mvR HL963_0.out) (Kd.Zbs ho0) hb)
    have n9_ := Za.mk (Kd.Zbw (Kd.Zcc (Kd.Zcc ho0 (Kd.R_lt (mvR HL961_0.out))) (Kd.R_lt (mvR HL963_0.out))) (Zam (mvB HB.out)))
    have n10_ := Za.mk (Za9 (g := gb929) (o := .cells #[.slice A0_0 l0_0.length c0_0, .int .i64 a0_1, .slice A0_2 l0_2.length c0_2, .slice A0_3 l0_3.length c0_3, .int .i64 a0_4, .int .i64 a0_5, .slice A0_6 l0_6.length c0_6, .int .i64 a0_7, .slice A0_8 l0_8.length c0_8, .slice A0_9 l0_9.length c0_9] 27 (0, 0)) (mvK BK929.out) hb)
    have n11_ := Za.mk (Za9 (g := gb947) (o := .cells #[.int .i64 t933, .slice (some ad960) t934.length co13, .slice Ao14 t937.length co14, .int .i64 t940, .int .i64 t941, .slice Ao15 t942.length co15, .int .i64 t945] 25 (0, 0)) (mvK BK947.out) hb)
    have n12_ := Za.mk (Kd.Zbk (by first | (with_reducible exact HR961_0.out) | (with_reducible exact Kd.Za0 HR961_0.out _) | (with_reducible exact Kd.Zbd HR961_0.out) | repeat (first | (with_reducible exact HR961_0.out) | (with_reducible refine Kd.Za6 ?_ _) | (with_reducible refine Kd.Za0 ?_ _) | (with_reducible refine Kd.Zbd ?_) | exact HR961_0.out)) hb)
    have n13_ := Za.mk (Kd.Zbk (by first | (with_reducible exact HR963_0.out) | (with_reducible exact Kd.Za0 HR963_0.out _) | (with_reducible exact Kd.Zbd HR963_0.out) | repeat (first | (with_reducible exact HR963_0.out) | (with_reducible refine Kd.Za6 ?_ _) | (with_reducible refine Kd.Za0 ?_ _) | (with_reducible refine Kd.Zbd ?_) | exact HR963_0.out)) hb)
    have n14_ := Za.mk (Zau (mvB HB.out) hb)
    clear HO_3
    clear HO_6
    clear HO_8
    clear HO_9
    clear HO_948001
    clear HO_948002
    clear HO_948005
    clear HL961_0
    clear HL963_0
    clear BK929
    clear BK947
    clear HR961_0
    clear HR963_0
    clear HB
    have HO_3 := n0_
    have HO_6 := n1_
    have HO_8 := n2_
    have HO_9 := n3_
    have HO_948001 := n4_
    have HO_948002 := n5_
    have HO_948005 := n6_
    have HL961_0 := n7_
    have HL963_0 := n8_
    have HO966 := n9_
    have BK929 := n10_
    have BK947 := n11_
    have HR961_0 := n12_
    have HR963_0 := n13_
    have HB := n14_
    clear n0_ n1_ n2_ n3_ n4_ n5_ n6_ n7_ n8_ n9_ n10_ n11_ n12_ n13_ n14_
    (try clear hb)
    (try clear hb2)
    (try clear hk)
    (try clear hi)
    (try clear ho0)
    refine hK.out _ _ ⟨(Zax BK947.out 0).trans rfl, (Zax BK947.out 1).trans rfl, (Zax BK947.out 2).trans rfl, (Zax BK947.out 3).trans rfl, (Zax BK947.out 4).trans rfl, (Zax BK947.out 5).trans rfl, (Zax BK947.out 6).trans rfl, HS7_, HS8_, HS9_, HS10_⟩ (fun hHeld => ?_)
    clear hK K
    refine Zfv (a' := ?_) ?_ ?_
    rotate_left
    ·show Act.put _ (some 66) _ = _
     simp only [Act.put, List.setIfInBounds_toArray, List.set_cons_zero, List.set_cons_succ, Zbe, Zbg]
     rfl
    refine Zbo (i := 17) (N := some 11) (v := ?_) (a' := ?_) #[true, true, true, true, true, true, true, true, true, true, true, true, true, true, true, true, true, true] rfl rfl (Zbc HT_.out (by kernel_rfl)) (fun _ _ _ h => h) (Or.inl ⟨by rfl, ?_⟩) ?_ ?_
    rotate_left
    ·intro w'
     go_simp
     with_reducible rfl
    rotate_left
    ·simp only [Act.put, List.setIfInBounds_toArray, List.set_cons_zero, List.set_cons_succ, Zbe, Zbg]
     rfl
    refine Ze0 (Zdm HT_.out (by kernel_rfl)) ?_
    obtain ⟨hcz59_0, hcz59_1, hcz59_2, hcz59_3, hcz59_4, hcz59_5, hcz59_6, hfz59_0, hfz59_1, hfz59_2, hfz59_3, hfz59_4, hfz59_5, hfz59_6⟩ := Zcw BK947.out
    have p967 : 0 ≤ (0 : Int) := (by omega)
    have q967 : 0 < (t934.length : Int) := of_decide_eq_true (by first | (with_reducible assumption) | assumption)
    obtain ⟨ad967, e967, hx967_0⟩ := Kd.Zb7 (Kd.Za3 HO_948001.out).2.2 0 p967 q967
    obtain rfl : ad960 = ad967 := (by injection e967)
    have qi967 : (0 < t934.length) = True := eq_true (by omega)
    (try rw [show ((0 : Int)).toNat = 0 from rfl] at hx967_0)
    (try rw [Addr.add_zero'] at hx967_0)
    replace p967 := eq_true p967
    replace q967 := eq_true q967
    have p968 : 0 ≤ ((rd t934 0) : Int) := of_decide_eq_true (by first | (with_reducible assumption) | assumption)
    have q968 : (rd t934 0) < (t930.length : Int) := of_decide_eq_true (by first | (with_reducible assumption) | assumption)
    obtain ⟨ad968, A968_0, c968_0, e968, hx968_0, hl968_0, hi968_0⟩ := Zd9 (Kd.Zc HO_3.out).2.2 (rd t934 0) p968 q968
    obtain rfl : ad961 = ad968 := (by injection e968)
    obtain ⟨ce968, hce968, hMe968, hcc968⟩ := Kd.Zf3 HO_3.out [] (rd t934 0) p968 (by first | exact q968 | exact of_decide_eq_true (by first | (with_reducible assumption) | assumption) | (have e_ := (Kd.Zc HO_3.out).1; omega))
    obtain ⟨ve968_0, rfl, ge968_0⟩ := hMe968
    have hv968_0 := hcc968 0 _ rfl
    rw [Nat.add_zero, show ((Kd.slice 41 k41)).sz = 1 from rfl, Nat.mul_one] at hv968_0
    replace hv968_0 := Option.some.inj (hv968_0.symm.trans hx968_0)
    rw [hv968_0] at ge968_0
    have HL968_0 := Za.mk (show Kd.R k41 41 _ _ _ _ (Zcf t930 (rd t934 0)) from ge968_0)
    clear hv968_0 ge968_0
    clear hcc968 hce968
    have HR968_0 := Za.mk hi968_0
    have HC968_0 := Za.mk hl968_0
    clear hi968_0 hl968_0
    replace p968 := eq_true p968
    replace q968 := eq_true q968
    try go_wp2_with (first | ((with_reducible refine Zbn (f := 29) rfl ?_); refine Zcp (some 74) rfl rfl Try.func29 (by kernel_rfl) rfl #[.slice A968_0 (Zcf t930 (rd t934 0)).length c968_0] rfl (by (try simp only [List.map_toArray, List.map_cons, List.map_nil]); first | done | rfl | (simp only [List.length_drop, List.length_take]; rfl)) ?_; (with_reducible refine (Zaj.calls k1 _ _ (Zcf t930 (rd t934 0)) t969 _ ?side1 ?side2 A36.out).mono ?_); (case side1 => repeat (first | exact (by repeat (first | (with_reducible exact HR968_0.out) | (with_reducible refine Kd.Za6 ?_ _) | (with_reducible refine Kd.Za0 ?_ _) | (with_reducible refine Kd.Zbd ?_) | exact HR968_0.out)) | (with_reducible refine Kd.Za6 ?_ _) | (with_reducible refine Kd.Za0 ?_ _) | (with_reducible refine Kd.Zbd ?_))); (case side2 => exact HC968_0.out); rintro e w60 ⟨v970, rfl, ho0, hb⟩; refine ⟨_, rfl, ?_⟩; have n0_ := Za.mk (Kd.Zb8 (mvS HO_3.out) hb); have n1_ := Za.mk (Kd.Zb8 (mvS HO_6.out) hb); have n2_ := Za.mk (Kd.Zbr (mvR HO_8.out) (Kd.Zbs ho0) hb); have n3_ := Za.mk (Kd.Zbr (mvR HO_9.out) (Kd.Zbs ho0) hb); have n4_ := Za.mk (Kd.Zbr (mvR HO_948001.out) (Kd.Zbs ho0) hb); have n5_ := Za.mk (Kd.Zbr (mvR HO_948002.out) (Kd.Zbs ho0) hb); have n6_ := Za.mk (Kd.Zcs (mvS HO_948005.out) (Kd.Zbs ho0) hb); have n7_ := Za.mk (Kd.Zbj (mvR HL961_0.out) hb); have n8_ := Za.mk (Kd.Zbj (mvR HL963_0.out) hb); have n9_ := Za.mk (Kd.Zbj (mvR HO966.out) hb); have n10_ := Za.mk (Kd.Zbj (mvR HL968_0.out) hb); have n11_ := Za.mk (Kd.Zbw (Kd.Zcc (Kd.Zcc (Kd.Zcc (Kd.Zcc ho0 (Kd.R_lt (mvR HO_8.out))) (Kd.R_lt (mvR HO_9.out))) (Kd.R_lt (mvR HO_948001.out))) (Kd.R_lt (mvR HO_948002.out))) (Zam (mvB HB.out))); have n12_ := Za.mk (Za9 (g := gb929) (o := .cells #[.slice A0_0 l0_0.length c0_0, .int .i64 a0_1, .slice A0_2 l0_2.length c0_2, .slice A0_3 l0_3.length c0_3, .int .i64 a0_4, .int .i64 a0_5, .slice A0_6 l0_6.length c0_6, .int .i64 a0_7, .slice A0_8 l0_8.length c0_8, .slice A0_9 l0_9.length c0_9] 27 (0, 0)) (mvK BK929.out) hb); have n13_ := Za.mk (Za9 (g := gb947) (o := .cells #[.int .i64 t933, .slice (some ad960) t934.length co13, .slice Ao14 t937.length co14, .int .i64 t940, .int .i64 t941, .slice Ao15 t942.length co15, .int .i64 t945] 25 (0, 0)) (mvK BK947.out) hb); have n14_ := Za.mk (Kd.Zbk (by first | (with_reducible exact HR961_0.out) | (with_reducible exact Kd.Za0 HR961_0.out _) | (with_reducible exact Kd.Zbd HR961_0.out) | repeat (first | (with_reducible exact HR961_0.out) | (with_reducible refine Kd.Za6 ?_ _) | (with_reducible refine Kd.Za0 ?_ _) | (with_reducible refine Kd.Zbd ?_) | exact HR961_0.out)) hb); have n15_ := Za.mk (Kd.Zbk (by first | (with_reducible exact HR963_0.out) | (with_reducible exact Kd.Za0 HR963_0.out _) | (with_reducible exact Kd.Zbd HR963_0.out) | repeat (first | (with_reducible exact HR963_0.out) | (with_reducible refine Kd.Za6 ?_ _) | (with_reducible refine Kd.Za0 ?_ _) | (with_reducible refine Kd.Zbd ?_) | exact HR963_0.out)) hb); have n16_ := Za.mk (Kd.Zbk (by first | (with_reducible exact HR968_0.out) | (with_reducible exact Kd.Za0 HR968_0.out _) | (with_reducible exact Kd.Zbd HR968_0.out) | repeat (first | (with_reducible exact HR968_0.out) | (with_reducible refine Kd.Za6 ?_ _) | (with_reducible refine Kd.Za0 ?_ _) | (with_reducible refine Kd.Zbd ?_) | exact HR968_0.out)) hb); have n17_ := Za.mk (Zau (mvB HB.out) hb); clear HO_3; clear HO_6; clear HO_8; clear HO_9; clear HO_948001; clear HO_948002; clear HO_948005; clear HL961_0; clear HL963_0; clear HO966; clear HL968_0; clear BK929; clear BK947; clear HR961_0; clear HR963_0; clear HR968_0; clear HB; have HO_3 := n0_; have HO_6 := n1_; have HO_8 := n2_; have HO_9 := n3_; have HO_948001 := n4_; have HO_948002 := n5_; have HO_948005 := n6_; have HL961_0 := n7_; have HL963_0 := n8_; have HO966 := n9_; have HL968_0 := n10_; have HO971 := n11_; have BK929 := n12_; have BK947 := n13_; have HR961_0 := n14_; have HR963_0 := n15_; have HR968_0 := n16_; have HB := n17_; clear n0_ n1_ n2_ n3_ n4_ n5_ n6_ n7_ n8_ n9_ n10_ n11_ n12_ n13_ n14_ n15_ n16_ n17_; (try clear hb); (try clear hb2); (try clear hk); (try clear hi); (try clear ho0); obtain ⟨Ao61, co61, eo61⟩ := Kd.Zbu HO971.out; subst eo61) | ((with_reducible refine Zbn (f := 31) rfl ?_); refine Zcp (some 76) rfl rfl Try.func31 (by kernel_rfl) rfl #[.slice Ao61 t969.length co61, .int .i64 x10_1] rfl (by (try simp only [List.map_toArray, List.map_cons, List.map_nil]); first | done | rfl | (simp only [List.length_drop, List.length_take]; rfl)) ?_; (with_reducible refine (Zay.calls k1 _ _ t969 x10_1 true _ ?side1 ?side2 A37.out).mono ?_); (case side1 => repeat (first | exact (Kd.Za3 HO971.out).2.2 | (with_reducible refine Kd.Za6 ?_ _) | (with_reducible refine Kd.Za0 ?_ _) | (with_reducible refine Kd.Zbd ?_))); (case side2 => exact (Kd.Za3 HO971.out).2.1); rintro e w' ⟨rfl, ⟨nd, rfl⟩⟩; refine ⟨_, rfl, ?_⟩; obtain ⟨Ao62, co62, eo62⟩ := Kd.Zbu HO966.out; subst eo62))
    go_roundg k1
    case measure => have := HK1.out; omega
    case rel => exact ⟨(x8_1), (x9_1), (wrap64 (x10_1 + 1)), (by first | rfl | (simp; done) | (simp [*]; done)), H', ⟨by have := HK1.out; omega⟩, ⟨by (with_reducible repeat (first | apply Kd.Zb5 | apply Kd.Zb6 | apply Kd.Zb9)); exact Kd.Zck HO_3.out (fun _ hk => hk.1)⟩, ⟨by (with_reducible repeat (first | apply Kd.Zb5 | apply Kd.Zb6 | apply Kd.Zb9)); exact Kd.Zck HO_6.out (fun _ hk => hk.1)⟩, ⟨by (with_reducible repeat (first | apply Kd.Zao | apply Kd.Zan | apply Kd.Zaq)); exact Kd.Zbh HO_8.out (fun _ hk => ⟨hk.1.1, ⟨hk.1.2.1, hk.1.2.2⟩⟩)⟩, ⟨by (with_reducible repeat (first | apply Kd.Zao | apply Kd.Zan | apply Kd.Zaq)); exact Kd.Zbh HO_9.out (fun _ hk => ⟨hk.1.1, ⟨hk.1.2.1, hk.1.2.2⟩⟩)⟩, ⟨by (with_reducible repeat (first | apply Kd.Zao | apply Kd.Zan | apply Kd.Zaq)); exact Kd.Zbh HO_948001.out (fun _ hk => ⟨hk.1.1, ⟨hk.1.2.1, hk.1.2.2⟩⟩)⟩, ⟨by (with_reducible repeat (first | apply Kd.Zao | apply Kd.Zan | apply Kd.Zaq)); exact Kd.Zbh HO_948002.out (fun _ hk => ⟨hk.1.1, ⟨hk.1.2.1, hk.1.2.2⟩⟩)⟩, ⟨by (with_reducible repeat (first | apply Kd.Zb5 | apply Kd.Zb6 | apply Kd.Zb9)); exact Kd.Zck HO_948005.out (fun _ hk => ⟨hk.1.1, ⟨hk.1.2.1, ⟨hk.1.2.2.1, hk.1.2.2.2⟩⟩⟩)⟩, ⟨by (with_reducible repeat (first | refine Zag ?_ _ | refine Zai ?_ | refine Zae ?_ _)); exact BK929.out⟩, ⟨by (with_reducible repeat (first | refine Zag ?_ _ | refine Zai ?_ | refine Zae ?_ _)); exact BK947.out⟩, ⟨by repeat (first | (with_reducible first | exact HB.out | apply Zab | apply Zaa | apply Zac | refine Zah ?_ GE929.out | refine Zah ?_ GE947.out) | exact HB.out)⟩⟩
   rw [if_pos c39] at H
   have c39b0 : decide (0 < (t964.length : Int)) = true := decide_eq_true c39
   have c39b1 : decide (0 < t964.length) = true := decide_eq_true (by omega)
   clear c39
   by_cases c40 : x8_1.length < 17592186044416
   rotate_left
   ·rw [if_neg c40] at H
    exact absurd H (by simp)
   rw [if_pos c40] at H
   have LMc40 := Za.mk c40
   clear c40
   obtain ⟨y973, hy973⟩ : ∃ y_ : List Int, y_ = (x8_1 ++ [x10_1]) := ⟨_, rfl⟩
   replace H : ((Zaj.f k1 t964).bind fun t976 => (if x9_1.length + t976.length < 17592186044416 then (Zad.l0 k1 t930 t949 y973 (x9_1 ++ t976) (wrap64 (x10_1 + 1)) t933 t934 t937 t940 t941 t942 t945) else (none))) = some r := by first | (rw [hy973]; with_reducible exact H) | (have H2_ := (Option.bind_some _ _).symm.trans H; rw [hy973]; with_reducible exact H2_) | (have H2_ := (Option.bind_some _ _).symm.trans H; with_reducible exact H2_) | with_reducible exact H | (rw [hy973]; exact H) | exact H
   have Ny973 := Za.mk hy973
   clear hy973
   replace H := Option.bind_eq_some_iff.mp H
   obtain ⟨t976, A410, H⟩ := H
   replace H : (if x9_1.length + t976.length < 17592186044416 then (Zad.l0 k1 t930 t949 y973 (x9_1 ++ t976) (wrap64 (x10_1 + 1)) t933 t934 t937 t940 t941 t942 t945) else (none)) = some r := H
   have A41 := Za.mk A410
   clear A410
   by_cases c42 : x9_1.length + t976.length < 17592186044416
   rotate_left
   ·rw [if_neg c42] at H
    exact absurd H (by simp)
   rw [if_pos c42] at H
   have LMc42 := Za.mk c42
   clear c42
   obtain ⟨y979, hy979⟩ : ∃ y_ : List Int, y_ = (x9_1 ++ t976) := ⟨_, rfl⟩
   replace H : (Zad.l0 k1 t930 t949 y973 y979 (wrap64 (x10_1 + 1)) t933 t934 t937 t940 t941 t942 t945) = some r := by first | (rw [hy979]; with_reducible exact H) | (have H2_ := (Option.bind_some _ _).symm.trans H; rw [hy979]; with_reducible exact H2_) | (have H2_ := (Option.bind_some _ _).symm.trans H; with_reducible exact H2_) | with_reducible exact H | (rw [hy979]; exact H) | exact H
   have Ny979 := Za.mk hy979
   clear hy979
   have H' := Za.mk H
   clear H
   have hnb43 := NB947_929.out
   have hnc43 := NB929_947.out
   obtain ⟨hcz44_0, hcz44_1, hcz44_2, hcz44_3, hcz44_4, hcz44_5, hcz44_6, hfz44_0, hfz44_1, hfz44_2, hfz44_3, hfz44_4, hfz44_5, hfz44_6⟩ := Zcw BK947.out
   try go_wp2
   have n0_ := Za.mk (Kd.Zb9 HO_3.out)
   have n1_ := Za.mk (Kd.Zb9 HO_6.out)
   have n2_ := Za.mk (Kd.Zaq HO_8.out)
   have n3_ := Za.mk (Kd.Zaq HO_9.out)
   have n4_ := Za.mk (Kd.Zaq HO_948001.out)
   have n5_ := Za.mk (Kd.Zaq HO_948002.out)
   have n6_ := Za.mk (Kd.Zb9 HO_948005.out)
   have n7_ := Za.mk (Zai BK929.out)
   have n8_ := Za.mk (Zai BK947.out)
   have n9_ := Za.mk (Zac HB.out)
   clear HO_3
   clear HO_6
   clear HO_8
   clear HO_9
   clear HO_948001
   clear HO_948002
   clear HO_948005
   clear BK929
   clear BK947
   clear HB
   have HO_3 := n0_
   have HO_6 := n1_
   have HO_8 := n2_
   have HO_9 := n3_
   have HO_948001 := n4_
   have HO_948002 := n5_
   have HO_948005 := n6_
   have BK929 := n7_
   have BK947 := n8_
   have HB := n9_
   clear n0_ n1_ n2_ n3_ n4_ n5_ n6_ n7_ n8_ n9_
   have p960 : 0 ≤ ((ji24) : Int) := of_decide_eq_true (by first | (with_reducible assumption) | assumption)
   have q960 : (ji24) < (t934.length : Int) := of_decide_eq_true (by first | (with_reducible assumption) | assumption)
   obtain ⟨ad960, e960, hx960_0⟩ := Kd.Zb7 (Kd.Za3 HO_948001.out).2.2 (ji24) p960 q960
   cases e960
   replace p960 := eq_true p960
   replace q960 := eq_true q960
   have p961 : 0 ≤ ((rd t934 (ji24)) : Int) := of_decide_eq_true (by first | (with_reducible assumption) | assumption)
   have q961 : (rd t934 (ji24)) < (t930.length : Int) := of_decide_eq_true (by first | (with_reducible assumption) | assumption)
   obtain ⟨ad961, A961_0, c961_0, e961, hx961_0, hl961_0, hi961_0⟩ := Zd9 (Kd.Zc HO_3.out).2.2 (rd t934 (ji24)) p961 q961
   cases e961
   obtain ⟨ce961, hce961, hMe961, hcc961⟩ := Kd.Zf3 HO_3.out [] (rd t934 (ji24)) p961 (by first | exact q961 | exact of_decide_eq_true (by first | (with_reducible assumption) | assumption) | (have e_ := (Kd.Zc HO_3.out).1; omega))
   obtain ⟨ve961_0, rfl, ge961_0⟩ := hMe961
   have hv961_0 := hcc961 0 _ rfl
   rw [Nat.add_zero, show ((Kd.slice 41 k41)).sz = 1 from rfl, Nat.mul_one] at hv961_0
   replace hv961_0 := Option.some.inj (hv961_0.symm.trans hx961_0)
   rw [hv961_0] at ge961_0
   have HL961_0 := Za.mk (show Kd.R k41 41 _ _ _ _ (Zcf t930 (rd t934 (ji24))) from ge961_0)
   clear hv961_0 ge961_0
   clear hcc961 hce961
   have HR961_0 := Za.mk hi961_0
   have HC961_0 := Za.mk hl961_0
   clear hi961_0 hl961_0
   replace p961 := eq_true p961
   replace q961 := eq_true q961
   have p962 : 0 ≤ (1 : Int) := (by omega)
   have q962 : 1 < (t934.length : Int) := of_decide_eq_true (by first | (with_reducible assumption) | assumption)
   obtain ⟨ad962, e962, hx962_0⟩ := Kd.Zb7 (Kd.Za3 HO_948001.out).2.2 1 p962 q962
   obtain rfl : ad960 = ad962 := (by injection e962)
   (try simp only [show (1 : Int).toNat = 1 from rfl, Nat.reduceMul, Nat.reduceEqDiff, Go.Addr.add, ↓reduceIte] at hx962_0)
   have qi962 : (1 < t934.length) = True := eq_true (by omega)
   (try rw [show ((1 : Int)).toNat = 1 from rfl] at hx962_0)
   replace p962 := eq_true p962
   replace q962 := eq_true q962
   have p963 : 0 ≤ ((rd t934 1) : Int) := of_decide_eq_true (by first | (with_reducible assumption) | assumption)
   have q963 : (rd t934 1) < (t930.length : Int) := of_decide_eq_true (by first | (with_reducible assumption) | assumption)
   obtain ⟨ad963, A963_0, c963_0, e963, hx963_0, hl963_0, hi963_0⟩ := Zd9 (Kd.Zc HO_3.out).2.2 (rd t934 1) p963 q963
   obtain rfl : ad961 = ad963 := (by injection e963)
   obtain ⟨ce963, hce963, hMe963, hcc963⟩ := Kd.Zf3 HO_3.out [] (rd t934 1) p963 (by first | exact q963 | exact of_decide_eq_true (by first | (with_reducible assumption) | assumption) | (have e_ := (Kd.Zc HO_3.out).1; omega))
   obtain ⟨ve963_0, rfl, ge963_0⟩ := hMe963
   have hv963_0 := hcc963 0 _ rfl
   rw [Nat.add_zero, show ((Kd.slice 41 k41)).sz = 1 from rfl, Nat.mul_one] at hv963_0
   replace hv963_0 := Option.some.inj (hv963_0.symm.trans hx963_0)
   rw [hv963_0] at ge963_0
   have HL963_0 := Za.mk (show Kd.R k41 41 _ _ _ _ (Zcf t930 (rd t934 1)) from ge963_0)
   clear hv963_0 ge963_0
   clear hcc963 hce963
   have HR963_0 := Za.mk hi963_0
   have HC963_0 := Za.mk hl963_0
   clear hi963_0 hl963_0
   replace p963 := eq_true p963
   replace q963 := eq_true q963
   refine Zd2 (n := 18) (S := fun w' => w'.cell? ⟨gb947, 0, none⟩ = some (.int .i64 t933) ∧ w'.cell? ⟨gb947, 1, none⟩ = some (.slice (some ad960) t934.length co13) ∧ w'.cell? ⟨gb947, 2, none⟩ = some (.slice Ao14 t937.length co14) ∧ w'.cell? ⟨gb947, 3, none⟩ = some (.int .i64 t940) ∧ w'.cell? ⟨gb947, 4, none⟩ = some (.int .i64 t941) ∧ w'.cell? ⟨gb947, 5, none⟩ = some (.slice Ao15 t942.length co15) ∧ w'.cell? ⟨gb947, 6, none⟩ = some (.int .i64 t945) ∧ w'.cell? (ad960.add ((ji24)).toNat) = some (.int .i64 (rd t934 (ji24))) ∧ w'.cell? (ad961.add ((rd t934 (ji24))).toNat) = some (.slice A961_0 (Zcf t930 (rd t934 (ji24))).length c961_0) ∧ w'.cell? ⟨ad960.block, ad960.off + 1, none⟩ = some (.int .i64 (rd t934 1)) ∧ w'.cell? (ad961.add ((rd t934 1)).toNat) = some (.slice A963_0 (Zcf t930 (rd t934 1)).length c963_0)) (ds := []) #[false, false, false, false, false, false, false, false, false, false, false, false, false, false, false, false, false, false] (by kernel_rfl) rfl rfl ⟨(Zax BK947.out 0).trans rfl, (Zax BK947.out 1).trans rfl, (Zax BK947.out 2).trans rfl, (Zax BK947.out 3).trans rfl, (Zax BK947.out 4).trans rfl, (Zax BK947.out 5).trans rfl, (Zax BK947.out 6).trans rfl, hx960_0, hx961_0, hx962_0, hx963_0⟩ (fun hHeld => ?_); refine Zc6 Zad.tab13 Zad.bits13 (fun HT_ HW_ => ?_)
   generalize wr.drew = w45 at HO_3 HO_6 HO_8 HO_9 HO_948001 HO_948002 HO_948005 BK929 BK947 HB HL961_0 HL963_0 HR961_0 HR963_0 hx960_0 hx961_0 hx962_0 hx963_0 hHeld ⊢
   refine Zbo (i := 0) (N := some 50) (v := ?_) (a' := ?_) #[true, false, false, false, false, false, false, false, false, false, false, false, false, false, false, false, false, false] rfl rfl (Zbc HT_.out (by kernel_rfl)) (fun _ _ _ h => h) (Or.inl ⟨by rfl, ?_⟩) ?_ ?_
   rotate_left
   ·intro w'
    go_simp
    with_reducible rfl
   rotate_left
   ·simp only [Act.put, List.setIfInBounds_toArray, List.set_cons_zero, List.set_cons_succ, Zbe, Zbg]
    rfl
   refine Zbo (i := 1) (N := some 51) (v := ?_) (a' := ?_) #[true, true, false, false, false, false, false, false, false, false, false, false, false, false, false, false, false, false] rfl rfl (Zbc HT_.out (by kernel_rfl)) (fun _ _ _ h => h) (Or.inl ⟨by rfl, ?_⟩) ?_ ?_
   rotate_left
   ·intro w'
    go_simp
    with_reducible rfl
   rotate_left
   ·simp only [Act.put, List.setIfInBounds_toArray, List.set_cons_zero, List.set_cons_succ, Zbe, Zbg]
    rfl
   refine Zbo (i := 3) (N := some 53) (v := ?_) (a' := ?_) #[true, true, false, true, false, false, false, false, false, false, false, false, false, false, false, false, false, false] rfl rfl (Zbc HT_.out (by kernel_rfl)) (fun _ _ _ h => h) (Or.inl ⟨by rfl, ?_⟩) ?_ ?_
   rotate_left
   ·intro w'
    go_simp
    with_reducible rfl
   rotate_left
   ·simp only [Act.put, List.setIfInBounds_toArray, List.set_cons_zero, List.set_cons_succ, Zbe, Zbg]
    rfl
   refine Zbo (i := 4) (N := some 54) (v := ?_) (a' := ?_) #[true, true, false, true, true, false, false, false, false, false, false, false, false, false, false, false, false, false] rfl rfl (Zbc HT_.out (by kernel_rfl)) (fun _ _ _ h => h) (Or.inl ⟨by rfl, ?_⟩) ?_ ?_
   rotate_left
   ·intro w'
    go_simp
    with_reducible rfl
   rotate_left
   ·simp only [Act.put, List.setIfInBounds_toArray, List.set_cons_zero, List.set_cons_succ, Zbe, Zbg]
    rfl
   refine Zbo (i := 9) (N := some 59) (v := ?_) (a' := ?_) #[true, true, false, true, true, false, false, false, false, true, false, false, false, false, false, false, false, false] rfl rfl (Zbc HT_.out (by kernel_rfl)) (fun _ _ _ h => h) (Or.inl ⟨by rfl, ?_⟩) ?_ ?_
   rotate_left
   ·intro w'
    go_simp
    with_reducible rfl
   rotate_left
   ·simp only [Act.put, List.setIfInBounds_toArray, List.set_cons_zero, List.set_cons_succ, Zbe, Zbg]
    rfl
   refine Zbo (i := 10) (N := some 60) (v := ?_) (a' := ?_) #[true, true, false, true, true, false, false, false, false, true, true, false, false, false, false, false, false, false] rfl rfl (Zbc HT_.out (by kernel_rfl)) (fun _ _ _ h => h) (Or.inl ⟨by rfl, ?_⟩) ?_ ?_
   rotate_left
   ·intro w'
    go_simp
    with_reducible rfl
   rotate_left
   ·simp only [Act.put, List.setIfInBounds_toArray, List.set_cons_zero, List.set_cons_succ, Zbe, Zbg]
    rfl
   refine Zd (i := 2) (N := some 52) (v := ?_) (a' := ?_) #[true, true, true, true, true, false, false, false, false, true, true, false, false, false, false, false, false, false] rfl rfl (Zca HT_.out HW_.out (by kernel_rfl)) (fun _ _ _ h => h) (Or.inl ⟨by rfl, ?_⟩) hHeld ?_ ?_
   rotate_left
   ·rintro w' ⟨s0, s1, s2, s3, s4, s5, s6, s7, s8, s9, s10⟩
    go_simp
    with_reducible rfl
   rotate_left
   ·simp only [Act.put, List.setIfInBounds_toArray, List.set_cons_zero, List.set_cons_succ, Zbe, Zbg]
    rfl
   refine Zbo (i := 5) (N := some 55) (v := ?_) (a' := ?_) #[true, true, true, true, true, true, false, false, false, true, true, false, false, false, false, false, false, false] rfl rfl (Zbc HT_.out (by kernel_rfl)) (fun _ _ _ h => h) (Or.inl ⟨by rfl, ?_⟩) ?_ ?_
   rotate_left
   ·intro w'
    go_simp
    with_reducible rfl
   rotate_left
   ·simp only [Act.put, List.setIfInBounds_toArray, List.set_cons_zero, List.set_cons_succ, Zbe, Zbg]
    rfl
   refine Zd (i := 6) (N := some 56) (v := ?_) (a' := ?_) #[true, true, true, true, true, true, true, false, false, true, true, false, false, false, false, false, false, false] rfl rfl (Zca HT_.out HW_.out (by kernel_rfl)) (fun _ _ _ h => h) (Or.inl ⟨by rfl, ?_⟩) hHeld ?_ ?_
   rotate_left
   ·rintro w' ⟨s0, s1, s2, s3, s4, s5, s6, s7, s8, s9, s10⟩
    go_simp
    with_reducible rfl
   rotate_left
   ·simp only [Act.put, List.setIfInBounds_toArray, List.set_cons_zero, List.set_cons_succ, Zbe, Zbg]
    rfl
   refine Zbo (i := 7) (N := some 57) (v := ?_) (a' := ?_) #[true, true, true, true, true, true, true, true, false, true, true, false, false, false, false, false, false, false] rfl rfl (Zbc HT_.out (by kernel_rfl)) (fun _ _ _ h => h) (Or.inl ⟨by rfl, ?_⟩) ?_ ?_
   rotate_left
   ·intro w'
    go_simp
    with_reducible rfl
   rotate_left
   ·simp only [Act.put, List.setIfInBounds_toArray, List.set_cons_zero, List.set_cons_succ, Zbe, Zbg]
    rfl
   refine Zd (i := 8) (N := some 58) (v := ?_) (a' := ?_) #[true, true, true, true, true, true, true, true, true, true, true, false, false, false, false, false, false, false] rfl rfl (Zca HT_.out HW_.out (by kernel_rfl)) (fun _ _ _ h => h) (Or.inl ⟨by rfl, ?_⟩) hHeld ?_ ?_
   rotate_left
   ·rintro w' ⟨s0, s1, s2, s3, s4, s5, s6, s7, s8, s9, s10⟩
    go_simp
    with_reducible rfl
   rotate_left
   ·simp only [Act.put, List.setIfInBounds_toArray, List.set_cons_zero, List.set_cons_succ, Zbe, Zbg]
    rfl
   refine Zd (i := 11) (N := some 61) (v := ?_) (a' := ?_) #[true, true, true, true, true, true, true, true, true, true, true, true, false, false, false, false, false, false] rfl rfl (Zca HT_.out HW_.out (by kernel_rfl)) (fun _ _ _ h => h) (Or.inl ⟨by rfl, ?_⟩) hHeld ?_ ?_
   rotate_left
   ·rintro w' ⟨s0, s1, s2, s3, s4, s5, s6, s7, s8, s9, s10⟩
    go_simp
    with_reducible rfl
   rotate_left
   ·simp only [Act.put, List.setIfInBounds_toArray, List.set_cons_zero, List.set_cons_succ, Zbe, Zbg]
    rfl
   refine Zbo (i := 12) (N := some 62) (v := ?_) (a' := ?_) #[true, true, true, true, true, true, true, true, true, true, true, true, true, false, false, false, false, false] rfl rfl (Zbc HT_.out (by kernel_rfl)) (fun _ _ _ h => h) (Or.inl ⟨by rfl, ?_⟩) ?_ ?_
   rotate_left
   ·intro w'
    go_simp
    with_reducible rfl
   rotate_left
   ·simp only [Act.put, List.setIfInBounds_toArray, List.set_cons_zero, List.set_cons_succ, Zbe, Zbg]
    rfl
   refine Zd (i := 13) (N := some 63) (v := ?_) (a' := ?_) #[true, true, true, true, true, true, true, true, true, true, true, true, true, true, false, false, false, false] rfl rfl (Zca HT_.out HW_.out (by kernel_rfl)) (fun _ _ _ h => h) (Or.inl ⟨by rfl, ?_⟩) hHeld ?_ ?_
   rotate_left
   ·rintro w' ⟨s0, s1, s2, s3, s4, s5, s6, s7, s8, s9, s10⟩
    go_simp
    with_reducible rfl
   rotate_left
   ·simp only [Act.put, List.setIfInBounds_toArray, List.set_cons_zero, List.set_cons_succ, Zbe, Zbg]
    rfl
   refine Zbo (i := 14) (N := some 64) (v := ?_) (a' := ?_) #[true, true, true, true, true, true, true, true, true, true, true, true, true, true, true, false, false, false] rfl rfl (Zbc HT_.out (by kernel_rfl)) (fun _ _ _ h => h) (Or.inl ⟨by rfl, ?_⟩) ?_ ?_
   rotate_left
   ·intro w'
    go_simp
    with_reducible rfl
   rotate_left
   ·simp only [Act.put, List.setIfInBounds_toArray, List.set_cons_zero, List.set_cons_succ, Zbe, Zbg]
    rfl
   refine Zd (i := 15) (N := some 65) (v := ?_) (a' := ?_) #[true, true, true, true, true, true, true, true, true, true, true, true, true, true, true, true, false, false] rfl rfl (Zca HT_.out HW_.out (by kernel_rfl)) (fun _ _ _ h => h) (Or.inl ⟨by rfl, ?_⟩) hHeld ?_ ?_
   rotate_left
   ·rintro w' ⟨s0, s1, s2, s3, s4, s5, s6, s7, s8, s9, s10⟩
    go_simp
    with_reducible rfl
   rotate_left
   ·simp only [Act.put, List.setIfInBounds_toArray, List.set_cons_zero, List.set_cons_succ, Zbe, Zbg]
    rfl
   refine one_ (i := 16) (N := some 66) #[true, true, true, true, true, true, true, true, true, true, true, true, true, true, true, true, true, false] rfl rfl (Zd1 HT_.out (by kernel_rfl)) (by decide) (fun K hK => ?_)
   refine goes_ Try.func37 (by kernel_rfl) rfl #[.slice A961_0 (Zcf t930 (rd t934 (ji24))).length c961_0, .slice A963_0 (Zcf t930 (rd t934 1)).length c963_0, .bool true] (by rfl) rfl rfl (by (try simp only [List.map_toArray, List.map_cons, List.map_nil]); first | done | (simp only [hji24]; rfl) | rfl | (simp only [List.length_drop, List.length_take]; rfl)) ?_
   with_reducible refine (Za4.calls k1 _ _ (Zcf t930 (rd t934 (ji24))) _ _ (Zcf t930 (rd t934 1)) true t964 _ ?side1 ?side2 ?side3 ?side4 A32.out).mono ?_
   (case side1 => repeat (first | exact (by repeat (first | (with_reducible exact HR961_0.out) | (with_reducible refine Kd.Za6 ?_ _) | (with_reducible refine Kd.Za0 ?_ _) | (with_reducible refine Kd.Zbd ?_) | exact HR961_0.out)) | (with_reducible refine Kd.Za6 ?_ _) | (with_reducible refine Kd.Za0 ?_ _) | (with_reducible refine Kd.Zbd ?_)))
   (case side2 => exact HC961_0.out)
   (case side3 => repeat (first | exact (by repeat (first | (with_reducible exact HR963_0.out) | (with_reducible refine Kd.Za6 ?_ _) | (with_reducible refine Kd.Za0 ?_ _) | (with_reducible refine Kd.Zbd ?_) | exact HR963_0.out)) | (with_reducible refine Kd.Za6 ?_ _) | (with_reducible refine Kd.Za0 ?_ _) | (with_reducible refine Kd.Zbd ?_)))
   (case side4 => exact HC963_0.out)
   rintro e w46 ⟨v965, rfl, ho0, hb⟩
   have HS7_ := (hb.cell (World.block_lt_of_cell? _ _ (hHeld.2.2.2.2.2.2.2.1))).trans (hHeld.2.2.2.2.2.2.2.1)
   have HS8_ := (hb.cell (World.block_lt_of_cell? _ _ (hHeld.2.2.2.2.2.2.2.2.1))).trans (hHeld.2.2.2.2.2.2.2.2.1)
   have HS9_ := (hb.cell (World.block_lt_of_cell? _ _ (hHeld.2.2.2.2.2.2.2.2.2.1))).trans (hHeld.2.2.2.2.2.2.2.2.2.1)
   have HS10_ := (hb.cell (World.block_lt_of_cell? _ _ (hHeld.2.2.2.2.2.2.2.2.2.2))).trans (hHeld.2.2.2.2.2.2.2.2.2.2)
   refine ⟨_, rfl, ?_⟩
   have n0_ := Za.mk (Kd.Zcs (mvS HO_3.out) (Kd.Zbs ho0) hb)
   have n1_ := Za.mk (Kd.Zcs (mvS HO_6.out) (Kd.Zbs ho0) hb)
   have n2_ := Za.mk (Kd.Zbj (mvR HO_8.out) hb)
   have n3_ := Za.mk (Kd.Zbj (mvR HO_9.out) hb)
   have n4_ := Za.mk (Kd.Zbj (mvR HO_948001.out) hb)
   have n5_ := Za.mk (Kd.Zbj (mvR HO_948002.out) hb)
   have n6_ := Za.mk (Kd.Zb8 (mvS HO_948005.out) hb)
   have n7_ := Za.mk (Kd.Zbr (mvR HL961_0.out) (Kd.Zbs ho0) hb)
   have n8_ := Za.mk (Kd.Zbr (mvR HL963_0.out) (Kd.Zbs ho0) hb)
   have n9_ := Za.mk (Kd.Zbw (Kd.Zcc (Kd.Zcc ho0 (Kd.R_lt (mvR HL961_0.out))) (Kd.R_lt (mvR HL963_0.out))) (Zam (mvB HB.out)))
   have n10_ := Za.mk (Za9 (g := gb929) (o := .cells #[.slice A0_0 l0_0.length c0_0, .int .i64 a0_1, .slice A0_2 l0_2.length c0_2, .slice A0_3 l0_3.length c0_3, .int .i64 a0_4, .int .i64 a0_5, .slice A0_6 l0_6.length c0_6, .int .i64 a0_7, .slice A0_8 l0_8.length c0_8, .slice A0_9 l0_9.length c0_9] 27 (0, 0)) (mvK BK929.out) hb)
   have n11_ := Za.mk (Za9 (g := gb947) (o := .cells #[.int .i64 t933, .slice (some ad960) t934.length co13, .slice Ao14 t937.length co14, .int .i64 t940, .int .i64 t941, .slice Ao15 t942.length co15, .int .i64 t945] 25 (0, 0)) (mvK BK947.out) hb)
   have n12_ := Za.mk (Kd.Zbk (by first | (with_reducible exact HR961_0.out) | (with_reducible exact Kd.Za0 HR961_0.out _) | (with_reducible exact Kd.Zbd HR961_0.out) | repeat (first | (with_reducible exact HR961_0.out) | (with_reducible refine Kd.Za6 ?_ _) | (with_reducible refine Kd.Za0 ?_ _) | (with_reducible refine Kd.Zbd ?_) | exact HR961_0.out)) hb)
   have n13_ := Za.mk (Kd.Zbk (by first | (with_reducible exact HR963_0.out) | (with_reducible exact Kd.Za0 HR963_0.out _) | (with_reducible exact Kd.Zbd HR963_0.out) | repeat (first | (with_reducible exact HR963_0.out) | (with_reducible refine Kd.Za6 ?_ _) | (with_reducible refine Kd.Za0 ?_ _) | (with_reducible refine Kd.Zbd ?_) | exact HR963_0.out)) hb)
   have n14_ := Za.mk (Zau (mvB HB.out) hb)
   clear HO_3
   clear HO_6
   clear HO_8
   clear HO_9
   clear HO_948001
   clear HO_948002
   clear HO_948005
   clear HL961_0
   clear HL963_0
   clear BK929
   clear BK947
   clear HR961_0
   clear HR963_0
   clear HB
   have HO_3 := n0_
   have HO_6 := n1_
   have HO_8 := n2_
   have HO_9 := n3_
   have HO_948001 := n4_
   have HO_948002 := n5_
   have HO_948005 := n6_
   have HL961_0 := n7_
   have HL963_0 := n8_
   have HO966 := n9_
   have BK929 := n10_
   have BK947 := n11_
   have HR961_0 := n12_
   have HR963_0 := n13_
   have HB := n14_
   clear n0_ n1_ n2_ n3_ n4_ n5_ n6_ n7_ n8_ n9_ n10_ n11_ n12_ n13_ n14_
   (try clear hb)
   (try clear hb2)
   (try clear hk)
   (try clear hi)
   (try clear ho0)
   refine hK.out _ _ ⟨(Zax BK947.out 0).trans rfl, (Zax BK947.out 1).trans rfl, (Zax BK947.out 2).trans rfl, (Zax BK947.out 3).trans rfl, (Zax BK947.out 4).trans rfl, (Zax BK947.out 5).trans rfl, (Zax BK947.out 6).trans rfl, HS7_, HS8_, HS9_, HS10_⟩ (fun hHeld => ?_)
   clear hK K
   refine Zfv (a' := ?_) ?_ ?_
   rotate_left
   ·show Act.put _ (some 66) _ = _
    simp only [Act.put, List.setIfInBounds_toArray, List.set_cons_zero, List.set_cons_succ, Zbe, Zbg]
    rfl
   refine Zbo (i := 17) (N := some 11) (v := ?_) (a' := ?_) #[true, true, true, true, true, true, true, true, true, true, true, true, true, true, true, true, true, true] rfl rfl (Zbc HT_.out (by kernel_rfl)) (fun _ _ _ h => h) (Or.inl ⟨by rfl, ?_⟩) ?_ ?_
   rotate_left
   ·intro w'
    go_simp
    with_reducible rfl
   rotate_left
   ·simp only [Act.put, List.setIfInBounds_toArray, List.set_cons_zero, List.set_cons_succ, Zbe, Zbg]
    rfl
   refine Ze0 (Zdm HT_.out (by kernel_rfl)) ?_
   obtain ⟨hcz47_0, hcz47_1, hcz47_2, hcz47_3, hcz47_4, hcz47_5, hcz47_6, hfz47_0, hfz47_1, hfz47_2, hfz47_3, hfz47_4, hfz47_5, hfz47_6⟩ := Zcw BK947.out
   have p967 : 0 ≤ (0 : Int) := (by omega)
   have q967 : 0 < (t934.length : Int) := of_decide_eq_true (by first | (with_reducible assumption) | assumption)
   obtain ⟨ad967, e967, hx967_0⟩ := Kd.Zb7 (Kd.Za3 HO_948001.out).2.2 0 p967 q967
   obtain rfl : ad960 = ad967 := (by injection e967)
   have qi967 : (0 < t934.length) = True := eq_true (by omega)
   (try rw [show ((0 : Int)).toNat = 0 from rfl] at hx967_0)
   (try rw [Addr.add_zero'] at hx967_0)
   replace p967 := eq_true p967
   replace q967 := eq_true q967
   have p968 : 0 ≤ ((rd t934 0) : Int) := of_decide_eq_true (by first | (with_reducible assumption) | assumption)
   have q968 : (rd t934 0) < (t930.length : Int) := of_decide_eq_true (by first | (with_reducible assumption) | assumption)
   obtain ⟨ad968, A968_0, c968_0, e968, hx968_0, hl968_0, hi968_0⟩ := Zd9 (Kd.Zc HO_3.out).2.2 (rd t934 0) p968 q968
   obtain rfl : ad961 = ad968 := (by injection e968)
   obtain ⟨ce968, hce968, hMe968, hcc968⟩ := Kd.Zf3 HO_3.out [] (rd t934 0) p968 (by first | exact q968 | exact of_decide_eq_true (by first | (with_reducible assumption) | assumption) | (have e_ := (Kd.Zc HO_3.out).1; omega))
   obtain ⟨ve968_0, rfl, ge968_0⟩ := hMe968
   have hv968_0 := hcc968 0 _ rfl
   rw [Nat.add_zero, show ((Kd.slice 41 k41)).sz = 1 from rfl, Nat.mul_one] at hv968_0
   replace hv968_0 := Option.some.inj (hv968_0.symm.trans hx968_0)
   rw [hv968_0] at ge968_0
   have HL968_0 := Za.mk (show Kd.R k41 41 _ _ _ _ (Zcf t930 (rd t934 0)) from ge968_0)
   clear hv968_0 ge968_0
   clear hcc968 hce968
   have HR968_0 := Za.mk hi968_0
   have HC968_0 := Za.mk hl968_0
   clear hi968_0 hl968_0
   replace p968 := eq_true p968
   replace q968 := eq_true q968
   try go_wp2_with (first | ((with_reducible refine Zbn (f := 29) rfl ?_); refine Zcp (some 74) rfl rfl Try.func29 (by kernel_rfl) rfl #[.slice A968_0 (Zcf t930 (rd t934 0)).length c968_0] rfl (by (try simp only [List.map_toArray, List.map_cons, List.map_nil]); first | done | rfl | (simp only [List.length_drop, List.length_take]; rfl)) ?_; (with_reducible refine (Zaj.calls k1 _ _ (Zcf t930 (rd t934 0)) t969 _ ?side1 ?side2 A36.out).mono ?_); (case side1 => repeat (first | exact (by repeat (first | (with_reducible exact HR968_0.out) | (with_reducible refine Kd.Za6 ?_ _) | (with_reducible refine Kd.Za0 ?_ _) | (with_reducible refine Kd.Zbd ?_) | exact HR968_0.out)) | (with_reducible refine Kd.Za6 ?_ _) | (with_reducible refine Kd.Za0 ?_ _) | (with_reducible refine Kd.Zbd ?_))); (case side2 => exact HC968_0.out); rintro e w48 ⟨v970, rfl, ho0, hb⟩; refine ⟨_, rfl, ?_⟩; have n0_ := Za.mk (Kd.Zb8 (mvS HO_3.out) hb); have n1_ := Za.mk (Kd.Zb8 (mvS HO_6.out) hb); have n2_ := Za.mk (Kd.Zbr (mvR HO_8.out) (Kd.Zbs ho0) hb); have n3_ := Za.mk (Kd.Zbr (mvR HO_9.out) (Kd.Zbs ho0) hb); have n4_ := Za.mk (Kd.Zbr (mvR HO_948001.out) (Kd.Zbs ho0) hb); have n5_ := Za.mk (Kd.Zbr (mvR HO_948002.out) (Kd.Zbs ho0) hb); have n6_ := Za.mk (Kd.Zcs (mvS HO_948005.out) (Kd.Zbs ho0) hb); have n7_ := Za.mk (Kd.Zbj (mvR HL961_0.out) hb); have n8_ := Za.mk (Kd.Zbj (mvR HL963_0.out) hb); have n9_ := Za.mk (Kd.Zbj (mvR HO966.out) hb); have n10_ := Za.mk (Kd.Zbj (mvR HL968_0.out) hb); have n11_ := Za.mk (Kd.Zbw (Kd.Zcc (Kd.Zcc (Kd.Zcc (Kd.Zcc ho0 (Kd.R_lt (mvR HO_8.out))) (Kd.R_lt (mvR HO_9.out))) (Kd.R_lt (mvR HO_948001.out))) (Kd.R_lt (mvR HO_948002.out))) (Zam (mvB HB.out))); have n12_ := Za.mk (Za9 (g := gb929) (o := .cells #[.slice A0_0 l0_0.length c0_0, .int .i64 a0_1, .slice A0_2 l0_2.length c0_2, .slice A0_3 l0_3.length c0_3, .int .i64 a0_4, .int .i64 a0_5, .slice A0_6 l0_6.length c0_6, .int .i64 a0_7, .slice A0_8 l0_8.length c0_8, .slice A0_9 l0_9.length c0_9] 27 (0, 0)) (mvK BK929.out) hb); have n13_ := Za.mk (Za9 (g := gb947) (o := .cells #[.int .i64 t933, .slice (some ad960) t934.length co13, .slice Ao14 t937.length co14, .int .i64 t940, .int .i64 t941, .slice Ao15 t942.length co15, .int .i64 t945] 25 (0, 0)) (mvK BK947.out) hb); have n14_ := Za.mk (Kd.Zbk (by first | (with_reducible exact HR961_0.out) | (with_reducible exact Kd.Za0 HR961_0.out _) | (with_reducible exact Kd.Zbd HR961_0.out) | repeat (first | (with_reducible exact HR961_0.out) | (with_reducible refine Kd.Za6 ?_ _) | (with_reducible refine Kd.Za0 ?_ _) | (with_reducible refine Kd.Zbd ?_) | exact HR961_0.out)) hb); have n15_ := Za.mk (Kd.Zbk (by first | (with_reducible exact HR963_0.out) | (with_reducible exact Kd.Za0 HR963_0.out _) | (with_reducible exact Kd.Zbd HR963_0.out) | repeat (first | (with_reducible exact HR963_0.out) | (with_reducible refine Kd.Za6 ?_ _) | (with_reducible refine Kd.Za0 ?_ _) | (with_reducible refine Kd.Zbd ?_) | exact HR963_0.out)) hb); have n16_ := Za.mk (Kd.Zbk (by first | (with_reducible exact HR968_0.out) | (with_reducible exact Kd.Za0 HR968_0.out _) | (with_reducible exact Kd.Zbd HR968_0.out) | repeat (first | (with_reducible exact HR968_0.out) | (with_reducible refine Kd.Za6 ?_ _) | (with_reducible refine Kd.Za0 ?_ _) | (with_reducible refine Kd.Zbd ?_) | exact HR968_0.out)) hb); have n17_ := Za.mk (Zau (mvB HB.out) hb); clear HO_3; clear HO_6; clear HO_8; clear HO_9; clear HO_948001; clear HO_948002; clear HO_948005; clear HL961_0; clear HL963_0; clear HO966; clear HL968_0; clear BK929; clear BK947; clear HR961_0; clear HR963_0; clear HR968_0; clear HB; have HO_3 := n0_; have HO_6 := n1_; have HO_8 := n2_; have HO_9 := n3_; have HO_948001 := n4_; have HO_948002 := n5_; have HO_948005 := n6_; have HL961_0 := n7_; have HL963_0 := n8_; have HO966 := n9_; have HL968_0 := n10_; have HO971 := n11_; have BK929 := n12_; have BK947 := n13_; have HR961_0 := n14_; have HR963_0 := n15_; have HR968_0 := n16_; have HB := n17_; clear n0_ n1_ n2_ n3_ n4_ n5_ n6_ n7_ n8_ n9_ n10_ n11_ n12_ n13_ n14_ n15_ n16_ n17_; (try clear hb); (try clear hb2); (try clear hk); (try clear hi); (try clear ho0); obtain ⟨Ao49, co49, eo49⟩ := Kd.Zbu HO971.out; subst eo49) | ((with_reducible refine Zbn (f := 31) rfl ?_); refine Zcp (some 76) rfl rfl Try.func31 (by kernel_rfl) rfl #[.slice Ao49 t969.length co49, .int .i64 x10_1] rfl (by (try simp only [List.map_toArray, List.map_cons, List.map_nil]); first | done | rfl | (simp only [List.length_drop, List.length_take]; rfl)) ?_; (with_reducible refine (Zay.calls k1 _ _ t969 x10_1 true _ ?side1 ?side2 A37.out).mono ?_); (case side1 => repeat (first | exact (Kd.Za3 HO971.out).2.2 | (with_reducible refine Kd.Za6 ?_ _) | (with_reducible refine Kd.Za0 ?_ _) | (with_reducible refine Kd.Zbd ?_))); (case side2 => exact (Kd.Za3 HO971.out).2.1); rintro e w' ⟨rfl, ⟨nd, rfl⟩⟩; refine ⟨_, rfl, ?_⟩; obtain ⟨Ao50, co50, eo50⟩ := Kd.Zbu HO966.out; subst eo50) | ((with_reducible refine Zbm (b := .append) (xs := #[.tmp 82, .tmp 84]) rfl ?_); (try (refine Zco (by rfl) ?_; dsimp only)); at_builtin; refine Kd.Zcg (Kd.int .i64) (w0 := w) w.heap.size rfl (.tmp 82) (.tmp 84) 23 3 (.int .i64 0) 8 rfl Try.underlying23 info3 rfl (by decide) (by omega) u8 x8_1 x10_1 [.int .i64 x10_1] (fun k_ => some k_ ≠ (u9 : Value).ownBlock ∧ some k_ ≠ (.slice (some ad960) t934.length co13 : Value).ownBlock ∧ some k_ ≠ (.slice Ao14 t937.length co14 : Value).ownBlock ∧ some k_ ≠ (.slice Ao49 t969.length co49 : Value).ownBlock) (fun _ => False) rfl rfl ?aP (fun _ hk => hk.elim) ?aF ?aO ?aB ?aS ?aL ?_; (case aP => exact rfl); (case aB => exact (mvB HB.out)); (case aF => exact (fun k_ hk => ⟨Kd.fresh' (Kd.R_lt (mvR HO_9.out)) k_ hk, Kd.fresh' (Kd.R_lt (mvR HO_948001.out)) k_ hk, Kd.fresh' (Kd.R_lt (mvR HO_948002.out)) k_ hk, Kd.fresh' (Kd.R_lt (mvR HO971.out)) k_ hk⟩)); (case aO => exact (by (with_reducible repeat (first | apply Kd.Zao | apply Kd.Zan | apply Kd.Zaq)); exact Kd.Zbh HO_8.out (fun _ hk => ⟨hk.1.1, ⟨hk.1.2.1, ⟨hk.1.2.2, hk.2⟩⟩⟩))); (case aS => exact (Zam (mvB HB.out))); (case aL => have := LMc40.out; omega); intro v974 w51 ho hb hg hat; rw [← Ny973.out] at ho; have n0_ := Za.mk (Kd.S_over' (mvS HO_3.out) (Kd.Zc2 (mvR HO_8.out)) (by decide) hg); have n1_ := Za.mk (Kd.S_over' (mvS HO_6.out) (Kd.Zc2 (mvR HO_8.out)) (by decide) hg); have n2_ := Za.mk (Kd.Zct (ok := (fun k_ => some k_ ≠ (.slice (some ad960) t934.length co13 : Value).ownBlock ∧ some k_ ≠ (.slice Ao14 t937.length co14 : Value).ownBlock ∧ some k_ ≠ (.slice Ao49 t969.length co49 : Value).ownBlock)) (by (with_reducible repeat (first | apply Kd.Zao | apply Kd.Zan | apply Kd.Zaq)); exact Kd.Zbh HO_9.out (fun _ hk => ⟨⟨hk.1.2.1, ⟨hk.1.2.2, hk.2⟩⟩, hk.1.1⟩)) hg hat); have n3_ := Za.mk (Kd.Zct (ok := (fun k_ => some k_ ≠ (u9 : Value).ownBlock ∧ some k_ ≠ (.slice Ao14 t937.length co14 : Value).ownBlock ∧ some k_ ≠ (.slice Ao49 t969.length co49 : Value).ownBlock)) (by (with_reducible repeat (first | apply Kd.Zao | apply Kd.Zan | apply Kd.Zaq)); exact Kd.Zbh HO_948001.out (fun _ hk => ⟨⟨hk.1.2.1, ⟨hk.1.2.2, hk.2⟩⟩, hk.1.1⟩)) hg hat); have n4_ := Za.mk (Kd.Zct (ok := (fun k_ => some k_ ≠ (u9 : Value).ownBlock ∧ some k_ ≠ (.slice (some ad960) t934.length co13 : Value).ownBlock ∧ some k_ ≠ (.slice Ao49 t969.length co49 : Value).ownBlock)) (by (with_reducible repeat (first | apply Kd.Zao | apply Kd.Zan | apply Kd.Zaq)); exact Kd.Zbh HO_948002.out (fun _ hk => ⟨⟨hk.1.2.1, ⟨hk.1.2.2, hk.2⟩⟩, hk.1.1⟩)) hg hat); have n5_ := Za.mk (Kd.S_after (ok := (fun k_ => some k_ ≠ (u9 : Value).ownBlock ∧ some k_ ≠ (.slice (some ad960) t934.length co13 : Value).ownBlock ∧ some k_ ≠ (.slice Ao14 t937.length co14 : Value).ownBlock ∧ some k_ ≠ (.slice Ao49 t969.length co49 : Value).ownBlock)) (by (with_reducible repeat (first | apply Kd.Zb5 | apply Kd.Zb6 | apply Kd.Zb9)); exact Kd.Zck HO_948005.out (fun _ hk => ⟨⟨hk.1.2.1, ⟨hk.1.2.2.1, ⟨hk.1.2.2.2, hk.2⟩⟩⟩, hk.1.1⟩)) hg hat); have n6_ := Za.mk (Zci (g := gb929) (o := .cells #[.slice A0_0 l0_0.length c0_0, .int .i64 a0_1, .slice A0_2 l0_2.length c0_2, .slice A0_3 l0_3.length c0_3, .int .i64 a0_4, .int .i64 a0_5, .slice A0_6 l0_6.length c0_6, .int .i64 a0_7, .slice A0_8 l0_8.length c0_8, .slice A0_9 l0_9.length c0_9] 27 (0, 0)) (mvK BK929.out) hg (Kd.R_ne HO_8.out BK929.out (by decide))); have n7_ := Za.mk (Zci (g := gb947) (o := .cells #[.int .i64 t933, .slice (some ad960) t934.length co13, .slice Ao14 t937.length co14, .int .i64 t940, .int .i64 t941, .slice Ao15 t942.length co15, .int .i64 t945] 25 (0, 0)) (mvK BK947.out) hg (Kd.R_ne HO_8.out BK947.out (by decide))); have n8_ := Za.mk (Kd.Zds (mvR HL961_0.out) (Kd.Zc2 (mvR HO_8.out)) (by decide) hg); have n9_ := Za.mk (Kd.Zds (mvR HL963_0.out) (Kd.Zc2 (mvR HO_8.out)) (by decide) hg); have n10_ := Za.mk (Kd.Zds (mvR HO966.out) (Kd.Zc2 (mvR HO_8.out)) (by decide) hg); have n11_ := Za.mk (Kd.Zds (mvR HL968_0.out) (Kd.Zc2 (mvR HO_8.out)) (by decide) hg); have n12_ := Za.mk (Kd.Zct (ok := (fun k_ => some k_ ≠ (u9 : Value).ownBlock ∧ some k_ ≠ (.slice (some ad960) t934.length co13 : Value).ownBlock ∧ some k_ ≠ (.slice Ao14 t937.length co14 : Value).ownBlock)) (by (with_reducible repeat (first | apply Kd.Zao | apply Kd.Zan | apply Kd.Zaq)); exact Kd.Zbh HO971.out (fun _ hk => ⟨⟨hk.1.1.2, ⟨hk.1.2, hk.2⟩⟩, hk.1.1.1.2⟩)) hg hat); have n13_ := Za.mk (hb); have n14_ := Za.mk (ho); clear HO_3; clear HO_6; clear HO_9; clear HO_948001; clear HO_948002; clear HO_948005; clear BK929; clear BK947; clear HL961_0; clear HL963_0; clear HO966; clear HL968_0; clear HO971; clear HB; clear HO_8; have HO_3 := n0_; have HO_6 := n1_; have HO_9 := n2_; have HO_948001 := n3_; have HO_948002 := n4_; have HO_948005 := n5_; have BK929 := n6_; have BK947 := n7_; have HL961_0 := n8_; have HL963_0 := n9_; have HO966 := n10_; have HL968_0 := n11_; have HO971 := n12_; have HB := n13_; have HO975 := n14_; clear n0_ n1_ n2_ n3_ n4_ n5_ n6_ n7_ n8_ n9_ n10_ n11_ n12_ n13_ n14_; clear ho hb hg hat) | ((with_reducible refine Zbn (f := 29) rfl ?_); refine Zcp (some 88) rfl rfl Try.func29 (by kernel_rfl) rfl #[.slice Ao50 t964.length co50] rfl (by (try simp only [List.map_toArray, List.map_cons, List.map_nil]); first | done | rfl | (simp only [List.length_drop, List.length_take]; rfl)) ?_; (with_reducible refine (Zaj.calls k1 _ _ t964 t976 _ ?side1 ?side2 A41.out).mono ?_); (case side1 => repeat (first | exact (Kd.Za3 HO966.out).2.2 | (with_reducible refine Kd.Za6 ?_ _) | (with_reducible refine Kd.Za0 ?_ _) | (with_reducible refine Kd.Zbd ?_))); (case side2 => exact (Kd.Za3 HO966.out).2.1); rintro e w52 ⟨v977, rfl, ho0, hb⟩; refine ⟨_, rfl, ?_⟩; have n0_ := Za.mk (Kd.Zb8 (mvS HO_3.out) hb); have n1_ := Za.mk (Kd.Zb8 (mvS HO_6.out) hb); have n2_ := Za.mk (Kd.Zbr (mvR HO_9.out) (Kd.Zbs ho0) hb); have n3_ := Za.mk (Kd.Zbr (mvR HO_948001.out) (Kd.Zbs ho0) hb); have n4_ := Za.mk (Kd.Zbr (mvR HO_948002.out) (Kd.Zbs ho0) hb); have n5_ := Za.mk (Kd.Zcs (mvS HO_948005.out) (Kd.Zbs ho0) hb); have n6_ := Za.mk (Kd.Zbj (mvR HL961_0.out) hb); have n7_ := Za.mk (Kd.Zbj (mvR HL963_0.out) hb); have n8_ := Za.mk (Kd.Zbj (mvR HO966.out) hb); have n9_ := Za.mk (Kd.Zbj (mvR HL968_0.out) hb); have n10_ := Za.mk (Kd.Zbr (mvR HO971.out) (Kd.Zbs ho0) hb); have n11_ := Za.mk (Kd.Zbr (mvR HO975.out) (Kd.Zbs ho0) hb); have n12_ := Za.mk (Kd.Zbw (Kd.Zcc (Kd.Zcc (Kd.Zcc (Kd.Zcc (Kd.Zcc ho0 (Kd.R_lt (mvR HO_9.out))) (Kd.R_lt (mvR HO_948001.out))) (Kd.R_lt (mvR HO_948002.out))) (Kd.R_lt (mvR HO971.out))) (Kd.R_lt (mvR HO975.out))) (Zam (mvB HB.out))); have n13_ := Za.mk (Za9 (g := gb929) (o := .cells #[.slice A0_0 l0_0.length c0_0, .int .i64 a0_1, .slice A0_2 l0_2.length c0_2, .slice A0_3 l0_3.length c0_3, .int .i64 a0_4, .int .i64 a0_5, .slice A0_6 l0_6.length c0_6, .int .i64 a0_7, .slice A0_8 l0_8.length c0_8, .slice A0_9 l0_9.length c0_9] 27 (0, 0)) (mvK BK929.out) hb); have n14_ := Za.mk (Za9 (g := gb947) (o := .cells #[.int .i64 t933, .slice (some ad960) t934.length co13, .slice Ao14 t937.length co14, .int .i64 t940, .int .i64 t941, .slice Ao15 t942.length co15, .int .i64 t945] 25 (0, 0)) (mvK BK947.out) hb); have n15_ := Za.mk (Zau (mvB HB.out) hb); clear HO_3; clear HO_6; clear HO_9; clear HO_948001; clear HO_948002; clear HO_948005; clear HL961_0; clear HL963_0; clear HO966; clear HL968_0; clear HO971; clear HO975; clear BK929; clear BK947; clear HB; have HO_3 := n0_; have HO_6 := n1_; have HO_9 := n2_; have HO_948001 := n3_; have HO_948002 := n4_; have HO_948005 := n5_; have HL961_0 := n6_; have HL963_0 := n7_; have HO966 := n8_; have HL968_0 := n9_; have HO971 := n10_; have HO975 := n11_; have HO978 := n12_; have BK929 := n13_; have BK947 := n14_; have HB := n15_; clear n0_ n1_ n2_ n3_ n4_ n5_ n6_ n7_ n8_ n9_ n10_ n11_ n12_ n13_ n14_ n15_; (try clear hb); (try clear hb2); (try clear hk); (try clear hi); (try clear ho0); obtain ⟨Ao54, co54, eo54⟩ := Kd.Zbu HO978.out; subst eo54) | ((with_reducible refine Zbm (b := .append) (xs := #[.tmp 86, .tmp 88]) rfl ?_); (try (refine Zco (by rfl) ?_; dsimp only)); at_builtin; refine Kd.Zc7 (Kd.int .i64) (w0 := w) w.heap.size rfl (.tmp 86) (.tmp 88) 23 3 (.int .i64 0) 8 rfl Try.underlying23 info3 rfl (by decide) (by omega) u9 x9_1 t976 _ _ _ (fun k_ => some k_ ≠ (.slice (some ad960) t934.length co13 : Value).ownBlock ∧ some k_ ≠ (.slice Ao14 t937.length co14 : Value).ownBlock ∧ some k_ ≠ (.slice Ao49 t969.length co49 : Value).ownBlock ∧ some k_ ≠ (v974 : Value).ownBlock ∧ some k_ ≠ (.slice Ao54 t976.length co54 : Value).ownBlock) (fun _ => False) rfl rfl ?aO ?aR (fun _ _ h => h) (fun _ h => h.elim) ?aF ?aB ?aS ?aL ?_; (case aR => repeat (first | exact (Kd.Za3 HO978.out).2.2 | (with_reducible refine Kd.Za6 ?_ _) | (with_reducible refine Kd.Za0 ?_ _) | (with_reducible refine Kd.Zbd ?_))); (case aB => exact (mvB HB.out)); (case aF => exact (fun k_ hk => ⟨Kd.fresh' (Kd.R_lt (mvR HO_948001.out)) k_ hk, Kd.fresh' (Kd.R_lt (mvR HO_948002.out)) k_ hk, Kd.fresh' (Kd.R_lt (mvR HO971.out)) k_ hk, Kd.fresh' (Kd.R_lt (mvR HO975.out)) k_ hk, Kd.fresh' (Kd.R_lt (mvR HO978.out)) k_ hk⟩)); (case aO => exact (by (with_reducible repeat (first | apply Kd.Zao | apply Kd.Zan | apply Kd.Zaq)); exact Kd.Zbh HO_9.out (fun _ hk => ⟨hk.1.1.1, ⟨hk.1.1.2.1, ⟨hk.1.1.2.2, ⟨hk.1.2, hk.2⟩⟩⟩⟩))); (case aS => exact (Zam (mvB HB.out))); (case aL => have := LMc42.out; omega); intro v980 w53 ho hb hg hat; rw [← Ny979.out] at ho; have n0_ := Za.mk (Kd.S_over' (mvS HO_3.out) (Kd.Zc2 (mvR HO_9.out)) (by decide) hg); have n1_ := Za.mk (Kd.S_over' (mvS HO_6.out) (Kd.Zc2 (mvR HO_9.out)) (by decide) hg); have n2_ := Za.mk (Kd.Zct (ok := (fun k_ => some k_ ≠ (.slice Ao14 t937.length co14 : Value).ownBlock ∧ some k_ ≠ (.slice Ao49 t969.length co49 : Value).ownBlock ∧ some k_ ≠ (v974 : Value).ownBlock ∧ some k_ ≠ (.slice Ao54 t976.length co54 : Value).ownBlock)) (by (with_reducible repeat (first | apply Kd.Zao | apply Kd.Zan | apply Kd.Zaq)); exact Kd.Zbh HO_948001.out (fun _ hk => ⟨⟨hk.1.1.2.1, ⟨hk.1.1.2.2, ⟨hk.1.2, hk.2⟩⟩⟩, hk.1.1.1⟩)) hg hat); have n3_ := Za.mk (Kd.Zct (ok := (fun k_ => some k_ ≠ (.slice (some ad960) t934.length co13 : Value).ownBlock ∧ some k_ ≠ (.slice Ao49 t969.length co49 : Value).ownBlock ∧ some k_ ≠ (v974 : Value).ownBlock ∧ some k_ ≠ (.slice Ao54 t976.length co54 : Value).ownBlock)) (by (with_reducible repeat (first | apply Kd.Zao | apply Kd.Zan | apply Kd.Zaq)); exact Kd.Zbh HO_948002.out (fun _ hk => ⟨⟨hk.1.1.2.1, ⟨hk.1.1.2.2, ⟨hk.1.2, hk.2⟩⟩⟩, hk.1.1.1⟩)) hg hat); have n4_ := Za.mk (Kd.S_after (ok := (fun k_ => some k_ ≠ (.slice (some ad960) t934.length co13 : Value).ownBlock ∧ some k_ ≠ (.slice Ao14 t937.length co14 : Value).ownBlock ∧ some k_ ≠ (.slice Ao49 t969.length co49 : Value).ownBlock ∧ some k_ ≠ (v974 : Value).ownBlock ∧ some k_ ≠ (.slice Ao54 t976.length co54 : Value).ownBlock)) (by (with_reducible repeat (first | apply Kd.Zb5 | apply Kd.Zb6 | apply Kd.Zb9)); exact Kd.Zck HO_948005.out (fun _ hk => ⟨⟨hk.1.1.2.1, ⟨hk.1.1.2.2.1, ⟨hk.1.1.2.2.2, ⟨hk.1.2, hk.2⟩⟩⟩⟩, hk.1.1.1⟩)) hg hat); have n5_ := Za.mk (Zci (g := gb929) (o := .cells #[.slice A0_0 l0_0.length c0_0, .int .i64 a0_1, .slice A0_2 l0_2.length c0_2, .slice A0_3 l0_3.length c0_3, .int .i64 a0_4, .int .i64 a0_5, .slice A0_6 l0_6.length c0_6, .int .i64 a0_7, .slice A0_8 l0_8.length c0_8, .slice A0_9 l0_9.length c0_9] 27 (0, 0)) (mvK BK929.out) hg (Kd.R_ne HO_9.out BK929.out (by decide))); have n6_ := Za.mk (Zci (g := gb947) (o := .cells #[.int .i64 t933, .slice (some ad960) t934.length co13, .slice Ao14 t937.length co14, .int .i64 t940, .int .i64 t941, .slice Ao15 t942.length co15, .int .i64 t945] 25 (0, 0)) (mvK BK947.out) hg (Kd.R_ne HO_9.out BK947.out (by decide))); have n7_ := Za.mk (Kd.Zds (mvR HL961_0.out) (Kd.Zc2 (mvR HO_9.out)) (by decide) hg); have n8_ := Za.mk (Kd.Zds (mvR HL963_0.out) (Kd.Zc2 (mvR HO_9.out)) (by decide) hg); have n9_ := Za.mk (Kd.Zds (mvR HO966.out) (Kd.Zc2 (mvR HO_9.out)) (by decide) hg); have n10_ := Za.mk (Kd.Zds (mvR HL968_0.out) (Kd.Zc2 (mvR HO_9.out)) (by decide) hg); have n11_ := Za.mk (Kd.Zct (ok := (fun k_ => some k_ ≠ (.slice (some ad960) t934.length co13 : Value).ownBlock ∧ some k_ ≠ (.slice Ao14 t937.length co14 : Value).ownBlock ∧ some k_ ≠ (v974 : Value).ownBlock ∧ some k_ ≠ (.slice Ao54 t976.length co54 : Value).ownBlock)) (by (with_reducible repeat (first | apply Kd.Zao | apply Kd.Zan | apply Kd.Zaq)); exact Kd.Zbh HO971.out (fun _ hk => ⟨⟨hk.1.1.2.1, ⟨hk.1.1.2.2, ⟨hk.1.2, hk.2⟩⟩⟩, hk.1.1.1⟩)) hg hat); have n12_ := Za.mk (Kd.Zct (ok := (fun k_ => some k_ ≠ (.slice (some ad960) t934.length co13 : Value).ownBlock ∧ some k_ ≠ (.slice Ao14 t937.length co14 : Value).ownBlock ∧ some k_ ≠ (.slice Ao49 t969.length co49 : Value).ownBlock ∧ some k_ ≠ (.slice Ao54 t976.length co54 : Value).ownBlock)) (by (with_reducible repeat (first | apply Kd.Zao | apply Kd.Zan | apply Kd.Zaq)); exact Kd.Zbh HO975.out (fun _ hk => ⟨⟨hk.1.2.1, ⟨hk.1.2.2.1, ⟨hk.1.2.2.2, hk.2⟩⟩⟩, hk.1.1⟩)) hg hat); have n13_ := Za.mk (Kd.Zct (ok := (fun k_ => some k_ ≠ (.slice (some ad960) t934.length co13 : Value).ownBlock ∧ some k_ ≠ (.slice Ao14 t937.length co14 : Value).ownBlock ∧ some k_ ≠ (.slice Ao49 t969.length co49 : Value).ownBlock ∧ some k_ ≠ (v974 : Value).ownBlock)) (by (with_reducible repeat (first | apply Kd.Zao | apply Kd.Zan | apply Kd.Zaq)); exact Kd.Zbh HO978.out (fun _ hk => ⟨⟨hk.1.1.1.2, ⟨hk.1.1.2, ⟨hk.1.2, hk.2⟩⟩⟩, hk.1.1.1.1.2⟩)) hg hat); have n14_ := Za.mk (hb); have n15_ := Za.mk (ho); clear HO_3; clear HO_6; clear HO_948001; clear HO_948002; clear HO_948005; clear BK929; clear BK947; clear HL961_0; clear HL963_0; clear HO966; clear HL968_0; clear HO971; clear HO975; clear HO978; clear HB; clear HO_9; have HO_3 := n0_; have HO_6 := n1_; have HO_948001 := n2_; have HO_948002 := n3_; have HO_948005 := n4_; have BK929 := n5_; have BK947 := n6_; have HL961_0 := n7_; have HL963_0 := n8_; have HO966 := n9_; have HL968_0 := n10_; have HO971 := n11_; have HO975 := n12_; have HO978 := n13_; have HB := n14_; have HO981 := n15_; clear n0_ n1_ n2_ n3_ n4_ n5_ n6_ n7_ n8_ n9_ n10_ n11_ n12_ n13_ n14_ n15_; clear ho hb hg hat))
   go_roundg k1
   case measure => have := HK1.out; omega
   case rel => exact ⟨(y973), (y979), (wrap64 (x10_1 + 1)), (by first | rfl | (simp; done) | (simp [*]; done)), H', ⟨by have := HK1.out; omega⟩, ⟨by (with_reducible repeat (first | apply Kd.Zb5 | apply Kd.Zb6 | apply Kd.Zb9)); exact Kd.Zck HO_3.out (fun _ hk => hk.1)⟩, ⟨by (with_reducible repeat (first | apply Kd.Zb5 | apply Kd.Zb6 | apply Kd.Zb9)); exact Kd.Zck HO_6.out (fun _ hk => hk.1)⟩, ⟨by (with_reducible repeat (first | apply Kd.Zao | apply Kd.Zan | apply Kd.Zaq)); exact Kd.Zbh HO975.out (fun _ hk => ⟨hk.2, ⟨hk.1.1, hk.1.2.1⟩⟩)⟩, ⟨by (with_reducible repeat (first | apply Kd.Zao | apply Kd.Zan | apply Kd.Zaq)); exact Kd.Zbh HO981.out (fun _ hk => ⟨hk.2.2.2.1, ⟨hk.1, hk.2.1⟩⟩)⟩, ⟨by (with_reducible repeat (first | apply Kd.Zao | apply Kd.Zan | apply Kd.Zaq)); exact Kd.Zbh HO_948001.out (fun _ hk => ⟨hk.1.2.2.1, ⟨hk.2, hk.1.1⟩⟩)⟩, ⟨by (with_reducible repeat (first | apply Kd.Zao | apply Kd.Zan | apply Kd.Zaq)); exact Kd.Zbh HO_948002.out (fun _ hk => ⟨hk.1.2.2.1, ⟨hk.2, hk.1.1⟩⟩)⟩, ⟨by (with_reducible repeat (first | apply Kd.Zb5 | apply Kd.Zb6 | apply Kd.Zb9)); exact Kd.Zck HO_948005.out (fun _ hk => ⟨hk.1.2.2.2.1, ⟨hk.2, ⟨hk.1.1, hk.1.2.1⟩⟩⟩)⟩, ⟨by (with_reducible repeat (first | refine Zag ?_ _ | refine Zai ?_ | refine Zae ?_ _)); exact BK929.out⟩, ⟨by (with_reducible repeat (first | refine Zag ?_ _ | refine Zai ?_ | refine Zae ?_ _)); exact BK947.out⟩, ⟨by repeat (first | (with_reducible first | exact HB.out | apply Zab | apply Zaa | apply Zac | refine Zah ?_ GE929.out | refine Zah ?_ GE947.out) | exact HB.out)⟩⟩
end Go.Proofs.Ytpbcigilipdedaa.P
/- ElementPlaces: the index's values are the places whose variable has a value in common with the result; the result's are those that one of these has. -/
namespace Go.Proofs.Ytpbcigilipdedaa.P
open Go.RowKit Go.Proofs.YtpbcigilipdedaaW.PrintWords Go.Proofs.YtpbcigilipdedaaW.PrintLast Go.Proofs.YtpbcigilipdedaaW.PrintMore
set_option linter.unusedVariables false
set_option linter.unusedSimpArgs false

section
variable {d : List (List Rg)} {ix rs : Int} {list places : List Int} {o may : List Rg} (kd : Int) (coefs : List Int) (op rhs : Int) (rows : List (List Int)) (b : Int)
  (hd : Doms d) (hm : ∀ v ∈ ix :: rs :: list, 0 ≤ v ∧ v < (d.length : Int)) (hir : ix ≠ rs) (hi : ix ∉ list) (hr : rs ∉ list) (hll : list.length ≤ d.length)
  (hss : SS places) (hmem : ∀ i, i ∈ places ↔ Va (dv d ix) i ∧ isPlace d rs list i)
  (hO : DomOf o (fun i => i ∈ places)) (hM : DomOf may (fun x => ∃ i ∈ places, Va (dv d (list.getD i.toNat 0)) x ∧ Va (dv d rs) x))
include hd hm hir hi hr hll hss hmem hO hM
theorem places_l0 (B : Nat) (hB : Za (B = 2097153)) : ∀ (m n : Nat) (x8 x9 : List Int), n + m = list.length → SS x8 → (∀ i, i ∈ x8 ↔ i ∈ places ∧ i < (n : Int)) → x8.length ≤ n → Za (x9.length ≤ n * B) →
    (∀ v, v ∈ x9 ↔ ∃ i ∈ places, i < (n : Int) ∧ Va (dv d (list.getD i.toNat 0)) v ∧ Va (dv d rs) v) →
    Ev (fun k => Zad.l0 k d (Zak.last d ix rs list places o may) x8 x9 (n : Int) kd (ix :: rs :: list) coefs op rhs rows b) true := by
  have h64 := hd.1
  have hlen : ((ix :: rs :: list).length : Int) = (list.length : Int) + 2 := by simp only [List.length_cons]; omega
  have hw : wrap64 (((ix :: rs :: list).length : Int) - 2) = (list.length : Int) := by rw [hlen, w64 (by omega) (by omega)]; omega
  have hix := hm ix List.mem_cons_self
  have hrs := hm rs (List.mem_cons_of_mem _ List.mem_cons_self)
  have hp : ∀ i ∈ places, 0 ≤ i ∧ i < (list.length : Int) := fun i h => by
    obtain ⟨_, h0, h1, _⟩ := (hmem i).1 h
    exact ⟨h0, h1⟩
  have eix : Go.Proofs.YtpbcigilipdedaaW.PrintWords.rd (ix :: rs :: list) 0 = ix := rfl
  have ers : Go.Proofs.YtpbcigilipdedaaW.PrintWords.rd (ix :: rs :: list) 1 = rs := rfl
  obtain ⟨gi, vi⟩ := hd.2 _ (Zfp hix.1 hix.2)
  obtain ⟨gr, vr⟩ := hd.2 _ (Zfp hrs.1 hrs.2)
  intro m
  induction m with
  | zero =>
    intro n x8 x9 h hs8 h8 hl8 hl9 h9
    have hl9b : x9.length ≤ 134217792 := Nat.le_trans hl9.out (Nat.le_trans (Nat.mul_le_mul (show n ≤ 64 by omega) (Nat.le_of_eq hB.out)) (by decide))
    obtain rfl : n = list.length := by omega
    have e8 : x8 = places := SS.ext hs8 hss (fun i => (h8 i).trans ⟨fun q => q.1, fun q => ⟨q, (hp i q).2⟩⟩)
    have eo : vals o = places := SS.ext (Zer hO.1) hss (fun i => (Zc9 i o).trans (hO.2 i))
    have em : vals may = sd x9 := SS.ext (Zer hM.1) (Zgb _) (fun i => by
      rw [Zc9, hM.2 i, Zeh, h9 i]
      exact ⟨fun ⟨j, hj, h⟩ => ⟨j, hj, (hp j hj).2, h⟩, fun ⟨j, hj, _, h⟩ => ⟨j, hj, h⟩⟩)
    have hvl := vlen hO.1
    have hvm := vlen hM.1
    have hVo : Ev (fun k => Zaj.f k (Zcf (Zak.last d ix rs list places o may) (Go.Proofs.YtpbcigilipdedaaW.PrintWords.rd (ix :: rs :: list) 0))) (vals o) := by
      rw [eix, rdR_dv, last_ix hm hir hi hr hp]
      exact Zdz o hO.1 (Int.le_refl _)
    have hVm : Ev (fun k => Zaj.f k (Zcf (Zak.last d ix rs list places o may) (Go.Proofs.YtpbcigilipdedaaW.PrintWords.rd (ix :: rs :: list) 1))) (vals may) := by
      rw [ers, rdR_dv, last_rs hm hir hi hr hp]
      exact Zdz may hM.1 (Int.le_refl _)
    refine Ev.step (fun k => by rw [Zad.l0]) ?_
    refine Ev.Zdi (by rw [hw]; omega) (Ev.Zce (by omega) (Ev.Zce hix.1 (Ev.Zce (by rw [Ze3]; exact hix.2) ?_)))
    refine Ev.bind hVo (Ev.bind (ref_Nums (vals o) x8 (by omega)) (Ev.Zce (decide_eq_true (by rw [eo, e8])) ?_))
    refine Ev.Zce (by omega) (Ev.Zce hrs.1 (Ev.Zce (by rw [Ze3]; exact hrs.2) ?_))
    refine Ev.bind hVm (Ev.bind (Zfl x9 (by omega)) ?_)
    refine Ev.bind (ref_Nums (vals may) (sd x9) (by omega)) (Ev.Zce (decide_eq_true em) ?_)
    exact Ev.bind Zgn (Ev.pure _)
  | succ m ih =>
    intro n x8 x9 h hs8 h8 hl8 hl9 h9
    have hl9b : x9.length ≤ 134217792 := Nat.le_trans hl9.out (Nat.le_trans (Nat.mul_le_mul (show n ≤ 64 by omega) (Nat.le_of_eq hB.out)) (by decide))
    have hn : n < list.length := by omega
    have hn4 : n < 4611686018427387904 := by omega
    have hw2 : wrap64 ((n : Int) + 2) = ((n + 2 : Nat) : Int) := by rw [w64 (by omega) (by omega)]; omega
    have ev : Go.Proofs.YtpbcigilipdedaaW.PrintWords.rd (ix :: rs :: list) ((n + 2 : Nat) : Int) = list.getD n 0 := by
      rw [Zc1 _ (n + 2) (by simp only [List.length_cons]; omega), List.getD_eq_getElem?_getD, List.getElem?_eq_getElem hn]
      rfl
    have hv : list.getD n 0 ∈ list := by
      rw [List.getD_eq_getElem?_getD, List.getElem?_eq_getElem hn]
      exact List.getElem_mem _
    have hv2 := hm _ (List.mem_cons_of_mem _ (List.mem_cons_of_mem _ hv))
    obtain ⟨ga, va⟩ := hd.2 _ (Zfp hv2.1 hv2.2)
    obtain ⟨r, hP, hR⟩ := ref_Pick_ev true (dv d (list.getD n 0)) (dv d rs) ga gr
    have hR2 : ∀ v, Va r v ↔ Va (dv d (list.getD n 0)) v ∧ Va (dv d rs) v := fun v => (hR.2 v).trans (and_congr Iff.rfl decide_eq_true_iff)
    have hvr := vlen hR.1
    refine Ev.step (fun k => by rw [Zad.l0]) ?_
    simp only [hw, hw2, ev, ers, eix, rdR_dv, w1 hn4]
    clear hw hw2
    refine Ev.Zce (by omega) ?_
    refine Ev.Zce (Int.natCast_nonneg _) ?_
    refine Ev.Zce (by omega) ?_
    refine Ev.Zce hv2.1 ?_
    refine Ev.Zce hv2.2 ?_
    refine Ev.Zce (by omega) ?_
    refine Ev.Zce hrs.1 ?_
    refine Ev.Zce hrs.2 ?_
    refine Ev.bind hP ?_
    refine Ev.Zce (by omega) ?_
    refine Ev.Zce hix.1 ?_
    refine Ev.Zce hix.2 ?_
    refine Ev.bind (Zdz (dv d ix) gi (Int.le_refl _)) (Ev.bind (ref_Has (vals (dv d ix)) (n : Int) (by omega)) ?_)
    -- what stays if n is no place
    have stay : (n : Int) ∉ places → Ev (fun k => Zad.l0 k d (Zak.last d ix rs list places o may) x8 x9 ((n + 1 : Nat) : Int) kd (ix :: rs :: list) coefs op rhs rows b) true := fun hno => by
      refine ih (n + 1) x8 x9 (by omega) hs8 (fun i => (h8 i).trans ?_) (by omega) ⟨Nat.le_trans hl9.out (Nat.mul_le_mul_right _ (Nat.le_succ n))⟩ (fun v => (h9 v).trans ?_)
      · refine and_congr_right (fun hi => ?_)
        have : i ≠ (n : Int) := fun e => hno (e ▸ hi)
        omega
      refine exists_congr (fun i => and_congr_right (fun hi => and_congr_left (fun _ => ?_)))
      have : i ≠ (n : Int) := fun e => hno (e ▸ hi)
      omega
    by_cases hhas : (n : Int) ∈ vals (dv d ix)
    rotate_left
    · refine Ev.Zdi (by simpa using hhas) (stay (fun hin => hhas ((Zc9 _ _).2 ((hmem _).1 hin).1)))
    refine Ev.Zce (decide_eq_true hhas) ?_
    by_cases hz : r = []
    · refine Ev.Zdi (by rw [hz]; simp) (stay (fun hin => ?_))
      obtain ⟨_, _, _, x, hx⟩ := (hmem _).1 hin
      rw [Int.toNat_natCast] at hx
      exact Va_ne ((hR2 x).2 hx) hz
    have hpos : 0 < r.length := List.length_pos_iff.2 hz
    obtain ⟨x, hx⟩ := hR.1.some hz
    have hin : (n : Int) ∈ places := (hmem _).2 ⟨(Zc9 _ _).1 hhas, by omega, by omega, x, by rw [Int.toNat_natCast]; exact (hR2 x).1 hx⟩
    refine Ev.Zce (by omega) (Ev.Zce (by omega) (Ev.bind (Zdz r hR.1 (Int.le_refl _)) (Ev.Zce (by omega) ?_)))
    refine ih (n + 1) (x8 ++ [(n : Int)]) (x9 ++ vals r) (by omega) ?_ (fun i => ?_) (by simp; omega) ⟨by rw [List.length_append, Nat.succ_mul]; exact Nat.add_le_add hl9.out (by rw [hB.out]; exact hvr)⟩ (fun v => ?_)
    · refine List.pairwise_append.2 ⟨hs8, List.pairwise_singleton _ _, fun a ha b hb => ?_⟩
      rw [List.mem_singleton] at hb
      subst hb
      exact ((h8 a).1 ha).2
    · rw [List.mem_append, h8 i, List.mem_singleton]
      constructor
      · rintro (⟨h1, h2⟩ | rfl)
        · exact ⟨h1, by omega⟩
        exact ⟨hin, by omega⟩
      rintro ⟨h1, h2⟩
      by_cases e : i = (n : Int)
      · exact .inr e
      exact .inl ⟨h1, by omega⟩
    rw [List.mem_append, h9 v, Zc9, hR2 v]
    constructor
    · rintro (⟨i, h1, h2, h3⟩ | h3)
      · exact ⟨i, h1, by omega, h3⟩
      exact ⟨(n : Int), hin, by omega, by rw [Int.toNat_natCast]; exact h3⟩
    rintro ⟨i, h1, h2, h3⟩
    by_cases e : i = (n : Int)
    rotate_left
    · exact .inl ⟨i, h1, by omega, h3⟩
    subst e
    rw [Int.toNat_natCast] at h3
    exact .inr h3
end
theorem Zfi (A0 : Option Addr) (c0 : Nat) (x0 : List (List Int)) (x1 : Int) (A2 : Option Addr) (c2 : Nat) (x2 : List Int) (A3 : Option Addr) (c3 : Nat) (x3 : List Int) (x4 x5 : Int) (A6 : Option Addr) (c6 : Nat) (x6 : List (List Int)) (x7 : Int) (A8 : Option Addr) (c8 : Nat) (x8 : List Int) (A9 : Option Addr) (c9 : Nat) (x9 : List Int) (W : World)
    (hC0 : (Kd.slice 3 (Kd.int .i64)).C W A0 x0.length x0) (hc0 : x0.length ≤ c0) (ok0 : x0.length * 24 ≤ 140737488351232 ∧ ∀ x ∈ x0, x.length * 8 ≤ 140737488351232 ∧ ∀ y ∈ x, (Lit.int .i64 y).wf = true) (ok1 : (Lit.int .i64 x1).wf = true)
    (hC2 : (Kd.int .i64).C W A2 x2.length x2) (hc2 : x2.length ≤ c2) (ok2 : x2.length * 8 ≤ 140737488351232 ∧ ∀ y ∈ x2, (Lit.int .i64 y).wf = true)
    (hC3 : (Kd.int .i64).C W A3 x3.length x3) (hc3 : x3.length ≤ c3) (ok3 : x3.length * 8 ≤ 140737488351232 ∧ ∀ y ∈ x3, (Lit.int .i64 y).wf = true) (ok4 : (Lit.int .i64 x4).wf = true) (ok5 : (Lit.int .i64 x5).wf = true)
    (hC6 : (Kd.slice 3 (Kd.int .i64)).C W A6 x6.length x6) (hc6 : x6.length ≤ c6) (ok6 : x6.length * 24 ≤ 140737488351232 ∧ ∀ x ∈ x6, x.length * 8 ≤ 140737488351232 ∧ ∀ y ∈ x, (Lit.int .i64 y).wf = true) (ok7 : (Lit.int .i64 x7).wf = true)
    (hC8 : (Kd.int .i64).C W A8 x8.length x8) (hc8 : x8.length ≤ c8) (ok8 : x8.length * 8 ≤ 140737488351232 ∧ ∀ y ∈ x8, (Lit.int .i64 y).wf = true)
    (hC9 : (Kd.int .i64).C W A9 x9.length x9) (hc9 : x9.length ≤ c9) (ok9 : x9.length * 8 ≤ 140737488351232 ∧ ∀ y ∈ x9, (Lit.int .i64 y).wf = true) :
    Calls Try.prog 10 #[.agg #[.slice A0 x0.length c0, .int .i64 x1, .slice A2 x2.length c2, .slice A3 x3.length c3, .int .i64 x4, .int .i64 x5, .slice A6 x6.length c6, .int .i64 x7, .slice A8 x8.length c8, .slice A9 x9.length c9]] W fun e W' => e = .returned (.bool true) ∧ Below W.heap.size W W' := by
  have hb : ∀ x ∈ x6, x.length * 8 ≤ 140737488351232 := fun x hx => (ok6.2 x hx).1
  obtain ⟨ok, hL, hok⟩ := laid_ev x0 x1 x2 x3 x4 x5 x6 x7 x8 x9 3 (.inr rfl) ok2.1 ok3.1 ok6.1 hb
  have hE : Ev (fun k => Zad.f k x0 x1 x2 x3 x4 x5 x6 x7 x8 x9) true := by
    unfold Zad.f
    refine Ev.bind hL ?_
    cases ok with
    | false => exact Ev.Zdi Bool.false_ne_true Ze1
    | true =>
      have hT := (hok rfl).elem
      have hd := domsC_doms x0
      obtain ⟨ix, rs, list, rfl, hne, hir, hi, hr, hll⟩ := hT.form
      refine Ev.Zce rfl ?_
      rcases prune_ev (domsC x0) hd ix rs list hT.mem 3 x3 x4 x5 (x6.take 20) x7 with ⟨_, hP⟩ | ⟨_, places, hss, hmem, ⟨_, hP⟩ | ⟨_, o, may, hO, hM, hP⟩⟩
      · exact Ev.bind hP (Ev.Zdi Bool.false_ne_true (Ev.Zce rfl Ze1))
      · exact Ev.bind hP (Ev.Zdi Bool.false_ne_true (Ev.Zce rfl Ze1))
      refine Ev.bind hP (Ev.Zce rfl (Ev.Zce (by show ((Zak.last _ _ _ _ _ _ _).length : Int) = _; rw [Ze3]) ?_))
      exact places_l0 3 x3 x4 x5 (x6.take 20) x7 hd hT.mem hir hi hr hll hss hmem hO hM 2097153 ⟨rfl⟩ list.length 0 [] [] (by omega) List.Pairwise.nil (fun i => by
        refine ⟨fun h => absurd h List.not_mem_nil, fun h => ?_⟩
        obtain ⟨_, h0, _⟩ := (hmem i).1 h.1
        have := h.2
        omega) (by simp) ⟨Nat.zero_le _⟩ (fun v => by
        refine ⟨fun h => absurd h List.not_mem_nil, fun ⟨i, h1, h2, _⟩ => ?_⟩
        obtain ⟨_, h0, _⟩ := (hmem i).1 h1
        omega)
  obtain ⟨k, hk⟩ := hE.out
  exact Zad.calls k A0 c0 x0 x1 A2 c2 x2 A3 c3 x3 x4 x5 A6 c6 x6 x7 A8 c8 x8 A9 c9 x9 true W hC0 hc0 hC2 hc2 hC3 hc3 hC6 hc6 hC8 hc8 hC9 hc9 hk
end Go.Proofs.Ytpbcigilipdedaa.P
/- What a datum of a statement's arguments holds: a number, a text, a row, a struct, whatever is nested: its cells read as a value of the kind; and how long its rows are at most (by the weight of the whole). -/
namespace Go.Proofs.Ytpbcigilipdedaa.P
open Go.RowKit Go.ChangeShapes Go.WideShapes Go.Proofs.YtpbcigilipdedaaW.PrintWords
set_option linter.unusedVariables false

/-- Whatever reads as a datum of type t is a value of kind d, of which ok is true. -/
structure OpensZ {α : Type} (P : Program) (d : Kd α) (ok : α → Prop) (t : TypeId) : Prop where
  out : ∀ {H : Type} (enc : TypeId × Value → H) (w : World) (base : Nat) (sp : Nat → Bool) (held : Bool) (fuel : Nat) (cs : List Value) (x : DataW H × List MemPlace),
    DataW.trod enc P w base sp held fuel t cs = some x → (∀ n ∈ x.1.weights P t, n ≤ reachBytes) → ∃ v : α, d.K w v cs ∧ ok v
theorem OpensZ.int {P : Program} {t : TypeId} {k : IntKind} (ht : P.underlying t = some (.int k)) : OpensZ P (Kd.int k) (fun n => (Lit.int k n).wf = true) t := by
  refine ⟨?_⟩
  intro H enc w base sp held fuel cs x h hz
  obtain ⟨n, rfl, rfl, hw⟩ := DataW.trod_int ht h
  exact ⟨n, rfl, hw⟩
theorem OpensZ.bool {P : Program} {t : TypeId} (ht : P.underlying t = some .bool) : OpensZ P Kd.bool (fun _ => True) t := by
  refine ⟨?_⟩
  intro H enc w base sp held fuel cs x h hz
  obtain ⟨b, rfl, rfl⟩ := DataW.trod_bool ht h
  exact ⟨b, rfl, trivial⟩
theorem OpensZ.string {P : Program} {t : TypeId} (ht : P.underlying t = some .string) : OpensZ P Kd.string (fun s => s.size ≤ maxLen) t := by
  refine ⟨?_⟩
  intro H enc w base sp held fuel cs x h hz
  obtain ⟨s, rfl, rfl, hs⟩ := DataW.trod_string ht h
  exact ⟨s, rfl, hs⟩
theorem OpensZ.iso {α β : Type} {P : Program} {d : Kd α} {ok : α → Prop} {t : TypeId} (h : OpensZ P d ok t) (f : β → α) (g : α → β) (hfg : ∀ a, f (g a) = a) : OpensZ P (Kd.iso d f) (fun b => ok (f b)) t := by
  refine ⟨?_⟩
  intro H enc w base sp held fuel cs x hx hz
  obtain ⟨v, hK, hok⟩ := h.out enc w base sp held fuel cs x hx hz
  exact ⟨g v, by show d.K w (f (g v)) cs; rw [hfg]; exact hK, by show ok (f (g v)); rw [hfg]; exact hok⟩
theorem Zfd {H : Type} {P : Program} {t e : TypeId} (ht : P.underlying t = some (.slice e)) {el sp : List (DataW H)} : (DataW.slice el sp : DataW H).weights P t = (el.length + sp.length) * P.bytesOf e :: (DataW.weightsAll P e el ++ DataW.weightsAll P e sp) := by simp [DataW.weights, ht]
theorem weights_agg {H : Type} {P : Program} {t : TypeId} {fs : Array Field} (ht : P.underlying t = some (.struct fs)) {ps : List (DataW H)} : (DataW.agg ps : DataW H).weights P t = DataW.weightsEach P (fs.toList.map (·.type)) ps := by simp [DataW.weights, ht]
theorem Zex {H : Type} {P : Program} {e : TypeId} {d : DataW H} : ∀ {l : List (DataW H)}, d ∈ l → ∀ {n : Nat}, n ∈ d.weights P e → n ∈ DataW.weightsAll P e l
  | x :: l, hd, n, hn => by
    simp only [DataW.weightsAll, List.mem_append]
    rcases List.mem_cons.1 hd with rfl | hd
    · exact .inl hn
    exact .inr (Zex hd hn)
theorem choose_list {α : Type} {n : Nat} {R : Nat → α → Prop} (h : ∀ i, i < n → ∃ a, R i a) : ∃ l : List α, l.length = n ∧ ∀ i (hi : i < l.length), R i l[i] := by
  induction n with
  | zero => exact ⟨[], rfl, fun i hi => absurd hi (by simp)⟩
  | succ n ih =>
    obtain ⟨l, hl, hR⟩ := ih (fun i hi => h i (by omega))
    obtain ⟨a, ha⟩ := h n (by omega)
    refine ⟨l ++ [a], by simp [hl], fun i hi => ?_⟩
    rcases Nat.lt_or_ge i l.length with hlt | hge
    · rw [List.getElem_append_left hlt]
      exact hR i hlt
    have : i = l.length := by simp at hi; omega
    subst this
    rw [List.getElem_append_right (by omega)]
    simpa [hl] using ha
theorem addr_add (a : Addr) (i j : Nat) : (a.add i).add j = a.add (i + j) := by
  by_cases h : i = 0
  · subst h; simp [Addr.add]
  by_cases h2 : j = 0
  · subst h2; simp [Addr.add]
  simp [Addr.add, h, h2, Nat.add_assoc]
theorem OpensZ.row {α : Type} {P : Program} {d : Kd α} {ok : α → Prop} {t e : TypeId} {B : Nat} (ht : P.underlying t = some (.slice e)) (hc : P.cellsOf e = d.sz) (hB : P.bytesOf e = B) (h : OpensZ P d ok e) :
    OpensZ P (Kd.slice e d) (fun l => l.length * B ≤ 140737488351232 ∧ ∀ x ∈ l, ok x) t := by
  refine ⟨?_⟩
  intro H enc w base sp held fuel cs x hx hz
  rcases Go.Deep.open_slice ht hx with ⟨rfl, rfl⟩ | ⟨a, len, cap, m, n, D, Pl, rfl, hb, hl, hm, hmm, rfl, he⟩
  · exact ⟨[], ⟨none, 0, rfl, Nat.le_refl _, rfl, by simp, fun h => absurd h (by simp)⟩, by simp, fun x hx => by simp at hx⟩
  have hlm : len ≤ m := by rw [hmm]; split <;> omega
  have each : ∀ i, i < len → ∃ v : α, ok v ∧ ∃ c, c.length = d.sz ∧ d.K w v c ∧ ∀ j u, c[j]? = some u → w.cell? (a.add (i * d.sz + j)) = some u := fun i hi => by
    obtain ⟨cs', h1, h2⟩ := he i (by omega)
    obtain ⟨v, hK, hok⟩ := h.out enc w base sp held n cs' _ h2 (fun q hq => hz q (by
      rw [Zfd ht]
      refine List.mem_cons_of_mem _ (List.mem_append_left _ (Zex (d := D i) (List.mem_map.2 ⟨i, List.mem_range.2 hi, rfl⟩) hq))))
    obtain ⟨_, hlen, hcell⟩ := World.cells?_some h1
    rw [hc] at hlen hcell
    refine ⟨v, hok, cs', hlen, hK, fun j u hu => ?_⟩
    have hj : j < d.sz := by rw [← hlen]; exact (List.getElem?_eq_some_iff.1 hu).1
    have := hcell j hj
    rw [hu] at this
    rw [← this, addr_add]
  obtain ⟨l, hll, hR⟩ := choose_list each
  have hmax : cap ≤ 9223372036854775807 := by unfold maxLen at hm; exact hm
  refine ⟨l, ⟨some a, cap, by rw [hll], by omega, rfl, by omega, fun _ => ⟨a, rfl, fun j p hp => ?_⟩⟩, ?_, fun x hx => ?_⟩
  · obtain ⟨hj, rfl⟩ := List.getElem?_eq_some_iff.1 hp
    obtain ⟨_, c, h1, h2, h3⟩ := hR j hj
    exact ⟨c, h1, h2, h3⟩
  · have h3 := hz ((len + (m - len)) * P.bytesOf e) (by rw [Zfd ht]; simp)
    rw [hB] at h3
    rw [hll]
    exact Nat.le_trans (Nat.mul_le_mul_right _ (by omega)) h3
  obtain ⟨i, hi, rfl⟩ := List.mem_iff_getElem.1 hx
  exact (hR i hi).1
/-- The fields from an offset on. -/
structure OpensZF {α : Type} (P : Program) (d : Kd α) (ok : α → Prop) (fs : List Field) (off : Nat) : Prop where
  out : ∀ {H : Type} (enc : TypeId × Value → H) (w : World) (base : Nat) (sp : Nat → Bool) (held : Bool) (fuel : Nat) (cs : List Value), cs.length = off + d.sz →
    (∀ f ∈ fs, ∃ x, DataW.trod enc P w base sp held fuel f.type ((cs.drop f.offset).take (P.cellsOf f.type)) = some x ∧ ∀ n ∈ x.1.weights P f.type, n ≤ reachBytes) → ∃ v : α, d.K w v (cs.drop off) ∧ ok v
theorem OpensZF.last {α : Type} {P : Program} {d : Kd α} {ok : α → Prop} {f : Field} {off : Nat} (ho : f.offset = off) (hc : P.cellsOf f.type = d.sz) (h : OpensZ P d ok f.type) : OpensZF P d ok [f] off := by
  refine ⟨?_⟩
  intro H enc w base sp held fuel cs hl hf
  obtain ⟨x, hx, hz⟩ := hf f (by simp)
  rw [ho, hc, List.take_of_length_le (by simp; omega)] at hx
  exact h.out enc w base sp held fuel _ x hx hz
theorem OpensZF.cons {α β : Type} {P : Program} {d : Kd α} {ok : α → Prop} {d' : Kd β} {ok' : β → Prop} {f : Field} {fs : List Field} {off : Nat} (ho : f.offset = off) (hc : P.cellsOf f.type = d.sz) (h : OpensZ P d ok f.type) (h' : OpensZF P d' ok' fs (off + d.sz)) :
    OpensZF P (Kd.pair d d') (fun z => ok z.1 ∧ ok' z.2) (f :: fs) off := by
  refine ⟨?_⟩
  intro H enc w base sp held fuel cs hl hf
  have hl' : cs.length = off + (d.sz + d'.sz) := hl
  obtain ⟨x, hx, hz⟩ := hf f (by simp)
  obtain ⟨v, hK, hok⟩ := h.out enc w base sp held fuel _ x hx hz
  obtain ⟨v', hK', hok'⟩ := h'.out enc w base sp held fuel cs (by omega) (fun g hg => hf g (List.mem_cons_of_mem _ hg))
  rw [ho, hc] at hK
  refine ⟨(v, v'), ⟨(cs.drop off).take d.sz, cs.drop (off + d.sz), ?_, hK, hK'⟩, hok, hok'⟩
  rw [← List.drop_drop, List.take_append_drop]
theorem OpensZ.struct {α : Type} {P : Program} {d : Kd α} {ok : α → Prop} {t : TypeId} {fs : List Field} (ht : P.underlying t = some (.struct fs.toArray)) (hc : P.cellsOf t = d.sz) (h : OpensZF P d ok fs 0) : OpensZ P d ok t := by
  refine ⟨?_⟩
  intro H enc w base sp held fuel cs x hx hz
  obtain ⟨xs, n, rfl, rfl, hl, hxl, hf⟩ := DataW.trod_struct ht hx
  have := h.out enc w base sp held n cs (by omega) (fun f hf' => by
    obtain ⟨i, hi, rfl⟩ := List.mem_iff_getElem.1 hf'
    have := hf i fs[i] (by simp [hi])
    have hix : i < xs.length := by simp at hxl; omega
    rw [List.getElem?_eq_getElem hix] at this
    refine ⟨xs[i], by simpa using this, fun q hq => hz q ?_⟩
    rw [weights_agg ht]
    exact DataW.weights_mem_each (j := i) (t := fs[i].type) (d := xs[i].1) (by simp [hi]) (by simp [hix]) q hq)
  simpa using this
/-- A slice that is an argument. -/
theorem OpensZ.arg {α H : Type} {P : Program} {d : Kd α} {ok : List α → Prop} {e t : TypeId} (h : OpensZ P (Kd.slice e d) ok t) {enc : TypeId × Value → H} {w : World} {base : Nat} {sp : Nat → Bool} {held : Bool} {A : Option Addr} {len cap : Nat} {dt : DataW H} {ps : List MemPlace}
    (hT : DataW.Trod enc P w base sp held t (.slice A len cap) dt ps) (hz : ∀ n ∈ dt.weights P t, n ≤ reachBytes) : ∃ l : List α, l.length = len ∧ l.length ≤ cap ∧ d.C w A l.length l ∧ ok l := by
  obtain ⟨fuel, hf⟩ := hT
  obtain ⟨l, ⟨A', c, hcs, hl, hC⟩, hok⟩ := h.out enc w base sp held fuel _ _ hf hz
  simp [Value.cells] at hcs
  obtain ⟨rfl, rfl, rfl⟩ := hcs
  exact ⟨l, rfl, hl, hC, hok⟩
theorem each_weights {H : Type} {P : Program} {ts : List TypeId} {ds : List (DataW H)} (h : (DataW.weightsEach P ts ds).all (· ≤ reachBytes) = true) {j : Nat} {t : TypeId} {d : DataW H} (ht : ts[j]? = some t) (hd : ds[j]? = some d) : ∀ n ∈ d.weights P t, n ≤ reachBytes := fun n hn => by
  have := List.all_eq_true.1 h n (DataW.weights_mem_each ht hd n hn)
  simpa using this
end Go.Proofs.Ytpbcigilipdedaa.P
namespace Go.Proofs.Ytpbcigilipdedaa.elementPlaces
open Go.ChangeShapes Go.WideShapes Go.ChangeAt Go.RowKit
open Go.ChangeMaps (open_string shut_string)
open Go.Proofs.Ytpbcigilipdedaa.P
open Go.Proofs.YtpbcigilipdedaaW.PrintWords
set_option linter.unusedVariables false
theorem own : ownKnob Try.prog.godebug = none := by kernel_rfl
theorem laidOut : laidOutB Try.prog = true := by kernel_rfl
theorem o_int : OpensZ Try.prog (Kd.int .i64) (fun n => (Lit.int .i64 n).wf = true) 3 := OpensZ.int Try.underlying3
theorem o_Lint : OpensZ Try.prog (Kd.slice 3 (Kd.int .i64)) (fun l => (List.length l * 8 ≤ 140737488351232 ∧ ∀ y1_ ∈ l, (Lit.int .i64 y1_).wf = true)) 23 := OpensZ.row Try.underlying23 (by kernel_rfl) (by kernel_rfl) o_int
theorem o_LLint : OpensZ Try.prog (Kd.slice 23 (Kd.slice 3 (Kd.int .i64))) (fun l => (List.length l * 24 ≤ 140737488351232 ∧ ∀ y1_ ∈ l, (List.length y1_ * 8 ≤ 140737488351232 ∧ ∀ y2_ ∈ y1_, (Lit.int .i64 y2_).wf = true))) 22 := OpensZ.row Try.underlying22 (by kernel_rfl) (by kernel_rfl) o_Lint
set_option maxHeartbeats 2000000 in
theorem p_api_Con : OpensZ Try.prog (Kd.pair (Kd.int .i64) (Kd.pair (Kd.slice 3 (Kd.int .i64)) (Kd.pair (Kd.slice 3 (Kd.int .i64)) (Kd.pair (Kd.int .i64) (Kd.pair (Kd.int .i64) (Kd.pair (Kd.slice 23 (Kd.slice 3 (Kd.int .i64))) (Kd.int .i64))))))) (fun z => ((Lit.int .i64 (z).1).wf = true ∧ ((List.length ((z).2).1 * 8 ≤ 140737488351232 ∧ ∀ y1_ ∈ ((z).2).1, (Lit.int .i64 y1_).wf = true) ∧ ((List.length (((z).2).2).1 * 8 ≤ 140737488351232 ∧ ∀ y1_ ∈ (((z).2).2).1, (Lit.int .i64 y1_).wf = true) ∧ ((Lit.int .i64 ((((z).2).2).2).1).wf = true ∧ ((Lit.int .i64 (((((z).2).2).2).2).1).wf = true ∧ ((List.length ((((((z).2).2).2).2).2).1 * 24 ≤ 140737488351232 ∧ ∀ y1_ ∈ ((((((z).2).2).2).2).2).1, (List.length y1_ * 8 ≤ 140737488351232 ∧ ∀ y2_ ∈ y1_, (Lit.int .i64 y2_).wf = true)) ∧ (Lit.int .i64 ((((((z).2).2).2).2).2).2).wf = true))))))) 25 := by
 refine OpensZ.struct (d := (Kd.pair (Kd.int .i64) (Kd.pair (Kd.slice 3 (Kd.int .i64)) (Kd.pair (Kd.slice 3 (Kd.int .i64)) (Kd.pair (Kd.int .i64) (Kd.pair (Kd.int .i64) (Kd.pair (Kd.slice 23 (Kd.slice 3 (Kd.int .i64))) (Kd.int .i64)))))))) Try.underlying25 (by kernel_rfl) ?_
 refine OpensZF.cons (d := (Kd.int .i64)) (ok := fun v_ : Int => (Lit.int .i64 v_).wf = true) (ok' := fun z_ : ((List Int) × (List Int) × Int × Int × (List (List Int)) × Int) => ((List.length (z_).1 * 8 ≤ 140737488351232 ∧ ∀ y1_ ∈ (z_).1, (Lit.int .i64 y1_).wf = true) ∧ ((List.length ((z_).2).1 * 8 ≤ 140737488351232 ∧ ∀ y1_ ∈ ((z_).2).1, (Lit.int .i64 y1_).wf = true) ∧ ((Lit.int .i64 (((z_).2).2).1).wf = true ∧ ((Lit.int .i64 ((((z_).2).2).2).1).wf = true ∧ ((List.length (((((z_).2).2).2).2).1 * 24 ≤ 140737488351232 ∧ ∀ y1_ ∈ (((((z_).2).2).2).2).1, (List.length y1_ * 8 ≤ 140737488351232 ∧ ∀ y2_ ∈ y1_, (Lit.int .i64 y2_).wf = true)) ∧ (Lit.int .i64 (((((z_).2).2).2).2).2).wf = true)))))) (by kernel_rfl) (by kernel_rfl) o_int ?_
 refine OpensZF.cons (d := (Kd.slice 3 (Kd.int .i64))) (ok := fun v_ : (List Int) => (List.length v_ * 8 ≤ 140737488351232 ∧ ∀ y1_ ∈ v_, (Lit.int .i64 y1_).wf = true)) (ok' := fun z_ : ((List Int) × Int × Int × (List (List Int)) × Int) => ((List.length (z_).1 * 8 ≤ 140737488351232 ∧ ∀ y1_ ∈ (z_).1, (Lit.int .i64 y1_).wf = true) ∧ ((Lit.int .i64 ((z_).2).1).wf = true ∧ ((Lit.int .i64 (((z_).2).2).1).wf = true ∧ ((List.length ((((z_).2).2).2).1 * 24 ≤ 140737488351232 ∧ ∀ y1_ ∈ ((((z_).2).2).2).1, (List.length y1_ * 8 ≤ 140737488351232 ∧ ∀ y2_ ∈ y1_, (Lit.int .i64 y2_).wf = true)) ∧ (Lit.int .i64 ((((z_).2).2).2).2).wf = true))))) (by kernel_rfl) (by kernel_rfl) o_Lint ?_
 refine OpensZF.cons (d := (Kd.slice 3 (Kd.int .i64))) (ok := fun v_ : (List Int) => (List.length v_ * 8 ≤ 140737488351232 ∧ ∀ y1_ ∈ v_, (Lit.int .i64 y1_).wf = true)) (ok' := fun z_ : (Int × Int × (List (List Int)) × Int) => ((Lit.int .i64 (z_).1).wf = true ∧ ((Lit.int .i64 ((z_).2).1).wf = true ∧ ((List.length (((z_).2).2).1 * 24 ≤ 140737488351232 ∧ ∀ y1_ ∈ (((z_).2).2).1, (List.length y1_ * 8 ≤ 140737488351232 ∧ ∀ y2_ ∈ y1_, (Lit.int .i64 y2_).wf = true)) ∧ (Lit.int .i64 (((z_).2).2).2).wf = true)))) (by kernel_rfl) (by kernel_rfl) o_Lint ?_
 refine OpensZF.cons (d := (Kd.int .i64)) (ok := fun v_ : Int => (Lit.int .i64 v_).wf = true) (ok' := fun z_ : (Int × (List (List Int)) × Int) => ((Lit.int .i64 (z_).1).wf = true ∧ ((List.length ((z_).2).1 * 24 ≤ 140737488351232 ∧ ∀ y1_ ∈ ((z_).2).1, (List.length y1_ * 8 ≤ 140737488351232 ∧ ∀ y2_ ∈ y1_, (Lit.int .i64 y2_).wf = true)) ∧ (Lit.int .i64 ((z_).2).2).wf = true))) (by kernel_rfl) (by kernel_rfl) o_int ?_
 refine OpensZF.cons (d := (Kd.int .i64)) (ok := fun v_ : Int => (Lit.int .i64 v_).wf = true) (ok' := fun z_ : ((List (List Int)) × Int) => ((List.length (z_).1 * 24 ≤ 140737488351232 ∧ ∀ y1_ ∈ (z_).1, (List.length y1_ * 8 ≤ 140737488351232 ∧ ∀ y2_ ∈ y1_, (Lit.int .i64 y2_).wf = true)) ∧ (Lit.int .i64 (z_).2).wf = true)) (by kernel_rfl) (by kernel_rfl) o_int ?_
 refine OpensZF.cons (d := (Kd.slice 23 (Kd.slice 3 (Kd.int .i64)))) (ok := fun v_ : (List (List Int)) => (List.length v_ * 24 ≤ 140737488351232 ∧ ∀ y1_ ∈ v_, (List.length y1_ * 8 ≤ 140737488351232 ∧ ∀ y2_ ∈ y1_, (Lit.int .i64 y2_).wf = true))) (ok' := fun z_ : (Int) => (Lit.int .i64 z_).wf = true) (by kernel_rfl) (by kernel_rfl) o_LLint ?_
 exact OpensZF.last (d := (Kd.int .i64)) (ok := fun v_ : Int => (Lit.int .i64 v_).wf = true) (by kernel_rfl) (by kernel_rfl) o_int
set_option maxHeartbeats 2000000 in
theorem Zew : OpensZ Try.prog (Kd.pair (Kd.slice 23 (Kd.slice 3 (Kd.int .i64))) (Kd.pair (Kd.pair (Kd.int .i64) (Kd.pair (Kd.slice 3 (Kd.int .i64)) (Kd.pair (Kd.slice 3 (Kd.int .i64)) (Kd.pair (Kd.int .i64) (Kd.pair (Kd.int .i64) (Kd.pair (Kd.slice 23 (Kd.slice 3 (Kd.int .i64))) (Kd.int .i64))))))) (Kd.pair (Kd.slice 3 (Kd.int .i64)) (Kd.slice 3 (Kd.int .i64))))) (fun z => ((List.length (z).1 * 24 ≤ 140737488351232 ∧ ∀ y1_ ∈ (z).1, (List.length y1_ * 8 ≤ 140737488351232 ∧ ∀ y2_ ∈ y1_, (Lit.int .i64 y2_).wf = true)) ∧ (((Lit.int .i64 (((z).2).1).1).wf = true ∧ ((List.length ((((z).2).1).2).1 * 8 ≤ 140737488351232 ∧ ∀ y1_ ∈ ((((z).2).1).2).1, (Lit.int .i64 y1_).wf = true) ∧ ((List.length (((((z).2).1).2).2).1 * 8 ≤ 140737488351232 ∧ ∀ y1_ ∈ (((((z).2).1).2).2).1, (Lit.int .i64 y1_).wf = true) ∧ ((Lit.int .i64 ((((((z).2).1).2).2).2).1).wf = true ∧ ((Lit.int .i64 (((((((z).2).1).2).2).2).2).1).wf = true ∧ ((List.length ((((((((z).2).1).2).2).2).2).2).1 * 24 ≤ 140737488351232 ∧ ∀ y1_ ∈ ((((((((z).2).1).2).2).2).2).2).1, (List.length y1_ * 8 ≤ 140737488351232 ∧ ∀ y2_ ∈ y1_, (Lit.int .i64 y2_).wf = true)) ∧ (Lit.int .i64 ((((((((z).2).1).2).2).2).2).2).2).wf = true)))))) ∧ ((List.length (((z).2).2).1 * 8 ≤ 140737488351232 ∧ ∀ y1_ ∈ (((z).2).2).1, (Lit.int .i64 y1_).wf = true) ∧ (List.length (((z).2).2).2 * 8 ≤ 140737488351232 ∧ ∀ y1_ ∈ (((z).2).2).2, (Lit.int .i64 y1_).wf = true))))) 27 := by
 refine OpensZ.struct (d := (Kd.pair (Kd.slice 23 (Kd.slice 3 (Kd.int .i64))) (Kd.pair (Kd.pair (Kd.int .i64) (Kd.pair (Kd.slice 3 (Kd.int .i64)) (Kd.pair (Kd.slice 3 (Kd.int .i64)) (Kd.pair (Kd.int .i64) (Kd.pair (Kd.int .i64) (Kd.pair (Kd.slice 23 (Kd.slice 3 (Kd.int .i64))) (Kd.int .i64))))))) (Kd.pair (Kd.slice 3 (Kd.int .i64)) (Kd.slice 3 (Kd.int .i64)))))) Try.underlying27 (by kernel_rfl) ?_
 refine OpensZF.cons (d := (Kd.slice 23 (Kd.slice 3 (Kd.int .i64)))) (ok := fun v_ : (List (List Int)) => (List.length v_ * 24 ≤ 140737488351232 ∧ ∀ y1_ ∈ v_, (List.length y1_ * 8 ≤ 140737488351232 ∧ ∀ y2_ ∈ y1_, (Lit.int .i64 y2_).wf = true))) (ok' := fun z_ : ((Int × (List Int) × (List Int) × Int × Int × (List (List Int)) × Int) × (List Int) × (List Int)) => (((Lit.int .i64 ((z_).1).1).wf = true ∧ ((List.length (((z_).1).2).1 * 8 ≤ 140737488351232 ∧ ∀ y1_ ∈ (((z_).1).2).1, (Lit.int .i64 y1_).wf = true) ∧ ((List.length ((((z_).1).2).2).1 * 8 ≤ 140737488351232 ∧ ∀ y1_ ∈ ((((z_).1).2).2).1, (Lit.int .i64 y1_).wf = true) ∧ ((Lit.int .i64 (((((z_).1).2).2).2).1).wf = true ∧ ((Lit.int .i64 ((((((z_).1).2).2).2).2).1).wf = true ∧ ((List.length (((((((z_).1).2).2).2).2).2).1 * 24 ≤ 140737488351232 ∧ ∀ y1_ ∈ (((((((z_).1).2).2).2).2).2).1, (List.length y1_ * 8 ≤ 140737488351232 ∧ ∀ y2_ ∈ y1_, (Lit.int .i64 y2_).wf = true)) ∧ (Lit.int .i64 (((((((z_).1).2).2).2).2).2).2).wf = true)))))) ∧ ((List.length ((z_).2).1 * 8 ≤ 140737488351232 ∧ ∀ y1_ ∈ ((z_).2).1, (Lit.int .i64 y1_).wf = true) ∧ (List.length ((z_).2).2 * 8 ≤ 140737488351232 ∧ ∀ y1_ ∈ ((z_).2).2, (Lit.int .i64 y1_).wf = true)))) (by kernel_rfl) (by kernel_rfl) o_LLint ?_
 refine OpensZF.cons (d := (Kd.pair (Kd.int .i64) (Kd.pair (Kd.slice 3 (Kd.int .i64)) (Kd.pair (Kd.slice 3 (Kd.int .i64)) (Kd.pair (Kd.int .i64) (Kd.pair (Kd.int .i64) (Kd.pair (Kd.slice 23 (Kd.slice 3 (Kd.int .i64))) (Kd.int .i64)))))))) (ok := fun v_ : (Int × (List Int) × (List Int) × Int × Int × (List (List Int)) × Int) => ((Lit.int .i64 (v_).1).wf = true ∧ ((List.length ((v_).2).1 * 8 ≤ 140737488351232 ∧ ∀ y1_ ∈ ((v_).2).1, (Lit.int .i64 y1_).wf = true) ∧ ((List.length (((v_).2).2).1 * 8 ≤ 140737488351232 ∧ ∀ y1_ ∈ (((v_).2).2).1, (Lit.int .i64 y1_).wf = true) ∧ ((Lit.int .i64 ((((v_).2).2).2).1).wf = true ∧ ((Lit.int .i64 (((((v_).2).2).2).2).1).wf = true ∧ ((List.length ((((((v_).2).2).2).2).2).1 * 24 ≤ 140737488351232 ∧ ∀ y1_ ∈ ((((((v_).2).2).2).2).2).1, (List.length y1_ * 8 ≤ 140737488351232 ∧ ∀ y2_ ∈ y1_, (Lit.int .i64 y2_).wf = true)) ∧ (Lit.int .i64 ((((((v_).2).2).2).2).2).2).wf = true))))))) (ok' := fun z_ : ((List Int) × (List Int)) => ((List.length (z_).1 * 8 ≤ 140737488351232 ∧ ∀ y1_ ∈ (z_).1, (Lit.int .i64 y1_).wf = true) ∧ (List.length (z_).2 * 8 ≤ 140737488351232 ∧ ∀ y1_ ∈ (z_).2, (Lit.int .i64 y1_).wf = true))) (by kernel_rfl) (by kernel_rfl) p_api_Con ?_
 refine OpensZF.cons (d := (Kd.slice 3 (Kd.int .i64))) (ok := fun v_ : (List Int) => (List.length v_ * 8 ≤ 140737488351232 ∧ ∀ y1_ ∈ v_, (Lit.int .i64 y1_).wf = true)) (ok' := fun z_ : ((List Int)) => (List.length z_ * 8 ≤ 140737488351232 ∧ ∀ y1_ ∈ z_, (Lit.int .i64 y1_).wf = true)) (by kernel_rfl) (by kernel_rfl) o_Lint ?_
 exact OpensZF.last (d := (Kd.slice 3 (Kd.int .i64))) (ok := fun v_ : (List Int) => (List.length v_ * 8 ≤ 140737488351232 ∧ ∀ y1_ ∈ v_, (Lit.int .i64 y1_).wf = true)) (by kernel_rfl) (by kernel_rfl) o_Lint
set_option maxRecDepth 100000 in
theorem lifted (os : Os) (started : os.Started) (H : Type) (enc : TypeId × Value → H) :
  ReturnsInHanded {} Try.checked os 10 .any (Rows.elementPlacesSpec.pre6 enc Try.prog Try.f10 Rows.elementPlacesRow.domain false) (Rows.elementPlacesSpec.post enc Try.prog Try.f10 false true false false) := by
 refine returnsInHanded_of_change_sized (C := Try.checked) own started (by kernel_rfl) Try.func10
  (ChangeSpec.witness6 (enc := enc) (C := Try.checked) false ⟨#[], #[.agg #[.slice none 0 0, .int .i64 0, .slice none 0 0, .slice none 0 0, .int .i64 0, .int .i64 0, .slice none 0 0, .int .i64 0, .slice none 0 0, .slice none 0 0]], []⟩ 8 (by kernel_rfl) (by kernel_rfl) (by kernel_rfl) (by kernel_rfl)) ?_
 intro W base args ds gs before hval0 hW hcnd hsz0 _
 have hsz : (DataW.weightsEach Try.prog (Try.f10.params.toList ++ Rows.elementPlacesSpec.plain.varTypes Try.prog) (ds ++ gs)).all (· ≤ reachBytes) = true := hsz0
 have hval : ∀ (j : Nat) t v, Try.f10.params[j]? = some t → args[j]? = some v → Value.okWide Try.prog W .any base t v := hval0
 have hW' := hW
 obtain ⟨p, q, hA0, hV, rfl, hfz, hnd⟩ := hW
 have hA : DataW.TrodAll enc Try.prog W 0 (fun _ => true) true Try.f10.params.toList args.toList ds p := hA0
 rw [Try.params10] at hA hval hsz
 obtain ⟨v0, vs0, d0, ds0, p0, q0, hargs, rfl, rfl, h0, r0⟩ := trodAll_cons hA
 obtain ⟨rfl, rfl, rfl⟩ := trodAll_nil r0
 obtain rfl : args = #[v0] := by cases args; simp_all
 obtain ⟨rfl, rfl⟩ := trodVars_none hV
 have k0 := h0
 have lt0 : ∀ x ∈ p0, x.block < W.heap.size := by obtain ⟨m, hm⟩ := k0; exact DataW.trod_lt m _ _ _ hm
 obtain ⟨cs0, rfl, _⟩ := okWide_struct Try.underlying27 (hval 0 27 v0 rfl rfl)
 obtain ⟨fu0, hf0⟩ := h0
 obtain ⟨⟨x0, ⟨⟨x1, ⟨x2, ⟨x3, ⟨x4, ⟨x5, ⟨x6, x7⟩⟩⟩⟩⟩⟩, ⟨x8, x9⟩⟩⟩, hK0, ⟨ok0, ⟨⟨ok1, ⟨ok2, ⟨ok3, ⟨ok4, ⟨ok5, ⟨ok6, ok7⟩⟩⟩⟩⟩⟩, ⟨ok8, ok9⟩⟩⟩⟩ := Zew.out _ _ _ _ _ _ _ _ hf0 (each_weights hsz (j := 0) (t := 27) rfl rfl)
 obtain ⟨_, _, e, ⟨A0, c0, rfl, hc0, hC0⟩, ⟨_, _, rfl, ⟨_, _, rfl, rfl, ⟨_, _, rfl, ⟨A2, c2, rfl, hc2, hC2⟩, ⟨_, _, rfl, ⟨A3, c3, rfl, hc3, hC3⟩, ⟨_, _, rfl, rfl, ⟨_, _, rfl, rfl, ⟨_, _, rfl, ⟨A6, c6, rfl, hc6, hC6⟩, rfl⟩⟩⟩⟩⟩⟩, ⟨_, _, rfl, ⟨A8, c8, rfl, hc8, hC8⟩, ⟨A9, c9, rfl, hc9, hC9⟩⟩⟩⟩ := hK0
 obtain rfl : cs0 = #[.slice A0 x0.length c0, .int .i64 x1, .slice A2 x2.length c2, .slice A3 x3.length c3, .int .i64 x4, .int .i64 x5, .slice A6 x6.length c6, .int .i64 x7, .slice A8 x8.length c8, .slice A9 x9.length c9] := by
  apply Array.ext'
  simpa [Value.cells] using e
 clear hA0 hval0 hsz0 hsz
 refine (P.Zfi A0 c0 x0 x1 A2 c2 x2 A3 c3 x3 x4 x5 A6 c6 x6 x7 A8 c8 x8 A9 c9 x9 W hC0 hc0 ok0 ok1 hC2 hc2 ok2 hC3 hc3 ok3 ok4 ok5 hC6 hc6 ok6 ok7 hC8 hc8 ok8 hC9 hc9 ok9).mono fun e W' ⟨he, bel⟩ => ?_
 subst he
 exact ⟨_, rfl, _, _, _, [], _, [], hW', trodAll_mk1 (shut_bool Try.underlying4 _), (trodAll_cons_mk (Below.trod laidOut (by kernel_rfl) (of_decide_eq_true (by kernel_rfl)) k0 bel lt0) trodAll_mk0), rfl, bel.frame _, fun h => by cases h⟩
theorem over : Rows.elementPlacesRow.holds Try.pinned (OpenSpec.ofChange Rows.elementPlacesSpec) :=
 OpenClaim.holds_of_wide 10 Try.f10 rfl rfl rfl rfl rfl rfl rfl ⟨rfl, rfl, rfl, rfl, rfl⟩ rfl rfl rfl rfl rfl (by kernel_rfl) Try.func10 (by kernel_rfl)
  (of_decide_eq_true (by kernel_rfl)) (by unfold Func.isWrapper; first | (rw [if_pos (by decide +kernel)]; kernel_rfl) | (rw [if_neg (by decide +kernel)]; exact ⟨rfl, rfl⟩))
  (fun os started H enc _ => lifted os started H enc)
theorem proved : Rows.ElementPlacesSaid := over
end Go.Proofs.Ytpbcigilipdedaa.elementPlaces
namespace Go.Proofs.Ytpbcigilipdedaa
/-- The row, under a short name, for the claim. -/
theorem elementPlaces_holds : Rows.ElementPlacesSaid := elementPlaces.proved
end Go.Proofs.Ytpbcigilipdedaa
