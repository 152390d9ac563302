/- Proved: the statement TableRows. Conditions: none but those of the statement. -/
import Derived.Test.YtpbcigilipdedaaZ1
import Derived.Test.YtpbcigilipdedaaZ2
import Derived.Test.YtpbcigilipdedaaZ4
import Derived.Test.YtpbcigilipdedaaZ5
import Derived.Test.YtpbcigilipdedaaU1
import Derived.Deep.Slices
import Derived.ChangeArms
import Derived.DataReads
import Derived.SizedLaws
import Derived.Test.YtpbcigilipdedaaRows
import Derived.WalkKit
import Derived.ProofKit
import Derived.OpenShut
import Derived.ShutString
import Derived.ChangeOld
import Derived.Below

namespace Go.Proofs.Ytpbcigilipdedaa.P
open Go.RowKit Go.Proofs.YtpbcigilipdedaaW.PrintWords Go.Proofs.YtpbcigilipdedaaW.PrintLast Go.Proofs.YtpbcigilipdedaaW.PrintMore
attribute [local go_sem] Zcx Zcz Zc6 Zc7 Zcp Zcq Zcy Zc0
set_option linter.unusedVariables false
set_option linter.unusedSimpArgs false
/-! ### Zad: function 7 -/
mutual
def Zad.l0 : Nat → List (List (S41)) → List (List Int) → List Int → Bool → Bool → Int → Int → List Int → List Int → Int → Int → List (List Int) → Int → Option (Bool)
 | 0, _, _, _, _, _, _, _, _, _, _, _, _, _ => none
 | k + 1, x3, x6, x7, x8, x9, x10, x741000, x741001, x741002, x741003, x741004, x741005, x741006 => if x10 < (x6.length : Int) then (if 0 ≤ x10 then (if ((Zbx x6 x10).length : Int) = (x741001.length : Int) then (Zad.l1 k x3 x6 x7 x8 x9 x10 x8 0 x741000 x741001 x741002 x741003 x741004 x741005 x741006) else (none)) else (none)) else (if (x6.length : Int) ≤ (x741005.length : Int) then (if x8 = true then ((Zay.f k x741000 x741001 x741002 x741003 x741004 x741005 x741006 x7).bind fun t749 => (if (x9 == t749) = true then ((Zbm.f k).bind fun t750 => (some t750)) else (none))) else ((Zbm.f k).bind fun t751 => (some t751))) else (none))
def Zad.l1 : Nat → List (List (S41)) → List (List Int) → List Int → Bool → Bool → Int → Bool → Int → Int → List Int → List Int → Int → Int → List (List Int) → Int → Option (Bool)
 | 0, _, _, _, _, _, _, _, _, _, _, _, _, _, _, _ => none
 | k + 1, x3, x6, x7, x8, x9, x10, x11, x12, x741000, x741001, x741002, x741003, x741004, x741005, x741006 => if x12 < (x741001.length : Int) then (if x11 = true then (if 0 ≤ x12 then (if 0 ≤ (rd x741001 x12) then (if (rd x741001 x12) < (x7.length : Int) then (if 0 ≤ x10 then (if x10 < (x6.length : Int) then (if x12 < ((Zbx x6 x10).length : Int) then (Zad.j2 k x3 x6 x7 x8 x9 x10 ((rd x7 (rd x741001 x12)) == (rd (Zbx x6 x10) x12)) x12 x741000 x741001 x741002 x741003 x741004 x741005 x741006) else (none)) else (none)) else (none)) else (none)) else (none)) else (none)) else (Zad.j2 k x3 x6 x7 x8 x9 x10 false x12 x741000 x741001 x741002 x741003 x741004 x741005 x741006)) else (if x9 = true then (Zad.l0 k x3 x6 x7 x8 true (wrap64 (x10 + 1)) x741000 x741001 x741002 x741003 x741004 x741005 x741006) else (Zad.l0 k x3 x6 x7 x8 x11 (wrap64 (x10 + 1)) x741000 x741001 x741002 x741003 x741004 x741005 x741006))
def Zad.j2 : Nat → List (List (S41)) → List (List Int) → List Int → Bool → Bool → Int → Bool → Int → Int → List Int → List Int → Int → Int → List (List Int) → Int → Option (Bool)
 | 0, _, _, _, _, _, _, _, _, _, _, _, _, _, _, _ => none
 | k + 1, x3, x6, x7, x8, x9, x10, x11, x12, x741000, x741001, x741002, x741003, x741004, x741005, x741006 => if 0 ≤ x12 then (if x12 < (x741001.length : Int) then (if 0 ≤ (rd x741001 x12) then (if (rd x741001 x12) < (x3.length : Int) then ((Zak.f k (Zcr x3 (rd x741001 x12))).bind fun t759 => (if 0 ≤ x10 then (if x10 < (x6.length : Int) then (if x12 < ((Zbx x6 x10).length : Int) then ((Zaz.f k t759 (rd (Zbx x6 x10) x12)).bind fun t764 => (if t764 = true then (Zad.l1 k x3 x6 x7 x8 x9 x10 x11 (wrap64 (x12 + 1)) x741000 x741001 x741002 x741003 x741004 x741005 x741006) else (none))) else (none)) else (none)) else (none))) else (none)) else (none)) else (none)) else (none)
end
def Zad.f (k : Nat) (l0_0 : List (List Int)) (a0_1 : Int) (l0_2 : List Int) (l0_3 : List Int) (a0_4 : Int) (a0_5 : Int) (l0_6 : List (List Int)) (a0_7 : Int) (l0_8 : List Int) (l0_9 : List Int) : Option (Bool) := (Zap.f k l0_0 a0_1 l0_2 l0_3 a0_4 a0_5 l0_6 a0_7 l0_8 l0_9 2).bind fun bt723 => (if bt723.2.2.2.2.2.2.2.2 = true then ((Za6.f k bt723.1 bt723.2.1 bt723.2.2.1 bt723.2.2.2.1 bt723.2.2.2.2.1 bt723.2.2.2.2.2.1 bt723.2.2.2.2.2.2.1 bt723.2.2.2.2.2.2.2.1).bind fun t742 => ((Zaw.f k bt723.1 l0_8).bind fun bt745 => (Zad.l0 k bt723.1 t742 bt745.1 bt745.2 false 0 bt723.2.1 bt723.2.2.1 bt723.2.2.2.1 bt723.2.2.2.2.1 bt723.2.2.2.2.2.1 bt723.2.2.2.2.2.2.1 bt723.2.2.2.2.2.2.2.1))) else ((Zbm.f k).bind fun t741 => (some t741)))
theorem Zad.Zb2 : ∀ k, (∀ y0 y1 y2 y3 y4 y5 y6 y7 y8 y9 y10 y11 y12, LeO (Zad.l0 k y0 y1 y2 y3 y4 y5 y6 y7 y8 y9 y10 y11 y12) (Zad.l0 (k + 1) y0 y1 y2 y3 y4 y5 y6 y7 y8 y9 y10 y11 y12)) ∧ (∀ y0 y1 y2 y3 y4 y5 y6 y7 y8 y9 y10 y11 y12 y13 y14, LeO (Zad.l1 k y0 y1 y2 y3 y4 y5 y6 y7 y8 y9 y10 y11 y12 y13 y14) (Zad.l1 (k + 1) y0 y1 y2 y3 y4 y5 y6 y7 y8 y9 y10 y11 y12 y13 y14)) ∧ (∀ y0 y1 y2 y3 y4 y5 y6 y7 y8 y9 y10 y11 y12 y13 y14, LeO (Zad.j2 k y0 y1 y2 y3 y4 y5 y6 y7 y8 y9 y10 y11 y12 y13 y14) (Zad.j2 (k + 1) y0 y1 y2 y3 y4 y5 y6 y7 y8 y9 y10 y11 y12 y13 y14))
 | 0 => ⟨fun _ _ _ _ _ _ _ _ _ _ _ _ _ r h => by simp [Zad.l0] at h, fun _ _ _ _ _ _ _ _ _ _ _ _ _ _ _ r h => by simp [Zad.l1] at h, fun _ _ _ _ _ _ _ _ _ _ _ _ _ _ _ r h => by simp [Zad.j2] at h⟩
 | k + 1 => by
  obtain ⟨ih0, ih1, ih2⟩ := Zad.Zb2 k
  refine ⟨?_, ?_, ?_⟩
  ·intro y0 y1 y2 y3 y4 y5 y6 y7 y8 y9 y10 y11 y12
   unfold Zad.l0
   repeat' first
   | (with_reducible exact ih0 _ _ _ _ _ _ _ _ _ _ _ _ _)
   | (with_reducible exact ih1 _ _ _ _ _ _ _ _ _ _ _ _ _ _ _)
   | (with_reducible exact ih2 _ _ _ _ _ _ _ _ _ _ _ _ _ _ _)
   | (with_reducible exact Zap.mono _ _ _ _ _ _ _ _ _ _ _ _)
   | (with_reducible exact Zaw.mono _ _ _)
   | (with_reducible exact Zbm.mono _)
   | (with_reducible exact Zaz.mono _ _ _)
   | (with_reducible exact Zak.mono _ _)
   | (with_reducible exact Zay.mono _ _ _ _ _ _ _ _ _)
   | (with_reducible exact Za6.mono _ _ _ _ _ _ _ _ _)
   | (with_reducible exact LeO.refl _)
   | (with_reducible exact LeO.none _)
   | (with_reducible refine LeO.ite ?_ ?_)
   | (with_reducible refine LeO.bind ?_ (fun _ => ?_))
   | exact ih0 _ _ _ _ _ _ _ _ _ _ _ _ _
   | exact ih1 _ _ _ _ _ _ _ _ _ _ _ _ _ _ _
   | exact ih2 _ _ _ _ _ _ _ _ _ _ _ _ _ _ _
   | exact Zap.mono _ _ _ _ _ _ _ _ _ _ _ _
   | exact Zaw.mono _ _ _
   | exact Zbm.mono _
   | exact Zaz.mono _ _ _
   | exact Zak.mono _ _
   | exact Zay.mono _ _ _ _ _ _ _ _ _
   | exact Za6.mono _ _ _ _ _ _ _ _ _
   | exact LeO.none _
   | refine LeO.ite ?_ ?_
   | refine LeO.bind ?_ (fun _ => ?_)
  ·intro y0 y1 y2 y3 y4 y5 y6 y7 y8 y9 y10 y11 y12 y13 y14
   unfold Zad.l1
   repeat' first
   | (with_reducible exact ih0 _ _ _ _ _ _ _ _ _ _ _ _ _)
   | (with_reducible exact ih1 _ _ _ _ _ _ _ _ _ _ _ _ _ _ _)
   | (with_reducible exact ih2 _ _ _ _ _ _ _ _ _ _ _ _ _ _ _)
   | (with_reducible exact Zap.mono _ _ _ _ _ _ _ _ _ _ _ _)
   | (with_reducible exact Zaw.mono _ _ _)
   | (with_reducible exact Zbm.mono _)
   | (with_reducible exact Zaz.mono _ _ _)
   | (with_reducible exact Zak.mono _ _)
   | (with_reducible exact Zay.mono _ _ _ _ _ _ _ _ _)
   | (with_reducible exact Za6.mono _ _ _ _ _ _ _ _ _)
   | (with_reducible exact LeO.refl _)
   | (with_reducible exact LeO.none _)
   | (with_reducible refine LeO.ite ?_ ?_)
   | (with_reducible refine LeO.bind ?_ (fun _ => ?_))
   | exact ih0 _ _ _ _ _ _ _ _ _ _ _ _ _
   | exact ih1 _ _ _ _ _ _ _ _ _ _ _ _ _ _ _
   | exact ih2 _ _ _ _ _ _ _ _ _ _ _ _ _ _ _
   | exact Zap.mono _ _ _ _ _ _ _ _ _ _ _ _
   | exact Zaw.mono _ _ _
   | exact Zbm.mono _
   | exact Zaz.mono _ _ _
   | exact Zak.mono _ _
   | exact Zay.mono _ _ _ _ _ _ _ _ _
   | exact Za6.mono _ _ _ _ _ _ _ _ _
   | exact LeO.none _
   | refine LeO.ite ?_ ?_
   | refine LeO.bind ?_ (fun _ => ?_)
  intro y0 y1 y2 y3 y4 y5 y6 y7 y8 y9 y10 y11 y12 y13 y14
  unfold Zad.j2
  repeat' first
  | (with_reducible exact ih0 _ _ _ _ _ _ _ _ _ _ _ _ _)
  | (with_reducible exact ih1 _ _ _ _ _ _ _ _ _ _ _ _ _ _ _)
  | (with_reducible exact ih2 _ _ _ _ _ _ _ _ _ _ _ _ _ _ _)
  | (with_reducible exact Zap.mono _ _ _ _ _ _ _ _ _ _ _ _)
  | (with_reducible exact Zaw.mono _ _ _)
  | (with_reducible exact Zbm.mono _)
  | (with_reducible exact Zaz.mono _ _ _)
  | (with_reducible exact Zak.mono _ _)
  | (with_reducible exact Zay.mono _ _ _ _ _ _ _ _ _)
  | (with_reducible exact Za6.mono _ _ _ _ _ _ _ _ _)
  | (with_reducible exact LeO.refl _)
  | (with_reducible exact LeO.none _)
  | (with_reducible refine LeO.ite ?_ ?_)
  | (with_reducible refine LeO.bind ?_ (fun _ => ?_))
  | exact ih0 _ _ _ _ _ _ _ _ _ _ _ _ _
  | exact ih1 _ _ _ _ _ _ _ _ _ _ _ _ _ _ _
  | exact ih2 _ _ _ _ _ _ _ _ _ _ _ _ _ _ _
  | exact Zap.mono _ _ _ _ _ _ _ _ _ _ _ _
  | exact Zaw.mono _ _ _
  | exact Zbm.mono _
  | exact Zaz.mono _ _ _
  | exact Zak.mono _ _
  | exact Zay.mono _ _ _ _ _ _ _ _ _
  | exact Za6.mono _ _ _ _ _ _ _ _ _
  | exact LeO.none _
  | refine LeO.ite ?_ ?_
  | refine LeO.bind ?_ (fun _ => ?_)
theorem Zad.mono : ∀ a0 a1 a2 a3 a4 a5 a6 a7 a8 a9 k, LeO (Zad.f k a0 a1 a2 a3 a4 a5 a6 a7 a8 a9) (Zad.f (k + 1) a0 a1 a2 a3 a4 a5 a6 a7 a8 a9) := by
 intro a0 a1 a2 a3 a4 a5 a6 a7 a8 a9 k
 obtain ⟨ih0, ih1, ih2⟩ := Zad.Zb2 k
 unfold Zad.f
 repeat' first
   | (with_reducible exact ih0 _ _ _ _ _ _ _ _ _ _ _ _ _)
   | (with_reducible exact ih1 _ _ _ _ _ _ _ _ _ _ _ _ _ _ _)
   | (with_reducible exact ih2 _ _ _ _ _ _ _ _ _ _ _ _ _ _ _)
   | (with_reducible exact Zap.mono _ _ _ _ _ _ _ _ _ _ _ _)
   | (with_reducible exact Zaw.mono _ _ _)
   | (with_reducible exact Zbm.mono _)
   | (with_reducible exact Zaz.mono _ _ _)
   | (with_reducible exact Zak.mono _ _)
   | (with_reducible exact Zay.mono _ _ _ _ _ _ _ _ _)
   | (with_reducible exact Za6.mono _ _ _ _ _ _ _ _ _)
   | (with_reducible exact LeO.refl _)
   | (with_reducible exact LeO.none _)
   | (with_reducible refine LeO.ite ?_ ?_)
   | (with_reducible refine LeO.bind ?_ (fun _ => ?_))
   | exact ih0 _ _ _ _ _ _ _ _ _ _ _ _ _
   | exact ih1 _ _ _ _ _ _ _ _ _ _ _ _ _ _ _
   | exact ih2 _ _ _ _ _ _ _ _ _ _ _ _ _ _ _
   | exact Zap.mono _ _ _ _ _ _ _ _ _ _ _ _
   | exact Zaw.mono _ _ _
   | exact Zbm.mono _
   | exact Zaz.mono _ _ _
   | exact Zak.mono _ _
   | exact Zay.mono _ _ _ _ _ _ _ _ _
   | exact Za6.mono _ _ _ _ _ _ _ _ _
   | exact LeO.none _
   | refine LeO.ite ?_ ?_
   | refine LeO.bind ?_ (fun _ => ?_)
def Zad.T10 : Bool × List (List Nat × List Nat) := (true, [([], []), ([], []), ([0, 1], [0, 1]), ([2], [2]), ([3], [3]), ([], []), ([5], [5]), ([6], [6]), ([4, 7], [4, 7])])
def Zad.B10 : List Nat := [0, 0, 3, 7, 15, 0, 32, 96, 255]
theorem Zad.tab10 : rtab .any (opsOf Try.f7 10) = Zad.T10 := by kernel_rfl
theorem Zad.bits10 : waitsOk Zad.T10.2 Zad.B10 = true := by kernel_rfl
def Zad.T16 : Bool × List (List Nat × List Nat) := (true, [([], []), ([0], [0]), ([1], [1]), ([1], [1]), ([3, 1], [1, 3]), ([1], [1]), ([4, 5, 1], [1, 4, 5]), ([6, 1], [1, 6]), ([2, 7, 1], [1, 2, 7]), ([8, 1], [1, 8]), ([1], [1]), ([1], [1]), ([10, 11, 1], [1, 10, 11]), ([12, 1], [1, 12]), ([1], [1]), ([13, 14, 1], [1, 13, 14]), ([15, 1], [1, 15]), ([9, 16, 1], [1, 9, 16]), ([1, 17], [1, 17]), ([18, 1, 0, 1, 2, 3, 4, 5, 6, 7, 8, 9, 10, 11, 12, 13, 14, 15, 16, 17, 18], [0, 18])])
def Zad.B16 : List Nat := [0, 1, 3, 3, 11, 3, 59, 123, 255, 511, 3, 3, 3075, 7171, 3, 31747, 64515, 131071, 262143, 524287]
theorem Zad.tab16 : rtab .any (opsOf Try.f7 16) = Zad.T16 := by kernel_rfl
theorem Zad.bits16 : waitsOk Zad.T16.2 Zad.B16 = true := by kernel_rfl
def Zad.T17 : Bool × List (List Nat × List Nat) := (true, [([], []), ([], []), ([1], [1]), ([], []), ([2, 3], [2, 3]), ([4], [4]), ([0, 5], [0, 5]), ([6], [6]), ([7], [7]), ([], []), ([], []), ([9, 10], [9, 10]), ([11], [11]), ([], []), ([12, 13], [12, 13]), ([14], [14]), ([8, 15, 8], [8, 15]), ([16], [16])])
def Zad.B17 : List Nat := [0, 0, 2, 0, 14, 30, 63, 127, 255, 0, 0, 1536, 3584, 0, 15872, 32256, 65535, 131071]
theorem Zad.tab17 : rtab .any (opsOf Try.f7 17) = Zad.T17 := by kernel_rfl
theorem Zad.bits17 : waitsOk Zad.T17.2 Zad.B17 = true := by kernel_rfl
set_option maxHeartbeats 8000000 in
set_option maxRecDepth 100000 in
theorem Zad.calls (k : Nat) (A0_0 : Option Addr) (c0_0 : Nat) (l0_0 : List (List Int)) (a0_1 : Int) (A0_2 : Option Addr) (c0_2 : Nat) (l0_2 : List Int) (A0_3 : Option Addr) (c0_3 : Nat) (l0_3 : List Int) (a0_4 : Int) (a0_5 : Int) (A0_6 : Option Addr) (c0_6 : Nat) (l0_6 : List (List Int)) (a0_7 : Int) (A0_8 : Option Addr) (c0_8 : Nat) (l0_8 : List Int) (A0_9 : Option Addr) (c0_9 : Nat) (l0_9 : List Int) (r : Bool) (w : World) (hr0_0 : Kd.C (Kd.slice 3 (Kd.int .i64)) w A0_0 l0_0.length l0_0) (hc0_0 : l0_0.length ≤ c0_0) (hr0_2 : Kd.C (Kd.int .i64) w A0_2 l0_2.length l0_2) (hc0_2 : l0_2.length ≤ c0_2) (hr0_3 : Kd.C (Kd.int .i64) w A0_3 l0_3.length l0_3) (hc0_3 : l0_3.length ≤ c0_3) (hr0_6 : Kd.C (Kd.slice 3 (Kd.int .i64)) w A0_6 l0_6.length l0_6) (hc0_6 : l0_6.length ≤ c0_6) (hr0_8 : Kd.C (Kd.int .i64) w A0_8 l0_8.length l0_8) (hc0_8 : l0_8.length ≤ c0_8) (hr0_9 : Kd.C (Kd.int .i64) w A0_9 l0_9.length l0_9) (hc0_9 : l0_9.length ≤ c0_9) (h : Zad.f k l0_0 a0_1 l0_2 l0_3 a0_4 a0_5 l0_6 a0_7 l0_8 l0_9 = some r) :
  Calls Try.prog 7 #[.agg #[.slice A0_0 l0_0.length c0_0, .int .i64 a0_1, .slice A0_2 l0_2.length c0_2, .slice A0_3 l0_3.length c0_3, .int .i64 a0_4, .int .i64 a0_5, .slice A0_6 l0_6.length c0_6, .int .i64 a0_7, .slice A0_8 l0_8.length c0_8, .slice A0_9 l0_9.length c0_9]] w fun e w' => e = .returned (.bool r) ∧ Below w.heap.size w w' := by
 have hu27 := Try.underlying27
 have hu25 := Try.underlying25
 have HR0_0 := Zaa.mk hr0_0
 have HC0_0 := Zaa.mk hc0_0
 clear hr0_0 hc0_0
 have HR0_2 := Zaa.mk hr0_2
 have HC0_2 := Zaa.mk hc0_2
 clear hr0_2 hc0_2
 have HR0_3 := Zaa.mk hr0_3
 have HC0_3 := Zaa.mk hc0_3
 clear hr0_3 hc0_3
 have HR0_6 := Zaa.mk hr0_6
 have HC0_6 := Zaa.mk hc0_6
 clear hr0_6 hc0_6
 have HR0_8 := Zaa.mk hr0_8
 have HC0_8 := Zaa.mk hc0_8
 clear hr0_8 hc0_8
 have HR0_9 := Zaa.mk hr0_9
 have HC0_9 := Zaa.mk hc0_9
 clear hr0_9 hc0_9
 have HB := Zaa.mk (Below.refl w.heap.size w)
 have H : ((Zap.f k l0_0 a0_1 l0_2 l0_3 a0_4 a0_5 l0_6 a0_7 l0_8 l0_9 2).bind fun bt723 => (if bt723.2.2.2.2.2.2.2.2 = true then ((Za6.f k bt723.1 bt723.2.1 bt723.2.2.1 bt723.2.2.2.1 bt723.2.2.2.2.1 bt723.2.2.2.2.2.1 bt723.2.2.2.2.2.2.1 bt723.2.2.2.2.2.2.2.1).bind fun t742 => ((Zaw.f k bt723.1 l0_8).bind fun bt745 => (Zad.l0 k bt723.1 t742 bt745.1 bt745.2 false 0 bt723.2.1 bt723.2.2.1 bt723.2.2.2.1 bt723.2.2.2.2.1 bt723.2.2.2.2.2.1 bt723.2.2.2.2.2.2.1 bt723.2.2.2.2.2.2.2.1))) else ((Zbm.f k).bind fun t741 => (some t741)))) = some r := h
 clear h
 replace H := Option.bind_eq_some_iff.mp H
 obtain ⟨⟨t723, t726, t727, t730, t733, t734, t735, t738, t739⟩, A20, H⟩ := H
 replace H : (if t739 = true then ((Za6.f k t723 t726 t727 t730 t733 t734 t735 t738).bind fun t742 => ((Zaw.f k t723 l0_8).bind fun bt745 => (Zad.l0 k t723 t742 bt745.1 bt745.2 false 0 t726 t727 t730 t733 t734 t735 t738))) else ((Zbm.f k).bind fun t741 => (some t741))) = some r := H
 have A2 := Zaa.mk A20
 clear A20
 by_cases c3 : t739 = true
 rotate_left
 ·replace c3 := Bool.eq_false_iff.mpr c3
  subst c3
  have H1 : ((Zbm.f k).bind fun t741 => (some t741)) = some r := by rw [if_neg (show ¬ (false = true) by decide)] at H; exact H
  clear H
  have H := H1
  clear H1
  replace H := Option.bind_eq_some_iff.mp H
  obtain ⟨t741, A720, H⟩ := H
  replace H : (some t741) = some r := H
  have A72 := Zaa.mk A720
  clear A720
  obtain rfl := Option.some.inj H
  go_enter Try.func7, Try.ntmps7
  go_wp2_with (first | ((with_reducible refine Zb3 (N := 1) rfl ?_); refine Zcf ?hg (N := 1) ?hd (cs := #[.slice A0_0 l0_0.length c0_0, .int .i64 a0_1, .slice A0_2 l0_2.length c0_2, .slice A0_3 l0_3.length c0_3, .int .i64 a0_4, .int .i64 a0_5, .slice A0_6 l0_6.length c0_6, .int .i64 a0_7, .slice A0_8 l0_8.length c0_8, .slice A0_9 l0_9.length c0_9]) (t := 27) ?hr ?_; (case hd => rfl); (case hg => rfl); (case hr => first | (go_simp; done) | (go_simp; rfl)); intro gb722 hg w73 hbox hb; have n0_ := Zaa.mk (Za2 (by repeat (first | (with_reducible first | exact HB.out | apply Zac | apply Za | apply Zab) | exact HB.out)) hb); have n1_ := Zaa.mk (hbox); have n2_ := Zaa.mk ((by rw [hg]; exact (Zal (by repeat (first | (with_reducible first | exact HB.out | apply Zac | apply Za | apply Zab) | exact HB.out))) : w.heap.size ≤ gb722)); have n3_ := Zaa.mk ((by rw [hg]; exact (Zal (by repeat (first | (with_reducible first | exact HB.out | apply Zac | apply Za | apply Zab) | exact HB.out))) : w.heap.size ≤ gb722)); clear HB; have HB := n0_; have BK722 := n1_; have GW722 := n2_; have GE722 := n3_; clear n0_ n1_ n2_ n3_; clear hb hbox hg; obtain ⟨hcz74_0, hcz74_1, hcz74_2, hcz74_3, hcz74_4, hcz74_5, hcz74_6, hcz74_7, hcz74_8, hcz74_9, hfz74_0, hfz74_1, hfz74_2, hfz74_3, hfz74_4, hfz74_5, hfz74_6, hfz74_7, hfz74_8, hfz74_9⟩ := Zf5 BK722.out) | ((with_reducible refine Zbr (f := 14) rfl ?_); refine Zci (some 15) rfl rfl Try.func14 (by kernel_rfl) rfl #[.agg #[.slice A0_0 l0_0.length c0_0, .int .i64 a0_1, .slice A0_2 l0_2.length c0_2, .slice A0_3 l0_3.length c0_3, .int .i64 a0_4, .int .i64 a0_5, .slice A0_6 l0_6.length c0_6, .int .i64 a0_7, .slice A0_8 l0_8.length c0_8, .slice A0_9 l0_9.length c0_9], .int .i64 2] rfl (by (try simp only [List.map_toArray, List.map_cons, List.map_nil]); first | done | rfl | (simp only [List.length_drop, List.length_take]; rfl)) ?_; (with_reducible refine (Zap.calls k _ _ l0_0 a0_1 _ _ l0_2 _ _ l0_3 a0_4 a0_5 _ _ l0_6 a0_7 _ _ l0_8 _ _ l0_9 2 t723 t726 t727 t730 t733 t734 t735 t738 false _ ?side1 ?side2 ?side3 ?side4 ?side5 ?side6 ?side7 ?side8 ?side9 ?side10 ?side11 ?side12 A2.out).mono ?_); (case side1 => repeat (first | exact (Kd.Zbk HR0_0.out HB.out) | (with_reducible refine Kd.C_alloc ?_ _) | (with_reducible refine Kd.Za1 ?_ _) | (with_reducible refine Kd.Zbd ?_))); (case side2 => exact HC0_0.out); (case side3 => repeat (first | exact (Kd.Zbk HR0_2.out HB.out) | (with_reducible refine Kd.C_alloc ?_ _) | (with_reducible refine Kd.Za1 ?_ _) | (with_reducible refine Kd.Zbd ?_))); (case side4 => exact HC0_2.out); (case side5 => repeat (first | exact (Kd.Zbk HR0_3.out HB.out) | (with_reducible refine Kd.C_alloc ?_ _) | (with_reducible refine Kd.Za1 ?_ _) | (with_reducible refine Kd.Zbd ?_))); (case side6 => exact HC0_3.out); (case side7 => repeat (first | exact (Kd.Zbk HR0_6.out HB.out) | (with_reducible refine Kd.C_alloc ?_ _) | (with_reducible refine Kd.Za1 ?_ _) | (with_reducible refine Kd.Zbd ?_))); (case side8 => exact HC0_6.out); (case side9 => repeat (first | exact (Kd.Zbk HR0_8.out HB.out) | (with_reducible refine Kd.C_alloc ?_ _) | (with_reducible refine Kd.Za1 ?_ _) | (with_reducible refine Kd.Zbd ?_))); (case side10 => exact HC0_8.out); (case side11 => repeat (first | exact (Kd.Zbk HR0_9.out HB.out) | (with_reducible refine Kd.C_alloc ?_ _) | (with_reducible refine Kd.Za1 ?_ _) | (with_reducible refine Kd.Zbd ?_))); (case side12 => exact HC0_9.out); rintro e w75 ⟨v724, v728, v731, v736, rfl, ho0, ho1, ho2, ho3, hb⟩; refine ⟨_, rfl, ?_⟩; have n0_ := Zaa.mk (Kd.Zdh ho0 (Zal (by repeat (first | (with_reducible first | exact HB.out | apply Zac | apply Za | apply Zab | refine Zag ?_ GE722.out) | exact HB.out)))); have n1_ := Zaa.mk (Kd.Zb8 ho1 (Zal (by repeat (first | (with_reducible first | exact HB.out | apply Zac | apply Za | apply Zab | refine Zag ?_ GE722.out) | exact HB.out)))); have n2_ := Zaa.mk (Kd.Zb8 ho2 (Zal (by repeat (first | (with_reducible first | exact HB.out | apply Zac | apply Za | apply Zab | refine Zag ?_ GE722.out) | exact HB.out)))); have n3_ := Zaa.mk (Kd.Zdh ho3 (Zal (by repeat (first | (with_reducible first | exact HB.out | apply Zac | apply Za | apply Zab | refine Zag ?_ GE722.out) | exact HB.out)))); have n4_ := Zaa.mk (Zbh (g := gb722) (o := .cells #[.slice A0_0 l0_0.length c0_0, .int .i64 a0_1, .slice A0_2 l0_2.length c0_2, .slice A0_3 l0_3.length c0_3, .int .i64 a0_4, .int .i64 a0_5, .slice A0_6 l0_6.length c0_6, .int .i64 a0_7, .slice A0_8 l0_8.length c0_8, .slice A0_9 l0_9.length c0_9] 27 (0, 0)) (by (with_reducible repeat (first | refine Zaf ?_ _ | refine Zah ?_ | refine Zae ?_ _)); exact BK722.out) hb); have n5_ := Zaa.mk (Za2 (by repeat (first | (with_reducible first | exact HB.out | apply Zac | apply Za | apply Zab | refine Zag ?_ GE722.out) | exact HB.out)) hb); clear BK722; clear HB; have HO725 := n0_; have HO729 := n1_; have HO732 := n2_; have HO737 := n3_; have BK722 := n4_; have HB := n5_; clear n0_ n1_ n2_ n3_ n4_ n5_; (try clear hb); (try clear hb2); (try clear hk); (try clear hi); (try clear ho0); (try clear ho1); (try clear ho2); (try clear ho3)) | ((with_reducible refine Zb3 (N := 4) rfl ?_); refine Zcf ?hg (N := 4) ?hd (cs := #[.int .i64 0, .slice none 0 0, .slice none 0 0, .int .i64 0, .int .i64 0, .slice none 0 0, .int .i64 0]) (t := 25) ?hr ?_; (case hd => rfl); (case hg => rfl); (case hr => first | (go_simp; done) | (go_simp; rfl)); intro gb740 hg w76 hbox hb; have n0_ := Zaa.mk (Kd.Zce (by (with_reducible repeat (first | apply Kd.Zbb | apply Kd.Zbc | apply Kd.Zbl)); exact HO725.out) hb); have n1_ := Zaa.mk (Kd.Zca (by (with_reducible repeat (first | apply Kd.Zan | apply Kd.Zao | apply Kd.Zav)); exact HO729.out) hb); have n2_ := Zaa.mk (Kd.Zca (by (with_reducible repeat (first | apply Kd.Zan | apply Kd.Zao | apply Kd.Zav)); exact HO732.out) hb); have n3_ := Zaa.mk (Kd.Zce (by (with_reducible repeat (first | apply Kd.Zbb | apply Kd.Zbc | apply Kd.Zbl)); exact HO737.out) hb); have n4_ := Zaa.mk (Zbh (g := gb722) (o := .cells #[.slice A0_0 l0_0.length c0_0, .int .i64 a0_1, .slice A0_2 l0_2.length c0_2, .slice A0_3 l0_3.length c0_3, .int .i64 a0_4, .int .i64 a0_5, .slice A0_6 l0_6.length c0_6, .int .i64 a0_7, .slice A0_8 l0_8.length c0_8, .slice A0_9 l0_9.length c0_9] 27 (0, 0)) (by (with_reducible repeat (first | refine Zaf ?_ _ | refine Zah ?_ | refine Zae ?_ _)); exact BK722.out) hb); have n5_ := Zaa.mk (Za2 (by repeat (first | (with_reducible first | exact HB.out | apply Zac | apply Za | apply Zab | refine Zag ?_ GE722.out) | exact HB.out)) hb); have n6_ := Zaa.mk (hbox); have n7_ := Zaa.mk ((by rw [hg]; exact (Zal (by repeat (first | (with_reducible first | exact HB.out | apply Zac | apply Za | apply Zab | refine Zag ?_ GE722.out) | exact HB.out))) : w.heap.size ≤ gb740)); have n8_ := Zaa.mk ((by rw [hg]; exact (Zal (by repeat (first | (with_reducible first | exact HB.out | apply Zac | apply Za | apply Zab | refine Zag ?_ GE722.out) | exact HB.out))) : w.heap.size ≤ gb740)); have n9_ := Zaa.mk ((by rw [hg]; exact Nat.ne_of_lt (Zdc (g := gb722) (o := .cells #[.slice A0_0 l0_0.length c0_0, .int .i64 a0_1, .slice A0_2 l0_2.length c0_2, .slice A0_3 l0_3.length c0_3, .int .i64 a0_4, .int .i64 a0_5, .slice A0_6 l0_6.length c0_6, .int .i64 a0_7, .slice A0_8 l0_8.length c0_8, .slice A0_9 l0_9.length c0_9] 27 (0, 0)) (by (with_reducible repeat (first | refine Zaf ?_ _ | refine Zah ?_ | refine Zae ?_ _)); exact BK722.out)) : gb722 ≠ gb740)); have n10_ := Zaa.mk ((by rw [hg]; exact Nat.ne_of_gt (Zdc (g := gb722) (o := .cells #[.slice A0_0 l0_0.length c0_0, .int .i64 a0_1, .slice A0_2 l0_2.length c0_2, .slice A0_3 l0_3.length c0_3, .int .i64 a0_4, .int .i64 a0_5, .slice A0_6 l0_6.length c0_6, .int .i64 a0_7, .slice A0_8 l0_8.length c0_8, .slice A0_9 l0_9.length c0_9] 27 (0, 0)) (by (with_reducible repeat (first | refine Zaf ?_ _ | refine Zah ?_ | refine Zae ?_ _)); exact BK722.out)) : gb740 ≠ gb722)); clear HO725; clear HO729; clear HO732; clear HO737; clear BK722; clear HB; have HO725 := n0_; have HO729 := n1_; have HO732 := n2_; have HO737 := n3_; have BK722 := n4_; have HB := n5_; have BK740 := n6_; have GW740 := n7_; have GE740 := n8_; have NB722_740 := n9_; have NB740_722 := n10_; clear n0_ n1_ n2_ n3_ n4_ n5_ n6_ n7_ n8_ n9_ n10_; clear hb hbox hg; have hnb77 := NB740_722.out; have hnc77 := NB722_740.out; obtain ⟨hcz78_0, hcz78_1, hcz78_2, hcz78_3, hcz78_4, hcz78_5, hcz78_6, hfz78_0, hfz78_1, hfz78_2, hfz78_3, hfz78_4, hfz78_5, hfz78_6⟩ := Zcj BK740.out; obtain ⟨Ao79, co79, eo79⟩ := Kd.Zc HO729.out; subst eo79; obtain ⟨Ao80, co80, eo80⟩ := Kd.Zc HO732.out; subst eo80; obtain ⟨Ao81, co81, eo81⟩ := Kd.Zdi HO737.out; subst eo81) | ((with_reducible refine Zbr (f := 15) rfl ?_); refine Zci (some 21) rfl rfl Try.func15 (by kernel_rfl) rfl #[] rfl (by (try simp only [List.map_toArray, List.map_cons, List.map_nil]); first | done | rfl | (simp only [List.length_drop, List.length_take]; rfl)) ?_; (with_reducible refine (Zbm.calls k  t741 _ A72.out).mono ?_); rintro e w82 ⟨rfl, hb⟩; refine ⟨_, rfl, ?_⟩; have n0_ := Zaa.mk (Kd.Zce (by (with_reducible repeat (first | apply Kd.Zbb | apply Kd.Zbc | apply Kd.Zbl)); exact (Kd.Zcl (Kd.Zb1 (p := ⟨gb740, 6, none⟩) (Kd.Zb1 (p := ⟨gb740, 5, none⟩) (Kd.Zb1 (p := ⟨gb740, 4, none⟩) (Kd.Zb1 (p := ⟨gb740, 3, none⟩) (Kd.Zb1 (p := ⟨gb740, 2, none⟩) (Kd.Zb1 (p := ⟨gb740, 1, none⟩) (Kd.Zb1 (p := ⟨gb740, 0, none⟩) (Kd.Zco HO725.out BK740.out (by decide)) (fun _ hk => hk.2) (.int .i64 t726)) (fun _ hk => hk.2) (.slice Ao79 t727.length co79)) (fun _ hk => hk.2) (.slice Ao80 t730.length co80)) (fun _ hk => hk.2) (.int .i64 t733)) (fun _ hk => hk.2) (.int .i64 t734)) (fun _ hk => hk.2) (.slice Ao81 t735.length co81)) (fun _ hk => hk.2) (.int .i64 t738)) (fun _ h_ => h_.1))) hb); have n1_ := Zaa.mk (Kd.Zca (by (with_reducible repeat (first | apply Kd.Zan | apply Kd.Zao | apply Kd.Zav)); exact (Kd.Zbu (Kd.Zbv (p := ⟨gb740, 6, none⟩) (Kd.Zbv (p := ⟨gb740, 5, none⟩) (Kd.Zbv (p := ⟨gb740, 4, none⟩) (Kd.Zbv (p := ⟨gb740, 3, none⟩) (Kd.Zbv (p := ⟨gb740, 2, none⟩) (Kd.Zbv (p := ⟨gb740, 1, none⟩) (Kd.Zbv (p := ⟨gb740, 0, none⟩) (Kd.Zch HO729.out BK740.out (by decide)) (fun _ hk => hk.2) (.int .i64 t726)) (fun _ hk => hk.2) (.slice Ao79 t727.length co79)) (fun _ hk => hk.2) (.slice Ao80 t730.length co80)) (fun _ hk => hk.2) (.int .i64 t733)) (fun _ hk => hk.2) (.int .i64 t734)) (fun _ hk => hk.2) (.slice Ao81 t735.length co81)) (fun _ hk => hk.2) (.int .i64 t738)) (fun _ h_ => h_.1))) hb); have n2_ := Zaa.mk (Kd.Zca (by (with_reducible repeat (first | apply Kd.Zan | apply Kd.Zao | apply Kd.Zav)); exact (Kd.Zbu (Kd.Zbv (p := ⟨gb740, 6, none⟩) (Kd.Zbv (p := ⟨gb740, 5, none⟩) (Kd.Zbv (p := ⟨gb740, 4, none⟩) (Kd.Zbv (p := ⟨gb740, 3, none⟩) (Kd.Zbv (p := ⟨gb740, 2, none⟩) (Kd.Zbv (p := ⟨gb740, 1, none⟩) (Kd.Zbv (p := ⟨gb740, 0, none⟩) (Kd.Zch HO732.out BK740.out (by decide)) (fun _ hk => hk.2) (.int .i64 t726)) (fun _ hk => hk.2) (.slice Ao79 t727.length co79)) (fun _ hk => hk.2) (.slice Ao80 t730.length co80)) (fun _ hk => hk.2) (.int .i64 t733)) (fun _ hk => hk.2) (.int .i64 t734)) (fun _ hk => hk.2) (.slice Ao81 t735.length co81)) (fun _ hk => hk.2) (.int .i64 t738)) (fun _ h_ => h_.1))) hb); have n3_ := Zaa.mk (Kd.Zce (by (with_reducible repeat (first | apply Kd.Zbb | apply Kd.Zbc | apply Kd.Zbl)); exact (Kd.Zcl (Kd.Zb1 (p := ⟨gb740, 6, none⟩) (Kd.Zb1 (p := ⟨gb740, 5, none⟩) (Kd.Zb1 (p := ⟨gb740, 4, none⟩) (Kd.Zb1 (p := ⟨gb740, 3, none⟩) (Kd.Zb1 (p := ⟨gb740, 2, none⟩) (Kd.Zb1 (p := ⟨gb740, 1, none⟩) (Kd.Zb1 (p := ⟨gb740, 0, none⟩) (Kd.Zco HO737.out BK740.out (by decide)) (fun _ hk => hk.2) (.int .i64 t726)) (fun _ hk => hk.2) (.slice Ao79 t727.length co79)) (fun _ hk => hk.2) (.slice Ao80 t730.length co80)) (fun _ hk => hk.2) (.int .i64 t733)) (fun _ hk => hk.2) (.int .i64 t734)) (fun _ hk => hk.2) (.slice Ao81 t735.length co81)) (fun _ hk => hk.2) (.int .i64 t738)) (fun _ h_ => h_.1))) hb); have n4_ := Zaa.mk (Zbh (g := gb722) (o := .cells #[.slice A0_0 l0_0.length c0_0, .int .i64 a0_1, .slice A0_2 l0_2.length c0_2, .slice A0_3 l0_3.length c0_3, .int .i64 a0_4, .int .i64 a0_5, .slice A0_6 l0_6.length c0_6, .int .i64 a0_7, .slice A0_8 l0_8.length c0_8, .slice A0_9 l0_9.length c0_9] 27 (0, 0)) (by (with_reducible repeat (first | refine Zaf ?_ _ | refine Zah ?_ | refine Zae ?_ _)); refine Zb6 ?_ NB722_740.out _; (with_reducible repeat (first | refine Zaf ?_ _ | refine Zah ?_ | refine Zae ?_ _)); refine Zb6 ?_ NB722_740.out _; (with_reducible repeat (first | refine Zaf ?_ _ | refine Zah ?_ | refine Zae ?_ _)); refine Zb6 ?_ NB722_740.out _; (with_reducible repeat (first | refine Zaf ?_ _ | refine Zah ?_ | refine Zae ?_ _)); refine Zb6 ?_ NB722_740.out _; (with_reducible repeat (first | refine Zaf ?_ _ | refine Zah ?_ | refine Zae ?_ _)); refine Zb6 ?_ NB722_740.out _; (with_reducible repeat (first | refine Zaf ?_ _ | refine Zah ?_ | refine Zae ?_ _)); refine Zb6 ?_ NB722_740.out _; (with_reducible repeat (first | refine Zaf ?_ _ | refine Zah ?_ | refine Zae ?_ _)); refine Zb6 ?_ NB722_740.out _; (with_reducible repeat (first | refine Zaf ?_ _ | refine Zah ?_ | refine Zae ?_ _)); exact BK722.out) hb); have n5_ := Zaa.mk (Zbh (g := gb740) (o := .cells #[.int .i64 t726, .slice Ao79 t727.length co79, .slice Ao80 t730.length co80, .int .i64 t733, .int .i64 t734, .slice Ao81 t735.length co81, .int .i64 t738] 25 (0, 0)) (by (with_reducible repeat (first | refine Zaf ?_ _ | refine Zah ?_ | refine Zae ?_ _)); refine Zb5 (cs := #[.int .i64 t726, .slice Ao79 t727.length co79, .slice Ao80 t730.length co80, .int .i64 t733, .int .i64 t734, .slice Ao81 t735.length co81, .int .i64 0]) ?_ 6 _ rfl; (with_reducible repeat (first | refine Zaf ?_ _ | refine Zah ?_ | refine Zae ?_ _)); refine Zb5 (cs := #[.int .i64 t726, .slice Ao79 t727.length co79, .slice Ao80 t730.length co80, .int .i64 t733, .int .i64 t734, .slice none 0 0, .int .i64 0]) ?_ 5 _ rfl; (with_reducible repeat (first | refine Zaf ?_ _ | refine Zah ?_ | refine Zae ?_ _)); refine Zb5 (cs := #[.int .i64 t726, .slice Ao79 t727.length co79, .slice Ao80 t730.length co80, .int .i64 t733, .int .i64 0, .slice none 0 0, .int .i64 0]) ?_ 4 _ rfl; (with_reducible repeat (first | refine Zaf ?_ _ | refine Zah ?_ | refine Zae ?_ _)); refine Zb5 (cs := #[.int .i64 t726, .slice Ao79 t727.length co79, .slice Ao80 t730.length co80, .int .i64 0, .int .i64 0, .slice none 0 0, .int .i64 0]) ?_ 3 _ rfl; (with_reducible repeat (first | refine Zaf ?_ _ | refine Zah ?_ | refine Zae ?_ _)); refine Zb5 (cs := #[.int .i64 t726, .slice Ao79 t727.length co79, .slice none 0 0, .int .i64 0, .int .i64 0, .slice none 0 0, .int .i64 0]) ?_ 2 _ rfl; (with_reducible repeat (first | refine Zaf ?_ _ | refine Zah ?_ | refine Zae ?_ _)); refine Zb5 (cs := #[.int .i64 t726, .slice none 0 0, .slice none 0 0, .int .i64 0, .int .i64 0, .slice none 0 0, .int .i64 0]) ?_ 1 _ rfl; (with_reducible repeat (first | refine Zaf ?_ _ | refine Zah ?_ | refine Zae ?_ _)); refine Zb5 (cs := #[.int .i64 0, .slice none 0 0, .slice none 0 0, .int .i64 0, .int .i64 0, .slice none 0 0, .int .i64 0]) ?_ 0 _ rfl; (with_reducible repeat (first | refine Zaf ?_ _ | refine Zah ?_ | refine Zae ?_ _)); exact BK740.out) hb); have n6_ := Zaa.mk (Za2 (by repeat (first | (with_reducible first | exact HB.out | apply Zac | apply Za | apply Zab | refine Zag ?_ GE722.out | refine Zag ?_ GE740.out) | exact HB.out)) hb); clear HO725; clear HO729; clear HO732; clear HO737; clear BK722; clear BK740; clear HB; have HO725 := n0_; have HO729 := n1_; have HO732 := n2_; have HO737 := n3_; have BK722 := n4_; have BK740 := n5_; have HB := n6_; clear n0_ n1_ n2_ n3_ n4_ n5_ n6_; (try clear hb); (try clear hb2); (try clear hk); (try clear hi)))
  go_ret
  exact ⟨by first | rfl | (simp [Za3, Za4] <;> rfl) | (simp [*, Za3, Za4] <;> rfl), by repeat (first | (with_reducible first | exact HB.out | apply Zac | apply Za | apply Zab | refine Zag ?_ GE722.out | refine Zag ?_ GE740.out) | exact HB.out)⟩

 subst c3
 have H1 : ((Za6.f k t723 t726 t727 t730 t733 t734 t735 t738).bind fun t742 => ((Zaw.f k t723 l0_8).bind fun bt745 => (Zad.l0 k t723 t742 bt745.1 bt745.2 false 0 t726 t727 t730 t733 t734 t735 t738))) = some r := by rw [if_pos rfl] at H; exact H
 clear H
 have H := H1
 clear H1
 replace H := Option.bind_eq_some_iff.mp H
 obtain ⟨t742, A40, H⟩ := H
 replace H : ((Zaw.f k t723 l0_8).bind fun bt745 => (Zad.l0 k t723 t742 bt745.1 bt745.2 false 0 t726 t727 t730 t733 t734 t735 t738)) = some r := H
 have A4 := Zaa.mk A40
 clear A40
 replace H := Option.bind_eq_some_iff.mp H
 obtain ⟨⟨t745, t746⟩, A50, H⟩ := H
 replace H : (Zad.l0 k t723 t742 t745 t746 false 0 t726 t727 t730 t733 t734 t735 t738) = some r := H
 have A5 := Zaa.mk A50
 clear A50
 have H' := Zaa.mk H
 clear H
 go_enter Try.func7, Try.ntmps7
 go_wp2_with (first | ((with_reducible refine Zb3 (N := 1) rfl ?_); refine Zcf ?hg (N := 1) ?hd (cs := #[.slice A0_0 l0_0.length c0_0, .int .i64 a0_1, .slice A0_2 l0_2.length c0_2, .slice A0_3 l0_3.length c0_3, .int .i64 a0_4, .int .i64 a0_5, .slice A0_6 l0_6.length c0_6, .int .i64 a0_7, .slice A0_8 l0_8.length c0_8, .slice A0_9 l0_9.length c0_9]) (t := 27) ?hr ?_; (case hd => rfl); (case hg => rfl); (case hr => first | (go_simp; done) | (go_simp; rfl)); intro gb722 hg w6 hbox hb; have n0_ := Zaa.mk (Za2 (by repeat (first | (with_reducible first | exact HB.out | apply Zac | apply Za | apply Zab) | exact HB.out)) hb); have n1_ := Zaa.mk (hbox); have n2_ := Zaa.mk ((by rw [hg]; exact (Zal (by repeat (first | (with_reducible first | exact HB.out | apply Zac | apply Za | apply Zab) | exact HB.out))) : w.heap.size ≤ gb722)); have n3_ := Zaa.mk ((by rw [hg]; exact (Zal (by repeat (first | (with_reducible first | exact HB.out | apply Zac | apply Za | apply Zab) | exact HB.out))) : w.heap.size ≤ gb722)); clear HB; have HB := n0_; have BK722 := n1_; have GW722 := n2_; have GE722 := n3_; clear n0_ n1_ n2_ n3_; clear hb hbox hg; obtain ⟨hcz7_0, hcz7_1, hcz7_2, hcz7_3, hcz7_4, hcz7_5, hcz7_6, hcz7_7, hcz7_8, hcz7_9, hfz7_0, hfz7_1, hfz7_2, hfz7_3, hfz7_4, hfz7_5, hfz7_6, hfz7_7, hfz7_8, hfz7_9⟩ := Zf5 BK722.out) | ((with_reducible refine Zbr (f := 14) rfl ?_); refine Zci (some 15) rfl rfl Try.func14 (by kernel_rfl) rfl #[.agg #[.slice A0_0 l0_0.length c0_0, .int .i64 a0_1, .slice A0_2 l0_2.length c0_2, .slice A0_3 l0_3.length c0_3, .int .i64 a0_4, .int .i64 a0_5, .slice A0_6 l0_6.length c0_6, .int .i64 a0_7, .slice A0_8 l0_8.length c0_8, .slice A0_9 l0_9.length c0_9], .int .i64 2] rfl (by (try simp only [List.map_toArray, List.map_cons, List.map_nil]); first | done | rfl | (simp only [List.length_drop, List.length_take]; rfl)) ?_; (with_reducible refine (Zap.calls k _ _ l0_0 a0_1 _ _ l0_2 _ _ l0_3 a0_4 a0_5 _ _ l0_6 a0_7 _ _ l0_8 _ _ l0_9 2 t723 t726 t727 t730 t733 t734 t735 t738 true _ ?side1 ?side2 ?side3 ?side4 ?side5 ?side6 ?side7 ?side8 ?side9 ?side10 ?side11 ?side12 A2.out).mono ?_); (case side1 => repeat (first | exact (Kd.Zbk HR0_0.out HB.out) | (with_reducible refine Kd.C_alloc ?_ _) | (with_reducible refine Kd.Za1 ?_ _) | (with_reducible refine Kd.Zbd ?_))); (case side2 => exact HC0_0.out); (case side3 => repeat (first | exact (Kd.Zbk HR0_2.out HB.out) | (with_reducible refine Kd.C_alloc ?_ _) | (with_reducible refine Kd.Za1 ?_ _) | (with_reducible refine Kd.Zbd ?_))); (case side4 => exact HC0_2.out); (case side5 => repeat (first | exact (Kd.Zbk HR0_3.out HB.out) | (with_reducible refine Kd.C_alloc ?_ _) | (with_reducible refine Kd.Za1 ?_ _) | (with_reducible refine Kd.Zbd ?_))); (case side6 => exact HC0_3.out); (case side7 => repeat (first | exact (Kd.Zbk HR0_6.out HB.out) | (with_reducible refine Kd.C_alloc ?_ _) | (with_reducible refine Kd.Za1 ?_ _) | (with_reducible refine Kd.Zbd ?_))); (case side8 => exact HC0_6.out); (case side9 => repeat (first | exact (Kd.Zbk HR0_8.out HB.out) | (with_reducible refine Kd.C_alloc ?_ _) | (with_reducible refine Kd.Za1 ?_ _) | (with_reducible refine Kd.Zbd ?_))); (case side10 => exact HC0_8.out); (case side11 => repeat (first | exact (Kd.Zbk HR0_9.out HB.out) | (with_reducible refine Kd.C_alloc ?_ _) | (with_reducible refine Kd.Za1 ?_ _) | (with_reducible refine Kd.Zbd ?_))); (case side12 => exact HC0_9.out); rintro e w8 ⟨v724, v728, v731, v736, rfl, ho0, ho1, ho2, ho3, hb⟩; refine ⟨_, rfl, ?_⟩; have n0_ := Zaa.mk (Kd.Zdh ho0 (Zal (by repeat (first | (with_reducible first | exact HB.out | apply Zac | apply Za | apply Zab | refine Zag ?_ GE722.out) | exact HB.out)))); have n1_ := Zaa.mk (Kd.Zb8 ho1 (Zal (by repeat (first | (with_reducible first | exact HB.out | apply Zac | apply Za | apply Zab | refine Zag ?_ GE722.out) | exact HB.out)))); have n2_ := Zaa.mk (Kd.Zb8 ho2 (Zal (by repeat (first | (with_reducible first | exact HB.out | apply Zac | apply Za | apply Zab | refine Zag ?_ GE722.out) | exact HB.out)))); have n3_ := Zaa.mk (Kd.Zdh ho3 (Zal (by repeat (first | (with_reducible first | exact HB.out | apply Zac | apply Za | apply Zab | refine Zag ?_ GE722.out) | exact HB.out)))); have n4_ := Zaa.mk (Zbh (g := gb722) (o := .cells #[.slice A0_0 l0_0.length c0_0, .int .i64 a0_1, .slice A0_2 l0_2.length c0_2, .slice A0_3 l0_3.length c0_3, .int .i64 a0_4, .int .i64 a0_5, .slice A0_6 l0_6.length c0_6, .int .i64 a0_7, .slice A0_8 l0_8.length c0_8, .slice A0_9 l0_9.length c0_9] 27 (0, 0)) (by (with_reducible repeat (first | refine Zaf ?_ _ | refine Zah ?_ | refine Zae ?_ _)); exact BK722.out) hb); have n5_ := Zaa.mk (Za2 (by repeat (first | (with_reducible first | exact HB.out | apply Zac | apply Za | apply Zab | refine Zag ?_ GE722.out) | exact HB.out)) hb); clear BK722; clear HB; have HO725 := n0_; have HO729 := n1_; have HO732 := n2_; have HO737 := n3_; have BK722 := n4_; have HB := n5_; clear n0_ n1_ n2_ n3_ n4_ n5_; (try clear hb); (try clear hb2); (try clear hk); (try clear hi); (try clear ho0); (try clear ho1); (try clear ho2); (try clear ho3)) | ((with_reducible refine Zb3 (N := 4) rfl ?_); refine Zcf ?hg (N := 4) ?hd (cs := #[.int .i64 0, .slice none 0 0, .slice none 0 0, .int .i64 0, .int .i64 0, .slice none 0 0, .int .i64 0]) (t := 25) ?hr ?_; (case hd => rfl); (case hg => rfl); (case hr => first | (go_simp; done) | (go_simp; rfl)); intro gb740 hg w9 hbox hb; have n0_ := Zaa.mk (Kd.Zce (by (with_reducible repeat (first | apply Kd.Zbb | apply Kd.Zbc | apply Kd.Zbl)); exact HO725.out) hb); have n1_ := Zaa.mk (Kd.Zca (by (with_reducible repeat (first | apply Kd.Zan | apply Kd.Zao | apply Kd.Zav)); exact HO729.out) hb); have n2_ := Zaa.mk (Kd.Zca (by (with_reducible repeat (first | apply Kd.Zan | apply Kd.Zao | apply Kd.Zav)); exact HO732.out) hb); have n3_ := Zaa.mk (Kd.Zce (by (with_reducible repeat (first | apply Kd.Zbb | apply Kd.Zbc | apply Kd.Zbl)); exact HO737.out) hb); have n4_ := Zaa.mk (Zbh (g := gb722) (o := .cells #[.slice A0_0 l0_0.length c0_0, .int .i64 a0_1, .slice A0_2 l0_2.length c0_2, .slice A0_3 l0_3.length c0_3, .int .i64 a0_4, .int .i64 a0_5, .slice A0_6 l0_6.length c0_6, .int .i64 a0_7, .slice A0_8 l0_8.length c0_8, .slice A0_9 l0_9.length c0_9] 27 (0, 0)) (by (with_reducible repeat (first | refine Zaf ?_ _ | refine Zah ?_ | refine Zae ?_ _)); exact BK722.out) hb); have n5_ := Zaa.mk (Za2 (by repeat (first | (with_reducible first | exact HB.out | apply Zac | apply Za | apply Zab | refine Zag ?_ GE722.out) | exact HB.out)) hb); have n6_ := Zaa.mk (hbox); have n7_ := Zaa.mk ((by rw [hg]; exact (Zal (by repeat (first | (with_reducible first | exact HB.out | apply Zac | apply Za | apply Zab | refine Zag ?_ GE722.out) | exact HB.out))) : w.heap.size ≤ gb740)); have n8_ := Zaa.mk ((by rw [hg]; exact (Zal (by repeat (first | (with_reducible first | exact HB.out | apply Zac | apply Za | apply Zab | refine Zag ?_ GE722.out) | exact HB.out))) : w.heap.size ≤ gb740)); have n9_ := Zaa.mk ((by rw [hg]; exact Nat.ne_of_lt (Zdc (g := gb722) (o := .cells #[.slice A0_0 l0_0.length c0_0, .int .i64 a0_1, .slice A0_2 l0_2.length c0_2, .slice A0_3 l0_3.length c0_3, .int .i64 a0_4, .int .i64 a0_5, .slice A0_6 l0_6.length c0_6, .int .i64 a0_7, .slice A0_8 l0_8.length c0_8, .slice A0_9 l0_9.length c0_9] 27 (0, 0)) (by (with_reducible repeat (first | refine Zaf ?_ _ | refine Zah ?_ | refine Zae ?_ _)); exact BK722.out)) : gb722 ≠ gb740)); have n10_ := Zaa.mk ((by rw [hg]; exact Nat.ne_of_gt (Zdc (g := gb722) (o := .cells #[.slice A0_0 l0_0.length c0_0, .int .i64 a0_1, .slice A0_2 l0_2.length c0_2, .slice A0_3 l0_3.length c0_3, .int .i64 a0_4, .int .i64 a0_5, .slice A0_6 l0_6.length c0_6, .int .i64 a0_7, .slice A0_8 l0_8.length c0_8, .slice A0_9 l0_9.length c0_9] 27 (0, 0)) (by (with_reducible repeat (first | refine Zaf ?_ _ | refine Zah ?_ | refine Zae ?_ _)); exact BK722.out)) : gb740 ≠ gb722)); clear HO725; clear HO729; clear HO732; clear HO737; clear BK722; clear HB; have HO725 := n0_; have HO729 := n1_; have HO732 := n2_; have HO737 := n3_; have BK722 := n4_; have HB := n5_; have BK740 := n6_; have GW740 := n7_; have GE740 := n8_; have NB722_740 := n9_; have NB740_722 := n10_; clear n0_ n1_ n2_ n3_ n4_ n5_ n6_ n7_ n8_ n9_ n10_; clear hb hbox hg; have hnb10 := NB740_722.out; have hnc10 := NB722_740.out; obtain ⟨hcz11_0, hcz11_1, hcz11_2, hcz11_3, hcz11_4, hcz11_5, hcz11_6, hfz11_0, hfz11_1, hfz11_2, hfz11_3, hfz11_4, hfz11_5, hfz11_6⟩ := Zcj BK740.out; obtain ⟨Ao12, co12, eo12⟩ := Kd.Zc HO729.out; subst eo12; obtain ⟨Ao13, co13, eo13⟩ := Kd.Zc HO732.out; subst eo13; obtain ⟨Ao14, co14, eo14⟩ := Kd.Zdi HO737.out; subst eo14; obtain ⟨Ao15, co15, eo15⟩ := Kd.Zdi HO725.out; subst eo15) | ((with_reducible refine Zbr (f := 20) rfl ?_); refine Zci (some 24) rfl rfl Try.func20 (by kernel_rfl) rfl #[.slice Ao15 t723.length co15, .agg #[.int .i64 t726, .slice Ao12 t727.length co12, .slice Ao13 t730.length co13, .int .i64 t733, .int .i64 t734, .slice Ao14 t735.length co14, .int .i64 t738]] rfl (by (try simp only [List.map_toArray, List.map_cons, List.map_nil]); first | done | rfl | (simp only [List.length_drop, List.length_take]; rfl)) ?_; (with_reducible refine (Za6.calls k _ _ t723 t726 _ _ t727 _ _ t730 t733 t734 _ _ t735 t738 t742 _ ?side1 ?side2 ?side3 ?side4 ?side5 ?side6 ?side7 ?side8 A4.out).mono ?_); (case side1 => refine (Kd.Zcd (e := 39) (base := w.heap.size) (ok := fun k_ => True) (n := t723.length) (c := co15) ?_).2.2; exact (by (with_reducible repeat (first | apply Kd.Zbb | apply Kd.Zbc | apply Kd.Zbl)); exact (Kd.Zcl (Kd.Zb1 (p := ⟨gb740, 6, none⟩) (Kd.Zb1 (p := ⟨gb740, 5, none⟩) (Kd.Zb1 (p := ⟨gb740, 4, none⟩) (Kd.Zb1 (p := ⟨gb740, 3, none⟩) (Kd.Zb1 (p := ⟨gb740, 2, none⟩) (Kd.Zb1 (p := ⟨gb740, 1, none⟩) (Kd.Zb1 (p := ⟨gb740, 0, none⟩) (Kd.Zco HO725.out BK740.out (by decide)) (fun _ hk => hk.2) (.int .i64 t726)) (fun _ hk => hk.2) (.slice Ao12 t727.length co12)) (fun _ hk => hk.2) (.slice Ao13 t730.length co13)) (fun _ hk => hk.2) (.int .i64 t733)) (fun _ hk => hk.2) (.int .i64 t734)) (fun _ hk => hk.2) (.slice Ao14 t735.length co14)) (fun _ hk => hk.2) (.int .i64 t738)) (fun _ h_ => h_.1)))); (case side2 => exact (Kd.Zcd HO725.out).2.1); (case side3 => refine (Kd.Zbp (e := 3) (base := w.heap.size) (ok := fun k_ => some k_ ≠ (.slice Ao13 t730.length co13 : Value).ownBlock) (n := t727.length) (c := co12) ?_).2.2; exact (by (with_reducible repeat (first | apply Kd.Zan | apply Kd.Zao | apply Kd.Zav)); exact (Kd.Zbu (Kd.Zbv (p := ⟨gb740, 6, none⟩) (Kd.Zbv (p := ⟨gb740, 5, none⟩) (Kd.Zbv (p := ⟨gb740, 4, none⟩) (Kd.Zbv (p := ⟨gb740, 3, none⟩) (Kd.Zbv (p := ⟨gb740, 2, none⟩) (Kd.Zbv (p := ⟨gb740, 1, none⟩) (Kd.Zbv (p := ⟨gb740, 0, none⟩) (Kd.Zch HO729.out BK740.out (by decide)) (fun _ hk => hk.2) (.int .i64 t726)) (fun _ hk => hk.2) (.slice Ao12 t727.length co12)) (fun _ hk => hk.2) (.slice Ao13 t730.length co13)) (fun _ hk => hk.2) (.int .i64 t733)) (fun _ hk => hk.2) (.int .i64 t734)) (fun _ hk => hk.2) (.slice Ao14 t735.length co14)) (fun _ hk => hk.2) (.int .i64 t738)) (fun _ h_ => h_.1)))); (case side4 => exact (Kd.Zbp HO729.out).2.1); (case side5 => refine (Kd.Zbp (e := 3) (base := w.heap.size) (ok := fun k_ => some k_ ≠ (.slice Ao12 t727.length co12 : Value).ownBlock) (n := t730.length) (c := co13) ?_).2.2; exact (by (with_reducible repeat (first | apply Kd.Zan | apply Kd.Zao | apply Kd.Zav)); exact (Kd.Zbu (Kd.Zbv (p := ⟨gb740, 6, none⟩) (Kd.Zbv (p := ⟨gb740, 5, none⟩) (Kd.Zbv (p := ⟨gb740, 4, none⟩) (Kd.Zbv (p := ⟨gb740, 3, none⟩) (Kd.Zbv (p := ⟨gb740, 2, none⟩) (Kd.Zbv (p := ⟨gb740, 1, none⟩) (Kd.Zbv (p := ⟨gb740, 0, none⟩) (Kd.Zch HO732.out BK740.out (by decide)) (fun _ hk => hk.2) (.int .i64 t726)) (fun _ hk => hk.2) (.slice Ao12 t727.length co12)) (fun _ hk => hk.2) (.slice Ao13 t730.length co13)) (fun _ hk => hk.2) (.int .i64 t733)) (fun _ hk => hk.2) (.int .i64 t734)) (fun _ hk => hk.2) (.slice Ao14 t735.length co14)) (fun _ hk => hk.2) (.int .i64 t738)) (fun _ h_ => h_.1)))); (case side6 => exact (Kd.Zbp HO732.out).2.1); (case side7 => refine (Kd.Zcd (e := 23) (base := w.heap.size) (ok := fun k_ => (some k_ ≠ (.slice Ao12 t727.length co12 : Value).ownBlock ∧ some k_ ≠ (.slice Ao13 t730.length co13 : Value).ownBlock)) (n := t735.length) (c := co14) ?_).2.2; exact (by (with_reducible repeat (first | apply Kd.Zbb | apply Kd.Zbc | apply Kd.Zbl)); exact (Kd.Zcl (Kd.Zb1 (p := ⟨gb740, 6, none⟩) (Kd.Zb1 (p := ⟨gb740, 5, none⟩) (Kd.Zb1 (p := ⟨gb740, 4, none⟩) (Kd.Zb1 (p := ⟨gb740, 3, none⟩) (Kd.Zb1 (p := ⟨gb740, 2, none⟩) (Kd.Zb1 (p := ⟨gb740, 1, none⟩) (Kd.Zb1 (p := ⟨gb740, 0, none⟩) (Kd.Zco HO737.out BK740.out (by decide)) (fun _ hk => hk.2) (.int .i64 t726)) (fun _ hk => hk.2) (.slice Ao12 t727.length co12)) (fun _ hk => hk.2) (.slice Ao13 t730.length co13)) (fun _ hk => hk.2) (.int .i64 t733)) (fun _ hk => hk.2) (.int .i64 t734)) (fun _ hk => hk.2) (.slice Ao14 t735.length co14)) (fun _ hk => hk.2) (.int .i64 t738)) (fun _ h_ => h_.1)))); (case side8 => exact (Kd.Zcd HO737.out).2.1); rintro e w16 ⟨v743, rfl, ho0, hb⟩; refine ⟨_, rfl, ?_⟩; have n0_ := Zaa.mk (Kd.Zce (by (with_reducible repeat (first | apply Kd.Zbb | apply Kd.Zbc | apply Kd.Zbl)); exact (Kd.Zcl (Kd.Zb1 (p := ⟨gb740, 6, none⟩) (Kd.Zb1 (p := ⟨gb740, 5, none⟩) (Kd.Zb1 (p := ⟨gb740, 4, none⟩) (Kd.Zb1 (p := ⟨gb740, 3, none⟩) (Kd.Zb1 (p := ⟨gb740, 2, none⟩) (Kd.Zb1 (p := ⟨gb740, 1, none⟩) (Kd.Zb1 (p := ⟨gb740, 0, none⟩) (Kd.Zco HO725.out BK740.out (by decide)) (fun _ hk => hk.2) (.int .i64 t726)) (fun _ hk => hk.2) (.slice Ao12 t727.length co12)) (fun _ hk => hk.2) (.slice Ao13 t730.length co13)) (fun _ hk => hk.2) (.int .i64 t733)) (fun _ hk => hk.2) (.int .i64 t734)) (fun _ hk => hk.2) (.slice Ao14 t735.length co14)) (fun _ hk => hk.2) (.int .i64 t738)) (fun _ h_ => h_.1))) hb); have n1_ := Zaa.mk (Kd.Zca (by (with_reducible repeat (first | apply Kd.Zan | apply Kd.Zao | apply Kd.Zav)); exact (Kd.Zbu (Kd.Zbv (p := ⟨gb740, 6, none⟩) (Kd.Zbv (p := ⟨gb740, 5, none⟩) (Kd.Zbv (p := ⟨gb740, 4, none⟩) (Kd.Zbv (p := ⟨gb740, 3, none⟩) (Kd.Zbv (p := ⟨gb740, 2, none⟩) (Kd.Zbv (p := ⟨gb740, 1, none⟩) (Kd.Zbv (p := ⟨gb740, 0, none⟩) (Kd.Zch HO729.out BK740.out (by decide)) (fun _ hk => hk.2) (.int .i64 t726)) (fun _ hk => hk.2) (.slice Ao12 t727.length co12)) (fun _ hk => hk.2) (.slice Ao13 t730.length co13)) (fun _ hk => hk.2) (.int .i64 t733)) (fun _ hk => hk.2) (.int .i64 t734)) (fun _ hk => hk.2) (.slice Ao14 t735.length co14)) (fun _ hk => hk.2) (.int .i64 t738)) (fun _ h_ => h_.1))) hb); have n2_ := Zaa.mk (Kd.Zca (by (with_reducible repeat (first | apply Kd.Zan | apply Kd.Zao | apply Kd.Zav)); exact (Kd.Zbu (Kd.Zbv (p := ⟨gb740, 6, none⟩) (Kd.Zbv (p := ⟨gb740, 5, none⟩) (Kd.Zbv (p := ⟨gb740, 4, none⟩) (Kd.Zbv (p := ⟨gb740, 3, none⟩) (Kd.Zbv (p := ⟨gb740, 2, none⟩) (Kd.Zbv (p := ⟨gb740, 1, none⟩) (Kd.Zbv (p := ⟨gb740, 0, none⟩) (Kd.Zch HO732.out BK740.out (by decide)) (fun _ hk => hk.2) (.int .i64 t726)) (fun _ hk => hk.2) (.slice Ao12 t727.length co12)) (fun _ hk => hk.2) (.slice Ao13 t730.length co13)) (fun _ hk => hk.2) (.int .i64 t733)) (fun _ hk => hk.2) (.int .i64 t734)) (fun _ hk => hk.2) (.slice Ao14 t735.length co14)) (fun _ hk => hk.2) (.int .i64 t738)) (fun _ h_ => h_.1))) hb); have n3_ := Zaa.mk (Kd.Zde (by (with_reducible repeat (first | apply Kd.Zbb | apply Kd.Zbc | apply Kd.Zbl)); exact (Kd.Zcl (Kd.Zb1 (p := ⟨gb740, 6, none⟩) (Kd.Zb1 (p := ⟨gb740, 5, none⟩) (Kd.Zb1 (p := ⟨gb740, 4, none⟩) (Kd.Zb1 (p := ⟨gb740, 3, none⟩) (Kd.Zb1 (p := ⟨gb740, 2, none⟩) (Kd.Zb1 (p := ⟨gb740, 1, none⟩) (Kd.Zb1 (p := ⟨gb740, 0, none⟩) (Kd.Zco HO737.out BK740.out (by decide)) (fun _ hk => hk.2) (.int .i64 t726)) (fun _ hk => hk.2) (.slice Ao12 t727.length co12)) (fun _ hk => hk.2) (.slice Ao13 t730.length co13)) (fun _ hk => hk.2) (.int .i64 t733)) (fun _ hk => hk.2) (.int .i64 t734)) (fun _ hk => hk.2) (.slice Ao14 t735.length co14)) (fun _ hk => hk.2) (.int .i64 t738)) (fun _ h_ => h_.1))) (Kd.S_base ho0) hb); have n4_ := Zaa.mk (Kd.Zdh (Kd.S_new' (Kd.S_new' (Kd.S_new' ho0 (Kd.R_lt (by (with_reducible repeat (first | apply Kd.Zan | apply Kd.Zao | apply Kd.Zav)); exact (Kd.Zbu (Kd.Zbv (p := ⟨gb740, 6, none⟩) (Kd.Zbv (p := ⟨gb740, 5, none⟩) (Kd.Zbv (p := ⟨gb740, 4, none⟩) (Kd.Zbv (p := ⟨gb740, 3, none⟩) (Kd.Zbv (p := ⟨gb740, 2, none⟩) (Kd.Zbv (p := ⟨gb740, 1, none⟩) (Kd.Zbv (p := ⟨gb740, 0, none⟩) (Kd.Zch HO729.out BK740.out (by decide)) (fun _ hk => hk.2) (.int .i64 t726)) (fun _ hk => hk.2) (.slice Ao12 t727.length co12)) (fun _ hk => hk.2) (.slice Ao13 t730.length co13)) (fun _ hk => hk.2) (.int .i64 t733)) (fun _ hk => hk.2) (.int .i64 t734)) (fun _ hk => hk.2) (.slice Ao14 t735.length co14)) (fun _ hk => hk.2) (.int .i64 t738)) (fun _ h_ => h_.1))))) (Kd.R_lt (by (with_reducible repeat (first | apply Kd.Zan | apply Kd.Zao | apply Kd.Zav)); exact (Kd.Zbu (Kd.Zbv (p := ⟨gb740, 6, none⟩) (Kd.Zbv (p := ⟨gb740, 5, none⟩) (Kd.Zbv (p := ⟨gb740, 4, none⟩) (Kd.Zbv (p := ⟨gb740, 3, none⟩) (Kd.Zbv (p := ⟨gb740, 2, none⟩) (Kd.Zbv (p := ⟨gb740, 1, none⟩) (Kd.Zbv (p := ⟨gb740, 0, none⟩) (Kd.Zch HO732.out BK740.out (by decide)) (fun _ hk => hk.2) (.int .i64 t726)) (fun _ hk => hk.2) (.slice Ao12 t727.length co12)) (fun _ hk => hk.2) (.slice Ao13 t730.length co13)) (fun _ hk => hk.2) (.int .i64 t733)) (fun _ hk => hk.2) (.int .i64 t734)) (fun _ hk => hk.2) (.slice Ao14 t735.length co14)) (fun _ hk => hk.2) (.int .i64 t738)) (fun _ h_ => h_.1))))) (Kd.S_lt (by (with_reducible repeat (first | apply Kd.Zbb | apply Kd.Zbc | apply Kd.Zbl)); exact (Kd.Zcl (Kd.Zb1 (p := ⟨gb740, 6, none⟩) (Kd.Zb1 (p := ⟨gb740, 5, none⟩) (Kd.Zb1 (p := ⟨gb740, 4, none⟩) (Kd.Zb1 (p := ⟨gb740, 3, none⟩) (Kd.Zb1 (p := ⟨gb740, 2, none⟩) (Kd.Zb1 (p := ⟨gb740, 1, none⟩) (Kd.Zb1 (p := ⟨gb740, 0, none⟩) (Kd.Zco HO737.out BK740.out (by decide)) (fun _ hk => hk.2) (.int .i64 t726)) (fun _ hk => hk.2) (.slice Ao12 t727.length co12)) (fun _ hk => hk.2) (.slice Ao13 t730.length co13)) (fun _ hk => hk.2) (.int .i64 t733)) (fun _ hk => hk.2) (.int .i64 t734)) (fun _ hk => hk.2) (.slice Ao14 t735.length co14)) (fun _ hk => hk.2) (.int .i64 t738)) (fun _ h_ => h_.1))))) (Zal (by repeat (first | (with_reducible first | exact HB.out | apply Zac | apply Za | apply Zab | refine Zag ?_ GE722.out | refine Zag ?_ GE740.out) | exact HB.out)))); have n5_ := Zaa.mk (Zbh (g := gb722) (o := .cells #[.slice A0_0 l0_0.length c0_0, .int .i64 a0_1, .slice A0_2 l0_2.length c0_2, .slice A0_3 l0_3.length c0_3, .int .i64 a0_4, .int .i64 a0_5, .slice A0_6 l0_6.length c0_6, .int .i64 a0_7, .slice A0_8 l0_8.length c0_8, .slice A0_9 l0_9.length c0_9] 27 (0, 0)) (by (with_reducible repeat (first | refine Zaf ?_ _ | refine Zah ?_ | refine Zae ?_ _)); refine Zb6 ?_ NB722_740.out _; (with_reducible repeat (first | refine Zaf ?_ _ | refine Zah ?_ | refine Zae ?_ _)); refine Zb6 ?_ NB722_740.out _; (with_reducible repeat (first | refine Zaf ?_ _ | refine Zah ?_ | refine Zae ?_ _)); refine Zb6 ?_ NB722_740.out _; (with_reducible repeat (first | refine Zaf ?_ _ | refine Zah ?_ | refine Zae ?_ _)); refine Zb6 ?_ NB722_740.out _; (with_reducible repeat (first | refine Zaf ?_ _ | refine Zah ?_ | refine Zae ?_ _)); refine Zb6 ?_ NB722_740.out _; (with_reducible repeat (first | refine Zaf ?_ _ | refine Zah ?_ | refine Zae ?_ _)); refine Zb6 ?_ NB722_740.out _; (with_reducible repeat (first | refine Zaf ?_ _ | refine Zah ?_ | refine Zae ?_ _)); refine Zb6 ?_ NB722_740.out _; (with_reducible repeat (first | refine Zaf ?_ _ | refine Zah ?_ | refine Zae ?_ _)); exact BK722.out) hb); have n6_ := Zaa.mk (Zbh (g := gb740) (o := .cells #[.int .i64 t726, .slice Ao12 t727.length co12, .slice Ao13 t730.length co13, .int .i64 t733, .int .i64 t734, .slice Ao14 t735.length co14, .int .i64 t738] 25 (0, 0)) (by (with_reducible repeat (first | refine Zaf ?_ _ | refine Zah ?_ | refine Zae ?_ _)); refine Zb5 (cs := #[.int .i64 t726, .slice Ao12 t727.length co12, .slice Ao13 t730.length co13, .int .i64 t733, .int .i64 t734, .slice Ao14 t735.length co14, .int .i64 0]) ?_ 6 _ rfl; (with_reducible repeat (first | refine Zaf ?_ _ | refine Zah ?_ | refine Zae ?_ _)); refine Zb5 (cs := #[.int .i64 t726, .slice Ao12 t727.length co12, .slice Ao13 t730.length co13, .int .i64 t733, .int .i64 t734, .slice none 0 0, .int .i64 0]) ?_ 5 _ rfl; (with_reducible repeat (first | refine Zaf ?_ _ | refine Zah ?_ | refine Zae ?_ _)); refine Zb5 (cs := #[.int .i64 t726, .slice Ao12 t727.length co12, .slice Ao13 t730.length co13, .int .i64 t733, .int .i64 0, .slice none 0 0, .int .i64 0]) ?_ 4 _ rfl; (with_reducible repeat (first | refine Zaf ?_ _ | refine Zah ?_ | refine Zae ?_ _)); refine Zb5 (cs := #[.int .i64 t726, .slice Ao12 t727.length co12, .slice Ao13 t730.length co13, .int .i64 0, .int .i64 0, .slice none 0 0, .int .i64 0]) ?_ 3 _ rfl; (with_reducible repeat (first | refine Zaf ?_ _ | refine Zah ?_ | refine Zae ?_ _)); refine Zb5 (cs := #[.int .i64 t726, .slice Ao12 t727.length co12, .slice none 0 0, .int .i64 0, .int .i64 0, .slice none 0 0, .int .i64 0]) ?_ 2 _ rfl; (with_reducible repeat (first | refine Zaf ?_ _ | refine Zah ?_ | refine Zae ?_ _)); refine Zb5 (cs := #[.int .i64 t726, .slice none 0 0, .slice none 0 0, .int .i64 0, .int .i64 0, .slice none 0 0, .int .i64 0]) ?_ 1 _ rfl; (with_reducible repeat (first | refine Zaf ?_ _ | refine Zah ?_ | refine Zae ?_ _)); refine Zb5 (cs := #[.int .i64 0, .slice none 0 0, .slice none 0 0, .int .i64 0, .int .i64 0, .slice none 0 0, .int .i64 0]) ?_ 0 _ rfl; (with_reducible repeat (first | refine Zaf ?_ _ | refine Zah ?_ | refine Zae ?_ _)); exact BK740.out) hb); have n7_ := Zaa.mk (Za2 (by repeat (first | (with_reducible first | exact HB.out | apply Zac | apply Za | apply Zab | refine Zag ?_ GE722.out | refine Zag ?_ GE740.out) | exact HB.out)) hb); clear HO725; clear HO729; clear HO732; clear HO737; clear BK722; clear BK740; clear HB; have HO725 := n0_; have HO729 := n1_; have HO732 := n2_; have HO737 := n3_; have HO744 := n4_; have BK722 := n5_; have BK740 := n6_; have HB := n7_; clear n0_ n1_ n2_ n3_ n4_ n5_ n6_ n7_; (try clear hb); (try clear hb2); (try clear hk); (try clear hi); (try clear ho0); obtain ⟨hcz17_0, hcz17_1, hcz17_2, hcz17_3, hcz17_4, hcz17_5, hcz17_6, hcz17_7, hcz17_8, hcz17_9, hfz17_0, hfz17_1, hfz17_2, hfz17_3, hfz17_4, hfz17_5, hfz17_6, hfz17_7, hfz17_8, hfz17_9⟩ := Zf5 BK722.out) | ((with_reducible refine Zbr (f := 30) rfl ?_); refine Zci (some 29) rfl rfl Try.func30 (by kernel_rfl) rfl #[.slice Ao15 t723.length co15, .slice A0_8 l0_8.length c0_8] rfl (by (try simp only [List.map_toArray, List.map_cons, List.map_nil]); first | done | rfl | (simp only [List.length_drop, List.length_take]; rfl)) ?_; (with_reducible refine (Zaw.calls k _ _ t723 _ _ l0_8 t745 t746 _ ?side1 ?side2 ?side3 ?side4 A5.out).mono ?_); (case side1 => repeat (first | exact (Kd.Zcd HO725.out).2.2 | (with_reducible refine Kd.C_alloc ?_ _) | (with_reducible refine Kd.Za1 ?_ _) | (with_reducible refine Kd.Zbd ?_))); (case side2 => exact (Kd.Zcd HO725.out).2.1); (case side3 => repeat (first | exact (Kd.Zbk HR0_8.out HB.out) | (with_reducible refine Kd.C_alloc ?_ _) | (with_reducible refine Kd.Za1 ?_ _) | (with_reducible refine Kd.Zbd ?_))); (case side4 => exact HC0_8.out); rintro e w18 ⟨v747, rfl, ho0, hb⟩; refine ⟨_, rfl, ?_⟩; have n0_ := Zaa.mk (Kd.Zce (by (with_reducible repeat (first | apply Kd.Zbb | apply Kd.Zbc | apply Kd.Zbl)); exact HO725.out) hb); have n1_ := Zaa.mk (Kd.Zct (by (with_reducible repeat (first | apply Kd.Zan | apply Kd.Zao | apply Kd.Zav)); exact HO729.out) (Kd.Zcw ho0) hb); have n2_ := Zaa.mk (Kd.Zct (by (with_reducible repeat (first | apply Kd.Zan | apply Kd.Zao | apply Kd.Zav)); exact HO732.out) (Kd.Zcw ho0) hb); have n3_ := Zaa.mk (Kd.Zde (by (with_reducible repeat (first | apply Kd.Zbb | apply Kd.Zbc | apply Kd.Zbl)); exact HO737.out) (Kd.Zcw ho0) hb); have n4_ := Zaa.mk (Kd.Zde (by (with_reducible repeat (first | apply Kd.Zbb | apply Kd.Zbc | apply Kd.Zbl)); exact HO744.out) (Kd.Zcw ho0) hb); have n5_ := Zaa.mk (Kd.Zb8 (Kd.Zdg (Kd.Zdg ho0 (Kd.R_lt (by (with_reducible repeat (first | apply Kd.Zan | apply Kd.Zao | apply Kd.Zav)); exact HO729.out))) (Kd.R_lt (by (with_reducible repeat (first | apply Kd.Zan | apply Kd.Zao | apply Kd.Zav)); exact HO732.out))) (Zal (by repeat (first | (with_reducible first | exact HB.out | apply Zac | apply Za | apply Zab | refine Zag ?_ GE722.out | refine Zag ?_ GE740.out) | exact HB.out)))); have n6_ := Zaa.mk (Zbh (g := gb722) (o := .cells #[.slice A0_0 l0_0.length c0_0, .int .i64 a0_1, .slice A0_2 l0_2.length c0_2, .slice A0_3 l0_3.length c0_3, .int .i64 a0_4, .int .i64 a0_5, .slice A0_6 l0_6.length c0_6, .int .i64 a0_7, .slice A0_8 l0_8.length c0_8, .slice A0_9 l0_9.length c0_9] 27 (0, 0)) (by (with_reducible repeat (first | refine Zaf ?_ _ | refine Zah ?_ | refine Zae ?_ _)); exact BK722.out) hb); have n7_ := Zaa.mk (Zbh (g := gb740) (o := .cells #[.int .i64 t726, .slice Ao12 t727.length co12, .slice Ao13 t730.length co13, .int .i64 t733, .int .i64 t734, .slice Ao14 t735.length co14, .int .i64 t738] 25 (0, 0)) (by (with_reducible repeat (first | refine Zaf ?_ _ | refine Zah ?_ | refine Zae ?_ _)); exact BK740.out) hb); have n8_ := Zaa.mk (Za2 (by repeat (first | (with_reducible first | exact HB.out | apply Zac | apply Za | apply Zab | refine Zag ?_ GE722.out | refine Zag ?_ GE740.out) | exact HB.out)) hb); clear HO725; clear HO729; clear HO732; clear HO737; clear HO744; clear BK722; clear BK740; clear HB; have HO725 := n0_; have HO729 := n1_; have HO732 := n2_; have HO737 := n3_; have HO744 := n4_; have HO748 := n5_; have BK722 := n6_; have BK740 := n7_; have HB := n8_; clear n0_ n1_ n2_ n3_ n4_ n5_ n6_ n7_ n8_; (try clear hb); (try clear hb2); (try clear hk); (try clear hi); (try clear ho0)))
 go_loopg [9, 10] k (fun kq v9 v10 w' => ∃ (x9_1 : Bool) (x10_1 : Int), v9 = .bool x9_1 ∧ v10 = .int .i64 x10_1 ∧ Zaa (Zad.l0 kq t723 t742 t745 t746 x9_1 x10_1 t726 t727 t730 t733 t734 t735 t738 = some r) ∧ Zaa (kq ≤ k) ∧ Zaa (Kd.S (Kd.slice 41 k41) 39 w' w.heap.size (fun _ => True) (.slice Ao15 t723.length co15) t723) ∧ Zaa (Kd.S (Kd.slice 3 (Kd.int .i64)) 23 w' w.heap.size (fun k_ => some k_ ≠ (v747 : Value).ownBlock ∧ some k_ ≠ ((.slice Ao12 t727.length co12) : Value).ownBlock ∧ some k_ ≠ ((.slice Ao13 t730.length co13) : Value).ownBlock ∧ some k_ ≠ ((.slice Ao14 t735.length co14) : Value).ownBlock) v743 t742) ∧ Zaa (Kd.R (Kd.int .i64) 3 w' w.heap.size (fun k_ => some k_ ≠ ((.slice Ao12 t727.length co12) : Value).ownBlock ∧ some k_ ≠ ((.slice Ao13 t730.length co13) : Value).ownBlock) v747 t745) ∧ Zaa (Kd.R (Kd.int .i64) 3 w' w.heap.size (fun k_ => some k_ ≠ (v747 : Value).ownBlock ∧ some k_ ≠ ((.slice Ao13 t730.length co13) : Value).ownBlock) (.slice Ao12 t727.length co12) t727) ∧ Zaa (Kd.R (Kd.int .i64) 3 w' w.heap.size (fun k_ => some k_ ≠ (v747 : Value).ownBlock ∧ some k_ ≠ ((.slice Ao12 t727.length co12) : Value).ownBlock) (.slice Ao13 t730.length co13) t730) ∧ Zaa (Kd.S (Kd.slice 3 (Kd.int .i64)) 23 w' w.heap.size (fun k_ => some k_ ≠ (v743 : Value).ownBlock ∧ some k_ ≠ (v747 : Value).ownBlock ∧ some k_ ≠ ((.slice Ao12 t727.length co12) : Value).ownBlock ∧ some k_ ≠ ((.slice Ao13 t730.length co13) : Value).ownBlock) (.slice Ao14 t735.length co14) t735) ∧ Zaa (w'.heap[gb722]? = some (.cells #[(.slice A0_0 l0_0.length c0_0), .int .i64 a0_1, (.slice A0_2 l0_2.length c0_2), (.slice A0_3 l0_3.length c0_3), .int .i64 a0_4, .int .i64 a0_5, (.slice A0_6 l0_6.length c0_6), .int .i64 a0_7, (.slice A0_8 l0_8.length c0_8), (.slice A0_9 l0_9.length c0_9)] 27 (0, 0))) ∧ Zaa (w'.heap[gb740]? = some (.cells #[.int .i64 t726, (.slice Ao12 t727.length co12), (.slice Ao13 t730.length co13), .int .i64 t733, .int .i64 t734, (.slice Ao14 t735.length co14), .int .i64 t738] 25 (0, 0))) ∧ Zaa (Below w.heap.size w w'))
 case atStart => exact ⟨(false), (0), (by first | rfl | (simp; done) | (simp [*]; done)), (by first | rfl | (simp; done) | (simp [*]; done)), H', ⟨Nat.le_refl _⟩, ⟨by (with_reducible repeat (first | apply Kd.Zbb | apply Kd.Zbc | apply Kd.Zbl)); exact HO725.out⟩, ⟨by (with_reducible repeat (first | apply Kd.Zbb | apply Kd.Zbc | apply Kd.Zbl)); exact Kd.Zcl HO744.out (fun _ hk => ⟨hk.2, ⟨hk.1.1.1.2, ⟨hk.1.1.2, hk.1.2⟩⟩⟩)⟩, ⟨by (with_reducible repeat (first | apply Kd.Zan | apply Kd.Zao | apply Kd.Zav)); exact Kd.Zbu HO748.out (fun _ hk => ⟨hk.1.2, hk.2⟩)⟩, ⟨by (with_reducible repeat (first | apply Kd.Zan | apply Kd.Zao | apply Kd.Zav)); exact Kd.Zbu HO729.out (fun _ hk => ⟨hk.2, hk.1⟩)⟩, ⟨by (with_reducible repeat (first | apply Kd.Zan | apply Kd.Zao | apply Kd.Zav)); exact Kd.Zbu HO732.out (fun _ hk => ⟨hk.2, hk.1⟩)⟩, ⟨by (with_reducible repeat (first | apply Kd.Zbb | apply Kd.Zbc | apply Kd.Zbl)); exact Kd.Zcl HO737.out (fun _ hk => ⟨hk.1.2, ⟨hk.2, ⟨hk.1.1.1, hk.1.1.2⟩⟩⟩)⟩, ⟨by (with_reducible repeat (first | refine Zaf ?_ _ | refine Zah ?_ | refine Zae ?_ _)); exact BK722.out⟩, ⟨by (with_reducible repeat (first | refine Zaf ?_ _ | refine Zah ?_ | refine Zae ?_ _)); exact BK740.out⟩, ⟨by repeat (first | (with_reducible first | exact HB.out | apply Zac | apply Za | apply Zab | refine Zag ?_ GE722.out | refine Zag ?_ GE740.out) | exact HB.out)⟩⟩
 case round =>
  clear H'
  try clear c1
  try clear c2
  try clear p2
  try clear c3
  try clear c7
  try clear c10
  try clear c14
  try clear hcz11_0
  try clear hcz11_1
  try clear hcz11_2
  try clear hcz11_3
  try clear hcz11_4
  try clear hcz11_5
  try clear hcz11_6
  try clear hcz17_0
  try clear hcz17_1
  try clear hcz17_2
  try clear hcz17_3
  try clear hcz17_4
  try clear hcz17_5
  try clear hcz17_6
  try clear hcz17_7
  try clear hcz17_8
  try clear hcz17_9
  try clear hcz7_0
  try clear hcz7_1
  try clear hcz7_2
  try clear hcz7_3
  try clear hcz7_4
  try clear hcz7_5
  try clear hcz7_6
  try clear hcz7_7
  try clear hcz7_8
  try clear hcz7_9
  try clear hfz11_0
  try clear hfz11_1
  try clear hfz11_2
  try clear hfz11_3
  try clear hfz11_4
  try clear hfz11_5
  try clear hfz11_6
  try clear hfz17_0
  try clear hfz17_1
  try clear hfz17_2
  try clear hfz17_3
  try clear hfz17_4
  try clear hfz17_5
  try clear hfz17_6
  try clear hfz17_7
  try clear hfz17_8
  try clear hfz17_9
  try clear hfz7_0
  try clear hfz7_1
  try clear hfz7_2
  try clear hfz7_3
  try clear hfz7_4
  try clear hfz7_5
  try clear hfz7_6
  try clear hfz7_7
  try clear hfz7_8
  try clear hfz7_9
  obtain ⟨x9_1, x10_1, rfl, rfl, HA, HK1, HO_3, HO_6, HO_7, HO_741001, HO_741002, HO_741005, BK722, BK740, HB⟩ := hrel
  cases gk with
  | zero => exact absurd HA.out (by simp [Zad.l0])
  | succ k1 =>
   have H := HA.out
   clear HA
   simp only [Zad.l0] at H
   by_cases c19 : x10_1 < (t742.length : Int)
   rotate_left
   ·rw [if_neg c19] at H
    have c19b0 : decide (x10_1 < (t742.length : Int)) = false := decide_eq_false c19
    clear c19
    by_cases c56 : (t742.length : Int) ≤ (t735.length : Int)
    rotate_left
    ·rw [if_neg c56] at H
     exact absurd H (by simp)
    rw [if_pos c56] at H
    have c56b0 : decide ((t742.length : Int) ≤ (t735.length : Int)) = true := decide_eq_true c56
    have c56b1 : decide (t742.length ≤ t735.length) = true := decide_eq_true (Int.ofNat_le.mp c56)
    clear c56
    by_cases c57 : t746 = true
    rotate_left
    ·replace c57 := Bool.eq_false_iff.mpr c57
     subst c57
     have H1 : ((Zbm.f k1).bind fun t751 => (some t751)) = some r := by rw [if_neg (show ¬ (false = true) by decide)] at H; exact H
     clear H
     have H := H1
     clear H1
     replace H := Option.bind_eq_some_iff.mp H
     obtain ⟨t751, A670, H⟩ := H
     replace H : (some t751) = some r := H
     have A67 := Zaa.mk A670
     clear A670
     obtain rfl := Option.some.inj H
     obtain ⟨Ao68, co68, eo68⟩ := Kd.Zdi HO_6.out
     subst eo68
     have hnb69 := NB740_722.out
     have hnc69 := NB722_740.out
     obtain ⟨hcz70_0, hcz70_1, hcz70_2, hcz70_3, hcz70_4, hcz70_5, hcz70_6, hfz70_0, hfz70_1, hfz70_2, hfz70_3, hfz70_4, hfz70_5, hfz70_6⟩ := Zcj BK740.out
     go_wp2_with (first | (go_at_call 15; (with_reducible refine (Zbm.calls k1  t751 _ A67.out).mono ?_); rintro e w71 ⟨rfl, hb⟩; have n0_ := Zaa.mk (Kd.Zce (by (with_reducible repeat (first | apply Kd.Zbb | apply Kd.Zbc | apply Kd.Zbl)); exact HO_3.out) hb); have n1_ := Zaa.mk (Kd.Zce (by (with_reducible repeat (first | apply Kd.Zbb | apply Kd.Zbc | apply Kd.Zbl)); exact HO_6.out) hb); have n2_ := Zaa.mk (Kd.Zca (by (with_reducible repeat (first | apply Kd.Zan | apply Kd.Zao | apply Kd.Zav)); exact HO_7.out) hb); have n3_ := Zaa.mk (Kd.Zca (by (with_reducible repeat (first | apply Kd.Zan | apply Kd.Zao | apply Kd.Zav)); exact HO_741001.out) hb); have n4_ := Zaa.mk (Kd.Zca (by (with_reducible repeat (first | apply Kd.Zan | apply Kd.Zao | apply Kd.Zav)); exact HO_741002.out) hb); have n5_ := Zaa.mk (Kd.Zce (by (with_reducible repeat (first | apply Kd.Zbb | apply Kd.Zbc | apply Kd.Zbl)); exact HO_741005.out) hb); have n6_ := Zaa.mk (Zbh (g := gb722) (o := .cells #[.slice A0_0 l0_0.length c0_0, .int .i64 a0_1, .slice A0_2 l0_2.length c0_2, .slice A0_3 l0_3.length c0_3, .int .i64 a0_4, .int .i64 a0_5, .slice A0_6 l0_6.length c0_6, .int .i64 a0_7, .slice A0_8 l0_8.length c0_8, .slice A0_9 l0_9.length c0_9] 27 (0, 0)) (by (with_reducible repeat (first | refine Zaf ?_ _ | refine Zah ?_ | refine Zae ?_ _)); exact BK722.out) hb); have n7_ := Zaa.mk (Zbh (g := gb740) (o := .cells #[.int .i64 t726, .slice Ao12 t727.length co12, .slice Ao13 t730.length co13, .int .i64 t733, .int .i64 t734, .slice Ao14 t735.length co14, .int .i64 t738] 25 (0, 0)) (by (with_reducible repeat (first | refine Zaf ?_ _ | refine Zah ?_ | refine Zae ?_ _)); exact BK740.out) hb); have n8_ := Zaa.mk (Za2 (by repeat (first | (with_reducible first | exact HB.out | apply Zac | apply Za | apply Zab | refine Zag ?_ GE722.out | refine Zag ?_ GE740.out) | exact HB.out)) hb); clear HO_3; clear HO_6; clear HO_7; clear HO_741001; clear HO_741002; clear HO_741005; clear BK722; clear BK740; clear HB; have HO_3 := n0_; have HO_6 := n1_; have HO_7 := n2_; have HO_741001 := n3_; have HO_741002 := n4_; have HO_741005 := n5_; have BK722 := n6_; have BK740 := n7_; have HB := n8_; clear n0_ n1_ n2_ n3_ n4_ n5_ n6_ n7_ n8_; (try clear hb); (try clear hb2); (try clear hk); (try clear hi)))
     go_ret
     exact ⟨by first | rfl | (simp [Za3, Za4] <;> rfl) | (simp [*, Za3, Za4] <;> rfl), by repeat (first | (with_reducible first | exact HB.out | apply Zac | apply Za | apply Zab | refine Zag ?_ GE722.out | refine Zag ?_ GE740.out) | exact HB.out)⟩
    subst c57
    have H1 : ((Zay.f k1 t726 t727 t730 t733 t734 t735 t738 t745).bind fun t749 => (if (x9_1 == t749) = true then ((Zbm.f k1).bind fun t750 => (some t750)) else (none))) = some r := by rw [if_pos rfl] at H; exact H
    clear H
    have H := H1
    clear H1
    replace H := Option.bind_eq_some_iff.mp H
    obtain ⟨t749, A580, H⟩ := H
    replace H : (if (x9_1 == t749) = true then ((Zbm.f k1).bind fun t750 => (some t750)) else (none)) = some r := H
    have A58 := Zaa.mk A580
    clear A580
    by_cases c59 : (x9_1 == t749) = true
    rotate_left
    ·rw [if_neg c59] at H
     exact absurd H (by simp)
    rw [if_pos c59] at H
    have c59b0 : (x9_1 == t749) = true := c59
    (try (have c59b1 : decide (x9_1 = t749) = true := by simpa using c59))
    (try (have c59b2 : (x9_1 == t749) = true := by simpa using c59))
    clear c59
    replace H := Option.bind_eq_some_iff.mp H
    obtain ⟨t750, A600, H⟩ := H
    replace H : (some t750) = some r := H
    have A60 := Zaa.mk A600
    clear A600
    obtain rfl := Option.some.inj H
    obtain ⟨Ao61, co61, eo61⟩ := Kd.Zdi HO_6.out
    subst eo61
    have hnb62 := NB740_722.out
    have hnc62 := NB722_740.out
    obtain ⟨hcz63_0, hcz63_1, hcz63_2, hcz63_3, hcz63_4, hcz63_5, hcz63_6, hfz63_0, hfz63_1, hfz63_2, hfz63_3, hfz63_4, hfz63_5, hfz63_6⟩ := Zcj BK740.out
    obtain ⟨Ao64, co64, eo64⟩ := Kd.Zc HO_7.out
    subst eo64
    go_wp2_with (first | (go_at_call 32; (with_reducible refine (Zay.calls k1 t726 _ _ t727 _ _ t730 t733 t734 _ _ t735 t738 _ _ t745 t749 _ ?side1 ?side2 ?side3 ?side4 ?side5 ?side6 ?side7 ?side8 A58.out).mono ?_); (case side1 => repeat (first | exact (Kd.Zbp HO_741001.out).2.2 | (with_reducible refine Kd.C_alloc ?_ _) | (with_reducible refine Kd.Za1 ?_ _) | (with_reducible refine Kd.Zbd ?_))); (case side2 => exact (Kd.Zbp HO_741001.out).2.1); (case side3 => repeat (first | exact (Kd.Zbp HO_741002.out).2.2 | (with_reducible refine Kd.C_alloc ?_ _) | (with_reducible refine Kd.Za1 ?_ _) | (with_reducible refine Kd.Zbd ?_))); (case side4 => exact (Kd.Zbp HO_741002.out).2.1); (case side5 => repeat (first | exact (Kd.Zcd HO_741005.out).2.2 | (with_reducible refine Kd.C_alloc ?_ _) | (with_reducible refine Kd.Za1 ?_ _) | (with_reducible refine Kd.Zbd ?_))); (case side6 => exact (Kd.Zcd HO_741005.out).2.1); (case side7 => repeat (first | exact (Kd.Zbp HO_7.out).2.2 | (with_reducible refine Kd.C_alloc ?_ _) | (with_reducible refine Kd.Za1 ?_ _) | (with_reducible refine Kd.Zbd ?_))); (case side8 => exact (Kd.Zbp HO_7.out).2.1); rintro e w65 ⟨rfl, hb⟩; have n0_ := Zaa.mk (Kd.Zce (by (with_reducible repeat (first | apply Kd.Zbb | apply Kd.Zbc | apply Kd.Zbl)); exact HO_3.out) hb); have n1_ := Zaa.mk (Kd.Zce (by (with_reducible repeat (first | apply Kd.Zbb | apply Kd.Zbc | apply Kd.Zbl)); exact HO_6.out) hb); have n2_ := Zaa.mk (Kd.Zca (by (with_reducible repeat (first | apply Kd.Zan | apply Kd.Zao | apply Kd.Zav)); exact HO_7.out) hb); have n3_ := Zaa.mk (Kd.Zca (by (with_reducible repeat (first | apply Kd.Zan | apply Kd.Zao | apply Kd.Zav)); exact HO_741001.out) hb); have n4_ := Zaa.mk (Kd.Zca (by (with_reducible repeat (first | apply Kd.Zan | apply Kd.Zao | apply Kd.Zav)); exact HO_741002.out) hb); have n5_ := Zaa.mk (Kd.Zce (by (with_reducible repeat (first | apply Kd.Zbb | apply Kd.Zbc | apply Kd.Zbl)); exact HO_741005.out) hb); have n6_ := Zaa.mk (Zbh (g := gb722) (o := .cells #[.slice A0_0 l0_0.length c0_0, .int .i64 a0_1, .slice A0_2 l0_2.length c0_2, .slice A0_3 l0_3.length c0_3, .int .i64 a0_4, .int .i64 a0_5, .slice A0_6 l0_6.length c0_6, .int .i64 a0_7, .slice A0_8 l0_8.length c0_8, .slice A0_9 l0_9.length c0_9] 27 (0, 0)) (by (with_reducible repeat (first | refine Zaf ?_ _ | refine Zah ?_ | refine Zae ?_ _)); exact BK722.out) hb); have n7_ := Zaa.mk (Zbh (g := gb740) (o := .cells #[.int .i64 t726, .slice Ao12 t727.length co12, .slice Ao13 t730.length co13, .int .i64 t733, .int .i64 t734, .slice Ao14 t735.length co14, .int .i64 t738] 25 (0, 0)) (by (with_reducible repeat (first | refine Zaf ?_ _ | refine Zah ?_ | refine Zae ?_ _)); exact BK740.out) hb); have n8_ := Zaa.mk (Za2 (by repeat (first | (with_reducible first | exact HB.out | apply Zac | apply Za | apply Zab | refine Zag ?_ GE722.out | refine Zag ?_ GE740.out) | exact HB.out)) hb); clear HO_3; clear HO_6; clear HO_7; clear HO_741001; clear HO_741002; clear HO_741005; clear BK722; clear BK740; clear HB; have HO_3 := n0_; have HO_6 := n1_; have HO_7 := n2_; have HO_741001 := n3_; have HO_741002 := n4_; have HO_741005 := n5_; have BK722 := n6_; have BK740 := n7_; have HB := n8_; clear n0_ n1_ n2_ n3_ n4_ n5_ n6_ n7_ n8_; (try clear hb); (try clear hb2); (try clear hk); (try clear hi)) | (go_at_call 15; (with_reducible refine (Zbm.calls k1  t750 _ A60.out).mono ?_); rintro e w66 ⟨rfl, hb⟩; have n0_ := Zaa.mk (Kd.Zce (by (with_reducible repeat (first | apply Kd.Zbb | apply Kd.Zbc | apply Kd.Zbl)); exact HO_3.out) hb); have n1_ := Zaa.mk (Kd.Zce (by (with_reducible repeat (first | apply Kd.Zbb | apply Kd.Zbc | apply Kd.Zbl)); exact HO_6.out) hb); have n2_ := Zaa.mk (Kd.Zca (by (with_reducible repeat (first | apply Kd.Zan | apply Kd.Zao | apply Kd.Zav)); exact HO_7.out) hb); have n3_ := Zaa.mk (Kd.Zca (by (with_reducible repeat (first | apply Kd.Zan | apply Kd.Zao | apply Kd.Zav)); exact HO_741001.out) hb); have n4_ := Zaa.mk (Kd.Zca (by (with_reducible repeat (first | apply Kd.Zan | apply Kd.Zao | apply Kd.Zav)); exact HO_741002.out) hb); have n5_ := Zaa.mk (Kd.Zce (by (with_reducible repeat (first | apply Kd.Zbb | apply Kd.Zbc | apply Kd.Zbl)); exact HO_741005.out) hb); have n6_ := Zaa.mk (Zbh (g := gb722) (o := .cells #[.slice A0_0 l0_0.length c0_0, .int .i64 a0_1, .slice A0_2 l0_2.length c0_2, .slice A0_3 l0_3.length c0_3, .int .i64 a0_4, .int .i64 a0_5, .slice A0_6 l0_6.length c0_6, .int .i64 a0_7, .slice A0_8 l0_8.length c0_8, .slice A0_9 l0_9.length c0_9] 27 (0, 0)) (by (with_reducible repeat (first | refine Zaf ?_ _ | refine Zah ?_ | refine Zae ?_ _)); exact BK722.out) hb); have n7_ := Zaa.mk (Zbh (g := gb740) (o := .cells #[.int .i64 t726, .slice Ao12 t727.length co12, .slice Ao13 t730.length co13, .int .i64 t733, .int .i64 t734, .slice Ao14 t735.length co14, .int .i64 t738] 25 (0, 0)) (by (with_reducible repeat (first | refine Zaf ?_ _ | refine Zah ?_ | refine Zae ?_ _)); exact BK740.out) hb); have n8_ := Zaa.mk (Za2 (by repeat (first | (with_reducible first | exact HB.out | apply Zac | apply Za | apply Zab | refine Zag ?_ GE722.out | refine Zag ?_ GE740.out) | exact HB.out)) hb); clear HO_3; clear HO_6; clear HO_7; clear HO_741001; clear HO_741002; clear HO_741005; clear BK722; clear BK740; clear HB; have HO_3 := n0_; have HO_6 := n1_; have HO_7 := n2_; have HO_741001 := n3_; have HO_741002 := n4_; have HO_741005 := n5_; have BK722 := n6_; have BK740 := n7_; have HB := n8_; clear n0_ n1_ n2_ n3_ n4_ n5_ n6_ n7_ n8_; (try clear hb); (try clear hb2); (try clear hk); (try clear hi)))
    go_ret
    exact ⟨by first | rfl | (simp [Za3, Za4] <;> rfl) | (simp [*, Za3, Za4] <;> rfl), by repeat (first | (with_reducible first | exact HB.out | apply Zac | apply Za | apply Zab | refine Zag ?_ GE722.out | refine Zag ?_ GE740.out) | exact HB.out)⟩
   rw [if_pos c19] at H
   have c19b0 : decide (x10_1 < (t742.length : Int)) = true := decide_eq_true c19
   clear c19
   by_cases c20 : 0 ≤ x10_1
   rotate_left
   ·rw [if_neg c20] at H
    exact absurd H (by simp)
   rw [if_pos c20] at H
   have c20b0 : decide (0 ≤ x10_1) = true := decide_eq_true c20
   clear c20
   by_cases c21 : ((Zbx t742 x10_1).length : Int) = (t727.length : Int)
   rotate_left
   ·rw [if_neg c21] at H
    exact absurd H (by simp)
   rw [if_pos c21] at H
   have c21b0 : (((Zbx t742 x10_1).length : Int) == (t727.length : Int)) = true := beq_iff_eq.mpr c21
   have c21b1 : (((Zbx t742 x10_1).length : Int) != (t727.length : Int)) = false := bne_eq_false_iff_eq.mpr c21
   have c21b2 : ((Zbx t742 x10_1).length == t727.length) = true := by first | simpa using c21 | (simp at c21 ⊢; omega)
   clear c21
   have H' := Zaa.mk H
   clear H
   obtain ⟨Ao22, co22, eo22⟩ := Kd.Zdi HO_6.out
   subst eo22
   try go_wp2
   have n0_ := Zaa.mk (Kd.Zbl HO_3.out)
   have n1_ := Zaa.mk (Kd.Zbl HO_6.out)
   have n2_ := Zaa.mk (Kd.Zav HO_7.out)
   have n3_ := Zaa.mk (Kd.Zav HO_741001.out)
   have n4_ := Zaa.mk (Kd.Zav HO_741002.out)
   have n5_ := Zaa.mk (Kd.Zbl HO_741005.out)
   have n6_ := Zaa.mk (Zah BK722.out)
   have n7_ := Zaa.mk (Zah BK740.out)
   have n8_ := Zaa.mk (Zab HB.out)
   clear HO_3
   clear HO_6
   clear HO_7
   clear HO_741001
   clear HO_741002
   clear HO_741005
   clear BK722
   clear BK740
   clear HB
   have HO_3 := n0_
   have HO_6 := n1_
   have HO_7 := n2_
   have HO_741001 := n3_
   have HO_741002 := n4_
   have HO_741005 := n5_
   have BK722 := n6_
   have BK740 := n7_
   have HB := n8_
   clear n0_ n1_ n2_ n3_ n4_ n5_ n6_ n7_ n8_
   have p752 : 0 ≤ (x10_1 : Int) := of_decide_eq_true (by first | (with_reducible assumption) | assumption)
   have q752 : x10_1 < (t742.length : Int) := of_decide_eq_true (by first | (with_reducible assumption) | assumption)
   obtain ⟨ad752, A752_0, c752_0, e752, hx752_0, hl752_0, hi752_0⟩ := Zdy (Kd.Zcd HO_6.out).2.2 x10_1 p752 q752
   cases e752
   obtain ⟨ce752, hce752, hMe752, hcc752⟩ := Kd.S_get HO_6.out [] x10_1 p752 (by first | exact q752 | exact of_decide_eq_true (by first | (with_reducible assumption) | assumption) | (have e_ := (Kd.Zcd HO_6.out).1; omega))
   obtain ⟨ve752_0, rfl, ge752_0⟩ := hMe752
   have hv752_0 := hcc752 0 _ rfl
   rw [Nat.add_zero, show ((Kd.slice 3 (Kd.int .i64))).sz = 1 from rfl, Nat.mul_one] at hv752_0
   replace hv752_0 := Option.some.inj (hv752_0.symm.trans hx752_0)
   rw [hv752_0] at ge752_0
   have HL752_0 := Zaa.mk (show Kd.R (Kd.int .i64) 3 _ _ _ _ (Zbx t742 x10_1) from ge752_0)
   clear hv752_0 ge752_0
   clear hcc752 hce752
   have HR752_0 := Zaa.mk hi752_0
   have HC752_0 := Zaa.mk hl752_0
   clear hi752_0 hl752_0
   replace p752 := eq_true p752
   replace q752 := eq_true q752
   refine Zdw (n := 9) (S := fun w' => w'.cell? ⟨gb740, 0, none⟩ = some (.int .i64 t726) ∧ w'.cell? ⟨gb740, 1, none⟩ = some (.slice Ao12 t727.length co12) ∧ w'.cell? ⟨gb740, 2, none⟩ = some (.slice Ao13 t730.length co13) ∧ w'.cell? ⟨gb740, 3, none⟩ = some (.int .i64 t733) ∧ w'.cell? ⟨gb740, 4, none⟩ = some (.int .i64 t734) ∧ w'.cell? ⟨gb740, 5, none⟩ = some (.slice Ao14 t735.length co14) ∧ w'.cell? ⟨gb740, 6, none⟩ = some (.int .i64 t738) ∧ w'.cell? (ad752.add (x10_1).toNat) = some (.slice A752_0 (Zbx t742 x10_1).length c752_0)) (ds := []) #[false, false, false, false, false, false, false, false, false] (by kernel_rfl) rfl rfl ⟨(Zax BK740.out 0).trans rfl, (Zax BK740.out 1).trans rfl, (Zax BK740.out 2).trans rfl, (Zax BK740.out 3).trans rfl, (Zax BK740.out 4).trans rfl, (Zax BK740.out 5).trans rfl, (Zax BK740.out 6).trans rfl, hx752_0⟩ (fun hHeld => ?_); refine Zcv Zad.tab10 Zad.bits10 (fun HT_ HW_ => ?_)
   generalize wr.drew = w23 at HO_3 HO_6 HO_7 HO_741001 HO_741002 HO_741005 BK722 BK740 HB HL752_0 HR752_0 hx752_0 hHeld ⊢
   refine Zbt (i := 0) (N := some 38) (v := ?_) (a' := ?_) #[true, false, false, false, false, false, false, false, false] rfl rfl (Zbe HT_.out (by kernel_rfl)) (fun _ _ _ h => h) (Or.inl ⟨by rfl, ?_⟩) ?_ ?_
   rotate_left
   ·intro w'
    go_simp
    with_reducible rfl
   rotate_left
   ·simp only [Act.put, List.setIfInBounds_toArray, List.set_cons_zero, List.set_cons_succ, Zbg, Zbj]
    rfl
   refine Zbt (i := 1) (N := some 39) (v := ?_) (a' := ?_) #[true, true, false, false, false, false, false, false, false] rfl rfl (Zbe HT_.out (by kernel_rfl)) (fun _ _ _ h => h) (Or.inl ⟨by rfl, ?_⟩) ?_ ?_
   rotate_left
   ·intro w'
    go_simp
    with_reducible rfl
   rotate_left
   ·simp only [Act.put, List.setIfInBounds_toArray, List.set_cons_zero, List.set_cons_succ, Zbg, Zbj]
    rfl
   refine Zbt (i := 2) (N := some 40) (v := ?_) (a' := ?_) #[true, true, true, false, false, false, false, false, false] rfl rfl (Zbe HT_.out (by kernel_rfl)) (fun _ _ _ h => h) (Or.inl ⟨by rfl, ?_⟩) ?_ ?_
   rotate_left
   ·intro w'
    go_simp
    with_reducible rfl
   rotate_left
   ·simp only [Act.put, List.setIfInBounds_toArray, List.set_cons_zero, List.set_cons_succ, Zbg, Zbj]
    rfl
   refine Zbt (i := 5) (N := some 43) (v := ?_) (a' := ?_) #[true, true, true, false, false, true, false, false, false] rfl rfl (Zbe HT_.out (by kernel_rfl)) (fun _ _ _ h => h) (Or.inl ⟨by rfl, ?_⟩) ?_ ?_
   rotate_left
   ·intro w'
    go_simp
    with_reducible rfl
   rotate_left
   ·simp only [Act.put, List.setIfInBounds_toArray, List.set_cons_zero, List.set_cons_succ, Zbg, Zbj]
    rfl
   refine Zc5 (i := 3) (N := some 41) (v := ?_) (a' := ?_) #[true, true, true, true, false, true, false, false, false] rfl rfl (Zcb HT_.out HW_.out (by kernel_rfl)) (fun _ _ _ h => h) (Or.inl ⟨by rfl, ?_⟩) hHeld ?_ ?_
   rotate_left
   ·rintro w' ⟨s0, s1, s2, s3, s4, s5, s6, s7⟩
    go_simp
    with_reducible rfl
   rotate_left
   ·simp only [Act.put, List.setIfInBounds_toArray, List.set_cons_zero, List.set_cons_succ, Zbg, Zbj]
    rfl
   refine Zbt (i := 4) (N := some 42) (v := ?_) (a' := ?_) #[true, true, true, true, true, true, false, false, false] rfl rfl (Zbe HT_.out (by kernel_rfl)) (fun _ _ _ h => h) (Or.inl ⟨by rfl, ?_⟩) ?_ ?_
   rotate_left
   ·intro w'
    go_simp
    with_reducible rfl
   rotate_left
   ·simp only [Act.put, List.setIfInBounds_toArray, List.set_cons_zero, List.set_cons_succ, Zbg, Zbj]
    rfl
   refine Zc5 (i := 6) (N := some 44) (v := ?_) (a' := ?_) #[true, true, true, true, true, true, true, false, false] rfl rfl (Zcb HT_.out HW_.out (by kernel_rfl)) (fun _ _ _ h => h) (Or.inl ⟨by rfl, ?_⟩) hHeld ?_ ?_
   rotate_left
   ·rintro w' ⟨s0, s1, s2, s3, s4, s5, s6, s7⟩
    go_simp
    with_reducible rfl
   rotate_left
   ·simp only [Act.put, List.setIfInBounds_toArray, List.set_cons_zero, List.set_cons_succ, Zbg, Zbj]
    rfl
   refine Zbt (i := 7) (N := some 45) (v := ?_) (a' := ?_) #[true, true, true, true, true, true, true, true, false] rfl rfl (Zbe HT_.out (by kernel_rfl)) (fun _ _ _ h => h) (Or.inl ⟨by rfl, ?_⟩) ?_ ?_
   rotate_left
   ·intro w'
    go_simp
    with_reducible rfl
   rotate_left
   ·simp only [Act.put, List.setIfInBounds_toArray, List.set_cons_zero, List.set_cons_succ, Zbg, Zbj]
    rfl
   refine Zbt (i := 8) (N := some 46) (v := ?_) (a' := ?_) #[true, true, true, true, true, true, true, true, true] rfl rfl (Zbe HT_.out (by kernel_rfl)) (fun _ _ _ h => h) (Or.inl ⟨by rfl, ?_⟩) ?_ ?_
   rotate_left
   ·intro w'
    go_simp
    with_reducible rfl
   rotate_left
   ·simp only [Act.put, List.setIfInBounds_toArray, List.set_cons_zero, List.set_cons_succ, Zbg, Zbj]
    rfl
   refine Zep (Zdf HT_.out (by kernel_rfl)) ?_
   try go_wp2
   go_loopg [11, 12] k1 (fun kq v11 v12 w' => ∃ (x11_2 : Bool) (x12_2 : Int), v11 = .bool x11_2 ∧ v12 = .int .i64 x12_2 ∧ Zaa (Zad.l1 kq t723 t742 t745 t746 x9_1 x10_1 x11_2 x12_2 t726 t727 t730 t733 t734 t735 t738 = some r) ∧ Zaa (kq ≤ k1) ∧ Zaa (Kd.S (Kd.slice 41 k41) 39 w' w.heap.size (fun _ => True) (.slice Ao15 t723.length co15) t723) ∧ Zaa (Kd.S (Kd.slice 3 (Kd.int .i64)) 23 w' w.heap.size (fun k_ => some k_ ≠ (v747 : Value).ownBlock ∧ some k_ ≠ ((.slice Ao12 t727.length co12) : Value).ownBlock ∧ some k_ ≠ ((.slice Ao13 t730.length co13) : Value).ownBlock ∧ some k_ ≠ ((.slice Ao14 t735.length co14) : Value).ownBlock) (.slice (some ad752) t742.length co22) t742) ∧ Zaa (Kd.R (Kd.int .i64) 3 w' w.heap.size (fun k_ => some k_ ≠ ((.slice Ao12 t727.length co12) : Value).ownBlock ∧ some k_ ≠ ((.slice Ao13 t730.length co13) : Value).ownBlock) v747 t745) ∧ Zaa (Kd.R (Kd.int .i64) 3 w' w.heap.size (fun k_ => some k_ ≠ (v747 : Value).ownBlock ∧ some k_ ≠ ((.slice Ao13 t730.length co13) : Value).ownBlock) (.slice Ao12 t727.length co12) t727) ∧ Zaa (Kd.R (Kd.int .i64) 3 w' w.heap.size (fun k_ => some k_ ≠ (v747 : Value).ownBlock ∧ some k_ ≠ ((.slice Ao12 t727.length co12) : Value).ownBlock) (.slice Ao13 t730.length co13) t730) ∧ Zaa (Kd.S (Kd.slice 3 (Kd.int .i64)) 23 w' w.heap.size (fun k_ => some k_ ≠ ((.slice (some ad752) t742.length co22) : Value).ownBlock ∧ some k_ ≠ (v747 : Value).ownBlock ∧ some k_ ≠ ((.slice Ao12 t727.length co12) : Value).ownBlock ∧ some k_ ≠ ((.slice Ao13 t730.length co13) : Value).ownBlock) (.slice Ao14 t735.length co14) t735) ∧ Zaa (w'.heap[gb722]? = some (.cells #[(.slice A0_0 l0_0.length c0_0), .int .i64 a0_1, (.slice A0_2 l0_2.length c0_2), (.slice A0_3 l0_3.length c0_3), .int .i64 a0_4, .int .i64 a0_5, (.slice A0_6 l0_6.length c0_6), .int .i64 a0_7, (.slice A0_8 l0_8.length c0_8), (.slice A0_9 l0_9.length c0_9)] 27 (0, 0))) ∧ Zaa (w'.heap[gb740]? = some (.cells #[.int .i64 t726, (.slice Ao12 t727.length co12), (.slice Ao13 t730.length co13), .int .i64 t733, .int .i64 t734, (.slice Ao14 t735.length co14), .int .i64 t738] 25 (0, 0))) ∧ Zaa (Kd.C (Kd.int .i64) w' A752_0 (Zbx t742 x10_1).length (Zbx t742 x10_1)) ∧ Zaa (Below w.heap.size w w'))
   case atStart => exact ⟨(t746), (0), (by first | rfl | (simp; done) | (simp [*]; done)), (by first | rfl | (simp; done) | (simp [*]; done)), H', ⟨Nat.le_refl _⟩, ⟨by (with_reducible repeat (first | apply Kd.Zbb | apply Kd.Zbc | apply Kd.Zbl)); exact HO_3.out⟩, ⟨by (with_reducible repeat (first | apply Kd.Zbb | apply Kd.Zbc | apply Kd.Zbl)); exact HO_6.out⟩, ⟨by (with_reducible repeat (first | apply Kd.Zan | apply Kd.Zao | apply Kd.Zav)); exact HO_7.out⟩, ⟨by (with_reducible repeat (first | apply Kd.Zan | apply Kd.Zao | apply Kd.Zav)); exact HO_741001.out⟩, ⟨by (with_reducible repeat (first | apply Kd.Zan | apply Kd.Zao | apply Kd.Zav)); exact HO_741002.out⟩, ⟨by (with_reducible repeat (first | apply Kd.Zbb | apply Kd.Zbc | apply Kd.Zbl)); exact HO_741005.out⟩, ⟨by (with_reducible repeat (first | refine Zaf ?_ _ | refine Zah ?_ | refine Zae ?_ _)); exact BK722.out⟩, ⟨by (with_reducible repeat (first | refine Zaf ?_ _ | refine Zah ?_ | refine Zae ?_ _)); exact BK740.out⟩, ⟨by repeat (first | (with_reducible exact HR752_0.out) | (with_reducible refine Kd.C_alloc ?_ _) | (with_reducible refine Kd.Za1 ?_ _) | (with_reducible refine Kd.Zbd ?_) | exact HR752_0.out)⟩, ⟨by repeat (first | (with_reducible first | exact HB.out | apply Zac | apply Za | apply Zab | refine Zag ?_ GE722.out | refine Zag ?_ GE740.out) | exact HB.out)⟩⟩
   case round =>
    clear H'
    try clear c1
    try clear c2
    try clear p2
    try clear c3
    try clear c7
    try clear p7
    try clear q7
    try clear hx7
    try clear c10
    try clear c14
    try clear c19
    try clear c19b0
    try clear c20
    try clear c20b0
    try clear c21
    try clear c21b0
    try clear c21b1
    try clear c21b2
    try clear hcz11_0
    try clear hcz11_1
    try clear hcz11_2
    try clear hcz11_3
    try clear hcz11_4
    try clear hcz11_5
    try clear hcz11_6
    try clear hcz17_0
    try clear hcz17_1
    try clear hcz17_2
    try clear hcz17_3
    try clear hcz17_4
    try clear hcz17_5
    try clear hcz17_6
    try clear hcz17_7
    try clear hcz17_8
    try clear hcz17_9
    try clear hcz7_0
    try clear hcz7_1
    try clear hcz7_2
    try clear hcz7_3
    try clear hcz7_4
    try clear hcz7_5
    try clear hcz7_6
    try clear hcz7_7
    try clear hcz7_8
    try clear hcz7_9
    try clear hfz11_0
    try clear hfz11_1
    try clear hfz11_2
    try clear hfz11_3
    try clear hfz11_4
    try clear hfz11_5
    try clear hfz11_6
    try clear hfz17_0
    try clear hfz17_1
    try clear hfz17_2
    try clear hfz17_3
    try clear hfz17_4
    try clear hfz17_5
    try clear hfz17_6
    try clear hfz17_7
    try clear hfz17_8
    try clear hfz17_9
    try clear hfz7_0
    try clear hfz7_1
    try clear hfz7_2
    try clear hfz7_3
    try clear hfz7_4
    try clear hfz7_5
    try clear hfz7_6
    try clear hfz7_7
    try clear hfz7_8
    try clear hfz7_9
    try clear hx752_0
    try clear p2
    try clear p752
    try clear q752
    obtain ⟨x11_2, x12_2, rfl, rfl, HA, HK2, HO_3, HO_6, HO_7, HO_741001, HO_741002, HO_741005, BK722, BK740, HR752_0, HB⟩ := hrel
    cases gk with
    | zero => exact absurd HA.out (by simp [Zad.l1])
    | succ k2 =>
     have H := HA.out
     clear HA
     simp only [Zad.l1] at H
     by_cases c24 : x12_2 < (t727.length : Int)
     rotate_left
     ·rw [if_neg c24] at H
      have c24b0 : decide (x12_2 < (t727.length : Int)) = false := decide_eq_false c24
      clear c24
      by_cases c51 : x9_1 = true
      ·subst c51
       have H1 : (Zad.l0 k2 t723 t742 t745 t746 true (wrap64 (x10_1 + 1)) t726 t727 t730 t733 t734 t735 t738) = some r := by rw [if_pos rfl] at H; exact H
       clear H
       have H := H1
       clear H1
       have H' := Zaa.mk H
       clear H
       have hnb52 := NB740_722.out
       have hnc52 := NB722_740.out
       obtain ⟨hcz53_0, hcz53_1, hcz53_2, hcz53_3, hcz53_4, hcz53_5, hcz53_6, hfz53_0, hfz53_1, hfz53_2, hfz53_3, hfz53_4, hfz53_5, hfz53_6⟩ := Zcj BK740.out
       go_wp2
       go_roundg k2
       case measure => have := HK1.out; have := HK2.out; omega
       case rel => exact ⟨(true), (wrap64 (x10_1 + 1)), (by first | rfl | (simp; done) | (simp [*]; done)), (by first | rfl | (simp; done) | (simp [*]; done)), H', ⟨by have := HK1.out; have := HK2.out; omega⟩, ⟨by (with_reducible repeat (first | apply Kd.Zbb | apply Kd.Zbc | apply Kd.Zbl)); exact HO_3.out⟩, ⟨by (with_reducible repeat (first | apply Kd.Zbb | apply Kd.Zbc | apply Kd.Zbl)); exact HO_6.out⟩, ⟨by (with_reducible repeat (first | apply Kd.Zan | apply Kd.Zao | apply Kd.Zav)); exact HO_7.out⟩, ⟨by (with_reducible repeat (first | apply Kd.Zan | apply Kd.Zao | apply Kd.Zav)); exact HO_741001.out⟩, ⟨by (with_reducible repeat (first | apply Kd.Zan | apply Kd.Zao | apply Kd.Zav)); exact HO_741002.out⟩, ⟨by (with_reducible repeat (first | apply Kd.Zbb | apply Kd.Zbc | apply Kd.Zbl)); exact HO_741005.out⟩, ⟨by (with_reducible repeat (first | refine Zaf ?_ _ | refine Zah ?_ | refine Zae ?_ _)); exact BK722.out⟩, ⟨by (with_reducible repeat (first | refine Zaf ?_ _ | refine Zah ?_ | refine Zae ?_ _)); exact BK740.out⟩, ⟨by repeat (first | (with_reducible first | exact HB.out | apply Zac | apply Za | apply Zab | refine Zag ?_ GE722.out | refine Zag ?_ GE740.out) | exact HB.out)⟩⟩
      replace c51 := Bool.eq_false_iff.mpr c51
      subst c51
      have H1 : (Zad.l0 k2 t723 t742 t745 t746 x11_2 (wrap64 (x10_1 + 1)) t726 t727 t730 t733 t734 t735 t738) = some r := by rw [if_neg (show ¬ (false = true) by decide)] at H; exact H
      clear H
      have H := H1
      clear H1
      have H' := Zaa.mk H
      clear H
      have hnb54 := NB740_722.out
      have hnc54 := NB722_740.out
      obtain ⟨hcz55_0, hcz55_1, hcz55_2, hcz55_3, hcz55_4, hcz55_5, hcz55_6, hfz55_0, hfz55_1, hfz55_2, hfz55_3, hfz55_4, hfz55_5, hfz55_6⟩ := Zcj BK740.out
      go_wp2
      go_roundg k2
      case measure => have := HK1.out; have := HK2.out; omega
      case rel => exact ⟨(x11_2), (wrap64 (x10_1 + 1)), (by first | rfl | (simp; done) | (simp [*]; done)), (by first | rfl | (simp; done) | (simp [*]; done)), H', ⟨by have := HK1.out; have := HK2.out; omega⟩, ⟨by (with_reducible repeat (first | apply Kd.Zbb | apply Kd.Zbc | apply Kd.Zbl)); exact HO_3.out⟩, ⟨by (with_reducible repeat (first | apply Kd.Zbb | apply Kd.Zbc | apply Kd.Zbl)); exact HO_6.out⟩, ⟨by (with_reducible repeat (first | apply Kd.Zan | apply Kd.Zao | apply Kd.Zav)); exact HO_7.out⟩, ⟨by (with_reducible repeat (first | apply Kd.Zan | apply Kd.Zao | apply Kd.Zav)); exact HO_741001.out⟩, ⟨by (with_reducible repeat (first | apply Kd.Zan | apply Kd.Zao | apply Kd.Zav)); exact HO_741002.out⟩, ⟨by (with_reducible repeat (first | apply Kd.Zbb | apply Kd.Zbc | apply Kd.Zbl)); exact HO_741005.out⟩, ⟨by (with_reducible repeat (first | refine Zaf ?_ _ | refine Zah ?_ | refine Zae ?_ _)); exact BK722.out⟩, ⟨by (with_reducible repeat (first | refine Zaf ?_ _ | refine Zah ?_ | refine Zae ?_ _)); exact BK740.out⟩, ⟨by repeat (first | (with_reducible first | exact HB.out | apply Zac | apply Za | apply Zab | refine Zag ?_ GE722.out | refine Zag ?_ GE740.out) | exact HB.out)⟩⟩
     rw [if_pos c24] at H
     have c24b0 : decide (x12_2 < (t727.length : Int)) = true := decide_eq_true c24
     clear c24
     have HC25 := Zaa.mk H
     clear H
     have hnb26 := NB740_722.out
     have hnc26 := NB722_740.out
     obtain ⟨hcz27_0, hcz27_1, hcz27_2, hcz27_3, hcz27_4, hcz27_5, hcz27_6, hfz27_0, hfz27_1, hfz27_2, hfz27_3, hfz27_4, hfz27_5, hfz27_6⟩ := Zcj BK740.out
     go_upto_region 16 with (fail)
     go_cut [11] (fun v11 wc => ∃ (kq : Nat) (x11_24 : Bool), v11 = .bool x11_24 ∧ Zaa (Zad.j2 kq t723 t742 t745 t746 x9_1 x10_1 x11_24 x12_2 t726 t727 t730 t733 t734 t735 t738 = some r) ∧ Zaa (kq ≤ k2) ∧ Zaa (Kd.S (Kd.slice 41 k41) 39 wc w.heap.size (fun _ => True) (.slice Ao15 t723.length co15) t723) ∧ Zaa (Kd.S (Kd.slice 3 (Kd.int .i64)) 23 wc w.heap.size (fun k_ => some k_ ≠ (v747 : Value).ownBlock ∧ some k_ ≠ ((.slice Ao12 t727.length co12) : Value).ownBlock ∧ some k_ ≠ ((.slice Ao13 t730.length co13) : Value).ownBlock ∧ some k_ ≠ ((.slice Ao14 t735.length co14) : Value).ownBlock) (.slice (some ad752) t742.length co22) t742) ∧ Zaa (Kd.R (Kd.int .i64) 3 wc w.heap.size (fun k_ => some k_ ≠ ((.slice Ao12 t727.length co12) : Value).ownBlock ∧ some k_ ≠ ((.slice Ao13 t730.length co13) : Value).ownBlock) v747 t745) ∧ Zaa (Kd.R (Kd.int .i64) 3 wc w.heap.size (fun k_ => some k_ ≠ (v747 : Value).ownBlock ∧ some k_ ≠ ((.slice Ao13 t730.length co13) : Value).ownBlock) (.slice Ao12 t727.length co12) t727) ∧ Zaa (Kd.R (Kd.int .i64) 3 wc w.heap.size (fun k_ => some k_ ≠ (v747 : Value).ownBlock ∧ some k_ ≠ ((.slice Ao12 t727.length co12) : Value).ownBlock) (.slice Ao13 t730.length co13) t730) ∧ Zaa (Kd.S (Kd.slice 3 (Kd.int .i64)) 23 wc w.heap.size (fun k_ => some k_ ≠ ((.slice (some ad752) t742.length co22) : Value).ownBlock ∧ some k_ ≠ (v747 : Value).ownBlock ∧ some k_ ≠ ((.slice Ao12 t727.length co12) : Value).ownBlock ∧ some k_ ≠ ((.slice Ao13 t730.length co13) : Value).ownBlock) (.slice Ao14 t735.length co14) t735) ∧ Zaa (wc.heap[gb722]? = some (.cells #[(.slice A0_0 l0_0.length c0_0), .int .i64 a0_1, (.slice A0_2 l0_2.length c0_2), (.slice A0_3 l0_3.length c0_3), .int .i64 a0_4, .int .i64 a0_5, (.slice A0_6 l0_6.length c0_6), .int .i64 a0_7, (.slice A0_8 l0_8.length c0_8), (.slice A0_9 l0_9.length c0_9)] 27 (0, 0))) ∧ Zaa (wc.heap[gb740]? = some (.cells #[.int .i64 t726, (.slice Ao12 t727.length co12), (.slice Ao13 t730.length co13), .int .i64 t733, .int .i64 t734, (.slice Ao14 t735.length co14), .int .i64 t738] 25 (0, 0))) ∧ Zaa (Kd.C (Kd.int .i64) wc A752_0 (Zbx t742 x10_1).length (Zbx t742 x10_1)) ∧ Zaa (Below w.heap.size w wc))
     case first =>
      have H := HC25.out
      clear HC25
      by_cases c28 : x11_2 = true
      rotate_left
      ·replace c28 := Bool.eq_false_iff.mpr c28
       subst c28
       have H1 : (Zad.j2 k2 t723 t742 t745 t746 x9_1 x10_1 false x12_2 t726 t727 t730 t733 t734 t735 t738) = some r := by rw [if_neg (show ¬ (false = true) by decide)] at H; exact H
       clear H
       have H := H1
       clear H1
       have H' := Zaa.mk H
       clear H
       try go_wp2
       have n0_ := Zaa.mk (Kd.Zbl HO_3.out)
       have n1_ := Zaa.mk (Kd.Zbl HO_6.out)
       have n2_ := Zaa.mk (Kd.Zav HO_7.out)
       have n3_ := Zaa.mk (Kd.Zav HO_741001.out)
       have n4_ := Zaa.mk (Kd.Zav HO_741002.out)
       have n5_ := Zaa.mk (Kd.Zbl HO_741005.out)
       have n6_ := Zaa.mk (Zah BK722.out)
       have n7_ := Zaa.mk (Zah BK740.out)
       have n8_ := Zaa.mk (Kd.Zbd HR752_0.out)
       have n9_ := Zaa.mk (Zab HB.out)
       clear HO_3
       clear HO_6
       clear HO_7
       clear HO_741001
       clear HO_741002
       clear HO_741005
       clear BK722
       clear BK740
       clear HR752_0
       clear HB
       have HO_3 := n0_
       have HO_6 := n1_
       have HO_7 := n2_
       have HO_741001 := n3_
       have HO_741002 := n4_
       have HO_741005 := n5_
       have BK722 := n6_
       have BK740 := n7_
       have HR752_0 := n8_
       have HB := n9_
       clear n0_ n1_ n2_ n3_ n4_ n5_ n6_ n7_ n8_ n9_
       refine Zdw (n := 20) (S := fun w' => True) (ds := []) #[false, false, false, false, false, false, false, false, false, false, false, false, false, false, false, false, false, false, false, false] (by kernel_rfl) rfl rfl trivial (fun hHeld => ?_); refine Zcv Zad.tab16 Zad.bits16 (fun HT_ HW_ => ?_)
       generalize wr.drew = w37 at HO_3 HO_6 HO_7 HO_741001 HO_741002 HO_741005 BK722 BK740 HR752_0 HB hHeld ⊢
       refine Zbt (i := 0) (N := some 55) (v := ?_) (a' := ?_) #[true, false, false, false, false, false, false, false, false, false, false, false, false, false, false, false, false, false, false, false] rfl rfl (Zbe HT_.out (by kernel_rfl)) (fun _ _ _ h => h) (Or.inl ⟨by rfl, ?_⟩) ?_ ?_
       rotate_left
       ·intro w'
        go_simp
        with_reducible rfl
       rotate_left
       ·simp only [Act.put, List.setIfInBounds_toArray, List.set_cons_zero, List.set_cons_succ, Zbg, Zbj]
        rfl
       refine Zbt (i := 1) (N := some 56) (v := ?_) (a' := ?_) #[true, true, false, false, false, false, false, false, false, false, false, false, false, false, false, false, false, false, false, false] rfl rfl (Zbe HT_.out (by kernel_rfl)) (fun _ _ _ h => h) (Or.inl ⟨by rfl, ?_⟩) ?_ ?_
       rotate_left
       ·intro w'
        go_simp
        with_reducible rfl
       rotate_left
       ·simp only [Act.put, List.setIfInBounds_toArray, List.set_cons_zero, List.set_cons_succ, Zbg, Zbj]
        rfl
       refine Zbt (i := 2) (N := some 57) (v := undef) (a' := ?_) #[true, true, true, false, false, false, false, false, false, false, false, false, false, false, false, false, false, false, false, false] rfl rfl (Zbe HT_.out (by kernel_rfl)) (fun _ _ _ h => h) (Or.inr ⟨by rfl, rfl⟩) ?_ ?_
       rotate_left
       ·simp only [Act.put, List.setIfInBounds_toArray, List.set_cons_zero, List.set_cons_succ, Zbg, Zbj]
        rfl
       refine Zbt (i := 3) (N := some 58) (v := undef) (a' := ?_) #[true, true, true, true, false, false, false, false, false, false, false, false, false, false, false, false, false, false, false, false] rfl rfl (Zbe HT_.out (by kernel_rfl)) (fun _ _ _ h => h) (Or.inr ⟨by rfl, rfl⟩) ?_ ?_
       rotate_left
       ·simp only [Act.put, List.setIfInBounds_toArray, List.set_cons_zero, List.set_cons_succ, Zbg, Zbj]
        rfl
       refine Zbt (i := 4) (N := some 59) (v := undef) (a' := ?_) #[true, true, true, true, true, false, false, false, false, false, false, false, false, false, false, false, false, false, false, false] rfl rfl (Zbe HT_.out (by kernel_rfl)) (fun _ _ _ h => h) (Or.inr ⟨by rfl, rfl⟩) ?_ ?_
       rotate_left
       ·simp only [Act.put, List.setIfInBounds_toArray, List.set_cons_zero, List.set_cons_succ, Zbg, Zbj]
        rfl
       refine Zbt (i := 5) (N := some 60) (v := undef) (a' := ?_) #[true, true, true, true, true, true, false, false, false, false, false, false, false, false, false, false, false, false, false, false] rfl rfl (Zbe HT_.out (by kernel_rfl)) (fun _ _ _ h => h) (Or.inr ⟨by rfl, rfl⟩) ?_ ?_
       rotate_left
       ·simp only [Act.put, List.setIfInBounds_toArray, List.set_cons_zero, List.set_cons_succ, Zbg, Zbj]
        rfl
       refine Zbt (i := 6) (N := some 61) (v := undef) (a' := ?_) #[true, true, true, true, true, true, true, false, false, false, false, false, false, false, false, false, false, false, false, false] rfl rfl (Zbe HT_.out (by kernel_rfl)) (fun _ _ _ h => h) (Or.inr ⟨by rfl, rfl⟩) ?_ ?_
       rotate_left
       ·simp only [Act.put, List.setIfInBounds_toArray, List.set_cons_zero, List.set_cons_succ, Zbg, Zbj]
        rfl
       refine Zbt (i := 7) (N := some 62) (v := undef) (a' := ?_) #[true, true, true, true, true, true, true, true, false, false, false, false, false, false, false, false, false, false, false, false] rfl rfl (Zbe HT_.out (by kernel_rfl)) (fun _ _ _ h => h) (Or.inr ⟨by rfl, rfl⟩) ?_ ?_
       rotate_left
       ·simp only [Act.put, List.setIfInBounds_toArray, List.set_cons_zero, List.set_cons_succ, Zbg, Zbj]
        rfl
       refine Zbt (i := 8) (N := some 63) (v := undef) (a' := ?_) #[true, true, true, true, true, true, true, true, true, false, false, false, false, false, false, false, false, false, false, false] rfl rfl (Zbe HT_.out (by kernel_rfl)) (fun _ _ _ h => h) (Or.inr ⟨by rfl, rfl⟩) ?_ ?_
       rotate_left
       ·simp only [Act.put, List.setIfInBounds_toArray, List.set_cons_zero, List.set_cons_succ, Zbg, Zbj]
        rfl
       refine Zbt (i := 9) (N := some 64) (v := undef) (a' := ?_) #[true, true, true, true, true, true, true, true, true, true, false, false, false, false, false, false, false, false, false, false] rfl rfl (Zbe HT_.out (by kernel_rfl)) (fun _ _ _ h => h) (Or.inr ⟨by rfl, rfl⟩) ?_ ?_
       rotate_left
       ·simp only [Act.put, List.setIfInBounds_toArray, List.set_cons_zero, List.set_cons_succ, Zbg, Zbj]
        rfl
       refine Zbt (i := 10) (N := some 65) (v := undef) (a' := ?_) #[true, true, true, true, true, true, true, true, true, true, true, false, false, false, false, false, false, false, false, false] rfl rfl (Zbe HT_.out (by kernel_rfl)) (fun _ _ _ h => h) (Or.inr ⟨by rfl, rfl⟩) ?_ ?_
       rotate_left
       ·simp only [Act.put, List.setIfInBounds_toArray, List.set_cons_zero, List.set_cons_succ, Zbg, Zbj]
        rfl
       refine Zbt (i := 11) (N := some 66) (v := undef) (a' := ?_) #[true, true, true, true, true, true, true, true, true, true, true, true, false, false, false, false, false, false, false, false] rfl rfl (Zbe HT_.out (by kernel_rfl)) (fun _ _ _ h => h) (Or.inr ⟨by rfl, rfl⟩) ?_ ?_
       rotate_left
       ·simp only [Act.put, List.setIfInBounds_toArray, List.set_cons_zero, List.set_cons_succ, Zbg, Zbj]
        rfl
       refine Zbt (i := 12) (N := some 67) (v := undef) (a' := ?_) #[true, true, true, true, true, true, true, true, true, true, true, true, true, false, false, false, false, false, false, false] rfl rfl (Zbe HT_.out (by kernel_rfl)) (fun _ _ _ h => h) (Or.inr ⟨by rfl, rfl⟩) ?_ ?_
       rotate_left
       ·simp only [Act.put, List.setIfInBounds_toArray, List.set_cons_zero, List.set_cons_succ, Zbg, Zbj]
        rfl
       refine Zbt (i := 13) (N := some 68) (v := undef) (a' := ?_) #[true, true, true, true, true, true, true, true, true, true, true, true, true, true, false, false, false, false, false, false] rfl rfl (Zbe HT_.out (by kernel_rfl)) (fun _ _ _ h => h) (Or.inr ⟨by rfl, rfl⟩) ?_ ?_
       rotate_left
       ·simp only [Act.put, List.setIfInBounds_toArray, List.set_cons_zero, List.set_cons_succ, Zbg, Zbj]
        rfl
       refine Zbt (i := 14) (N := some 69) (v := undef) (a' := ?_) #[true, true, true, true, true, true, true, true, true, true, true, true, true, true, true, false, false, false, false, false] rfl rfl (Zbe HT_.out (by kernel_rfl)) (fun _ _ _ h => h) (Or.inr ⟨by rfl, rfl⟩) ?_ ?_
       rotate_left
       ·simp only [Act.put, List.setIfInBounds_toArray, List.set_cons_zero, List.set_cons_succ, Zbg, Zbj]
        rfl
       refine Zbt (i := 15) (N := some 70) (v := undef) (a' := ?_) #[true, true, true, true, true, true, true, true, true, true, true, true, true, true, true, true, false, false, false, false] rfl rfl (Zbe HT_.out (by kernel_rfl)) (fun _ _ _ h => h) (Or.inr ⟨by rfl, rfl⟩) ?_ ?_
       rotate_left
       ·simp only [Act.put, List.setIfInBounds_toArray, List.set_cons_zero, List.set_cons_succ, Zbg, Zbj]
        rfl
       refine Zbt (i := 16) (N := some 71) (v := undef) (a' := ?_) #[true, true, true, true, true, true, true, true, true, true, true, true, true, true, true, true, true, false, false, false] rfl rfl (Zbe HT_.out (by kernel_rfl)) (fun _ _ _ h => h) (Or.inr ⟨by rfl, rfl⟩) ?_ ?_
       rotate_left
       ·simp only [Act.put, List.setIfInBounds_toArray, List.set_cons_zero, List.set_cons_succ, Zbg, Zbj]
        rfl
       refine Zbt (i := 17) (N := some 72) (v := undef) (a' := ?_) #[true, true, true, true, true, true, true, true, true, true, true, true, true, true, true, true, true, true, false, false] rfl rfl (Zbe HT_.out (by kernel_rfl)) (fun _ _ _ h => h) (Or.inr ⟨by rfl, rfl⟩) ?_ ?_
       rotate_left
       ·simp only [Act.put, List.setIfInBounds_toArray, List.set_cons_zero, List.set_cons_succ, Zbg, Zbj]
        rfl
       refine Zbt (i := 18) (N := some 73) (v := ?_) (a' := ?_) #[true, true, true, true, true, true, true, true, true, true, true, true, true, true, true, true, true, true, true, false] rfl rfl (Zbe HT_.out (by kernel_rfl)) (fun _ _ _ h => h) (Or.inl ⟨by rfl, ?_⟩) ?_ ?_
       rotate_left
       ·intro w'
        go_simp
        with_reducible rfl
       rotate_left
       ·simp only [Act.put, List.setIfInBounds_toArray, List.set_cons_zero, List.set_cons_succ, Zbg, Zbj]
        rfl
       refine Zbt (i := 19) (N := some 11) (v := ?_) (a' := ?_) #[true, true, true, true, true, true, true, true, true, true, true, true, true, true, true, true, true, true, true, true] rfl rfl (Zbe HT_.out (by kernel_rfl)) (fun _ _ _ h => h) (Or.inl ⟨by rfl, ?_⟩) ?_ ?_
       rotate_left
       ·intro w'
        go_simp
        with_reducible rfl
       rotate_left
       ·simp only [Act.put, List.setIfInBounds_toArray, List.set_cons_zero, List.set_cons_succ, Zbg, Zbj]
        rfl
       refine Zep (Zdf HT_.out (by kernel_rfl)) ?_
       try go_wp2
       go_meet
       case rel => exact ⟨_, (false), (by first | rfl | (simp; done) | (simp [*]; done)), H', ⟨by have := HK1.out; have := HK2.out; first | omega | exact Nat.le_refl _⟩, ⟨by (with_reducible repeat (first | apply Kd.Zbb | apply Kd.Zbc | apply Kd.Zbl)); exact HO_3.out⟩, ⟨by (with_reducible repeat (first | apply Kd.Zbb | apply Kd.Zbc | apply Kd.Zbl)); exact HO_6.out⟩, ⟨by (with_reducible repeat (first | apply Kd.Zan | apply Kd.Zao | apply Kd.Zav)); exact HO_7.out⟩, ⟨by (with_reducible repeat (first | apply Kd.Zan | apply Kd.Zao | apply Kd.Zav)); exact HO_741001.out⟩, ⟨by (with_reducible repeat (first | apply Kd.Zan | apply Kd.Zao | apply Kd.Zav)); exact HO_741002.out⟩, ⟨by (with_reducible repeat (first | apply Kd.Zbb | apply Kd.Zbc | apply Kd.Zbl)); exact HO_741005.out⟩, ⟨by (with_reducible repeat (first | refine Zaf ?_ _ | refine Zah ?_ | refine Zae ?_ _)); exact BK722.out⟩, ⟨by (with_reducible repeat (first | refine Zaf ?_ _ | refine Zah ?_ | refine Zae ?_ _)); exact BK740.out⟩, ⟨by repeat (first | (with_reducible exact HR752_0.out) | (with_reducible refine Kd.C_alloc ?_ _) | (with_reducible refine Kd.Za1 ?_ _) | (with_reducible refine Kd.Zbd ?_) | exact HR752_0.out)⟩, ⟨by repeat (first | (with_reducible first | exact HB.out | apply Zac | apply Za | apply Zab | refine Zag ?_ GE722.out | refine Zag ?_ GE740.out) | exact HB.out)⟩⟩
      subst c28
      have H1 : (if 0 ≤ x12_2 then (if 0 ≤ (rd t727 x12_2) then (if (rd t727 x12_2) < (t745.length : Int) then (if 0 ≤ x10_1 then (if x10_1 < (t742.length : Int) then (if x12_2 < ((Zbx t742 x10_1).length : Int) then (Zad.j2 k2 t723 t742 t745 t746 x9_1 x10_1 ((rd t745 (rd t727 x12_2)) == (rd (Zbx t742 x10_1) x12_2)) x12_2 t726 t727 t730 t733 t734 t735 t738) else (none)) else (none)) else (none)) else (none)) else (none)) else (none)) = some r := by rw [if_pos rfl] at H; exact H
      clear H
      have H := H1
      clear H1
      by_cases c29 : 0 ≤ x12_2
      rotate_left
      ·rw [if_neg c29] at H
       exact absurd H (by simp)
      rw [if_pos c29] at H
      have c29b0 : decide (0 ≤ x12_2) = true := decide_eq_true c29
      clear c29
      (first | rw [c29b0] | (simp only [Zbg, Zbj]; rw [c29b0]) | skip)
      by_cases c30 : 0 ≤ (rd t727 x12_2)
      rotate_left
      ·rw [if_neg c30] at H
       exact absurd H (by simp)
      rw [if_pos c30] at H
      have c30b0 : decide (0 ≤ (rd t727 x12_2)) = true := decide_eq_true c30
      clear c30
      by_cases c31 : (rd t727 x12_2) < (t745.length : Int)
      rotate_left
      ·rw [if_neg c31] at H
       exact absurd H (by simp)
      rw [if_pos c31] at H
      have c31b0 : decide ((rd t727 x12_2) < (t745.length : Int)) = true := decide_eq_true c31
      clear c31
      by_cases c32 : 0 ≤ x10_1
      rotate_left
      ·rw [if_neg c32] at H
       exact absurd H (by simp)
      rw [if_pos c32] at H
      have c32b0 : decide (0 ≤ x10_1) = true := decide_eq_true c32
      clear c32
      by_cases c33 : x10_1 < (t742.length : Int)
      rotate_left
      ·rw [if_neg c33] at H
       exact absurd H (by simp)
      rw [if_pos c33] at H
      have c33b0 : decide (x10_1 < (t742.length : Int)) = true := decide_eq_true c33
      clear c33
      by_cases c34 : x12_2 < ((Zbx t742 x10_1).length : Int)
      rotate_left
      ·rw [if_neg c34] at H
       exact absurd H (by simp)
      rw [if_pos c34] at H
      have c34b0 : decide (x12_2 < ((Zbx t742 x10_1).length : Int)) = true := decide_eq_true c34
      clear c34
      have H' := Zaa.mk H
      clear H
      try go_wp2
      have n0_ := Zaa.mk (Kd.Zbl HO_3.out)
      have n1_ := Zaa.mk (Kd.Zbl HO_6.out)
      have n2_ := Zaa.mk (Kd.Zav HO_7.out)
      have n3_ := Zaa.mk (Kd.Zav HO_741001.out)
      have n4_ := Zaa.mk (Kd.Zav HO_741002.out)
      have n5_ := Zaa.mk (Kd.Zbl HO_741005.out)
      have n6_ := Zaa.mk (Zah BK722.out)
      have n7_ := Zaa.mk (Zah BK740.out)
      have n8_ := Zaa.mk (Kd.Zbd HR752_0.out)
      have n9_ := Zaa.mk (Zab HB.out)
      clear HO_3
      clear HO_6
      clear HO_7
      clear HO_741001
      clear HO_741002
      clear HO_741005
      clear BK722
      clear BK740
      clear HR752_0
      clear HB
      have HO_3 := n0_
      have HO_6 := n1_
      have HO_7 := n2_
      have HO_741001 := n3_
      have HO_741002 := n4_
      have HO_741005 := n5_
      have BK722 := n6_
      have BK740 := n7_
      have HR752_0 := n8_
      have HB := n9_
      clear n0_ n1_ n2_ n3_ n4_ n5_ n6_ n7_ n8_ n9_
      have p753 : 0 ≤ (x12_2 : Int) := of_decide_eq_true (by first | (with_reducible assumption) | assumption)
      have q753 : x12_2 < (t727.length : Int) := of_decide_eq_true (by first | (with_reducible assumption) | assumption)
      obtain ⟨ad753, e753, hx753_0⟩ := Kd.Zb4 (Kd.Zbp HO_741001.out).2.2 x12_2 p753 q753
      cases e753
      replace p753 := eq_true p753
      replace q753 := eq_true q753
      obtain ⟨Ao36, co36, eo36⟩ := Kd.Zc HO_7.out
      (first | subst eo36 | (injection eo36 with f1_ f2_ f3_; have f4_ := f1_.symm; have f5_ := f3_.symm; clear f1_ f2_ f3_; subst f4_; subst f5_))
      have p754 : 0 ≤ ((rd t727 x12_2) : Int) := of_decide_eq_true (by first | (with_reducible assumption) | assumption)
      have q754 : (rd t727 x12_2) < (t745.length : Int) := of_decide_eq_true (by first | (with_reducible assumption) | assumption)
      obtain ⟨ad754, e754, hx754_0⟩ := Kd.Zb4 (Kd.Zbp HO_7.out).2.2 (rd t727 x12_2) p754 q754
      cases e754
      replace p754 := eq_true p754
      replace q754 := eq_true q754
      have p755 : 0 ≤ (x10_1 : Int) := of_decide_eq_true (by first | (with_reducible assumption) | assumption)
      have q755 : x10_1 < (t742.length : Int) := of_decide_eq_true (by first | (with_reducible assumption) | assumption)
      obtain ⟨ad755, A755_0, c755_0, e755, hx755_0, hl755_0, hi755_0⟩ := Zdy (Kd.Zcd HO_6.out).2.2 x10_1 p755 q755
      obtain rfl : ad752 = ad755 := (by injection e755)
      obtain ⟨ce755, hce755, hMe755, hcc755⟩ := Kd.S_get HO_6.out [] x10_1 p755 (by first | exact q755 | exact of_decide_eq_true (by first | (with_reducible assumption) | assumption) | (have e_ := (Kd.Zcd HO_6.out).1; omega))
      obtain ⟨ve755_0, rfl, ge755_0⟩ := hMe755
      have hv755_0 := hcc755 0 _ rfl
      rw [Nat.add_zero, show ((Kd.slice 3 (Kd.int .i64))).sz = 1 from rfl, Nat.mul_one] at hv755_0
      replace hv755_0 := Option.some.inj (hv755_0.symm.trans hx755_0)
      rw [hv755_0] at ge755_0
      have HL755_0 := Zaa.mk (show Kd.R (Kd.int .i64) 3 _ _ _ _ (Zbx t742 x10_1) from ge755_0)
      clear hv755_0 ge755_0
      clear hcc755 hce755
      have HR755_0 := Zaa.mk hi755_0
      have HC755_0 := Zaa.mk hl755_0
      clear hi755_0 hl755_0
      replace p755 := eq_true p755
      replace q755 := eq_true q755
      have p756 : 0 ≤ (x12_2 : Int) := of_decide_eq_true (by first | (with_reducible assumption) | assumption)
      have q756 : x12_2 < ((Zbx t742 x10_1).length : Int) := of_decide_eq_true (by first | (with_reducible assumption) | assumption)
      obtain ⟨ad756, e756, hx756_0⟩ := Kd.Zb4 (by repeat (first | (with_reducible exact HR755_0.out) | (with_reducible refine Kd.C_alloc ?_ _) | (with_reducible refine Kd.Za1 ?_ _) | (with_reducible refine Kd.Zbd ?_) | exact HR755_0.out)) x12_2 p756 q756
      cases e756
      replace p756 := eq_true p756
      replace q756 := eq_true q756
      refine Zdw (n := 20) (S := fun w' => w'.cell? ⟨gb740, 0, none⟩ = some (.int .i64 t726) ∧ w'.cell? ⟨gb740, 1, none⟩ = some (.slice (some ad753) t727.length co12) ∧ w'.cell? ⟨gb740, 2, none⟩ = some (.slice Ao13 t730.length co13) ∧ w'.cell? ⟨gb740, 3, none⟩ = some (.int .i64 t733) ∧ w'.cell? ⟨gb740, 4, none⟩ = some (.int .i64 t734) ∧ w'.cell? ⟨gb740, 5, none⟩ = some (.slice Ao14 t735.length co14) ∧ w'.cell? ⟨gb740, 6, none⟩ = some (.int .i64 t738) ∧ w'.cell? (ad753.add (x12_2).toNat) = some (.int .i64 (rd t727 x12_2)) ∧ w'.cell? (ad754.add ((rd t727 x12_2)).toNat) = some (.int .i64 (rd t745 (rd t727 x12_2))) ∧ w'.cell? (ad752.add (x10_1).toNat) = some (.slice (some ad756) (Zbx t742 x10_1).length c755_0) ∧ w'.cell? (ad756.add (x12_2).toNat) = some (.int .i64 (rd (Zbx t742 x10_1) x12_2))) (ds := []) #[false, false, false, false, false, false, false, false, false, false, false, false, false, false, false, false, false, false, false, false] (by kernel_rfl) rfl rfl ⟨(Zax BK740.out 0).trans rfl, (Zax BK740.out 1).trans rfl, (Zax BK740.out 2).trans rfl, (Zax BK740.out 3).trans rfl, (Zax BK740.out 4).trans rfl, (Zax BK740.out 5).trans rfl, (Zax BK740.out 6).trans rfl, hx753_0, hx754_0, hx755_0, hx756_0⟩ (fun hHeld => ?_); refine Zcv Zad.tab16 Zad.bits16 (fun HT_ HW_ => ?_)
      generalize wr.drew = w35 at HO_3 HO_6 HO_7 HO_741001 HO_741002 HO_741005 BK722 BK740 HR752_0 HB HL755_0 HR755_0 hx753_0 hx754_0 hx755_0 hx756_0 hHeld ⊢
      refine Zbt (i := 0) (N := some 55) (v := ?_) (a' := ?_) #[true, false, false, false, false, false, false, false, false, false, false, false, false, false, false, false, false, false, false, false] rfl rfl (Zbe HT_.out (by kernel_rfl)) (fun _ _ _ h => h) (Or.inl ⟨by rfl, ?_⟩) ?_ ?_
      rotate_left
      ·intro w'
       go_simp
       with_reducible rfl
      rotate_left
      ·simp only [Act.put, List.setIfInBounds_toArray, List.set_cons_zero, List.set_cons_succ, Zbg, Zbj]
       rfl
      refine Zbt (i := 1) (N := some 56) (v := ?_) (a' := ?_) #[true, true, false, false, false, false, false, false, false, false, false, false, false, false, false, false, false, false, false, false] rfl rfl (Zbe HT_.out (by kernel_rfl)) (fun _ _ _ h => h) (Or.inl ⟨by rfl, ?_⟩) ?_ ?_
      rotate_left
      ·intro w'
       go_simp
       with_reducible rfl
      rotate_left
      ·simp only [Act.put, List.setIfInBounds_toArray, List.set_cons_zero, List.set_cons_succ, Zbg, Zbj]
       rfl
      refine Zbt (i := 2) (N := some 57) (v := ?_) (a' := ?_) #[true, true, true, false, false, false, false, false, false, false, false, false, false, false, false, false, false, false, false, false] rfl rfl (Zbe HT_.out (by kernel_rfl)) (fun _ _ _ h => h) (Or.inl ⟨by rfl, ?_⟩) ?_ ?_
      rotate_left
      ·intro w'
       go_simp
       with_reducible rfl
      rotate_left
      ·simp only [Act.put, List.setIfInBounds_toArray, List.set_cons_zero, List.set_cons_succ, Zbg, Zbj]
       rfl
      refine Zbt (i := 3) (N := some 58) (v := ?_) (a' := ?_) #[true, true, true, true, false, false, false, false, false, false, false, false, false, false, false, false, false, false, false, false] rfl rfl (Zbe HT_.out (by kernel_rfl)) (fun _ _ _ h => h) (Or.inl ⟨by rfl, ?_⟩) ?_ ?_
      rotate_left
      ·intro w'
       go_simp
       with_reducible rfl
      rotate_left
      ·simp only [Act.put, List.setIfInBounds_toArray, List.set_cons_zero, List.set_cons_succ, Zbg, Zbj]
       rfl
      refine Zbt (i := 5) (N := some 60) (v := ?_) (a' := ?_) #[true, true, true, true, false, true, false, false, false, false, false, false, false, false, false, false, false, false, false, false] rfl rfl (Zbe HT_.out (by kernel_rfl)) (fun _ _ _ h => h) (Or.inl ⟨by rfl, ?_⟩) ?_ ?_
      rotate_left
      ·intro w'
       go_simp
       with_reducible rfl
      rotate_left
      ·simp only [Act.put, List.setIfInBounds_toArray, List.set_cons_zero, List.set_cons_succ, Zbg, Zbj]
       rfl
      refine Zbt (i := 10) (N := some 65) (v := ?_) (a' := ?_) #[true, true, true, true, false, true, false, false, false, false, true, false, false, false, false, false, false, false, false, false] rfl rfl (Zbe HT_.out (by kernel_rfl)) (fun _ _ _ h => h) (Or.inl ⟨by rfl, ?_⟩) ?_ ?_
      rotate_left
      ·intro w'
       go_simp
       with_reducible rfl
      rotate_left
      ·simp only [Act.put, List.setIfInBounds_toArray, List.set_cons_zero, List.set_cons_succ, Zbg, Zbj]
       rfl
      refine Zbt (i := 11) (N := some 66) (v := ?_) (a' := ?_) #[true, true, true, true, false, true, false, false, false, false, true, true, false, false, false, false, false, false, false, false] rfl rfl (Zbe HT_.out (by kernel_rfl)) (fun _ _ _ h => h) (Or.inl ⟨by rfl, ?_⟩) ?_ ?_
      rotate_left
      ·intro w'
       go_simp
       with_reducible rfl
      rotate_left
      ·simp only [Act.put, List.setIfInBounds_toArray, List.set_cons_zero, List.set_cons_succ, Zbg, Zbj]
       rfl
      refine Zbt (i := 12) (N := some 67) (v := ?_) (a' := ?_) #[true, true, true, true, false, true, false, false, false, false, true, true, true, false, false, false, false, false, false, false] rfl rfl (Zbe HT_.out (by kernel_rfl)) (fun _ _ _ h => h) (Or.inl ⟨by rfl, ?_⟩) ?_ ?_
      rotate_left
      ·intro w'
       go_simp
       with_reducible rfl
      rotate_left
      ·simp only [Act.put, List.setIfInBounds_toArray, List.set_cons_zero, List.set_cons_succ, Zbg, Zbj]
       rfl
      refine Zbt (i := 14) (N := some 69) (v := ?_) (a' := ?_) #[true, true, true, true, false, true, false, false, false, false, true, true, true, false, true, false, false, false, false, false] rfl rfl (Zbe HT_.out (by kernel_rfl)) (fun _ _ _ h => h) (Or.inl ⟨by rfl, ?_⟩) ?_ ?_
      rotate_left
      ·intro w'
       go_simp
       with_reducible rfl
      rotate_left
      ·simp only [Act.put, List.setIfInBounds_toArray, List.set_cons_zero, List.set_cons_succ, Zbg, Zbj]
       rfl
      refine Zc5 (i := 4) (N := some 59) (v := ?_) (a' := ?_) #[true, true, true, true, true, true, false, false, false, false, true, true, true, false, true, false, false, false, false, false] rfl rfl (Zcb HT_.out HW_.out (by kernel_rfl)) (fun _ _ _ h => h) (Or.inl ⟨by rfl, ?_⟩) hHeld ?_ ?_
      rotate_left
      ·rintro w' ⟨s0, s1, s2, s3, s4, s5, s6, s7, s8, s9, s10⟩
       go_simp
       with_reducible rfl
      rotate_left
      ·simp only [Act.put, List.setIfInBounds_toArray, List.set_cons_zero, List.set_cons_succ, Zbg, Zbj]
       rfl
      refine Zbt (i := 6) (N := some 61) (v := ?_) (a' := ?_) #[true, true, true, true, true, true, true, false, false, false, true, true, true, false, true, false, false, false, false, false] rfl rfl (Zbe HT_.out (by kernel_rfl)) (fun _ _ _ h => h) (Or.inl ⟨by rfl, ?_⟩) ?_ ?_
      rotate_left
      ·intro w'
       go_simp
       with_reducible rfl
      rotate_left
      ·simp only [Act.put, List.setIfInBounds_toArray, List.set_cons_zero, List.set_cons_succ, Zbg, Zbj]
       rfl
      refine Zc5 (i := 7) (N := some 62) (v := ?_) (a' := ?_) #[true, true, true, true, true, true, true, true, false, false, true, true, true, false, true, false, false, false, false, false] rfl rfl (Zcb HT_.out HW_.out (by kernel_rfl)) (fun _ _ _ h => h) (Or.inl ⟨by rfl, ?_⟩) hHeld ?_ ?_
      rotate_left
      ·rintro w' ⟨s0, s1, s2, s3, s4, s5, s6, s7, s8, s9, s10⟩
       go_simp
       with_reducible rfl
      rotate_left
      ·simp only [Act.put, List.setIfInBounds_toArray, List.set_cons_zero, List.set_cons_succ, Zbg, Zbj]
       rfl
      refine Zbt (i := 8) (N := some 63) (v := ?_) (a' := ?_) #[true, true, true, true, true, true, true, true, true, false, true, true, true, false, true, false, false, false, false, false] rfl rfl (Zbe HT_.out (by kernel_rfl)) (fun _ _ _ h => h) (Or.inl ⟨by rfl, ?_⟩) ?_ ?_
      rotate_left
      ·intro w'
       go_simp
       with_reducible rfl
      rotate_left
      ·simp only [Act.put, List.setIfInBounds_toArray, List.set_cons_zero, List.set_cons_succ, Zbg, Zbj]
       rfl
      refine Zc5 (i := 9) (N := some 64) (v := ?_) (a' := ?_) #[true, true, true, true, true, true, true, true, true, true, true, true, true, false, true, false, false, false, false, false] rfl rfl (Zcb HT_.out HW_.out (by kernel_rfl)) (fun _ _ _ h => h) (Or.inl ⟨by rfl, ?_⟩) hHeld ?_ ?_
      rotate_left
      ·rintro w' ⟨s0, s1, s2, s3, s4, s5, s6, s7, s8, s9, s10⟩
       go_simp
       with_reducible rfl
      rotate_left
      ·simp only [Act.put, List.setIfInBounds_toArray, List.set_cons_zero, List.set_cons_succ, Zbg, Zbj]
       rfl
      refine Zc5 (i := 13) (N := some 68) (v := ?_) (a' := ?_) #[true, true, true, true, true, true, true, true, true, true, true, true, true, true, true, false, false, false, false, false] rfl rfl (Zcb HT_.out HW_.out (by kernel_rfl)) (fun _ _ _ h => h) (Or.inl ⟨by rfl, ?_⟩) hHeld ?_ ?_
      rotate_left
      ·rintro w' ⟨s0, s1, s2, s3, s4, s5, s6, s7, s8, s9, s10⟩
       go_simp
       with_reducible rfl
      rotate_left
      ·simp only [Act.put, List.setIfInBounds_toArray, List.set_cons_zero, List.set_cons_succ, Zbg, Zbj]
       rfl
      refine Zbt (i := 15) (N := some 70) (v := ?_) (a' := ?_) #[true, true, true, true, true, true, true, true, true, true, true, true, true, true, true, true, false, false, false, false] rfl rfl (Zbe HT_.out (by kernel_rfl)) (fun _ _ _ h => h) (Or.inl ⟨by rfl, ?_⟩) ?_ ?_
      rotate_left
      ·intro w'
       go_simp
       with_reducible rfl
      rotate_left
      ·simp only [Act.put, List.setIfInBounds_toArray, List.set_cons_zero, List.set_cons_succ, Zbg, Zbj]
       rfl
      refine Zc5 (i := 16) (N := some 71) (v := ?_) (a' := ?_) #[true, true, true, true, true, true, true, true, true, true, true, true, true, true, true, true, true, false, false, false] rfl rfl (Zcb HT_.out HW_.out (by kernel_rfl)) (fun _ _ _ h => h) (Or.inl ⟨by rfl, ?_⟩) hHeld ?_ ?_
      rotate_left
      ·rintro w' ⟨s0, s1, s2, s3, s4, s5, s6, s7, s8, s9, s10⟩
       go_simp
       with_reducible rfl
      rotate_left
      ·simp only [Act.put, List.setIfInBounds_toArray, List.set_cons_zero, List.set_cons_succ, Zbg, Zbj]
       rfl
      refine Zbt (i := 17) (N := some 72) (v := ?_) (a' := ?_) #[true, true, true, true, true, true, true, true, true, true, true, true, true, true, true, true, true, true, false, false] rfl rfl (Zbe HT_.out (by kernel_rfl)) (fun _ _ _ h => h) (Or.inl ⟨by rfl, ?_⟩) ?_ ?_
      rotate_left
      ·intro w'
       go_simp
       with_reducible rfl
      rotate_left
      ·simp only [Act.put, List.setIfInBounds_toArray, List.set_cons_zero, List.set_cons_succ, Zbg, Zbj]
       rfl
      refine Zbt (i := 18) (N := some 73) (v := ?_) (a' := ?_) #[true, true, true, true, true, true, true, true, true, true, true, true, true, true, true, true, true, true, true, false] rfl rfl (Zbe HT_.out (by kernel_rfl)) (fun _ _ _ h => h) (Or.inl ⟨by rfl, ?_⟩) ?_ ?_
      rotate_left
      ·intro w'
       go_simp
       with_reducible rfl
      rotate_left
      ·simp only [Act.put, List.setIfInBounds_toArray, List.set_cons_zero, List.set_cons_succ, Zbg, Zbj]
       rfl
      refine Zbt (i := 19) (N := some 11) (v := ?_) (a' := ?_) #[true, true, true, true, true, true, true, true, true, true, true, true, true, true, true, true, true, true, true, true] rfl rfl (Zbe HT_.out (by kernel_rfl)) (fun _ _ _ h => h) (Or.inl ⟨by rfl, ?_⟩) ?_ ?_
      rotate_left
      ·intro w'
       go_simp
       with_reducible rfl
      rotate_left
      ·simp only [Act.put, List.setIfInBounds_toArray, List.set_cons_zero, List.set_cons_succ, Zbg, Zbj]
       rfl
      refine Zep (Zdf HT_.out (by kernel_rfl)) ?_
      try go_wp2
      go_meet
      case rel => exact ⟨_, (((rd t745 (rd t727 x12_2)) == (rd (Zbx t742 x10_1) x12_2))), (by first | rfl | (simp; done) | (simp [*]; done)), H', ⟨by have := HK1.out; have := HK2.out; first | omega | exact Nat.le_refl _⟩, ⟨by (with_reducible repeat (first | apply Kd.Zbb | apply Kd.Zbc | apply Kd.Zbl)); exact HO_3.out⟩, ⟨by (with_reducible repeat (first | apply Kd.Zbb | apply Kd.Zbc | apply Kd.Zbl)); exact HO_6.out⟩, ⟨by (with_reducible repeat (first | apply Kd.Zan | apply Kd.Zao | apply Kd.Zav)); exact HO_7.out⟩, ⟨by (with_reducible repeat (first | apply Kd.Zan | apply Kd.Zao | apply Kd.Zav)); exact HO_741001.out⟩, ⟨by (with_reducible repeat (first | apply Kd.Zan | apply Kd.Zao | apply Kd.Zav)); exact HO_741002.out⟩, ⟨by (with_reducible repeat (first | apply Kd.Zbb | apply Kd.Zbc | apply Kd.Zbl)); exact HO_741005.out⟩, ⟨by (with_reducible repeat (first | refine Zaf ?_ _ | refine Zah ?_ | refine Zae ?_ _)); exact BK722.out⟩, ⟨by (with_reducible repeat (first | refine Zaf ?_ _ | refine Zah ?_ | refine Zae ?_ _)); exact BK740.out⟩, ⟨by repeat (first | (with_reducible exact HR752_0.out) | (with_reducible refine Kd.C_alloc ?_ _) | (with_reducible refine Kd.Za1 ?_ _) | (with_reducible refine Kd.Zbd ?_) | exact HR752_0.out)⟩, ⟨by repeat (first | (with_reducible first | exact HB.out | apply Zac | apply Za | apply Zab | refine Zag ?_ GE722.out | refine Zag ?_ GE740.out) | exact HB.out)⟩⟩
     case rest =>
      clear HC25
      try clear c1
      try clear c2
      try clear p2
      try clear c3
      try clear c7
      try clear p7
      try clear q7
      try clear hx7
      try clear c10
      try clear c14
      try clear c19
      try clear c19b0
      try clear c20
      try clear c20b0
      try clear c21
      try clear c21b0
      try clear c21b1
      try clear c21b2
      try clear c24
      try clear c24b0
      try clear c26
      try clear c28
      try clear c29
      try clear c29b0
      try clear c30
      try clear c30b0
      try clear c31
      try clear c31b0
      try clear c32
      try clear c32b0
      try clear c33
      try clear c33b0
      try clear c34
      try clear c34b0
      try clear hcz11_0
      try clear hcz11_1
      try clear hcz11_2
      try clear hcz11_3
      try clear hcz11_4
      try clear hcz11_5
      try clear hcz11_6
      try clear hcz17_0
      try clear hcz17_1
      try clear hcz17_2
      try clear hcz17_3
      try clear hcz17_4
      try clear hcz17_5
      try clear hcz17_6
      try clear hcz17_7
      try clear hcz17_8
      try clear hcz17_9
      try clear hcz27_0
      try clear hcz27_1
      try clear hcz27_2
      try clear hcz27_3
      try clear hcz27_4
      try clear hcz27_5
      try clear hcz27_6
      try clear hcz7_0
      try clear hcz7_1
      try clear hcz7_2
      try clear hcz7_3
      try clear hcz7_4
      try clear hcz7_5
      try clear hcz7_6
      try clear hcz7_7
      try clear hcz7_8
      try clear hcz7_9
      try clear hfz11_0
      try clear hfz11_1
      try clear hfz11_2
      try clear hfz11_3
      try clear hfz11_4
      try clear hfz11_5
      try clear hfz11_6
      try clear hfz17_0
      try clear hfz17_1
      try clear hfz17_2
      try clear hfz17_3
      try clear hfz17_4
      try clear hfz17_5
      try clear hfz17_6
      try clear hfz17_7
      try clear hfz17_8
      try clear hfz17_9
      try clear hfz27_0
      try clear hfz27_1
      try clear hfz27_2
      try clear hfz27_3
      try clear hfz27_4
      try clear hfz27_5
      try clear hfz27_6
      try clear hfz7_0
      try clear hfz7_1
      try clear hfz7_2
      try clear hfz7_3
      try clear hfz7_4
      try clear hfz7_5
      try clear hfz7_6
      try clear hfz7_7
      try clear hfz7_8
      try clear hfz7_9
      try clear hx752_0
      try clear hx753_0
      try clear hx754_0
      try clear hx755_0
      try clear hx756_0
      try clear p2
      try clear p7
      try clear p752
      try clear p753
      try clear p754
      try clear p755
      try clear p756
      try clear q7
      try clear q752
      try clear q753
      try clear q754
      try clear q755
      try clear q756
      obtain ⟨kq, x11_24, rfl, HA, HJ24, HO_3, HO_6, HO_7, HO_741001, HO_741002, HO_741005, BK722, BK740, HR752_0, HB⟩ := hcut
      cases kq with
      | zero => exact absurd HA.out (by simp [Zad.j2])
      | succ kj24 =>
       have H := HA.out
       clear HA
       simp only [Zad.j2] at H
       by_cases c38 : 0 ≤ x12_2
       rotate_left
       ·rw [if_neg c38] at H
        exact absurd H (by simp)
       rw [if_pos c38] at H
       have c38b0 : decide (0 ≤ x12_2) = true := decide_eq_true c38
       clear c38
       by_cases c39 : x12_2 < (t727.length : Int)
       rotate_left
       ·rw [if_neg c39] at H
        exact absurd H (by simp)
       rw [if_pos c39] at H
       have c39b0 : decide (x12_2 < (t727.length : Int)) = true := decide_eq_true c39
       clear c39
       by_cases c40 : 0 ≤ (rd t727 x12_2)
       rotate_left
       ·rw [if_neg c40] at H
        exact absurd H (by simp)
       rw [if_pos c40] at H
       have c40b0 : decide (0 ≤ (rd t727 x12_2)) = true := decide_eq_true c40
       clear c40
       by_cases c41 : (rd t727 x12_2) < (t723.length : Int)
       rotate_left
       ·rw [if_neg c41] at H
        exact absurd H (by simp)
       rw [if_pos c41] at H
       have c41b0 : decide ((rd t727 x12_2) < (t723.length : Int)) = true := decide_eq_true c41
       clear c41
       replace H := Option.bind_eq_some_iff.mp H
       obtain ⟨t759, A420, H⟩ := H
       replace H : (if 0 ≤ x10_1 then (if x10_1 < (t742.length : Int) then (if x12_2 < ((Zbx t742 x10_1).length : Int) then ((Zaz.f kj24 t759 (rd (Zbx t742 x10_1) x12_2)).bind fun t764 => (if t764 = true then (Zad.l1 kj24 t723 t742 t745 t746 x9_1 x10_1 x11_24 (wrap64 (x12_2 + 1)) t726 t727 t730 t733 t734 t735 t738) else (none))) else (none)) else (none)) else (none)) = some r := H
       have A42 := Zaa.mk A420
       clear A420
       by_cases c43 : 0 ≤ x10_1
       rotate_left
       ·rw [if_neg c43] at H
        exact absurd H (by simp)
       rw [if_pos c43] at H
       have c43b0 : decide (0 ≤ x10_1) = true := decide_eq_true c43
       clear c43
       by_cases c44 : x10_1 < (t742.length : Int)
       rotate_left
       ·rw [if_neg c44] at H
        exact absurd H (by simp)
       rw [if_pos c44] at H
       have c44b0 : decide (x10_1 < (t742.length : Int)) = true := decide_eq_true c44
       clear c44
       by_cases c45 : x12_2 < ((Zbx t742 x10_1).length : Int)
       rotate_left
       ·rw [if_neg c45] at H
        exact absurd H (by simp)
       rw [if_pos c45] at H
       have c45b0 : decide (x12_2 < ((Zbx t742 x10_1).length : Int)) = true := decide_eq_true c45
       clear c45
       replace H := Option.bind_eq_some_iff.mp H
       obtain ⟨t764, A460, H⟩ := H
       replace H : (if t764 = true then (Zad.l1 kj24 t723 t742 t745 t746 x9_1 x10_1 x11_24 (wrap64 (x12_2 + 1)) t726 t727 t730 t733 t734 t735 t738) else (none)) = some r := H
       have A46 := Zaa.mk A460
       clear A460
       by_cases c47 : t764 = true
       rotate_left
       ·replace c47 := Bool.eq_false_iff.mpr c47
        subst c47
        have H1 : (none) = some r := by rw [if_neg (show ¬ (false = true) by decide)] at H; exact H
        clear H
        have H := H1
        clear H1
        exact absurd H (by simp)
       subst c47
       have H1 : (Zad.l1 kj24 t723 t742 t745 t746 x9_1 x10_1 x11_24 (wrap64 (x12_2 + 1)) t726 t727 t730 t733 t734 t735 t738) = some r := by rw [if_pos rfl] at H; exact H
       clear H
       have H := H1
       clear H1
       have H' := Zaa.mk H
       clear H
       try go_wp2
       have n0_ := Zaa.mk (Kd.Zbl HO_3.out)
       have n1_ := Zaa.mk (Kd.Zbl HO_6.out)
       have n2_ := Zaa.mk (Kd.Zav HO_7.out)
       have n3_ := Zaa.mk (Kd.Zav HO_741001.out)
       have n4_ := Zaa.mk (Kd.Zav HO_741002.out)
       have n5_ := Zaa.mk (Kd.Zbl HO_741005.out)
       have n6_ := Zaa.mk (Zah BK722.out)
       have n7_ := Zaa.mk (Zah BK740.out)
       have n8_ := Zaa.mk (Kd.Zbd HR752_0.out)
       have n9_ := Zaa.mk (Zab HB.out)
       clear HO_3
       clear HO_6
       clear HO_7
       clear HO_741001
       clear HO_741002
       clear HO_741005
       clear BK722
       clear BK740
       clear HR752_0
       clear HB
       have HO_3 := n0_
       have HO_6 := n1_
       have HO_7 := n2_
       have HO_741001 := n3_
       have HO_741002 := n4_
       have HO_741005 := n5_
       have BK722 := n6_
       have BK740 := n7_
       have HR752_0 := n8_
       have HB := n9_
       clear n0_ n1_ n2_ n3_ n4_ n5_ n6_ n7_ n8_ n9_
       have p757 : 0 ≤ (x12_2 : Int) := of_decide_eq_true (by first | (with_reducible assumption) | assumption)
       have q757 : x12_2 < (t727.length : Int) := of_decide_eq_true (by first | (with_reducible assumption) | assumption)
       obtain ⟨ad757, e757, hx757_0⟩ := Kd.Zb4 (Kd.Zbp HO_741001.out).2.2 x12_2 p757 q757
       cases e757
       replace p757 := eq_true p757
       replace q757 := eq_true q757
       have p758 : 0 ≤ ((rd t727 x12_2) : Int) := of_decide_eq_true (by first | (with_reducible assumption) | assumption)
       have q758 : (rd t727 x12_2) < (t723.length : Int) := of_decide_eq_true (by first | (with_reducible assumption) | assumption)
       obtain ⟨ad758, A758_0, c758_0, e758, hx758_0, hl758_0, hi758_0⟩ := Zfc (Kd.Zcd HO_3.out).2.2 (rd t727 x12_2) p758 q758
       cases e758
       obtain ⟨ce758, hce758, hMe758, hcc758⟩ := Kd.S_get HO_3.out [] (rd t727 x12_2) p758 (by first | exact q758 | exact of_decide_eq_true (by first | (with_reducible assumption) | assumption) | (have e_ := (Kd.Zcd HO_3.out).1; omega))
       obtain ⟨ve758_0, rfl, ge758_0⟩ := hMe758
       have hv758_0 := hcc758 0 _ rfl
       rw [Nat.add_zero, show ((Kd.slice 41 k41)).sz = 1 from rfl, Nat.mul_one] at hv758_0
       replace hv758_0 := Option.some.inj (hv758_0.symm.trans hx758_0)
       rw [hv758_0] at ge758_0
       have HL758_0 := Zaa.mk (show Kd.R k41 41 _ _ _ _ (Zcr t723 (rd t727 x12_2)) from ge758_0)
       clear hv758_0 ge758_0
       clear hcc758 hce758
       have HR758_0 := Zaa.mk hi758_0
       have HC758_0 := Zaa.mk hl758_0
       clear hi758_0 hl758_0
       replace p758 := eq_true p758
       replace q758 := eq_true q758
       have p762 : 0 ≤ (x10_1 : Int) := of_decide_eq_true (by first | (with_reducible assumption) | assumption)
       have q762 : x10_1 < (t742.length : Int) := of_decide_eq_true (by first | (with_reducible assumption) | assumption)
       obtain ⟨ad762, A762_0, c762_0, e762, hx762_0, hl762_0, hi762_0⟩ := Zdy (Kd.Zcd HO_6.out).2.2 x10_1 p762 q762
       obtain rfl : ad752 = ad762 := (by injection e762)
       obtain ⟨ce762, hce762, hMe762, hcc762⟩ := Kd.S_get HO_6.out [] x10_1 p762 (by first | exact q762 | exact of_decide_eq_true (by first | (with_reducible assumption) | assumption) | (have e_ := (Kd.Zcd HO_6.out).1; omega))
       obtain ⟨ve762_0, rfl, ge762_0⟩ := hMe762
       have hv762_0 := hcc762 0 _ rfl
       rw [Nat.add_zero, show ((Kd.slice 3 (Kd.int .i64))).sz = 1 from rfl, Nat.mul_one] at hv762_0
       replace hv762_0 := Option.some.inj (hv762_0.symm.trans hx762_0)
       rw [hv762_0] at ge762_0
       have HL762_0 := Zaa.mk (show Kd.R (Kd.int .i64) 3 _ _ _ _ (Zbx t742 x10_1) from ge762_0)
       clear hv762_0 ge762_0
       clear hcc762 hce762
       have HR762_0 := Zaa.mk hi762_0
       have HC762_0 := Zaa.mk hl762_0
       clear hi762_0 hl762_0
       replace p762 := eq_true p762
       replace q762 := eq_true q762
       have p763 : 0 ≤ (x12_2 : Int) := of_decide_eq_true (by first | (with_reducible assumption) | assumption)
       have q763 : x12_2 < ((Zbx t742 x10_1).length : Int) := of_decide_eq_true (by first | (with_reducible assumption) | assumption)
       obtain ⟨ad763, e763, hx763_0⟩ := Kd.Zb4 (by repeat (first | (with_reducible exact HR762_0.out) | (with_reducible refine Kd.C_alloc ?_ _) | (with_reducible refine Kd.Za1 ?_ _) | (with_reducible refine Kd.Zbd ?_) | exact HR762_0.out)) x12_2 p763 q763
       cases e763
       replace p763 := eq_true p763
       replace q763 := eq_true q763
       refine Zdw (n := 18) (S := fun w' => w'.cell? ⟨gb740, 0, none⟩ = some (.int .i64 t726) ∧ w'.cell? ⟨gb740, 1, none⟩ = some (.slice (some ad757) t727.length co12) ∧ w'.cell? ⟨gb740, 2, none⟩ = some (.slice Ao13 t730.length co13) ∧ w'.cell? ⟨gb740, 3, none⟩ = some (.int .i64 t733) ∧ w'.cell? ⟨gb740, 4, none⟩ = some (.int .i64 t734) ∧ w'.cell? ⟨gb740, 5, none⟩ = some (.slice Ao14 t735.length co14) ∧ w'.cell? ⟨gb740, 6, none⟩ = some (.int .i64 t738) ∧ w'.cell? (ad757.add (x12_2).toNat) = some (.int .i64 (rd t727 x12_2)) ∧ w'.cell? (ad758.add ((rd t727 x12_2)).toNat) = some (.slice A758_0 (Zcr t723 (rd t727 x12_2)).length c758_0) ∧ w'.cell? (ad752.add (x10_1).toNat) = some (.slice (some ad763) (Zbx t742 x10_1).length c762_0) ∧ w'.cell? (ad763.add (x12_2).toNat) = some (.int .i64 (rd (Zbx t742 x10_1) x12_2))) (ds := []) #[false, false, false, false, false, false, false, false, false, false, false, false, false, false, false, false, false, false] (by kernel_rfl) rfl rfl ⟨(Zax BK740.out 0).trans rfl, (Zax BK740.out 1).trans rfl, (Zax BK740.out 2).trans rfl, (Zax BK740.out 3).trans rfl, (Zax BK740.out 4).trans rfl, (Zax BK740.out 5).trans rfl, (Zax BK740.out 6).trans rfl, hx757_0, hx758_0, hx762_0, hx763_0⟩ (fun hHeld => ?_); refine Zcv Zad.tab17 Zad.bits17 (fun HT_ HW_ => ?_)
       generalize wc.drew = w48 at HO_3 HO_6 HO_7 HO_741001 HO_741002 HO_741005 BK722 BK740 HR752_0 HB HL758_0 HL762_0 HR758_0 HR762_0 hx757_0 hx758_0 hx762_0 hx763_0 hHeld ⊢
       refine Zbt (i := 0) (N := some 74) (v := ?_) (a' := ?_) #[true, false, false, false, false, false, false, false, false, false, false, false, false, false, false, false, false, false] rfl rfl (Zbe HT_.out (by kernel_rfl)) (fun _ _ _ h => h) (Or.inl ⟨by rfl, ?_⟩) ?_ ?_
       rotate_left
       ·intro w'
        go_simp
        with_reducible rfl
       rotate_left
       ·simp only [Act.put, List.setIfInBounds_toArray, List.set_cons_zero, List.set_cons_succ, Zbg, Zbj]
        rfl
       refine Zbt (i := 1) (N := some 75) (v := ?_) (a' := ?_) #[true, true, false, false, false, false, false, false, false, false, false, false, false, false, false, false, false, false] rfl rfl (Zbe HT_.out (by kernel_rfl)) (fun _ _ _ h => h) (Or.inl ⟨by rfl, ?_⟩) ?_ ?_
       rotate_left
       ·intro w'
        go_simp
        with_reducible rfl
       rotate_left
       ·simp only [Act.put, List.setIfInBounds_toArray, List.set_cons_zero, List.set_cons_succ, Zbg, Zbj]
        rfl
       refine Zbt (i := 3) (N := some 77) (v := ?_) (a' := ?_) #[true, true, false, true, false, false, false, false, false, false, false, false, false, false, false, false, false, false] rfl rfl (Zbe HT_.out (by kernel_rfl)) (fun _ _ _ h => h) (Or.inl ⟨by rfl, ?_⟩) ?_ ?_
       rotate_left
       ·intro w'
        go_simp
        with_reducible rfl
       rotate_left
       ·simp only [Act.put, List.setIfInBounds_toArray, List.set_cons_zero, List.set_cons_succ, Zbg, Zbj]
        rfl
       refine Zbt (i := 9) (N := some 83) (v := ?_) (a' := ?_) #[true, true, false, true, false, false, false, false, false, true, false, false, false, false, false, false, false, false] rfl rfl (Zbe HT_.out (by kernel_rfl)) (fun _ _ _ h => h) (Or.inl ⟨by rfl, ?_⟩) ?_ ?_
       rotate_left
       ·intro w'
        go_simp
        with_reducible rfl
       rotate_left
       ·simp only [Act.put, List.setIfInBounds_toArray, List.set_cons_zero, List.set_cons_succ, Zbg, Zbj]
        rfl
       refine Zbt (i := 10) (N := some 84) (v := ?_) (a' := ?_) #[true, true, false, true, false, false, false, false, false, true, true, false, false, false, false, false, false, false] rfl rfl (Zbe HT_.out (by kernel_rfl)) (fun _ _ _ h => h) (Or.inl ⟨by rfl, ?_⟩) ?_ ?_
       rotate_left
       ·intro w'
        go_simp
        with_reducible rfl
       rotate_left
       ·simp only [Act.put, List.setIfInBounds_toArray, List.set_cons_zero, List.set_cons_succ, Zbg, Zbj]
        rfl
       refine Zbt (i := 11) (N := some 85) (v := ?_) (a' := ?_) #[true, true, false, true, false, false, false, false, false, true, true, true, false, false, false, false, false, false] rfl rfl (Zbe HT_.out (by kernel_rfl)) (fun _ _ _ h => h) (Or.inl ⟨by rfl, ?_⟩) ?_ ?_
       rotate_left
       ·intro w'
        go_simp
        with_reducible rfl
       rotate_left
       ·simp only [Act.put, List.setIfInBounds_toArray, List.set_cons_zero, List.set_cons_succ, Zbg, Zbj]
        rfl
       refine Zbt (i := 13) (N := some 87) (v := ?_) (a' := ?_) #[true, true, false, true, false, false, false, false, false, true, true, true, false, true, false, false, false, false] rfl rfl (Zbe HT_.out (by kernel_rfl)) (fun _ _ _ h => h) (Or.inl ⟨by rfl, ?_⟩) ?_ ?_
       rotate_left
       ·intro w'
        go_simp
        with_reducible rfl
       rotate_left
       ·simp only [Act.put, List.setIfInBounds_toArray, List.set_cons_zero, List.set_cons_succ, Zbg, Zbj]
        rfl
       refine Zc5 (i := 2) (N := some 76) (v := ?_) (a' := ?_) #[true, true, true, true, false, false, false, false, false, true, true, true, false, true, false, false, false, false] rfl rfl (Zcb HT_.out HW_.out (by kernel_rfl)) (fun _ _ _ h => h) (Or.inl ⟨by rfl, ?_⟩) hHeld ?_ ?_
       rotate_left
       ·rintro w' ⟨s0, s1, s2, s3, s4, s5, s6, s7, s8, s9, s10⟩
        go_simp
        with_reducible rfl
       rotate_left
       ·simp only [Act.put, List.setIfInBounds_toArray, List.set_cons_zero, List.set_cons_succ, Zbg, Zbj]
        rfl
       refine Zbt (i := 4) (N := some 78) (v := ?_) (a' := ?_) #[true, true, true, true, true, false, false, false, false, true, true, true, false, true, false, false, false, false] rfl rfl (Zbe HT_.out (by kernel_rfl)) (fun _ _ _ h => h) (Or.inl ⟨by rfl, ?_⟩) ?_ ?_
       rotate_left
       ·intro w'
        go_simp
        with_reducible rfl
       rotate_left
       ·simp only [Act.put, List.setIfInBounds_toArray, List.set_cons_zero, List.set_cons_succ, Zbg, Zbj]
        rfl
       refine Zc5 (i := 5) (N := some 79) (v := ?_) (a' := ?_) #[true, true, true, true, true, true, false, false, false, true, true, true, false, true, false, false, false, false] rfl rfl (Zcb HT_.out HW_.out (by kernel_rfl)) (fun _ _ _ h => h) (Or.inl ⟨by rfl, ?_⟩) hHeld ?_ ?_
       rotate_left
       ·rintro w' ⟨s0, s1, s2, s3, s4, s5, s6, s7, s8, s9, s10⟩
        go_simp
        with_reducible rfl
       rotate_left
       ·simp only [Act.put, List.setIfInBounds_toArray, List.set_cons_zero, List.set_cons_succ, Zbg, Zbj]
        rfl
       refine Zbt (i := 6) (N := some 80) (v := ?_) (a' := ?_) #[true, true, true, true, true, true, true, false, false, true, true, true, false, true, false, false, false, false] rfl rfl (Zbe HT_.out (by kernel_rfl)) (fun _ _ _ h => h) (Or.inl ⟨by rfl, ?_⟩) ?_ ?_
       rotate_left
       ·intro w'
        go_simp
        with_reducible rfl
       rotate_left
       ·simp only [Act.put, List.setIfInBounds_toArray, List.set_cons_zero, List.set_cons_succ, Zbg, Zbj]
        rfl
       refine Zc5 (i := 7) (N := some 81) (v := ?_) (a' := ?_) #[true, true, true, true, true, true, true, true, false, true, true, true, false, true, false, false, false, false] rfl rfl (Zcb HT_.out HW_.out (by kernel_rfl)) (fun _ _ _ h => h) (Or.inl ⟨by rfl, ?_⟩) hHeld ?_ ?_
       rotate_left
       ·rintro w' ⟨s0, s1, s2, s3, s4, s5, s6, s7, s8, s9, s10⟩
        go_simp
        with_reducible rfl
       rotate_left
       ·simp only [Act.put, List.setIfInBounds_toArray, List.set_cons_zero, List.set_cons_succ, Zbg, Zbj]
        rfl
       refine Zc5 (i := 12) (N := some 86) (v := ?_) (a' := ?_) #[true, true, true, true, true, true, true, true, false, true, true, true, true, true, false, false, false, false] rfl rfl (Zcb HT_.out HW_.out (by kernel_rfl)) (fun _ _ _ h => h) (Or.inl ⟨by rfl, ?_⟩) hHeld ?_ ?_
       rotate_left
       ·rintro w' ⟨s0, s1, s2, s3, s4, s5, s6, s7, s8, s9, s10⟩
        go_simp
        with_reducible rfl
       rotate_left
       ·simp only [Act.put, List.setIfInBounds_toArray, List.set_cons_zero, List.set_cons_succ, Zbg, Zbj]
        rfl
       refine Zbt (i := 14) (N := some 88) (v := ?_) (a' := ?_) #[true, true, true, true, true, true, true, true, false, true, true, true, true, true, true, false, false, false] rfl rfl (Zbe HT_.out (by kernel_rfl)) (fun _ _ _ h => h) (Or.inl ⟨by rfl, ?_⟩) ?_ ?_
       rotate_left
       ·intro w'
        go_simp
        with_reducible rfl
       rotate_left
       ·simp only [Act.put, List.setIfInBounds_toArray, List.set_cons_zero, List.set_cons_succ, Zbg, Zbj]
        rfl
       refine Zc5 (i := 15) (N := some 89) (v := ?_) (a' := ?_) #[true, true, true, true, true, true, true, true, false, true, true, true, true, true, true, true, false, false] rfl rfl (Zcb HT_.out HW_.out (by kernel_rfl)) (fun _ _ _ h => h) (Or.inl ⟨by rfl, ?_⟩) hHeld ?_ ?_
       rotate_left
       ·rintro w' ⟨s0, s1, s2, s3, s4, s5, s6, s7, s8, s9, s10⟩
        go_simp
        with_reducible rfl
       rotate_left
       ·simp only [Act.put, List.setIfInBounds_toArray, List.set_cons_zero, List.set_cons_succ, Zbg, Zbj]
        rfl
       refine one_ (i := 8) (N := some 82) #[true, true, true, true, true, true, true, true, true, true, true, true, true, true, true, true, false, false] rfl rfl (Zdr HT_.out (by kernel_rfl)) (by decide) (fun K hK => ?_)
       refine goes_ Try.func29 (by kernel_rfl) rfl #[.slice A758_0 (Zcr t723 (rd t727 x12_2)).length c758_0] (by rfl) rfl rfl (by (try simp only [List.map_toArray, List.map_cons, List.map_nil]); first | done | rfl | (simp only [List.length_drop, List.length_take]; rfl)) ?_
       with_reducible refine (Zak.calls kj24 _ _ (Zcr t723 (rd t727 x12_2)) t759 _ ?side1 ?side2 A42.out).mono ?_
       (case side1 => repeat (first | exact (by repeat (first | (with_reducible exact HR758_0.out) | (with_reducible refine Kd.C_alloc ?_ _) | (with_reducible refine Kd.Za1 ?_ _) | (with_reducible refine Kd.Zbd ?_) | exact HR758_0.out)) | (with_reducible refine Kd.C_alloc ?_ _) | (with_reducible refine Kd.Za1 ?_ _) | (with_reducible refine Kd.Zbd ?_)))
       (case side2 => exact HC758_0.out)
       rintro e w49 ⟨v760, rfl, ho0, hb⟩
       have HS7_ := (hb.cell (World.block_lt_of_cell? _ _ (hHeld.2.2.2.2.2.2.2.1))).trans (hHeld.2.2.2.2.2.2.2.1)
       have HS8_ := (hb.cell (World.block_lt_of_cell? _ _ (hHeld.2.2.2.2.2.2.2.2.1))).trans (hHeld.2.2.2.2.2.2.2.2.1)
       have HS9_ := (hb.cell (World.block_lt_of_cell? _ _ (hHeld.2.2.2.2.2.2.2.2.2.1))).trans (hHeld.2.2.2.2.2.2.2.2.2.1)
       have HS10_ := (hb.cell (World.block_lt_of_cell? _ _ (hHeld.2.2.2.2.2.2.2.2.2.2))).trans (hHeld.2.2.2.2.2.2.2.2.2.2)
       refine ⟨_, rfl, ?_⟩
       have n0_ := Zaa.mk (Kd.Zce (by (with_reducible repeat (first | apply Kd.Zbb | apply Kd.Zbc | apply Kd.Zbl)); exact HO_3.out) hb)
       have n1_ := Zaa.mk (Kd.Zde (by (with_reducible repeat (first | apply Kd.Zbb | apply Kd.Zbc | apply Kd.Zbl)); exact HO_6.out) (Kd.Zcw ho0) hb)
       have n2_ := Zaa.mk (Kd.Zct (by (with_reducible repeat (first | apply Kd.Zan | apply Kd.Zao | apply Kd.Zav)); exact HO_7.out) (Kd.Zcw ho0) hb)
       have n3_ := Zaa.mk (Kd.Zct (by (with_reducible repeat (first | apply Kd.Zan | apply Kd.Zao | apply Kd.Zav)); exact HO_741001.out) (Kd.Zcw ho0) hb)
       have n4_ := Zaa.mk (Kd.Zct (by (with_reducible repeat (first | apply Kd.Zan | apply Kd.Zao | apply Kd.Zav)); exact HO_741002.out) (Kd.Zcw ho0) hb)
       have n5_ := Zaa.mk (Kd.Zde (by (with_reducible repeat (first | apply Kd.Zbb | apply Kd.Zbc | apply Kd.Zbl)); exact HO_741005.out) (Kd.Zcw ho0) hb)
       have n6_ := Zaa.mk (Kd.Zca (by (with_reducible repeat (first | apply Kd.Zan | apply Kd.Zao | apply Kd.Zav)); exact HL758_0.out) hb)
       have n7_ := Zaa.mk (Kd.Zct (by (with_reducible repeat (first | apply Kd.Zan | apply Kd.Zao | apply Kd.Zav)); exact HL762_0.out) (Kd.Zcw ho0) hb)
       have n8_ := Zaa.mk (Kd.Zb8 (Kd.Zdg (Kd.Zdg (Kd.Zdg (Kd.Zdg ho0 (Kd.R_lt (by (with_reducible repeat (first | apply Kd.Zan | apply Kd.Zao | apply Kd.Zav)); exact HO_7.out))) (Kd.R_lt (by (with_reducible repeat (first | apply Kd.Zan | apply Kd.Zao | apply Kd.Zav)); exact HO_741001.out))) (Kd.R_lt (by (with_reducible repeat (first | apply Kd.Zan | apply Kd.Zao | apply Kd.Zav)); exact HO_741002.out))) (Kd.R_lt (by (with_reducible repeat (first | apply Kd.Zan | apply Kd.Zao | apply Kd.Zav)); exact HL762_0.out))) (Zal (by repeat (first | (with_reducible first | exact HB.out | apply Zac | apply Za | apply Zab | refine Zag ?_ GE722.out | refine Zag ?_ GE740.out) | exact HB.out))))
       have n9_ := Zaa.mk (Zbh (g := gb722) (o := .cells #[.slice A0_0 l0_0.length c0_0, .int .i64 a0_1, .slice A0_2 l0_2.length c0_2, .slice A0_3 l0_3.length c0_3, .int .i64 a0_4, .int .i64 a0_5, .slice A0_6 l0_6.length c0_6, .int .i64 a0_7, .slice A0_8 l0_8.length c0_8, .slice A0_9 l0_9.length c0_9] 27 (0, 0)) (by (with_reducible repeat (first | refine Zaf ?_ _ | refine Zah ?_ | refine Zae ?_ _)); exact BK722.out) hb)
       have n10_ := Zaa.mk (Zbh (g := gb740) (o := .cells #[.int .i64 t726, .slice (some ad757) t727.length co12, .slice Ao13 t730.length co13, .int .i64 t733, .int .i64 t734, .slice Ao14 t735.length co14, .int .i64 t738] 25 (0, 0)) (by (with_reducible repeat (first | refine Zaf ?_ _ | refine Zah ?_ | refine Zae ?_ _)); exact BK740.out) hb)
       have n11_ := Zaa.mk (Kd.Zbk (by repeat (first | (with_reducible exact HR752_0.out) | (with_reducible refine Kd.C_alloc ?_ _) | (with_reducible refine Kd.Za1 ?_ _) | (with_reducible refine Kd.Zbd ?_) | exact HR752_0.out)) hb)
       have n12_ := Zaa.mk (Kd.Zbk (by repeat (first | (with_reducible exact HR758_0.out) | (with_reducible refine Kd.C_alloc ?_ _) | (with_reducible refine Kd.Za1 ?_ _) | (with_reducible refine Kd.Zbd ?_) | exact HR758_0.out)) hb)
       have n13_ := Zaa.mk (Kd.Zbk (by repeat (first | (with_reducible exact HR762_0.out) | (with_reducible refine Kd.C_alloc ?_ _) | (with_reducible refine Kd.Za1 ?_ _) | (with_reducible refine Kd.Zbd ?_) | exact HR762_0.out)) hb)
       have n14_ := Zaa.mk (Za2 (by repeat (first | (with_reducible first | exact HB.out | apply Zac | apply Za | apply Zab | refine Zag ?_ GE722.out | refine Zag ?_ GE740.out) | exact HB.out)) hb)
       clear HO_3
       clear HO_6
       clear HO_7
       clear HO_741001
       clear HO_741002
       clear HO_741005
       clear HL758_0
       clear HL762_0
       clear BK722
       clear BK740
       clear HR752_0
       clear HR758_0
       clear HR762_0
       clear HB
       have HO_3 := n0_
       have HO_6 := n1_
       have HO_7 := n2_
       have HO_741001 := n3_
       have HO_741002 := n4_
       have HO_741005 := n5_
       have HL758_0 := n6_
       have HL762_0 := n7_
       have HO761 := n8_
       have BK722 := n9_
       have BK740 := n10_
       have HR752_0 := n11_
       have HR758_0 := n12_
       have HR762_0 := n13_
       have HB := n14_
       clear n0_ n1_ n2_ n3_ n4_ n5_ n6_ n7_ n8_ n9_ n10_ n11_ n12_ n13_ n14_
       (try clear hb)
       (try clear hb2)
       (try clear hk)
       (try clear hi)
       (try clear ho0)
       obtain ⟨Ao50, co50, eo50⟩ := Kd.Zc HO761.out
       (first | subst eo50 | (injection eo50 with f1_ f2_ f3_; have f4_ := f1_.symm; have f5_ := f3_.symm; clear f1_ f2_ f3_; subst f4_; subst f5_))
       refine hK.out _ _ ⟨(Zax BK740.out 0).trans rfl, (Zax BK740.out 1).trans rfl, (Zax BK740.out 2).trans rfl, (Zax BK740.out 3).trans rfl, (Zax BK740.out 4).trans rfl, (Zax BK740.out 5).trans rfl, (Zax BK740.out 6).trans rfl, HS7_, HS8_, HS9_, HS10_⟩ (fun hHeld => ?_)
       clear hK K
       refine Ze3 (a' := ?_) ?_ ?_
       rotate_left
       ·show Act.put _ (some 82) _ = _
        simp only [Act.put, List.setIfInBounds_toArray, List.set_cons_zero, List.set_cons_succ, Zbg, Zbj]
        rfl
       refine one_ (i := 16) (N := some 90) #[true, true, true, true, true, true, true, true, true, true, true, true, true, true, true, true, true, false] rfl rfl (Zdr HT_.out (by kernel_rfl)) (by decide) (fun K hK => ?_)
       refine goes_ Try.func31 (by kernel_rfl) rfl #[.slice Ao50 t759.length co50, .int .i64 (rd (Zbx t742 x10_1) x12_2)] (by rfl) rfl rfl (by (try simp only [List.map_toArray, List.map_cons, List.map_nil]); first | done | rfl | (simp only [List.length_drop, List.length_take]; rfl)) ?_
       with_reducible refine (Zaz.calls kj24 _ _ t759 (rd (Zbx t742 x10_1) x12_2) true _ ?side1 ?side2 A46.out).mono ?_
       (case side1 => repeat (first | exact (Kd.Zbp HO761.out).2.2 | (with_reducible refine Kd.C_alloc ?_ _) | (with_reducible refine Kd.Za1 ?_ _) | (with_reducible refine Kd.Zbd ?_)))
       (case side2 => exact (Kd.Zbp HO761.out).2.1)
       rintro e w' ⟨rfl, ⟨nd, rfl⟩⟩
       refine ⟨_, rfl, ?_⟩
       refine hK.out _ _ ⟨(Zax BK740.out 0).trans rfl, (Zax BK740.out 1).trans rfl, (Zax BK740.out 2).trans rfl, (Zax BK740.out 3).trans rfl, (Zax BK740.out 4).trans rfl, (Zax BK740.out 5).trans rfl, (Zax BK740.out 6).trans rfl, hHeld.2.2.2.2.2.2.2.1, hHeld.2.2.2.2.2.2.2.2.1, hHeld.2.2.2.2.2.2.2.2.2.1, hHeld.2.2.2.2.2.2.2.2.2.2⟩ (fun hHeld => ?_)
       clear hK K
       refine Ze3 (a' := ?_) ?_ ?_
       rotate_left
       ·show Act.put _ (some 90) _ = _
        simp only [Act.put, List.setIfInBounds_toArray, List.set_cons_zero, List.set_cons_succ, Zbg, Zbj]
        rfl
       refine Zbt (i := 17) (N := some 91) (v := ?_) (a' := ?_) #[true, true, true, true, true, true, true, true, true, true, true, true, true, true, true, true, true, true] rfl rfl (Zbe HT_.out (by kernel_rfl)) (fun _ _ _ h => h) (Or.inl ⟨by rfl, ?_⟩) ?_ ?_
       rotate_left
       ·intro w'
        go_simp
        with_reducible rfl
       rotate_left
       ·simp only [Act.put, List.setIfInBounds_toArray, List.set_cons_zero, List.set_cons_succ, Zbg, Zbj]
        rfl
       refine Zep (Zdf HT_.out (by kernel_rfl)) ?_
       try go_wp2
       go_roundg kj24
       case measure => have := HK1.out; have := HK2.out; have := HJ24.out; omega
       case rel => exact ⟨(x11_24), (wrap64 (x12_2 + 1)), (by first | rfl | (simp; done) | (simp [*]; done)), (by first | rfl | (simp; done) | (simp [*]; done)), H', ⟨by have := HK1.out; have := HK2.out; have := HJ24.out; omega⟩, ⟨by (with_reducible repeat (first | apply Kd.Zbb | apply Kd.Zbc | apply Kd.Zbl)); exact HO_3.out⟩, ⟨by (with_reducible repeat (first | apply Kd.Zbb | apply Kd.Zbc | apply Kd.Zbl)); exact Kd.Zcl HO_6.out (fun _ hk => ⟨hk.1.1, ⟨hk.1.2.1, ⟨hk.1.2.2.1, hk.1.2.2.2⟩⟩⟩)⟩, ⟨by (with_reducible repeat (first | apply Kd.Zan | apply Kd.Zao | apply Kd.Zav)); exact Kd.Zbu HO_7.out (fun _ hk => ⟨hk.1.1, hk.1.2⟩)⟩, ⟨by (with_reducible repeat (first | apply Kd.Zan | apply Kd.Zao | apply Kd.Zav)); exact Kd.Zbu HO_741001.out (fun _ hk => ⟨hk.1.1, hk.1.2⟩)⟩, ⟨by (with_reducible repeat (first | apply Kd.Zan | apply Kd.Zao | apply Kd.Zav)); exact Kd.Zbu HO_741002.out (fun _ hk => ⟨hk.1.1, hk.1.2⟩)⟩, ⟨by (with_reducible repeat (first | apply Kd.Zbb | apply Kd.Zbc | apply Kd.Zbl)); exact Kd.Zcl HO_741005.out (fun _ hk => ⟨hk.1.1, ⟨hk.1.2.1, ⟨hk.1.2.2.1, hk.1.2.2.2⟩⟩⟩)⟩, ⟨by (with_reducible repeat (first | refine Zaf ?_ _ | refine Zah ?_ | refine Zae ?_ _)); exact BK722.out⟩, ⟨by (with_reducible repeat (first | refine Zaf ?_ _ | refine Zah ?_ | refine Zae ?_ _)); exact BK740.out⟩, ⟨by repeat (first | (with_reducible exact HR752_0.out) | (with_reducible refine Kd.C_alloc ?_ _) | (with_reducible refine Kd.Za1 ?_ _) | (with_reducible refine Kd.Zbd ?_) | exact HR752_0.out)⟩, ⟨by repeat (first | (with_reducible first | exact HB.out | apply Zac | apply Za | apply Zab | refine Zag ?_ GE722.out | refine Zag ?_ GE740.out) | exact HB.out)⟩⟩
end Go.Proofs.Ytpbcigilipdedaa.P
/- TableRows: each row that may be holds, and is one of the table's; each one that holds, of values of the domains, may be. -/
namespace Go.Proofs.Ytpbcigilipdedaa.P
open Go.RowKit Go.Proofs.YtpbcigilipdedaaW.PrintWords Go.Proofs.YtpbcigilipdedaaW.PrintLast Go.Proofs.YtpbcigilipdedaaW.PrintMore
set_option linter.unusedVariables false
set_option linter.unusedSimpArgs false

/-! ### What a laid constraint gives -/
theorem isVal_of_all {r : List Int} (h : r.all isVal = true) : ∀ x ∈ r, isVal x = true := fun x hx => List.all_eq_true.1 h x hx
structure TabOK (n : Nat) (vars coefs : List Int) (op rhs : Int) (rows : List (List Int)) (b : Int) : Prop where
  mem : ∀ v ∈ vars, 0 ≤ v ∧ v < (n : Int)
  nodup : vars.Nodup
  some : vars ≠ []
  coefs : coefs = []
  op : op = 0
  rhs : rhs = 0
  b : b = 0
  row : ∀ r ∈ rows, r.length = vars.length ∧ ∀ x ∈ r, isVal x = true
theorem ConOK.tab {n : Nat} {vars coefs : List Int} {op rhs : Int} {rows : List (List Int)} {b : Int} (h : ConOK 2 n vars coefs op rhs rows b) : TabOK n vars coefs op rhs rows b := by
  have hB := h.right
  unfold rightB plainB manyB rowsOK at hB
  simp only [Bool.and_eq_true, decide_eq_true_iff, if_pos, List.all_eq_true] at hB
  obtain ⟨⟨⟨⟨⟨h1, h2⟩, h3⟩, h4⟩, h5, h6⟩, h7, h8⟩ := hB
  exact ⟨h.mem, h6, h5, h4, h1, h2, h3, fun r hr => ⟨(h7 r hr).1, (h7 r hr).2⟩⟩
theorem Zfs {l : List Int} {n : Nat} (h : l.Nodup) (hm : ∀ v ∈ l, 0 ≤ v ∧ v < (n : Int)) : l.length ≤ n := by
  have h1 := ss_length (Zf0 l) (a := 0) (b := (n : Int) - 1) (fun x hx => by have := hm x ((Zeb x l).1 hx); omega)
  have h2 : (sd l).length = l.length := by
    have : ∀ l : List Int, l.Nodup → (sd l).length = l.length := by
      intro l
      induction l with
      | nil => intro _; rfl
      | cons x l ih =>
        intro h
        obtain ⟨hx, hl⟩ := List.nodup_cons.1 h
        have hins : ∀ (m : List Int), x ∉ m → (insU x m).length = m.length + 1 := by
          intro m
          induction m with
          | nil => intro _; rfl
          | cons y m ihm =>
            intro hxm
            rw [List.mem_cons, not_or] at hxm
            unfold insU
            split
            · rfl
            rw [if_neg hxm.1, List.length_cons, ihm hxm.2]; rfl
        rw [sd, hins _ (fun e => hx ((Zeb x l).1 e)), ih hl]
        rfl
    exact this l h
  omega
section
variable {d : List (List Rg)} {a : List Int} {sm : Bool} {vars : List Int} {op rhs : Int} {rows : List (List Int)} {b : Int}
  (hd : Doms d) (hT : TabOK d.length vars [] op rhs rows b) (ha : sm = true → Picked d a) (hrl : rows.length ≤ 20)
include hd hT ha hrl
theorem rows_law_l0 : ∀ (m n : Nat), n + m = (rows.filter (rowIn d vars)).length →
    Ev (fun k => Zad.l0 k d (rows.filter (rowIn d vars)) a sm (sm && decide (vars.map (at0 a) ∈ (rows.filter (rowIn d vars)).take n)) (n : Int) 2 vars [] op rhs rows b) true := by
  have hvl := Zfs hT.nodup hT.mem
  have h64 := hd.1
  have hKl : (rows.filter (rowIn d vars)).length ≤ rows.length := List.length_filter_le _ _
  have hKm : ∀ r ∈ rows.filter (rowIn d vars), r ∈ rows ∧ rowIn d vars r = true := fun r hr => List.mem_filter.1 hr
  have hlast : sm = true → (vars.map (at0 a) ∈ rows ↔ vars.map (at0 a) ∈ rows.filter (rowIn d vars)) := fun hs => by
    obtain ⟨h1, h2⟩ := ha hs
    rw [List.mem_filter]
    refine ⟨fun h => ⟨h, ?_⟩, fun h => h.1⟩
    unfold rowIn
    rw [List.all_eq_true]
    intro p hp
    obtain ⟨i, hi, rfl⟩ := List.mem_iff_getElem.1 hp
    have hiv : i < vars.length := by simp at hi; exact hi
    obtain ⟨m1, m2⟩ := hT.mem _ (List.getElem_mem hiv)
    rw [decide_eq_true_iff, List.getElem_zip]
    obtain ⟨v, hv⟩ := Int.eq_ofNat_of_zero_le m1
    have hv2 : v < d.length := by omega
    have hva : v < a.length := by omega
    have := h2 v hva hv2
    simp only [List.getElem_map, at0, hv]
    rw [if_neg (by omega), Zck a v hva]
    unfold dv
    rw [Int.toNat_natCast, List.getD_eq_getElem?_getD, List.getElem?_eq_getElem hv2]
    exact this
  intro m
  induction m with
  | zero =>
    intro n h
    rw [List.take_of_length_le (by omega)]
    refine Ev.step (fun k => by rw [Zad.l0, if_neg (by omega), if_pos (by omega)]) ?_
    cases sm with
    | false =>
      simp only [Bool.false_eq_true, if_false]
      exact Ev.bind (Ev.pure true) (Ev.pure true)
    | true =>
      simp only [if_true, Bool.true_and]
      refine Ev.bind (holdsT_ev vars op rhs rows b a (by omega) (by omega) (fun x hx => by have := (hT.row x hx).1; omega)) ?_
      have e : (decide (vars.map (at0 a) ∈ rows.filter (rowIn d vars)) == decide (vars.map (at0 a) ∈ rows)) = true := by
        rw [beq_iff_eq]
        exact decide_eq_decide.2 (hlast rfl).symm
      refine Ev.Zcs e ?_
      exact Ev.bind (Ev.pure true) (Ev.pure true)
  | succ m ih =>
    intro n h
    have hn : n < (rows.filter (rowIn d vars)).length := by omega
    obtain ⟨r, hr⟩ : ∃ r, r = (rows.filter (rowIn d vars))[n] := ⟨_, rfl⟩
    obtain ⟨k1, k2⟩ := hKm r (by rw [hr]; exact List.getElem_mem hn)
    obtain ⟨k3, k4⟩ := hT.row r k1
    have inner : ∀ (s q : Nat), q + s = vars.length → Ev (fun k => Zad.l1 k d (rows.filter (rowIn d vars)) a sm (sm && decide (vars.map (at0 a) ∈ (rows.filter (rowIn d vars)).take n)) (n : Int) (sm && decide ((vars.take q).map (at0 a) = r.take q)) (q : Int) 2 vars [] op rhs rows b) true := by
      intro s
      induction s with
      | zero =>
        intro q hq
        rw [List.take_of_length_le (show vars.length ≤ q by omega), List.take_of_length_le (show r.length ≤ q by omega)]
        have hstep := ih (n + 1) (by omega)
        rw [List.take_succ_eq_append_getElem hn, ← hr] at hstep
        refine Ev.step (fun k => by rw [Zad.l1, if_neg (by omega)]) ?_
        by_cases h9 : (sm && decide (vars.map (at0 a) ∈ (rows.filter (rowIn d vars)).take n)) = true
        · refine Ev.Zcs h9 ?_
          simp only [w1 (show n < 4611686018427387904 by omega)]
          have e : (sm && decide (vars.map (at0 a) ∈ (rows.filter (rowIn d vars)).take n ++ [r])) = true := by
            simp only [Bool.and_eq_true, decide_eq_true_iff] at h9 ⊢
            exact ⟨h9.1, List.mem_append_left _ h9.2⟩
          rw [e] at hstep
          exact hstep
        refine Ev.Zda h9 ?_
        simp only [w1 (show n < 4611686018427387904 by omega)]
        have e : (sm && decide (vars.map (at0 a) ∈ (rows.filter (rowIn d vars)).take n ++ [r])) = (sm && decide (vars.map (at0 a) = r)) := by
          cases sm with
          | false => rfl
          | true =>
            simp only [Bool.true_and, decide_eq_true_iff] at h9 ⊢
            refine decide_eq_decide.2 ?_
            rw [List.mem_append, List.mem_singleton]
            exact ⟨fun h => h.elim (fun h => absurd h h9) id, .inr⟩
        rw [e] at hstep
        exact hstep
      | succ s ihs =>
        intro q hq
        have hqv : q < vars.length := by omega
        have hqr : q < r.length := by omega
        obtain ⟨m1, m2⟩ := hT.mem _ (List.getElem_mem hqv)
        obtain ⟨v, hv⟩ := Int.eq_ofNat_of_zero_le m1
        have hv2 : v < d.length := by omega
        obtain ⟨g, hvl2⟩ := hd.2 _ (List.getElem_mem hv2)
        have hrd : Zbx (rows.filter (rowIn d vars)) (n : Int) = r := by rw [Zdm _ n hn, hr]
        have hVa : Va d[v] r[q] := by
          unfold rowIn at k2
          rw [List.all_eq_true] at k2
          have h1 := k2 (vars[q], r[q]) (by
            have : (vars.zip r)[q]'(by simp; omega) = (vars[q], r[q]) := List.getElem_zip
            rw [← this]
            exact List.getElem_mem _)
          rw [decide_eq_true_iff] at h1
          unfold dv at h1
          simp only [hv, Int.toNat_natCast, List.getD_eq_getElem?_getD, List.getElem?_eq_getElem hv2] at h1
          exact h1
        have j2 : ∀ x11, x11 = (sm && decide ((vars.take (q + 1)).map (at0 a) = r.take (q + 1))) → Ev (fun k => Zad.j2 k d (rows.filter (rowIn d vars)) a sm (sm && decide (vars.map (at0 a) ∈ (rows.filter (rowIn d vars)).take n)) (n : Int) x11 (q : Int) 2 vars [] op rhs rows b) true := fun x11 hx => by
          subst hx
          refine Ev.step (fun k => by rw [Zad.j2, if_pos (by omega), if_pos (by omega), Zck vars q hqv, if_pos m1, if_pos (by omega), hv, rdR_nat d v hv2, hrd]) ?_
          refine Ev.bind (Zga d[v] g (Int.le_refl _)) ?_
          refine Ev.Zcs (by omega) ?_
          refine Ev.Zcs (by omega) ?_
          refine Ev.Zcs (by omega) ?_
          simp only [Zck r q hqr, w1 (show q < 4611686018427387904 by omega)]
          refine Ev.bind (ref_Has (vals d[v]) r[q] (by omega)) ?_
          refine Ev.Zcs (decide_eq_true ((Zdt _ _).2 hVa)) ?_
          exact ihs (q + 1) (by omega)
        have etake : (vars.take (q + 1)).map (at0 a) = (vars.take q).map (at0 a) ++ [at0 a vars[q]] := by
          rw [List.take_succ_eq_append_getElem hqv, List.map_append]
          rfl
        have etake2 : r.take (q + 1) = r.take q ++ [r[q]] := List.take_succ_eq_append_getElem hqr
        by_cases h11 : (sm && decide ((vars.take q).map (at0 a) = r.take q)) = true
        rotate_left
        · refine Ev.step (fun k => by rw [Zad.l1, if_pos (by omega), if_neg h11]) (j2 false ?_)
          cases hs : sm with
          | false => rfl
          | true =>
            rw [hs, Bool.true_and, decide_eq_true_iff] at h11
            rw [Bool.true_and, etake, etake2]
            refine (decide_eq_false (fun e => h11 ?_)).symm
            exact (List.append_inj e (by simp; omega)).1
        have hs : sm = true := by simp only [Bool.and_eq_true] at h11; exact h11.1
        obtain ⟨p1, p2⟩ := ha hs
        have hva : v < a.length := by omega
        refine Ev.step (fun k => by rw [Zad.l1, if_pos (by omega), if_pos h11, if_pos (by omega), Zck vars q hqv, if_pos m1, if_pos (by omega), if_pos (by omega), if_pos (by omega), hrd, if_pos (by omega), Zck r q hqr]) (j2 _ ?_)
        simp only [Bool.and_eq_true, decide_eq_true_iff] at h11
        rw [hs, Bool.true_and, etake, etake2, h11.2, Bool.eq_iff_iff, beq_iff_eq, decide_eq_true_iff]
        have e : at0 a vars[q] = rd a vars[q] := by unfold at0; rw [if_neg (by omega)]
        rw [e]
        constructor
        · intro h; rw [h]
        intro h; exact List.singleton_inj.1 (List.append_cancel_left h)
    refine Ev.step (fun k => by rw [Zad.l0, if_pos (by omega), if_pos (by omega), Zdm _ n hn, ← hr, if_pos (by omega)]) ?_
    have := inner vars.length 0 (by omega)
    simpa using this
end
theorem law_TableRows (A0 : Option Addr) (c0 : Nat) (x0 : List (List Int)) (x1 : Int) (A2 : Option Addr) (c2 : Nat) (x2 : List Int) (A3 : Option Addr) (c3 : Nat) (x3 : List Int) (x4 x5 : Int) (A6 : Option Addr) (c6 : Nat) (x6 : List (List Int)) (x7 : Int) (A8 : Option Addr) (c8 : Nat) (x8 : List Int) (A9 : Option Addr) (c9 : Nat) (x9 : List Int) (W : World)
    (hC0 : (Kd.slice 3 (Kd.int .i64)).C W A0 x0.length x0) (hc0 : x0.length ≤ c0) (ok0 : x0.length * 24 ≤ 140737488351232 ∧ ∀ x ∈ x0, x.length * 8 ≤ 140737488351232 ∧ ∀ y ∈ x, (Lit.int .i64 y).wf = true) (ok1 : (Lit.int .i64 x1).wf = true)
    (hC2 : (Kd.int .i64).C W A2 x2.length x2) (hc2 : x2.length ≤ c2) (ok2 : x2.length * 8 ≤ 140737488351232 ∧ ∀ y ∈ x2, (Lit.int .i64 y).wf = true)
    (hC3 : (Kd.int .i64).C W A3 x3.length x3) (hc3 : x3.length ≤ c3) (ok3 : x3.length * 8 ≤ 140737488351232 ∧ ∀ y ∈ x3, (Lit.int .i64 y).wf = true) (ok4 : (Lit.int .i64 x4).wf = true) (ok5 : (Lit.int .i64 x5).wf = true)
    (hC6 : (Kd.slice 3 (Kd.int .i64)).C W A6 x6.length x6) (hc6 : x6.length ≤ c6) (ok6 : x6.length * 24 ≤ 140737488351232 ∧ ∀ x ∈ x6, x.length * 8 ≤ 140737488351232 ∧ ∀ y ∈ x, (Lit.int .i64 y).wf = true) (ok7 : (Lit.int .i64 x7).wf = true)
    (hC8 : (Kd.int .i64).C W A8 x8.length x8) (hc8 : x8.length ≤ c8) (ok8 : x8.length * 8 ≤ 140737488351232 ∧ ∀ y ∈ x8, (Lit.int .i64 y).wf = true)
    (hC9 : (Kd.int .i64).C W A9 x9.length x9) (hc9 : x9.length ≤ c9) (ok9 : x9.length * 8 ≤ 140737488351232 ∧ ∀ y ∈ x9, (Lit.int .i64 y).wf = true) :
    Calls Try.prog 7 #[.agg #[.slice A0 x0.length c0, .int .i64 x1, .slice A2 x2.length c2, .slice A3 x3.length c3, .int .i64 x4, .int .i64 x5, .slice A6 x6.length c6, .int .i64 x7, .slice A8 x8.length c8, .slice A9 x9.length c9]] W fun e W' => e = .returned (.bool true) ∧ Below W.heap.size W W' := by
  have hb : ∀ x ∈ x6, x.length * 8 ≤ 140737488351232 := fun x hx => (ok6.2 x hx).1
  obtain ⟨ok, hL, hok⟩ := laid_ev x0 x1 x2 x3 x4 x5 x6 x7 x8 x9 2 (.inl rfl) ok2.1 ok3.1 ok6.1 hb
  have hE : Ev (fun k => Zad.f k x0 x1 x2 x3 x4 x5 x6 x7 x8 x9) true := by
    unfold Zad.f
    refine Ev.bind hL ?_
    cases ok with
    | false =>
      refine Ev.Zda Bool.false_ne_true ?_
      exact Ev.bind (Ev.pure true) (Ev.pure true)
    | true =>
      have hT := (hok rfl).tab
      have hd := domsC_doms x0
      have hdl := Zds x0
      have hvl := Zfs hT.nodup hT.mem
      have hr20 : (x6.take 20).length ≤ 20 := by rw [List.length_take]; omega
      obtain ⟨r, hr, r1, r2⟩ := pick_ev (domsC x0) x8 hd
      have hc := hT.coefs
      refine Ev.Zcs rfl ?_
      refine Ev.bind (Rows_ev (domsC x0) 2 x2 x3 x4 x5 (x6.take 20) x7 hT.mem (by omega) (by omega) (fun x hx => ⟨(hT.row x hx).1, by have := (hT.row x hx).1; omega⟩)) ?_
      refine Ev.bind hr ?_
      subst hc
      have := rows_law_l0 hd hT (sm := r.2) (a := r.1) r1 hr20 ((x6.take 20).filter (rowIn (domsC x0) x2)).length 0 (by omega)
      simpa using this
  obtain ⟨k, hk⟩ := hE.out
  exact Zad.calls k A0 c0 x0 x1 A2 c2 x2 A3 c3 x3 x4 x5 A6 c6 x6 x7 A8 c8 x8 A9 c9 x9 true W hC0 hc0 hC2 hc2 hC3 hc3 hC6 hc6 hC8 hc8 hC9 hc9 hk
end Go.Proofs.Ytpbcigilipdedaa.P
/- What a datum of a statement's arguments holds: a number, a text, a row, a struct, whatever is nested: its cells read as a value of the kind; and how long its rows are at most (by the weight of the whole). -/
namespace Go.Proofs.Ytpbcigilipdedaa.P
open Go.RowKit Go.ChangeShapes Go.WideShapes Go.Proofs.YtpbcigilipdedaaW.PrintWords
set_option linter.unusedVariables false

/-- Whatever reads as a datum of type t is a value of kind d, of which ok is true. -/
structure OpensZ {α : Type} (P : Program) (d : Kd α) (ok : α → Prop) (t : TypeId) : Prop where
  out : ∀ {H : Type} (enc : TypeId × Value → H) (w : World) (base : Nat) (sp : Nat → Bool) (held : Bool) (fuel : Nat) (cs : List Value) (x : DataW H × List MemPlace),
    DataW.trod enc P w base sp held fuel t cs = some x → (∀ n ∈ x.1.weights P t, n ≤ reachBytes) → ∃ v : α, d.K w v cs ∧ ok v
theorem OpensZ.int {P : Program} {t : TypeId} {k : IntKind} (ht : P.underlying t = some (.int k)) : OpensZ P (Kd.int k) (fun n => (Lit.int k n).wf = true) t := by
  refine ⟨?_⟩
  intro H enc w base sp held fuel cs x h hz
  obtain ⟨n, rfl, rfl, hw⟩ := DataW.trod_int ht h
  exact ⟨n, rfl, hw⟩
theorem OpensZ.bool {P : Program} {t : TypeId} (ht : P.underlying t = some .bool) : OpensZ P Kd.bool (fun _ => True) t := by
  refine ⟨?_⟩
  intro H enc w base sp held fuel cs x h hz
  obtain ⟨b, rfl, rfl⟩ := DataW.trod_bool ht h
  exact ⟨b, rfl, trivial⟩
theorem OpensZ.string {P : Program} {t : TypeId} (ht : P.underlying t = some .string) : OpensZ P Kd.string (fun s => s.size ≤ maxLen) t := by
  refine ⟨?_⟩
  intro H enc w base sp held fuel cs x h hz
  obtain ⟨s, rfl, rfl, hs⟩ := DataW.trod_string ht h
  exact ⟨s, rfl, hs⟩
theorem OpensZ.iso {α β : Type} {P : Program} {d : Kd α} {ok : α → Prop} {t : TypeId} (h : OpensZ P d ok t) (f : β → α) (g : α → β) (hfg : ∀ a, f (g a) = a) : OpensZ P (Kd.iso d f) (fun b => ok (f b)) t := by
  refine ⟨?_⟩
  intro H enc w base sp held fuel cs x hx hz
  obtain ⟨v, hK, hok⟩ := h.out enc w base sp held fuel cs x hx hz
  exact ⟨g v, by show d.K w (f (g v)) cs; rw [hfg]; exact hK, by show ok (f (g v)); rw [hfg]; exact hok⟩
theorem Zez {H : Type} {P : Program} {t e : TypeId} (ht : P.underlying t = some (.slice e)) {el sp : List (DataW H)} : (DataW.slice el sp : DataW H).weights P t = (el.length + sp.length) * P.bytesOf e :: (DataW.weightsAll P e el ++ DataW.weightsAll P e sp) := by simp [DataW.weights, ht]
theorem weights_agg {H : Type} {P : Program} {t : TypeId} {fs : Array Field} (ht : P.underlying t = some (.struct fs)) {ps : List (DataW H)} : (DataW.agg ps : DataW H).weights P t = DataW.weightsEach P (fs.toList.map (·.type)) ps := by simp [DataW.weights, ht]
theorem Zej {H : Type} {P : Program} {e : TypeId} {d : DataW H} : ∀ {l : List (DataW H)}, d ∈ l → ∀ {n : Nat}, n ∈ d.weights P e → n ∈ DataW.weightsAll P e l
  | x :: l, hd, n, hn => by
    simp only [DataW.weightsAll, List.mem_append]
    rcases List.mem_cons.1 hd with rfl | hd
    · exact .inl hn
    exact .inr (Zej hd hn)
theorem choose_list {α : Type} {n : Nat} {R : Nat → α → Prop} (h : ∀ i, i < n → ∃ a, R i a) : ∃ l : List α, l.length = n ∧ ∀ i (hi : i < l.length), R i l[i] := by
  induction n with
  | zero => exact ⟨[], rfl, fun i hi => absurd hi (by simp)⟩
  | succ n ih =>
    obtain ⟨l, hl, hR⟩ := ih (fun i hi => h i (by omega))
    obtain ⟨a, ha⟩ := h n (by omega)
    refine ⟨l ++ [a], by simp [hl], fun i hi => ?_⟩
    rcases Nat.lt_or_ge i l.length with hlt | hge
    · rw [List.getElem_append_left hlt]
      exact hR i hlt
    have : i = l.length := by simp at hi; omega
    subst this
    rw [List.getElem_append_right (by omega)]
    simpa [hl] using ha
theorem addr_add (a : Addr) (i j : Nat) : (a.add i).add j = a.add (i + j) := by
  by_cases h : i = 0
  · subst h; simp [Addr.add]
  by_cases h2 : j = 0
  · subst h2; simp [Addr.add]
  simp [Addr.add, h, h2, Nat.add_assoc]
theorem OpensZ.row {α : Type} {P : Program} {d : Kd α} {ok : α → Prop} {t e : TypeId} {B : Nat} (ht : P.underlying t = some (.slice e)) (hc : P.cellsOf e = d.sz) (hB : P.bytesOf e = B) (h : OpensZ P d ok e) :
    OpensZ P (Kd.slice e d) (fun l => l.length * B ≤ 140737488351232 ∧ ∀ x ∈ l, ok x) t := by
  refine ⟨?_⟩
  intro H enc w base sp held fuel cs x hx hz
  rcases Go.Deep.open_slice ht hx with ⟨rfl, rfl⟩ | ⟨a, len, cap, m, n, D, Pl, rfl, hb, hl, hm, hmm, rfl, he⟩
  · exact ⟨[], ⟨none, 0, rfl, Nat.le_refl _, rfl, by simp, fun h => absurd h (by simp)⟩, by simp, fun x hx => by simp at hx⟩
  have hlm : len ≤ m := by rw [hmm]; split <;> omega
  have each : ∀ i, i < len → ∃ v : α, ok v ∧ ∃ c, c.length = d.sz ∧ d.K w v c ∧ ∀ j u, c[j]? = some u → w.cell? (a.add (i * d.sz + j)) = some u := fun i hi => by
    obtain ⟨cs', h1, h2⟩ := he i (by omega)
    obtain ⟨v, hK, hok⟩ := h.out enc w base sp held n cs' _ h2 (fun q hq => hz q (by
      rw [Zez ht]
      refine List.mem_cons_of_mem _ (List.mem_append_left _ (Zej (d := D i) (List.mem_map.2 ⟨i, List.mem_range.2 hi, rfl⟩) hq))))
    obtain ⟨_, hlen, hcell⟩ := World.cells?_some h1
    rw [hc] at hlen hcell
    refine ⟨v, hok, cs', hlen, hK, fun j u hu => ?_⟩
    have hj : j < d.sz := by rw [← hlen]; exact (List.getElem?_eq_some_iff.1 hu).1
    have := hcell j hj
    rw [hu] at this
    rw [← this, addr_add]
  obtain ⟨l, hll, hR⟩ := choose_list each
  have hmax : cap ≤ 9223372036854775807 := by unfold maxLen at hm; exact hm
  refine ⟨l, ⟨some a, cap, by rw [hll], by omega, rfl, by omega, fun _ => ⟨a, rfl, fun j p hp => ?_⟩⟩, ?_, fun x hx => ?_⟩
  · obtain ⟨hj, rfl⟩ := List.getElem?_eq_some_iff.1 hp
    obtain ⟨_, c, h1, h2, h3⟩ := hR j hj
    exact ⟨c, h1, h2, h3⟩
  · have h3 := hz ((len + (m - len)) * P.bytesOf e) (by rw [Zez ht]; simp)
    rw [hB] at h3
    rw [hll]
    exact Nat.le_trans (Nat.mul_le_mul_right _ (by omega)) h3
  obtain ⟨i, hi, rfl⟩ := List.mem_iff_getElem.1 hx
  exact (hR i hi).1
/-- The fields from an offset on. -/
structure OpensZF {α : Type} (P : Program) (d : Kd α) (ok : α → Prop) (fs : List Field) (off : Nat) : Prop where
  out : ∀ {H : Type} (enc : TypeId × Value → H) (w : World) (base : Nat) (sp : Nat → Bool) (held : Bool) (fuel : Nat) (cs : List Value), cs.length = off + d.sz →
    (∀ f ∈ fs, ∃ x, DataW.trod enc P w base sp held fuel f.type ((cs.drop f.offset).take (P.cellsOf f.type)) = some x ∧ ∀ n ∈ x.1.weights P f.type, n ≤ reachBytes) → ∃ v : α, d.K w v (cs.drop off) ∧ ok v
theorem OpensZF.last {α : Type} {P : Program} {d : Kd α} {ok : α → Prop} {f : Field} {off : Nat} (ho : f.offset = off) (hc : P.cellsOf f.type = d.sz) (h : OpensZ P d ok f.type) : OpensZF P d ok [f] off := by
  refine ⟨?_⟩
  intro H enc w base sp held fuel cs hl hf
  obtain ⟨x, hx, hz⟩ := hf f (by simp)
  rw [ho, hc, List.take_of_length_le (by simp; omega)] at hx
  exact h.out enc w base sp held fuel _ x hx hz
theorem OpensZF.cons {α β : Type} {P : Program} {d : Kd α} {ok : α → Prop} {d' : Kd β} {ok' : β → Prop} {f : Field} {fs : List Field} {off : Nat} (ho : f.offset = off) (hc : P.cellsOf f.type = d.sz) (h : OpensZ P d ok f.type) (h' : OpensZF P d' ok' fs (off + d.sz)) :
    OpensZF P (Kd.pair d d') (fun z => ok z.1 ∧ ok' z.2) (f :: fs) off := by
  refine ⟨?_⟩
  intro H enc w base sp held fuel cs hl hf
  have hl' : cs.length = off + (d.sz + d'.sz) := hl
  obtain ⟨x, hx, hz⟩ := hf f (by simp)
  obtain ⟨v, hK, hok⟩ := h.out enc w base sp held fuel _ x hx hz
  obtain ⟨v', hK', hok'⟩ := h'.out enc w base sp held fuel cs (by omega) (fun g hg => hf g (List.mem_cons_of_mem _ hg))
  rw [ho, hc] at hK
  refine ⟨(v, v'), ⟨(cs.drop off).take d.sz, cs.drop (off + d.sz), ?_, hK, hK'⟩, hok, hok'⟩
  rw [← List.drop_drop, List.take_append_drop]
theorem OpensZ.struct {α : Type} {P : Program} {d : Kd α} {ok : α → Prop} {t : TypeId} {fs : List Field} (ht : P.underlying t = some (.struct fs.toArray)) (hc : P.cellsOf t = d.sz) (h : OpensZF P d ok fs 0) : OpensZ P d ok t := by
  refine ⟨?_⟩
  intro H enc w base sp held fuel cs x hx hz
  obtain ⟨xs, n, rfl, rfl, hl, hxl, hf⟩ := DataW.trod_struct ht hx
  have := h.out enc w base sp held n cs (by omega) (fun f hf' => by
    obtain ⟨i, hi, rfl⟩ := List.mem_iff_getElem.1 hf'
    have := hf i fs[i] (by simp [hi])
    have hix : i < xs.length := by simp at hxl; omega
    rw [List.getElem?_eq_getElem hix] at this
    refine ⟨xs[i], by simpa using this, fun q hq => hz q ?_⟩
    rw [weights_agg ht]
    exact DataW.weights_mem_each (j := i) (t := fs[i].type) (d := xs[i].1) (by simp [hi]) (by simp [hix]) q hq)
  simpa using this
/-- A slice that is an argument. -/
theorem OpensZ.arg {α H : Type} {P : Program} {d : Kd α} {ok : List α → Prop} {e t : TypeId} (h : OpensZ P (Kd.slice e d) ok t) {enc : TypeId × Value → H} {w : World} {base : Nat} {sp : Nat → Bool} {held : Bool} {A : Option Addr} {len cap : Nat} {dt : DataW H} {ps : List MemPlace}
    (hT : DataW.Trod enc P w base sp held t (.slice A len cap) dt ps) (hz : ∀ n ∈ dt.weights P t, n ≤ reachBytes) : ∃ l : List α, l.length = len ∧ l.length ≤ cap ∧ d.C w A l.length l ∧ ok l := by
  obtain ⟨fuel, hf⟩ := hT
  obtain ⟨l, ⟨A', c, hcs, hl, hC⟩, hok⟩ := h.out enc w base sp held fuel _ _ hf hz
  simp [Value.cells] at hcs
  obtain ⟨rfl, rfl, rfl⟩ := hcs
  exact ⟨l, rfl, hl, hC, hok⟩
theorem each_weights {H : Type} {P : Program} {ts : List TypeId} {ds : List (DataW H)} (h : (DataW.weightsEach P ts ds).all (· ≤ reachBytes) = true) {j : Nat} {t : TypeId} {d : DataW H} (ht : ts[j]? = some t) (hd : ds[j]? = some d) : ∀ n ∈ d.weights P t, n ≤ reachBytes := fun n hn => by
  have := List.all_eq_true.1 h n (DataW.weights_mem_each ht hd n hn)
  simpa using this
end Go.Proofs.Ytpbcigilipdedaa.P
namespace Go.Proofs.Ytpbcigilipdedaa.tableRows
open Go.ChangeShapes Go.WideShapes Go.ChangeAt Go.RowKit
open Go.ChangeMaps (open_string shut_string)
open Go.Proofs.Ytpbcigilipdedaa.P
open Go.Proofs.YtpbcigilipdedaaW.PrintWords
set_option linter.unusedVariables false
theorem own : ownKnob Try.prog.godebug = none := by kernel_rfl
theorem laidOut : laidOutB Try.prog = true := by kernel_rfl
theorem o_int : OpensZ Try.prog (Kd.int .i64) (fun n => (Lit.int .i64 n).wf = true) 3 := OpensZ.int Try.underlying3
theorem o_Lint : OpensZ Try.prog (Kd.slice 3 (Kd.int .i64)) (fun l => (List.length l * 8 ≤ 140737488351232 ∧ ∀ y1_ ∈ l, (Lit.int .i64 y1_).wf = true)) 23 := OpensZ.row Try.underlying23 (by kernel_rfl) (by kernel_rfl) o_int
theorem o_LLint : OpensZ Try.prog (Kd.slice 23 (Kd.slice 3 (Kd.int .i64))) (fun l => (List.length l * 24 ≤ 140737488351232 ∧ ∀ y1_ ∈ l, (List.length y1_ * 8 ≤ 140737488351232 ∧ ∀ y2_ ∈ y1_, (Lit.int .i64 y2_).wf = true))) 22 := OpensZ.row Try.underlying22 (by kernel_rfl) (by kernel_rfl) o_Lint
set_option maxHeartbeats 2000000 in
theorem p_api_Con : OpensZ Try.prog (Kd.pair (Kd.int .i64) (Kd.pair (Kd.slice 3 (Kd.int .i64)) (Kd.pair (Kd.slice 3 (Kd.int .i64)) (Kd.pair (Kd.int .i64) (Kd.pair (Kd.int .i64) (Kd.pair (Kd.slice 23 (Kd.slice 3 (Kd.int .i64))) (Kd.int .i64))))))) (fun z => ((Lit.int .i64 (z).1).wf = true ∧ ((List.length ((z).2).1 * 8 ≤ 140737488351232 ∧ ∀ y1_ ∈ ((z).2).1, (Lit.int .i64 y1_).wf = true) ∧ ((List.length (((z).2).2).1 * 8 ≤ 140737488351232 ∧ ∀ y1_ ∈ (((z).2).2).1, (Lit.int .i64 y1_).wf = true) ∧ ((Lit.int .i64 ((((z).2).2).2).1).wf = true ∧ ((Lit.int .i64 (((((z).2).2).2).2).1).wf = true ∧ ((List.length ((((((z).2).2).2).2).2).1 * 24 ≤ 140737488351232 ∧ ∀ y1_ ∈ ((((((z).2).2).2).2).2).1, (List.length y1_ * 8 ≤ 140737488351232 ∧ ∀ y2_ ∈ y1_, (Lit.int .i64 y2_).wf = true)) ∧ (Lit.int .i64 ((((((z).2).2).2).2).2).2).wf = true))))))) 25 := by
 refine OpensZ.struct (d := (Kd.pair (Kd.int .i64) (Kd.pair (Kd.slice 3 (Kd.int .i64)) (Kd.pair (Kd.slice 3 (Kd.int .i64)) (Kd.pair (Kd.int .i64) (Kd.pair (Kd.int .i64) (Kd.pair (Kd.slice 23 (Kd.slice 3 (Kd.int .i64))) (Kd.int .i64)))))))) Try.underlying25 (by kernel_rfl) ?_
 refine OpensZF.cons (d := (Kd.int .i64)) (ok := fun v_ : Int => (Lit.int .i64 v_).wf = true) (ok' := fun z_ : ((List Int) × (List Int) × Int × Int × (List (List Int)) × Int) => ((List.length (z_).1 * 8 ≤ 140737488351232 ∧ ∀ y1_ ∈ (z_).1, (Lit.int .i64 y1_).wf = true) ∧ ((List.length ((z_).2).1 * 8 ≤ 140737488351232 ∧ ∀ y1_ ∈ ((z_).2).1, (Lit.int .i64 y1_).wf = true) ∧ ((Lit.int .i64 (((z_).2).2).1).wf = true ∧ ((Lit.int .i64 ((((z_).2).2).2).1).wf = true ∧ ((List.length (((((z_).2).2).2).2).1 * 24 ≤ 140737488351232 ∧ ∀ y1_ ∈ (((((z_).2).2).2).2).1, (List.length y1_ * 8 ≤ 140737488351232 ∧ ∀ y2_ ∈ y1_, (Lit.int .i64 y2_).wf = true)) ∧ (Lit.int .i64 (((((z_).2).2).2).2).2).wf = true)))))) (by kernel_rfl) (by kernel_rfl) o_int ?_
 refine OpensZF.cons (d := (Kd.slice 3 (Kd.int .i64))) (ok := fun v_ : (List Int) => (List.length v_ * 8 ≤ 140737488351232 ∧ ∀ y1_ ∈ v_, (Lit.int .i64 y1_).wf = true)) (ok' := fun z_ : ((List Int) × Int × Int × (List (List Int)) × Int) => ((List.length (z_).1 * 8 ≤ 140737488351232 ∧ ∀ y1_ ∈ (z_).1, (Lit.int .i64 y1_).wf = true) ∧ ((Lit.int .i64 ((z_).2).1).wf = true ∧ ((Lit.int .i64 (((z_).2).2).1).wf = true ∧ ((List.length ((((z_).2).2).2).1 * 24 ≤ 140737488351232 ∧ ∀ y1_ ∈ ((((z_).2).2).2).1, (List.length y1_ * 8 ≤ 140737488351232 ∧ ∀ y2_ ∈ y1_, (Lit.int .i64 y2_).wf = true)) ∧ (Lit.int .i64 ((((z_).2).2).2).2).wf = true))))) (by kernel_rfl) (by kernel_rfl) o_Lint ?_
 refine OpensZF.cons (d := (Kd.slice 3 (Kd.int .i64))) (ok := fun v_ : (List Int) => (List.length v_ * 8 ≤ 140737488351232 ∧ ∀ y1_ ∈ v_, (Lit.int .i64 y1_).wf = true)) (ok' := fun z_ : (Int × Int × (List (List Int)) × Int) => ((Lit.int .i64 (z_).1).wf = true ∧ ((Lit.int .i64 ((z_).2).1).wf = true ∧ ((List.length (((z_).2).2).1 * 24 ≤ 140737488351232 ∧ ∀ y1_ ∈ (((z_).2).2).1, (List.length y1_ * 8 ≤ 140737488351232 ∧ ∀ y2_ ∈ y1_, (Lit.int .i64 y2_).wf = true)) ∧ (Lit.int .i64 (((z_).2).2).2).wf = true)))) (by kernel_rfl) (by kernel_rfl) o_Lint ?_
 refine OpensZF.cons (d := (Kd.int .i64)) (ok := fun v_ : Int => (Lit.int .i64 v_).wf = true) (ok' := fun z_ : (Int × (List (List Int)) × Int) => ((Lit.int .i64 (z_).1).wf = true ∧ ((List.length ((z_).2).1 * 24 ≤ 140737488351232 ∧ ∀ y1_ ∈ ((z_).2).1, (List.length y1_ * 8 ≤ 140737488351232 ∧ ∀ y2_ ∈ y1_, (Lit.int .i64 y2_).wf = true)) ∧ (Lit.int .i64 ((z_).2).2).wf = true))) (by kernel_rfl) (by kernel_rfl) o_int ?_
 refine OpensZF.cons (d := (Kd.int .i64)) (ok := fun v_ : Int => (Lit.int .i64 v_).wf = true) (ok' := fun z_ : ((List (List Int)) × Int) => ((List.length (z_).1 * 24 ≤ 140737488351232 ∧ ∀ y1_ ∈ (z_).1, (List.length y1_ * 8 ≤ 140737488351232 ∧ ∀ y2_ ∈ y1_, (Lit.int .i64 y2_).wf = true)) ∧ (Lit.int .i64 (z_).2).wf = true)) (by kernel_rfl) (by kernel_rfl) o_int ?_
 refine OpensZF.cons (d := (Kd.slice 23 (Kd.slice 3 (Kd.int .i64)))) (ok := fun v_ : (List (List Int)) => (List.length v_ * 24 ≤ 140737488351232 ∧ ∀ y1_ ∈ v_, (List.length y1_ * 8 ≤ 140737488351232 ∧ ∀ y2_ ∈ y1_, (Lit.int .i64 y2_).wf = true))) (ok' := fun z_ : (Int) => (Lit.int .i64 z_).wf = true) (by kernel_rfl) (by kernel_rfl) o_LLint ?_
 exact OpensZF.last (d := (Kd.int .i64)) (ok := fun v_ : Int => (Lit.int .i64 v_).wf = true) (by kernel_rfl) (by kernel_rfl) o_int
set_option maxHeartbeats 2000000 in
theorem Zeh : OpensZ Try.prog (Kd.pair (Kd.slice 23 (Kd.slice 3 (Kd.int .i64))) (Kd.pair (Kd.pair (Kd.int .i64) (Kd.pair (Kd.slice 3 (Kd.int .i64)) (Kd.pair (Kd.slice 3 (Kd.int .i64)) (Kd.pair (Kd.int .i64) (Kd.pair (Kd.int .i64) (Kd.pair (Kd.slice 23 (Kd.slice 3 (Kd.int .i64))) (Kd.int .i64))))))) (Kd.pair (Kd.slice 3 (Kd.int .i64)) (Kd.slice 3 (Kd.int .i64))))) (fun z => ((List.length (z).1 * 24 ≤ 140737488351232 ∧ ∀ y1_ ∈ (z).1, (List.length y1_ * 8 ≤ 140737488351232 ∧ ∀ y2_ ∈ y1_, (Lit.int .i64 y2_).wf = true)) ∧ (((Lit.int .i64 (((z).2).1).1).wf = true ∧ ((List.length ((((z).2).1).2).1 * 8 ≤ 140737488351232 ∧ ∀ y1_ ∈ ((((z).2).1).2).1, (Lit.int .i64 y1_).wf = true) ∧ ((List.length (((((z).2).1).2).2).1 * 8 ≤ 140737488351232 ∧ ∀ y1_ ∈ (((((z).2).1).2).2).1, (Lit.int .i64 y1_).wf = true) ∧ ((Lit.int .i64 ((((((z).2).1).2).2).2).1).wf = true ∧ ((Lit.int .i64 (((((((z).2).1).2).2).2).2).1).wf = true ∧ ((List.length ((((((((z).2).1).2).2).2).2).2).1 * 24 ≤ 140737488351232 ∧ ∀ y1_ ∈ ((((((((z).2).1).2).2).2).2).2).1, (List.length y1_ * 8 ≤ 140737488351232 ∧ ∀ y2_ ∈ y1_, (Lit.int .i64 y2_).wf = true)) ∧ (Lit.int .i64 ((((((((z).2).1).2).2).2).2).2).2).wf = true)))))) ∧ ((List.length (((z).2).2).1 * 8 ≤ 140737488351232 ∧ ∀ y1_ ∈ (((z).2).2).1, (Lit.int .i64 y1_).wf = true) ∧ (List.length (((z).2).2).2 * 8 ≤ 140737488351232 ∧ ∀ y1_ ∈ (((z).2).2).2, (Lit.int .i64 y1_).wf = true))))) 27 := by
 refine OpensZ.struct (d := (Kd.pair (Kd.slice 23 (Kd.slice 3 (Kd.int .i64))) (Kd.pair (Kd.pair (Kd.int .i64) (Kd.pair (Kd.slice 3 (Kd.int .i64)) (Kd.pair (Kd.slice 3 (Kd.int .i64)) (Kd.pair (Kd.int .i64) (Kd.pair (Kd.int .i64) (Kd.pair (Kd.slice 23 (Kd.slice 3 (Kd.int .i64))) (Kd.int .i64))))))) (Kd.pair (Kd.slice 3 (Kd.int .i64)) (Kd.slice 3 (Kd.int .i64)))))) Try.underlying27 (by kernel_rfl) ?_
 refine OpensZF.cons (d := (Kd.slice 23 (Kd.slice 3 (Kd.int .i64)))) (ok := fun v_ : (List (List Int)) => (List.length v_ * 24 ≤ 140737488351232 ∧ ∀ y1_ ∈ v_, (List.length y1_ * 8 ≤ 140737488351232 ∧ ∀ y2_ ∈ y1_, (Lit.int .i64 y2_).wf = true))) (ok' := fun z_ : ((Int × (List Int) × (List Int) × Int × Int × (List (List Int)) × Int) × (List Int) × (List Int)) => (((Lit.int .i64 ((z_).1).1).wf = true ∧ ((List.length (((z_).1).2).1 * 8 ≤ 140737488351232 ∧ ∀ y1_ ∈ (((z_).1).2).1, (Lit.int .i64 y1_).wf = true) ∧ ((List.length ((((z_).1).2).2).1 * 8 ≤ 140737488351232 ∧ ∀ y1_ ∈ ((((z_).1).2).2).1, (Lit.int .i64 y1_).wf = true) ∧ ((Lit.int .i64 (((((z_).1).2).2).2).1).wf = true ∧ ((Lit.int .i64 ((((((z_).1).2).2).2).2).1).wf = true ∧ ((List.length (((((((z_).1).2).2).2).2).2).1 * 24 ≤ 140737488351232 ∧ ∀ y1_ ∈ (((((((z_).1).2).2).2).2).2).1, (List.length y1_ * 8 ≤ 140737488351232 ∧ ∀ y2_ ∈ y1_, (Lit.int .i64 y2_).wf = true)) ∧ (Lit.int .i64 (((((((z_).1).2).2).2).2).2).2).wf = true)))))) ∧ ((List.length ((z_).2).1 * 8 ≤ 140737488351232 ∧ ∀ y1_ ∈ ((z_).2).1, (Lit.int .i64 y1_).wf = true) ∧ (List.length ((z_).2).2 * 8 ≤ 140737488351232 ∧ ∀ y1_ ∈ ((z_).2).2, (Lit.int .i64 y1_).wf = true)))) (by kernel_rfl) (by kernel_rfl) o_LLint ?_
 refine OpensZF.cons (d := (Kd.pair (Kd.int .i64) (Kd.pair (Kd.slice 3 (Kd.int .i64)) (Kd.pair (Kd.slice 3 (Kd.int .i64)) (Kd.pair (Kd.int .i64) (Kd.pair (Kd.int .i64) (Kd.pair (Kd.slice 23 (Kd.slice 3 (Kd.int .i64))) (Kd.int .i64)))))))) (ok := fun v_ : (Int × (List Int) × (List Int) × Int × Int × (List (List Int)) × Int) => ((Lit.int .i64 (v_).1).wf = true ∧ ((List.length ((v_).2).1 * 8 ≤ 140737488351232 ∧ ∀ y1_ ∈ ((v_).2).1, (Lit.int .i64 y1_).wf = true) ∧ ((List.length (((v_).2).2).1 * 8 ≤ 140737488351232 ∧ ∀ y1_ ∈ (((v_).2).2).1, (Lit.int .i64 y1_).wf = true) ∧ ((Lit.int .i64 ((((v_).2).2).2).1).wf = true ∧ ((Lit.int .i64 (((((v_).2).2).2).2).1).wf = true ∧ ((List.length ((((((v_).2).2).2).2).2).1 * 24 ≤ 140737488351232 ∧ ∀ y1_ ∈ ((((((v_).2).2).2).2).2).1, (List.length y1_ * 8 ≤ 140737488351232 ∧ ∀ y2_ ∈ y1_, (Lit.int .i64 y2_).wf = true)) ∧ (Lit.int .i64 ((((((v_).2).2).2).2).2).2).wf = true))))))) (ok' := fun z_ : ((List Int) × (List Int)) => ((List.length (z_).1 * 8 ≤ 140737488351232 ∧ ∀ y1_ ∈ (z_).1, (Lit.int .i64 y1_).wf = true) ∧ (List.length (z_).2 * 8 ≤ 140737488351232 ∧ ∀ y1_ ∈ (z_).2, (Lit.int .i64 y1_).wf = true))) (by kernel_rfl) (by kernel_rfl) p_api_Con ?_
 refine OpensZF.cons (d := (Kd.slice 3 (Kd.int .i64))) (ok := fun v_ : (List Int) => (List.length v_ * 8 ≤ 140737488351232 ∧ ∀ y1_ ∈ v_, (Lit.int .i64 y1_).wf = true)) (ok' := fun z_ : ((List Int)) => (List.length z_ * 8 ≤ 140737488351232 ∧ ∀ y1_ ∈ z_, (Lit.int .i64 y1_).wf = true)) (by kernel_rfl) (by kernel_rfl) o_Lint ?_
 exact OpensZF.last (d := (Kd.slice 3 (Kd.int .i64))) (ok := fun v_ : (List Int) => (List.length v_ * 8 ≤ 140737488351232 ∧ ∀ y1_ ∈ v_, (Lit.int .i64 y1_).wf = true)) (by kernel_rfl) (by kernel_rfl) o_Lint
set_option maxRecDepth 100000 in
theorem lifted (os : Os) (started : os.Started) (H : Type) (enc : TypeId × Value → H) :
  ReturnsInHanded {} Try.checked os 7 .any (Rows.tableRowsSpec.pre6 enc Try.prog Try.f7 Rows.tableRowsRow.domain false) (Rows.tableRowsSpec.post enc Try.prog Try.f7 false true false false) := by
 refine returnsInHanded_of_change_sized (C := Try.checked) own started (by kernel_rfl) Try.func7
  (ChangeSpec.witness6 (enc := enc) (C := Try.checked) false ⟨#[], #[.agg #[.slice none 0 0, .int .i64 0, .slice none 0 0, .slice none 0 0, .int .i64 0, .int .i64 0, .slice none 0 0, .int .i64 0, .slice none 0 0, .slice none 0 0]], []⟩ 8 (by kernel_rfl) (by kernel_rfl) (by kernel_rfl) (by kernel_rfl)) ?_
 intro W base args ds gs before hval0 hW hcnd hsz0 _
 have hsz : (DataW.weightsEach Try.prog (Try.f7.params.toList ++ Rows.tableRowsSpec.plain.varTypes Try.prog) (ds ++ gs)).all (· ≤ reachBytes) = true := hsz0
 have hval : ∀ (j : Nat) t v, Try.f7.params[j]? = some t → args[j]? = some v → Value.okWide Try.prog W .any base t v := hval0
 have hW' := hW
 obtain ⟨p, q, hA0, hV, rfl, hfz, hnd⟩ := hW
 have hA : DataW.TrodAll enc Try.prog W 0 (fun _ => true) true Try.f7.params.toList args.toList ds p := hA0
 rw [Try.params7] at hA hval hsz
 obtain ⟨v0, vs0, d0, ds0, p0, q0, hargs, rfl, rfl, h0, r0⟩ := trodAll_cons hA
 obtain ⟨rfl, rfl, rfl⟩ := trodAll_nil r0
 obtain rfl : args = #[v0] := by cases args; simp_all
 obtain ⟨rfl, rfl⟩ := trodVars_none hV
 have k0 := h0
 have lt0 : ∀ x ∈ p0, x.block < W.heap.size := by obtain ⟨m, hm⟩ := k0; exact DataW.trod_lt m _ _ _ hm
 obtain ⟨cs0, rfl, _⟩ := okWide_struct Try.underlying27 (hval 0 27 v0 rfl rfl)
 obtain ⟨fu0, hf0⟩ := h0
 obtain ⟨⟨x0, ⟨⟨x1, ⟨x2, ⟨x3, ⟨x4, ⟨x5, ⟨x6, x7⟩⟩⟩⟩⟩⟩, ⟨x8, x9⟩⟩⟩, hK0, ⟨ok0, ⟨⟨ok1, ⟨ok2, ⟨ok3, ⟨ok4, ⟨ok5, ⟨ok6, ok7⟩⟩⟩⟩⟩⟩, ⟨ok8, ok9⟩⟩⟩⟩ := Zeh.out _ _ _ _ _ _ _ _ hf0 (each_weights hsz (j := 0) (t := 27) rfl rfl)
 obtain ⟨_, _, e, ⟨A0, c0, rfl, hc0, hC0⟩, ⟨_, _, rfl, ⟨_, _, rfl, rfl, ⟨_, _, rfl, ⟨A2, c2, rfl, hc2, hC2⟩, ⟨_, _, rfl, ⟨A3, c3, rfl, hc3, hC3⟩, ⟨_, _, rfl, rfl, ⟨_, _, rfl, rfl, ⟨_, _, rfl, ⟨A6, c6, rfl, hc6, hC6⟩, rfl⟩⟩⟩⟩⟩⟩, ⟨_, _, rfl, ⟨A8, c8, rfl, hc8, hC8⟩, ⟨A9, c9, rfl, hc9, hC9⟩⟩⟩⟩ := hK0
 obtain rfl : cs0 = #[.slice A0 x0.length c0, .int .i64 x1, .slice A2 x2.length c2, .slice A3 x3.length c3, .int .i64 x4, .int .i64 x5, .slice A6 x6.length c6, .int .i64 x7, .slice A8 x8.length c8, .slice A9 x9.length c9] := by
  apply Array.ext'
  simpa [Value.cells] using e
 clear hA0 hval0 hsz0 hsz
 refine (P.law_TableRows A0 c0 x0 x1 A2 c2 x2 A3 c3 x3 x4 x5 A6 c6 x6 x7 A8 c8 x8 A9 c9 x9 W hC0 hc0 ok0 ok1 hC2 hc2 ok2 hC3 hc3 ok3 ok4 ok5 hC6 hc6 ok6 ok7 hC8 hc8 ok8 hC9 hc9 ok9).mono fun e W' ⟨he, bel⟩ => ?_
 subst he
 exact ⟨_, rfl, _, _, _, [], _, [], hW', trodAll_mk1 (shut_bool Try.underlying4 _), (trodAll_cons_mk (Below.trod laidOut (by kernel_rfl) (of_decide_eq_true (by kernel_rfl)) k0 bel lt0) trodAll_mk0), rfl, bel.frame _, fun h => by cases h⟩
theorem over : Rows.tableRowsRow.holds Try.pinned (OpenSpec.ofChange Rows.tableRowsSpec) :=
 OpenClaim.holds_of_wide 7 Try.f7 rfl rfl rfl rfl rfl rfl rfl ⟨rfl, rfl, rfl, rfl, rfl⟩ rfl rfl rfl rfl rfl (by kernel_rfl) Try.func7 (by kernel_rfl)
  (of_decide_eq_true (by kernel_rfl)) (by unfold Func.isWrapper; first | (rw [if_pos (by decide +kernel)]; kernel_rfl) | (rw [if_neg (by decide +kernel)]; exact ⟨rfl, rfl⟩))
  (fun os started H enc _ => lifted os started H enc)
theorem proved : Rows.TableRowsSaid := over
end Go.Proofs.Ytpbcigilipdedaa.tableRows
namespace Go.Proofs.Ytpbcigilipdedaa
/-- The row, under a short name, for the claim. -/
theorem tableRows_holds : Rows.TableRowsSaid := tableRows.proved
end Go.Proofs.Ytpbcigilipdedaa
