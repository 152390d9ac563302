/- Proved: the statement ElementKnown. Conditions: none but those of the statement. -/
import Derived.Test.YtpbcigilipdedaaZ1
import Derived.Test.YtpbcigilipdedaaZ2
import Derived.Test.YtpbcigilipdedaaZ3
import Derived.Test.YtpbcigilipdedaaZ4
import Derived.Test.YtpbcigilipdedaaZ5
import Derived.Test.YtpbcigilipdedaaU1
import Derived.Deep.Slices
import Derived.ChangeArms
import Derived.DataReads
import Derived.SizedLaws
import Derived.Test.YtpbcigilipdedaaRows
import Derived.WalkKit
import Derived.ProofKit
import Derived.OpenShut
import Derived.ShutString
import Derived.ChangeOld
import Derived.Below

namespace Go.Proofs.Ytpbcigilipdedaa.P
open Go.RowKit Go.Proofs.YtpbcigilipdedaaW.PrintWords Go.Proofs.YtpbcigilipdedaaW.PrintLast Go.Proofs.YtpbcigilipdedaaW.PrintMore
attribute [local go_sem] Zc9 Zda Zdn Zdo Zcz Zc0 Zd Zdb
set_option linter.unusedVariables false
set_option linter.unusedSimpArgs false
/-! ### Zad: function 11 -/
mutual
def Zad.l0 : Nat → List (List (S41)) → Int → List (List (S41)) → Bool → List (S41) → Int → Int → List Int → List Int → Int → Int → List (List Int) → Int → Option (Bool)
 | 0, _, _, _, _, _, _, _, _, _, _, _, _, _ => none
 | k + 1, x5, x8, x9, x10, x11, x12, x1017000, x1017001, x1017002, x1017003, x1017004, x1017005, x1017006 => if x12 < (x5.length : Int) then (if 0 ≤ x12 then (if ((Zb8 x5 x12).length : Int) = 0 then (if x10 = true then (none) else ((Za4.f k).bind fun t1035 => (some t1035))) else (Zad.l0 k x5 x8 x9 x10 x11 (wrap64 (x12 + 1)) x1017000 x1017001 x1017002 x1017003 x1017004 x1017005 x1017006)) else (none)) else (if (x11.length : Int) = 0 then (if x10 = true then (none) else (if (x9.length : Int) = 0 then ((Za4.f k).bind fun t1036 => (some t1036)) else (none))) else (if (x9.length : Int) > (x5.length : Int) then (none) else (Zad.l1 k x5 x8 x9 x10 x11 0 x1017000 x1017001 x1017002 x1017003 x1017004 x1017005 x1017006)))
def Zad.l1 : Nat → List (List (S41)) → Int → List (List (S41)) → Bool → List (S41) → Int → Int → List Int → List Int → Int → Int → List (List Int) → Int → Option (Bool)
 | 0, _, _, _, _, _, _, _, _, _, _, _, _, _ => none
 | k + 1, x5, x8, x9, x10, x11, x13, x1017000, x1017001, x1017002, x1017003, x1017004, x1017005, x1017006 => if x13 < (x9.length : Int) then (if 1 < (x1017001.length : Int) then (if x13 = (rd x1017001 1) then (Zad.l1 k x5 x8 x9 x10 x11 (wrap64 (x13 + 1)) x1017000 x1017001 x1017002 x1017003 x1017004 x1017005 x1017006) else (if 0 ≤ (wrap64 (2 + x8)) then (if (wrap64 (2 + x8)) < (x1017001.length : Int) then (if x13 = (rd x1017001 (wrap64 (2 + x8))) then (Zad.l1 k x5 x8 x9 x10 x11 (wrap64 (x13 + 1)) x1017000 x1017001 x1017002 x1017003 x1017004 x1017005 x1017006) else (if 0 ≤ x13 then (if x13 < (x5.length : Int) then ((Zar.f k (Zb8 x9 x13) (Zb8 x5 x13)).bind fun t1041 => (if t1041 = true then (Zad.l1 k x5 x8 x9 x10 x11 (wrap64 (x13 + 1)) x1017000 x1017001 x1017002 x1017003 x1017004 x1017005 x1017006) else (none))) else (none)) else (none))) else (none)) else (none))) else (none)) else (if x10 = true then (if (x9.length : Int) = (x5.length : Int) then (if 1 < (x1017001.length : Int) then (if 0 ≤ (rd x1017001 1) then (if (rd x1017001 1) < (x9.length : Int) then ((Zar.f k (Zb8 x9 (rd x1017001 1)) x11).bind fun t1044 => (if t1044 = true then (if 0 ≤ (wrap64 (2 + x8)) then (if (wrap64 (2 + x8)) < (x1017001.length : Int) then (if 0 ≤ (rd x1017001 (wrap64 (2 + x8))) then (if (rd x1017001 (wrap64 (2 + x8))) < (x9.length : Int) then ((Zar.f k (Zb8 x9 (rd x1017001 (wrap64 (2 + x8)))) x11).bind fun t1047 => (if t1047 = true then ((Za4.f k).bind fun t1048 => (some t1048)) else (none))) else (none)) else (none)) else (none)) else (none)) else (none))) else (none)) else (none)) else (none)) else (none)) else (none))
end
def Zad.f (k : Nat) (l0_0 : List (List Int)) (a0_1 : Int) (l0_2 : List Int) (l0_3 : List Int) (a0_4 : Int) (a0_5 : Int) (l0_6 : List (List Int)) (a0_7 : Int) (l0_8 : List Int) (l0_9 : List Int) (a1 : Int) : Option (Bool) := (Zap.f k l0_0 a0_1 l0_2 l0_3 a0_4 a0_5 l0_6 a0_7 l0_8 l0_9 3).bind fun bt999 => (if bt999.2.2.2.2.2.2.2.2 = true then (if (wrap64 ((bt999.2.2.1.length : Int) - 2)) = 0 then (none) else (if 0 < (bt999.2.2.1.length : Int) then (if 0 ≤ (rd bt999.2.2.1 0) then (if (rd bt999.2.2.1 0) < (bt999.1.length : Int) then ((some (bt999.1.set ((rd bt999.2.2.1 0) : Int).toNat (([(⟨Int.tmod (Go.bits .and .i64 a1 65535) (wrap64 ((bt999.2.2.1.length : Int) - 2)), Int.tmod (Go.bits .and .i64 a1 65535) (wrap64 ((bt999.2.2.1.length : Int) - 2))⟩ : S41)] : List (S41))) : List (List (S41)))).bind fun y1022 => ((Zah.f k y1022 bt999.2.1 bt999.2.2.1 bt999.2.2.2.1 bt999.2.2.2.2.1 bt999.2.2.2.2.2.1 bt999.2.2.2.2.2.2.1 bt999.2.2.2.2.2.2.2.1).bind fun bt1023 => (if 1 < (bt999.2.2.1.length : Int) then (if 0 ≤ (rd bt999.2.2.1 1) then (if (rd bt999.2.2.1 1) < (bt999.1.length : Int) then (if 0 ≤ (wrap64 (2 + (Int.tmod (Go.bits .and .i64 a1 65535) (wrap64 ((bt999.2.2.1.length : Int) - 2))))) then (if (wrap64 (2 + (Int.tmod (Go.bits .and .i64 a1 65535) (wrap64 ((bt999.2.2.1.length : Int) - 2))))) < (bt999.2.2.1.length : Int) then (if 0 ≤ (rd bt999.2.2.1 (wrap64 (2 + (Int.tmod (Go.bits .and .i64 a1 65535) (wrap64 ((bt999.2.2.1.length : Int) - 2)))))) then (if (rd bt999.2.2.1 (wrap64 (2 + (Int.tmod (Go.bits .and .i64 a1 65535) (wrap64 ((bt999.2.2.1.length : Int) - 2)))))) < (bt999.1.length : Int) then ((Za0.f k (Zb8 y1022 (rd bt999.2.2.1 1)) (Zb8 y1022 (rd bt999.2.2.1 (wrap64 (2 + (Int.tmod (Go.bits .and .i64 a1 65535) (wrap64 ((bt999.2.2.1.length : Int) - 2))))))) true).bind fun t1031 => (Zad.l0 k y1022 (Int.tmod (Go.bits .and .i64 a1 65535) (wrap64 ((bt999.2.2.1.length : Int) - 2))) bt1023.1 bt1023.2 t1031 0 bt999.2.1 bt999.2.2.1 bt999.2.2.2.1 bt999.2.2.2.2.1 bt999.2.2.2.2.2.1 bt999.2.2.2.2.2.2.1 bt999.2.2.2.2.2.2.2.1)) else (none)) else (none)) else (none)) else (none)) else (none)) else (none)) else (none)))) else (none)) else (none)) else (none))) else ((Za4.f k).bind fun t1017 => (some t1017)))
theorem Zad.Zb9 : ∀ k, (∀ y0 y1 y2 y3 y4 y5 y6 y7 y8 y9 y10 y11 y12, LeO (Zad.l0 k y0 y1 y2 y3 y4 y5 y6 y7 y8 y9 y10 y11 y12) (Zad.l0 (k + 1) y0 y1 y2 y3 y4 y5 y6 y7 y8 y9 y10 y11 y12)) ∧ (∀ y0 y1 y2 y3 y4 y5 y6 y7 y8 y9 y10 y11 y12, LeO (Zad.l1 k y0 y1 y2 y3 y4 y5 y6 y7 y8 y9 y10 y11 y12) (Zad.l1 (k + 1) y0 y1 y2 y3 y4 y5 y6 y7 y8 y9 y10 y11 y12))
 | 0 => ⟨fun _ _ _ _ _ _ _ _ _ _ _ _ _ r h => by simp [Zad.l0] at h, fun _ _ _ _ _ _ _ _ _ _ _ _ _ r h => by simp [Zad.l1] at h⟩
 | k + 1 => by
  obtain ⟨ih0, ih1⟩ := Zad.Zb9 k
  refine ⟨?_, ?_⟩
  ·intro y0 y1 y2 y3 y4 y5 y6 y7 y8 y9 y10 y11 y12
   unfold Zad.l0
   repeat' first
   | (with_reducible exact ih0 _ _ _ _ _ _ _ _ _ _ _ _ _)
   | (with_reducible exact ih1 _ _ _ _ _ _ _ _ _ _ _ _ _)
   | (with_reducible exact Zah.mono _ _ _ _ _ _ _ _ _)
   | (with_reducible exact Zap.mono _ _ _ _ _ _ _ _ _ _ _ _)
   | (with_reducible exact Za4.mono _)
   | (with_reducible exact Za0.mono _ _ _ _)
   | (with_reducible exact Zar.mono _ _ _)
   | (with_reducible exact LeO.refl _)
   | (with_reducible exact LeO.none _)
   | (with_reducible refine LeO.ite ?_ ?_)
   | (with_reducible refine LeO.bind ?_ (fun _ => ?_))
   | exact ih0 _ _ _ _ _ _ _ _ _ _ _ _ _
   | exact ih1 _ _ _ _ _ _ _ _ _ _ _ _ _
   | exact Zah.mono _ _ _ _ _ _ _ _ _
   | exact Zap.mono _ _ _ _ _ _ _ _ _ _ _ _
   | exact Za4.mono _
   | exact Za0.mono _ _ _ _
   | exact Zar.mono _ _ _
   | exact LeO.none _
   | refine LeO.ite ?_ ?_
   | refine LeO.bind ?_ (fun _ => ?_)
  intro y0 y1 y2 y3 y4 y5 y6 y7 y8 y9 y10 y11 y12
  unfold Zad.l1
  repeat' first
  | (with_reducible exact ih0 _ _ _ _ _ _ _ _ _ _ _ _ _)
  | (with_reducible exact ih1 _ _ _ _ _ _ _ _ _ _ _ _ _)
  | (with_reducible exact Zah.mono _ _ _ _ _ _ _ _ _)
  | (with_reducible exact Zap.mono _ _ _ _ _ _ _ _ _ _ _ _)
  | (with_reducible exact Za4.mono _)
  | (with_reducible exact Za0.mono _ _ _ _)
  | (with_reducible exact Zar.mono _ _ _)
  | (with_reducible exact LeO.refl _)
  | (with_reducible exact LeO.none _)
  | (with_reducible refine LeO.ite ?_ ?_)
  | (with_reducible refine LeO.bind ?_ (fun _ => ?_))
  | exact ih0 _ _ _ _ _ _ _ _ _ _ _ _ _
  | exact ih1 _ _ _ _ _ _ _ _ _ _ _ _ _
  | exact Zah.mono _ _ _ _ _ _ _ _ _
  | exact Zap.mono _ _ _ _ _ _ _ _ _ _ _ _
  | exact Za4.mono _
  | exact Za0.mono _ _ _ _
  | exact Zar.mono _ _ _
  | exact LeO.none _
  | refine LeO.ite ?_ ?_
  | refine LeO.bind ?_ (fun _ => ?_)
theorem Zad.mono : ∀ a0 a1 a2 a3 a4 a5 a6 a7 a8 a9 a10 k, LeO (Zad.f k a0 a1 a2 a3 a4 a5 a6 a7 a8 a9 a10) (Zad.f (k + 1) a0 a1 a2 a3 a4 a5 a6 a7 a8 a9 a10) := by
 intro a0 a1 a2 a3 a4 a5 a6 a7 a8 a9 a10 k
 obtain ⟨ih0, ih1⟩ := Zad.Zb9 k
 unfold Zad.f
 repeat' first
   | (with_reducible exact ih0 _ _ _ _ _ _ _ _ _ _ _ _ _)
   | (with_reducible exact ih1 _ _ _ _ _ _ _ _ _ _ _ _ _)
   | (with_reducible exact Zah.mono _ _ _ _ _ _ _ _ _)
   | (with_reducible exact Zap.mono _ _ _ _ _ _ _ _ _ _ _ _)
   | (with_reducible exact Za4.mono _)
   | (with_reducible exact Za0.mono _ _ _ _)
   | (with_reducible exact Zar.mono _ _ _)
   | (with_reducible exact LeO.refl _)
   | (with_reducible exact LeO.none _)
   | (with_reducible refine LeO.ite ?_ ?_)
   | (with_reducible refine LeO.bind ?_ (fun _ => ?_))
   | exact ih0 _ _ _ _ _ _ _ _ _ _ _ _ _
   | exact ih1 _ _ _ _ _ _ _ _ _ _ _ _ _
   | exact Zah.mono _ _ _ _ _ _ _ _ _
   | exact Zap.mono _ _ _ _ _ _ _ _ _ _ _ _
   | exact Za4.mono _
   | exact Za0.mono _ _ _ _
   | exact Zar.mono _ _ _
   | exact LeO.none _
   | refine LeO.ite ?_ ?_
   | refine LeO.bind ?_ (fun _ => ?_)
def Zad.T7 : Bool × List (List Nat × List Nat) := (true, [([], []), ([], []), ([1], [1]), ([2], [2]), ([3], [3]), ([0, 4], [0, 4]), ([5], [5]), ([], []), ([], []), ([8], [8]), ([], []), ([10], [10]), ([9, 11], [9, 11]), ([12], [12]), ([7, 13], [7, 13]), ([14], [14]), ([6, 15], [6, 15]), ([16, 16, 0, 1, 2, 3, 4, 5, 6, 7, 8, 9, 10, 11, 12, 13, 14, 15, 16], [16])])
def Zad.B7 : List Nat := [0, 0, 2, 6, 14, 31, 63, 0, 0, 256, 0, 1024, 3840, 7936, 16256, 32640, 65535, 131071]
theorem Zad.tab7 : rtab .any (opsOf Try.f11 7) = Zad.T7 := by kernel_rfl
theorem Zad.bits7 : waitsOk Zad.T7.2 Zad.B7 = true := by kernel_rfl
def Zad.T20 : Bool × List (List Nat × List Nat) := (true, [([], []), ([], []), ([1], [1]), ([2], [2]), ([3], [3]), ([0, 4], [0, 4]), ([5], [5]), ([6], [6]), ([6], [6]), ([8, 6], [6, 8]), ([6], [6]), ([10, 6], [6, 10]), ([9, 11, 6], [6, 9, 11]), ([12, 6], [6, 12]), ([7, 13, 6], [6, 7, 13]), ([6, 14], [6, 14]), ([15, 6], [15]), ([16], [16]), ([16], [16]), ([17, 18, 16], [16, 17, 18]), ([19, 16], [16, 19]), ([16], [16]), ([16], [16]), ([21, 22, 16], [16, 21, 22]), ([23, 16], [16, 23]), ([20, 24, 16, 16], [16, 20, 24]), ([25, 16], [16, 25]), ([16, 26], [16, 26])])
def Zad.B20 : List Nat := [0, 0, 2, 6, 14, 31, 63, 127, 127, 383, 127, 1151, 3967, 8063, 16383, 32767, 65535, 131071, 131071, 524287, 1048575, 131071, 131071, 6422527, 14811135, 33554431, 67108863, 134217727]
theorem Zad.tab20 : rtab .any (opsOf Try.f11 20) = Zad.T20 := by kernel_rfl
theorem Zad.bits20 : waitsOk Zad.T20.2 Zad.B20 = true := by kernel_rfl
set_option maxHeartbeats 8000000 in
set_option maxRecDepth 100000 in
theorem Zad.calls (k : Nat) (A0_0 : Option Addr) (c0_0 : Nat) (l0_0 : List (List Int)) (a0_1 : Int) (A0_2 : Option Addr) (c0_2 : Nat) (l0_2 : List Int) (A0_3 : Option Addr) (c0_3 : Nat) (l0_3 : List Int) (a0_4 : Int) (a0_5 : Int) (A0_6 : Option Addr) (c0_6 : Nat) (l0_6 : List (List Int)) (a0_7 : Int) (A0_8 : Option Addr) (c0_8 : Nat) (l0_8 : List Int) (A0_9 : Option Addr) (c0_9 : Nat) (l0_9 : List Int) (a1 : Int) (r : Bool) (w : World) (hr0_0 : Kd.C (Kd.slice 3 (Kd.int .i64)) w A0_0 l0_0.length l0_0) (hc0_0 : l0_0.length ≤ c0_0) (hr0_2 : Kd.C (Kd.int .i64) w A0_2 l0_2.length l0_2) (hc0_2 : l0_2.length ≤ c0_2) (hr0_3 : Kd.C (Kd.int .i64) w A0_3 l0_3.length l0_3) (hc0_3 : l0_3.length ≤ c0_3) (hr0_6 : Kd.C (Kd.slice 3 (Kd.int .i64)) w A0_6 l0_6.length l0_6) (hc0_6 : l0_6.length ≤ c0_6) (hr0_8 : Kd.C (Kd.int .i64) w A0_8 l0_8.length l0_8) (hc0_8 : l0_8.length ≤ c0_8) (hr0_9 : Kd.C (Kd.int .i64) w A0_9 l0_9.length l0_9) (hc0_9 : l0_9.length ≤ c0_9) (h : Zad.f k l0_0 a0_1 l0_2 l0_3 a0_4 a0_5 l0_6 a0_7 l0_8 l0_9 a1 = some r) :
  Calls Try.prog 11 #[.agg #[.slice A0_0 l0_0.length c0_0, .int .i64 a0_1, .slice A0_2 l0_2.length c0_2, .slice A0_3 l0_3.length c0_3, .int .i64 a0_4, .int .i64 a0_5, .slice A0_6 l0_6.length c0_6, .int .i64 a0_7, .slice A0_8 l0_8.length c0_8, .slice A0_9 l0_9.length c0_9], .int .i64 a1] w fun e w' => e = .returned (.bool r) ∧ Below w.heap.size w w' := by
 have hu27 := Try.underlying27
 have hu25 := Try.underlying25
 have hu41 := Try.underlying41
 have HR0_0 := Zaa.mk hr0_0
 have HC0_0 := Zaa.mk hc0_0
 clear hr0_0 hc0_0
 have HR0_2 := Zaa.mk hr0_2
 have HC0_2 := Zaa.mk hc0_2
 clear hr0_2 hc0_2
 have HR0_3 := Zaa.mk hr0_3
 have HC0_3 := Zaa.mk hc0_3
 clear hr0_3 hc0_3
 have HR0_6 := Zaa.mk hr0_6
 have HC0_6 := Zaa.mk hc0_6
 clear hr0_6 hc0_6
 have HR0_8 := Zaa.mk hr0_8
 have HC0_8 := Zaa.mk hc0_8
 clear hr0_8 hc0_8
 have HR0_9 := Zaa.mk hr0_9
 have HC0_9 := Zaa.mk hc0_9
 clear hr0_9 hc0_9
 have HB := Zaa.mk (Below.refl w.heap.size w)
 have H : ((Zap.f k l0_0 a0_1 l0_2 l0_3 a0_4 a0_5 l0_6 a0_7 l0_8 l0_9 3).bind fun bt999 => (if bt999.2.2.2.2.2.2.2.2 = true then (if (wrap64 ((bt999.2.2.1.length : Int) - 2)) = 0 then (none) else (if 0 < (bt999.2.2.1.length : Int) then (if 0 ≤ (rd bt999.2.2.1 0) then (if (rd bt999.2.2.1 0) < (bt999.1.length : Int) then ((some (bt999.1.set ((rd bt999.2.2.1 0) : Int).toNat (([(⟨Int.tmod (Go.bits .and .i64 a1 65535) (wrap64 ((bt999.2.2.1.length : Int) - 2)), Int.tmod (Go.bits .and .i64 a1 65535) (wrap64 ((bt999.2.2.1.length : Int) - 2))⟩ : S41)] : List (S41))) : List (List (S41)))).bind fun y1022 => ((Zah.f k y1022 bt999.2.1 bt999.2.2.1 bt999.2.2.2.1 bt999.2.2.2.2.1 bt999.2.2.2.2.2.1 bt999.2.2.2.2.2.2.1 bt999.2.2.2.2.2.2.2.1).bind fun bt1023 => (if 1 < (bt999.2.2.1.length : Int) then (if 0 ≤ (rd bt999.2.2.1 1) then (if (rd bt999.2.2.1 1) < (bt999.1.length : Int) then (if 0 ≤ (wrap64 (2 + (Int.tmod (Go.bits .and .i64 a1 65535) (wrap64 ((bt999.2.2.1.length : Int) - 2))))) then (if (wrap64 (2 + (Int.tmod (Go.bits .and .i64 a1 65535) (wrap64 ((bt999.2.2.1.length : Int) - 2))))) < (bt999.2.2.1.length : Int) then (if 0 ≤ (rd bt999.2.2.1 (wrap64 (2 + (Int.tmod (Go.bits .and .i64 a1 65535) (wrap64 ((bt999.2.2.1.length : Int) - 2)))))) then (if (rd bt999.2.2.1 (wrap64 (2 + (Int.tmod (Go.bits .and .i64 a1 65535) (wrap64 ((bt999.2.2.1.length : Int) - 2)))))) < (bt999.1.length : Int) then ((Za0.f k (Zb8 y1022 (rd bt999.2.2.1 1)) (Zb8 y1022 (rd bt999.2.2.1 (wrap64 (2 + (Int.tmod (Go.bits .and .i64 a1 65535) (wrap64 ((bt999.2.2.1.length : Int) - 2))))))) true).bind fun t1031 => (Zad.l0 k y1022 (Int.tmod (Go.bits .and .i64 a1 65535) (wrap64 ((bt999.2.2.1.length : Int) - 2))) bt1023.1 bt1023.2 t1031 0 bt999.2.1 bt999.2.2.1 bt999.2.2.2.1 bt999.2.2.2.2.1 bt999.2.2.2.2.2.1 bt999.2.2.2.2.2.2.1 bt999.2.2.2.2.2.2.2.1)) else (none)) else (none)) else (none)) else (none)) else (none)) else (none)) else (none)))) else (none)) else (none)) else (none))) else ((Za4.f k).bind fun t1017 => (some t1017)))) = some r := h
 clear h
 replace H := Option.bind_eq_some_iff.mp H
 obtain ⟨⟨t999, t1002, t1003, t1006, t1009, t1010, t1011, t1014, t1015⟩, A30, H⟩ := H
 replace H : (if t1015 = true then (if (wrap64 ((t1003.length : Int) - 2)) = 0 then (none) else (if 0 < (t1003.length : Int) then (if 0 ≤ (rd t1003 0) then (if (rd t1003 0) < (t999.length : Int) then ((some (t999.set ((rd t1003 0) : Int).toNat (([(⟨Int.tmod (Go.bits .and .i64 a1 65535) (wrap64 ((t1003.length : Int) - 2)), Int.tmod (Go.bits .and .i64 a1 65535) (wrap64 ((t1003.length : Int) - 2))⟩ : S41)] : List (S41))) : List (List (S41)))).bind fun y1022 => ((Zah.f k y1022 t1002 t1003 t1006 t1009 t1010 t1011 t1014).bind fun bt1023 => (if 1 < (t1003.length : Int) then (if 0 ≤ (rd t1003 1) then (if (rd t1003 1) < (t999.length : Int) then (if 0 ≤ (wrap64 (2 + (Int.tmod (Go.bits .and .i64 a1 65535) (wrap64 ((t1003.length : Int) - 2))))) then (if (wrap64 (2 + (Int.tmod (Go.bits .and .i64 a1 65535) (wrap64 ((t1003.length : Int) - 2))))) < (t1003.length : Int) then (if 0 ≤ (rd t1003 (wrap64 (2 + (Int.tmod (Go.bits .and .i64 a1 65535) (wrap64 ((t1003.length : Int) - 2)))))) then (if (rd t1003 (wrap64 (2 + (Int.tmod (Go.bits .and .i64 a1 65535) (wrap64 ((t1003.length : Int) - 2)))))) < (t999.length : Int) then ((Za0.f k (Zb8 y1022 (rd t1003 1)) (Zb8 y1022 (rd t1003 (wrap64 (2 + (Int.tmod (Go.bits .and .i64 a1 65535) (wrap64 ((t1003.length : Int) - 2))))))) true).bind fun t1031 => (Zad.l0 k y1022 (Int.tmod (Go.bits .and .i64 a1 65535) (wrap64 ((t1003.length : Int) - 2))) bt1023.1 bt1023.2 t1031 0 t1002 t1003 t1006 t1009 t1010 t1011 t1014)) else (none)) else (none)) else (none)) else (none)) else (none)) else (none)) else (none)))) else (none)) else (none)) else (none))) else ((Za4.f k).bind fun t1017 => (some t1017))) = some r := H
 have A3 := Zaa.mk A30
 clear A30
 by_cases c4 : t1015 = true
 rotate_left
 ·replace c4 := Bool.eq_false_iff.mpr c4
  subst c4
  have H1 : ((Za4.f k).bind fun t1017 => (some t1017)) = some r := by rw [if_neg (show ¬ (false = true) by decide)] at H; exact H
  clear H
  have H := H1
  clear H1
  replace H := Option.bind_eq_some_iff.mp H
  obtain ⟨t1017, A850, H⟩ := H
  replace H : (some t1017) = some r := H
  have A85 := Zaa.mk A850
  clear A850
  obtain rfl := Option.some.inj H
  go_enter Try.func11, Try.ntmps11
  go_wp2_with (first | ((with_reducible refine Zbt (N := 2) rfl ?_); (try (refine Zcx (by rfl) ?_; dsimp only)); refine Zcj ?hg (N := 2) ?hd (cs := #[.slice A0_0 l0_0.length c0_0, .int .i64 a0_1, .slice A0_2 l0_2.length c0_2, .slice A0_3 l0_3.length c0_3, .int .i64 a0_4, .int .i64 a0_5, .slice A0_6 l0_6.length c0_6, .int .i64 a0_7, .slice A0_8 l0_8.length c0_8, .slice A0_9 l0_9.length c0_9]) (t := 27) ?hr ?_; (case hd => rfl); (case hg => rfl); (case hr => first | (go_simp; done) | (go_simp; rfl)); intro gb998 hg w86 hbox hb; have n0_ := Zaa.mk (Zaz (by repeat (first | (with_reducible first | exact HB.out | apply Zab | apply Za | apply Zac) | exact HB.out)) hb); have n1_ := Zaa.mk (hbox); have n2_ := Zaa.mk ((by rw [hg]; exact (Zal (by repeat (first | (with_reducible first | exact HB.out | apply Zab | apply Za | apply Zac) | exact HB.out))) : w.heap.size ≤ gb998)); have n3_ := Zaa.mk ((by rw [hg]; exact (Zal (by repeat (first | (with_reducible first | exact HB.out | apply Zab | apply Za | apply Zac) | exact HB.out))) : w.heap.size ≤ gb998)); clear HB; have HB := n0_; have BK998 := n1_; have GW998 := n2_; have GE998 := n3_; clear n0_ n1_ n2_ n3_; clear hb hbox hg; obtain ⟨hcz87_0, hcz87_1, hcz87_2, hcz87_3, hcz87_4, hcz87_5, hcz87_6, hcz87_7, hcz87_8, hcz87_9, hfz87_0, hfz87_1, hfz87_2, hfz87_3, hfz87_4, hfz87_5, hfz87_6, hfz87_7, hfz87_8, hfz87_9⟩ := blks10 BK998.out) | ((with_reducible refine Zbv (f := 14) rfl ?_); refine Zcw (some 16) rfl rfl Try.func14 (by kernel_rfl) rfl #[.agg #[.slice A0_0 l0_0.length c0_0, .int .i64 a0_1, .slice A0_2 l0_2.length c0_2, .slice A0_3 l0_3.length c0_3, .int .i64 a0_4, .int .i64 a0_5, .slice A0_6 l0_6.length c0_6, .int .i64 a0_7, .slice A0_8 l0_8.length c0_8, .slice A0_9 l0_9.length c0_9], .int .i64 3] rfl (by (try simp only [List.map_toArray, List.map_cons, List.map_nil]); first | done | rfl | (simp only [List.length_drop, List.length_take]; rfl)) ?_; (with_reducible refine (Zap.calls k _ _ l0_0 a0_1 _ _ l0_2 _ _ l0_3 a0_4 a0_5 _ _ l0_6 a0_7 _ _ l0_8 _ _ l0_9 3 t999 t1002 t1003 t1006 t1009 t1010 t1011 t1014 false _ ?side1 ?side2 ?side3 ?side4 ?side5 ?side6 ?side7 ?side8 ?side9 ?side10 ?side11 ?side12 A3.out).mono ?_); (case side1 => repeat (first | exact (Kd.Zbn HR0_0.out HB.out) | (with_reducible refine Kd.Zbc ?_ _) | (with_reducible refine Kd.Zba ?_ _) | (with_reducible refine Kd.Zbh ?_))); (case side2 => exact HC0_0.out); (case side3 => repeat (first | exact (Kd.Zbn HR0_2.out HB.out) | (with_reducible refine Kd.Zbc ?_ _) | (with_reducible refine Kd.Zba ?_ _) | (with_reducible refine Kd.Zbh ?_))); (case side4 => exact HC0_2.out); (case side5 => repeat (first | exact (Kd.Zbn HR0_3.out HB.out) | (with_reducible refine Kd.Zbc ?_ _) | (with_reducible refine Kd.Zba ?_ _) | (with_reducible refine Kd.Zbh ?_))); (case side6 => exact HC0_3.out); (case side7 => repeat (first | exact (Kd.Zbn HR0_6.out HB.out) | (with_reducible refine Kd.Zbc ?_ _) | (with_reducible refine Kd.Zba ?_ _) | (with_reducible refine Kd.Zbh ?_))); (case side8 => exact HC0_6.out); (case side9 => repeat (first | exact (Kd.Zbn HR0_8.out HB.out) | (with_reducible refine Kd.Zbc ?_ _) | (with_reducible refine Kd.Zba ?_ _) | (with_reducible refine Kd.Zbh ?_))); (case side10 => exact HC0_8.out); (case side11 => repeat (first | exact (Kd.Zbn HR0_9.out HB.out) | (with_reducible refine Kd.Zbc ?_ _) | (with_reducible refine Kd.Zba ?_ _) | (with_reducible refine Kd.Zbh ?_))); (case side12 => exact HC0_9.out); rintro e w88 ⟨v1000, v1004, v1007, v1012, rfl, ho0, ho1, ho2, ho3, hb⟩; refine ⟨_, rfl, ?_⟩; have n0_ := Zaa.mk (Kd.Zd5 ho0 (Zal (by repeat (first | (with_reducible first | exact HB.out | apply Zab | apply Za | apply Zac | refine Zag ?_ GE998.out) | exact HB.out)))); have n1_ := Zaa.mk (Kd.Zby ho1 (Zal (by repeat (first | (with_reducible first | exact HB.out | apply Zab | apply Za | apply Zac | refine Zag ?_ GE998.out) | exact HB.out)))); have n2_ := Zaa.mk (Kd.Zby ho2 (Zal (by repeat (first | (with_reducible first | exact HB.out | apply Zab | apply Za | apply Zac | refine Zag ?_ GE998.out) | exact HB.out)))); have n3_ := Zaa.mk (Kd.Zd5 ho3 (Zal (by repeat (first | (with_reducible first | exact HB.out | apply Zab | apply Za | apply Zac | refine Zag ?_ GE998.out) | exact HB.out)))); have n4_ := Zaa.mk (Zbe (g := gb998) (o := .cells #[.slice A0_0 l0_0.length c0_0, .int .i64 a0_1, .slice A0_2 l0_2.length c0_2, .slice A0_3 l0_3.length c0_3, .int .i64 a0_4, .int .i64 a0_5, .slice A0_6 l0_6.length c0_6, .int .i64 a0_7, .slice A0_8 l0_8.length c0_8, .slice A0_9 l0_9.length c0_9] 27 (0, 0)) (mvK BK998.out) hb); have n5_ := Zaa.mk (Zaz (by repeat (first | (with_reducible first | exact HB.out | apply Zab | apply Za | apply Zac | refine Zag ?_ GE998.out) | exact HB.out)) hb); clear BK998; clear HB; have HO1001 := n0_; have HO1005 := n1_; have HO1008 := n2_; have HO1013 := n3_; have BK998 := n4_; have HB := n5_; clear n0_ n1_ n2_ n3_ n4_ n5_; (try clear hb); (try clear hb2); (try clear hk); (try clear hi); (try clear ho0); (try clear ho1); (try clear ho2); (try clear ho3)) | ((with_reducible refine Zbt (N := 6) rfl ?_); (try (refine Zcx (by rfl) ?_; dsimp only)); refine Zcj ?hg (N := 6) ?hd (cs := #[.int .i64 0, .slice none 0 0, .slice none 0 0, .int .i64 0, .int .i64 0, .slice none 0 0, .int .i64 0]) (t := 25) ?hr ?_; (case hd => rfl); (case hg => rfl); (case hr => first | (go_simp; done) | (go_simp; rfl)); intro gb1016 hg w89 hbox hb; have n0_ := Zaa.mk (Kd.Zck (mvS HO1001.out) hb); have n1_ := Zaa.mk (Kd.Zbs (mvR HO1005.out) hb); have n2_ := Zaa.mk (Kd.Zbs (mvR HO1008.out) hb); have n3_ := Zaa.mk (Kd.Zck (mvS HO1013.out) hb); have n4_ := Zaa.mk (Zbe (g := gb998) (o := .cells #[.slice A0_0 l0_0.length c0_0, .int .i64 a0_1, .slice A0_2 l0_2.length c0_2, .slice A0_3 l0_3.length c0_3, .int .i64 a0_4, .int .i64 a0_5, .slice A0_6 l0_6.length c0_6, .int .i64 a0_7, .slice A0_8 l0_8.length c0_8, .slice A0_9 l0_9.length c0_9] 27 (0, 0)) (mvK BK998.out) hb); have n5_ := Zaa.mk (Zaz (by repeat (first | (with_reducible first | exact HB.out | apply Zab | apply Za | apply Zac | refine Zag ?_ GE998.out) | exact HB.out)) hb); have n6_ := Zaa.mk (hbox); have n7_ := Zaa.mk ((by rw [hg]; exact (Zal (by repeat (first | (with_reducible first | exact HB.out | apply Zab | apply Za | apply Zac | refine Zag ?_ GE998.out) | exact HB.out))) : w.heap.size ≤ gb1016)); have n8_ := Zaa.mk ((by rw [hg]; exact (Zal (by repeat (first | (with_reducible first | exact HB.out | apply Zab | apply Za | apply Zac | refine Zag ?_ GE998.out) | exact HB.out))) : w.heap.size ≤ gb1016)); have n9_ := Zaa.mk ((by rw [hg]; exact Nat.ne_of_lt (Zdj (g := gb998) (o := .cells #[.slice A0_0 l0_0.length c0_0, .int .i64 a0_1, .slice A0_2 l0_2.length c0_2, .slice A0_3 l0_3.length c0_3, .int .i64 a0_4, .int .i64 a0_5, .slice A0_6 l0_6.length c0_6, .int .i64 a0_7, .slice A0_8 l0_8.length c0_8, .slice A0_9 l0_9.length c0_9] 27 (0, 0)) (mvK BK998.out)) : gb998 ≠ gb1016)); have n10_ := Zaa.mk ((by rw [hg]; exact Nat.ne_of_gt (Zdj (g := gb998) (o := .cells #[.slice A0_0 l0_0.length c0_0, .int .i64 a0_1, .slice A0_2 l0_2.length c0_2, .slice A0_3 l0_3.length c0_3, .int .i64 a0_4, .int .i64 a0_5, .slice A0_6 l0_6.length c0_6, .int .i64 a0_7, .slice A0_8 l0_8.length c0_8, .slice A0_9 l0_9.length c0_9] 27 (0, 0)) (mvK BK998.out)) : gb1016 ≠ gb998)); clear HO1001; clear HO1005; clear HO1008; clear HO1013; clear BK998; clear HB; have HO1001 := n0_; have HO1005 := n1_; have HO1008 := n2_; have HO1013 := n3_; have BK998 := n4_; have HB := n5_; have BK1016 := n6_; have GW1016 := n7_; have GE1016 := n8_; have NB998_1016 := n9_; have NB1016_998 := n10_; clear n0_ n1_ n2_ n3_ n4_ n5_ n6_ n7_ n8_ n9_ n10_; clear hb hbox hg; have hnb90 := NB1016_998.out; have hnc90 := NB998_1016.out; obtain ⟨hcz91_0, hcz91_1, hcz91_2, hcz91_3, hcz91_4, hcz91_5, hcz91_6, hfz91_0, hfz91_1, hfz91_2, hfz91_3, hfz91_4, hfz91_5, hfz91_6⟩ := Zcu BK1016.out; obtain ⟨Ao92, co92, eo92⟩ := Kd.Zbr HO1005.out; subst eo92; obtain ⟨Ao93, co93, eo93⟩ := Kd.Zbr HO1008.out; subst eo93; obtain ⟨Ao94, co94, eo94⟩ := Kd.Zd9 HO1013.out; subst eo94) | ((with_reducible refine Zbv (f := 34) rfl ?_); refine Zcw (some 22) rfl rfl Try.func34 (by kernel_rfl) rfl #[] rfl (by (try simp only [List.map_toArray, List.map_cons, List.map_nil]); first | done | rfl | (simp only [List.length_drop, List.length_take]; rfl)) ?_; (with_reducible refine (Za4.calls k  t1017 _ A85.out).mono ?_); rintro e w95 ⟨rfl, hb⟩; refine ⟨_, rfl, ?_⟩; have n0_ := Zaa.mk (Kd.Zck (by (with_reducible repeat (first | apply Kd.Zb3 | apply Kd.Zb4 | apply Kd.Zb5)); exact (Kd.Zc1 (Kd.Zb7 (p := ⟨gb1016, 6, none⟩) (Kd.Zb7 (p := ⟨gb1016, 5, none⟩) (Kd.Zb7 (p := ⟨gb1016, 4, none⟩) (Kd.Zb7 (p := ⟨gb1016, 3, none⟩) (Kd.Zb7 (p := ⟨gb1016, 2, none⟩) (Kd.Zb7 (p := ⟨gb1016, 1, none⟩) (Kd.Zb7 (p := ⟨gb1016, 0, none⟩) (Kd.Zc2 HO1001.out BK1016.out (by decide)) (fun _ hk => hk.2) (.int .i64 t1002)) (fun _ hk => hk.2) (.slice Ao92 t1003.length co92)) (fun _ hk => hk.2) (.slice Ao93 t1006.length co93)) (fun _ hk => hk.2) (.int .i64 t1009)) (fun _ hk => hk.2) (.int .i64 t1010)) (fun _ hk => hk.2) (.slice Ao94 t1011.length co94)) (fun _ hk => hk.2) (.int .i64 t1014)) (fun _ h_ => h_.1))) hb); have n1_ := Zaa.mk (Kd.Zbs (by (with_reducible repeat (first | apply Kd.Zao | apply Kd.Zan | apply Kd.Zat)); exact (Kd.Zbj (Kd.Zbp (p := ⟨gb1016, 6, none⟩) (Kd.Zbp (p := ⟨gb1016, 5, none⟩) (Kd.Zbp (p := ⟨gb1016, 4, none⟩) (Kd.Zbp (p := ⟨gb1016, 3, none⟩) (Kd.Zbp (p := ⟨gb1016, 2, none⟩) (Kd.Zbp (p := ⟨gb1016, 1, none⟩) (Kd.Zbp (p := ⟨gb1016, 0, none⟩) (Kd.Zca HO1005.out BK1016.out (by decide)) (fun _ hk => hk.2) (.int .i64 t1002)) (fun _ hk => hk.2) (.slice Ao92 t1003.length co92)) (fun _ hk => hk.2) (.slice Ao93 t1006.length co93)) (fun _ hk => hk.2) (.int .i64 t1009)) (fun _ hk => hk.2) (.int .i64 t1010)) (fun _ hk => hk.2) (.slice Ao94 t1011.length co94)) (fun _ hk => hk.2) (.int .i64 t1014)) (fun _ h_ => h_.1))) hb); have n2_ := Zaa.mk (Kd.Zbs (by (with_reducible repeat (first | apply Kd.Zao | apply Kd.Zan | apply Kd.Zat)); exact (Kd.Zbj (Kd.Zbp (p := ⟨gb1016, 6, none⟩) (Kd.Zbp (p := ⟨gb1016, 5, none⟩) (Kd.Zbp (p := ⟨gb1016, 4, none⟩) (Kd.Zbp (p := ⟨gb1016, 3, none⟩) (Kd.Zbp (p := ⟨gb1016, 2, none⟩) (Kd.Zbp (p := ⟨gb1016, 1, none⟩) (Kd.Zbp (p := ⟨gb1016, 0, none⟩) (Kd.Zca HO1008.out BK1016.out (by decide)) (fun _ hk => hk.2) (.int .i64 t1002)) (fun _ hk => hk.2) (.slice Ao92 t1003.length co92)) (fun _ hk => hk.2) (.slice Ao93 t1006.length co93)) (fun _ hk => hk.2) (.int .i64 t1009)) (fun _ hk => hk.2) (.int .i64 t1010)) (fun _ hk => hk.2) (.slice Ao94 t1011.length co94)) (fun _ hk => hk.2) (.int .i64 t1014)) (fun _ h_ => h_.1))) hb); have n3_ := Zaa.mk (Kd.Zck (by (with_reducible repeat (first | apply Kd.Zb3 | apply Kd.Zb4 | apply Kd.Zb5)); exact (Kd.Zc1 (Kd.Zb7 (p := ⟨gb1016, 6, none⟩) (Kd.Zb7 (p := ⟨gb1016, 5, none⟩) (Kd.Zb7 (p := ⟨gb1016, 4, none⟩) (Kd.Zb7 (p := ⟨gb1016, 3, none⟩) (Kd.Zb7 (p := ⟨gb1016, 2, none⟩) (Kd.Zb7 (p := ⟨gb1016, 1, none⟩) (Kd.Zb7 (p := ⟨gb1016, 0, none⟩) (Kd.Zc2 HO1013.out BK1016.out (by decide)) (fun _ hk => hk.2) (.int .i64 t1002)) (fun _ hk => hk.2) (.slice Ao92 t1003.length co92)) (fun _ hk => hk.2) (.slice Ao93 t1006.length co93)) (fun _ hk => hk.2) (.int .i64 t1009)) (fun _ hk => hk.2) (.int .i64 t1010)) (fun _ hk => hk.2) (.slice Ao94 t1011.length co94)) (fun _ hk => hk.2) (.int .i64 t1014)) (fun _ h_ => h_.1))) hb); have n4_ := Zaa.mk (Zbe (g := gb998) (o := .cells #[.slice A0_0 l0_0.length c0_0, .int .i64 a0_1, .slice A0_2 l0_2.length c0_2, .slice A0_3 l0_3.length c0_3, .int .i64 a0_4, .int .i64 a0_5, .slice A0_6 l0_6.length c0_6, .int .i64 a0_7, .slice A0_8 l0_8.length c0_8, .slice A0_9 l0_9.length c0_9] 27 (0, 0)) (by (with_reducible repeat (first | refine Zaf ?_ _ | refine Zaj ?_ | refine Zae ?_ _)); refine Zb1 ?_ NB998_1016.out _; (with_reducible repeat (first | refine Zaf ?_ _ | refine Zaj ?_ | refine Zae ?_ _)); refine Zb1 ?_ NB998_1016.out _; (with_reducible repeat (first | refine Zaf ?_ _ | refine Zaj ?_ | refine Zae ?_ _)); refine Zb1 ?_ NB998_1016.out _; (with_reducible repeat (first | refine Zaf ?_ _ | refine Zaj ?_ | refine Zae ?_ _)); refine Zb1 ?_ NB998_1016.out _; (with_reducible repeat (first | refine Zaf ?_ _ | refine Zaj ?_ | refine Zae ?_ _)); refine Zb1 ?_ NB998_1016.out _; (with_reducible repeat (first | refine Zaf ?_ _ | refine Zaj ?_ | refine Zae ?_ _)); refine Zb1 ?_ NB998_1016.out _; (with_reducible repeat (first | refine Zaf ?_ _ | refine Zaj ?_ | refine Zae ?_ _)); refine Zb1 ?_ NB998_1016.out _; (with_reducible repeat (first | refine Zaf ?_ _ | refine Zaj ?_ | refine Zae ?_ _)); exact BK998.out) hb); have n5_ := Zaa.mk (Zbe (g := gb1016) (o := .cells #[.int .i64 t1002, .slice Ao92 t1003.length co92, .slice Ao93 t1006.length co93, .int .i64 t1009, .int .i64 t1010, .slice Ao94 t1011.length co94, .int .i64 t1014] 25 (0, 0)) (by (with_reducible repeat (first | refine Zaf ?_ _ | refine Zaj ?_ | refine Zae ?_ _)); refine Zbo (cs := #[.int .i64 t1002, .slice Ao92 t1003.length co92, .slice Ao93 t1006.length co93, .int .i64 t1009, .int .i64 t1010, .slice Ao94 t1011.length co94, .int .i64 0]) ?_ 6 _ rfl; (with_reducible repeat (first | refine Zaf ?_ _ | refine Zaj ?_ | refine Zae ?_ _)); refine Zbo (cs := #[.int .i64 t1002, .slice Ao92 t1003.length co92, .slice Ao93 t1006.length co93, .int .i64 t1009, .int .i64 t1010, .slice none 0 0, .int .i64 0]) ?_ 5 _ rfl; (with_reducible repeat (first | refine Zaf ?_ _ | refine Zaj ?_ | refine Zae ?_ _)); refine Zbo (cs := #[.int .i64 t1002, .slice Ao92 t1003.length co92, .slice Ao93 t1006.length co93, .int .i64 t1009, .int .i64 0, .slice none 0 0, .int .i64 0]) ?_ 4 _ rfl; (with_reducible repeat (first | refine Zaf ?_ _ | refine Zaj ?_ | refine Zae ?_ _)); refine Zbo (cs := #[.int .i64 t1002, .slice Ao92 t1003.length co92, .slice Ao93 t1006.length co93, .int .i64 0, .int .i64 0, .slice none 0 0, .int .i64 0]) ?_ 3 _ rfl; (with_reducible repeat (first | refine Zaf ?_ _ | refine Zaj ?_ | refine Zae ?_ _)); refine Zbo (cs := #[.int .i64 t1002, .slice Ao92 t1003.length co92, .slice none 0 0, .int .i64 0, .int .i64 0, .slice none 0 0, .int .i64 0]) ?_ 2 _ rfl; (with_reducible repeat (first | refine Zaf ?_ _ | refine Zaj ?_ | refine Zae ?_ _)); refine Zbo (cs := #[.int .i64 t1002, .slice none 0 0, .slice none 0 0, .int .i64 0, .int .i64 0, .slice none 0 0, .int .i64 0]) ?_ 1 _ rfl; (with_reducible repeat (first | refine Zaf ?_ _ | refine Zaj ?_ | refine Zae ?_ _)); refine Zbo (cs := #[.int .i64 0, .slice none 0 0, .slice none 0 0, .int .i64 0, .int .i64 0, .slice none 0 0, .int .i64 0]) ?_ 0 _ rfl; (with_reducible repeat (first | refine Zaf ?_ _ | refine Zaj ?_ | refine Zae ?_ _)); exact BK1016.out) hb); have n6_ := Zaa.mk (Zaz (by repeat (first | (with_reducible first | exact HB.out | apply Zab | apply Za | apply Zac | refine Zag ?_ GE998.out | refine Zag ?_ GE1016.out) | exact HB.out)) hb); clear HO1001; clear HO1005; clear HO1008; clear HO1013; clear BK998; clear BK1016; clear HB; have HO1001 := n0_; have HO1005 := n1_; have HO1008 := n2_; have HO1013 := n3_; have BK998 := n4_; have BK1016 := n5_; have HB := n6_; clear n0_ n1_ n2_ n3_ n4_ n5_ n6_; (try clear hb); (try clear hb2); (try clear hk); (try clear hi)))
  go_ret
  exact ⟨by first | rfl | (simp [Za7, Za8] <;> rfl) | (simp [*, Za7, Za8] <;> rfl), by repeat (first | (with_reducible first | exact HB.out | apply Zab | apply Za | apply Zac | refine Zag ?_ GE998.out | refine Zag ?_ GE1016.out) | exact HB.out)⟩

 subst c4
 have H1 : (if (wrap64 ((t1003.length : Int) - 2)) = 0 then (none) else (if 0 < (t1003.length : Int) then (if 0 ≤ (rd t1003 0) then (if (rd t1003 0) < (t999.length : Int) then ((some (t999.set ((rd t1003 0) : Int).toNat (([(⟨Int.tmod (Go.bits .and .i64 a1 65535) (wrap64 ((t1003.length : Int) - 2)), Int.tmod (Go.bits .and .i64 a1 65535) (wrap64 ((t1003.length : Int) - 2))⟩ : S41)] : List (S41))) : List (List (S41)))).bind fun y1022 => ((Zah.f k y1022 t1002 t1003 t1006 t1009 t1010 t1011 t1014).bind fun bt1023 => (if 1 < (t1003.length : Int) then (if 0 ≤ (rd t1003 1) then (if (rd t1003 1) < (t999.length : Int) then (if 0 ≤ (wrap64 (2 + (Int.tmod (Go.bits .and .i64 a1 65535) (wrap64 ((t1003.length : Int) - 2))))) then (if (wrap64 (2 + (Int.tmod (Go.bits .and .i64 a1 65535) (wrap64 ((t1003.length : Int) - 2))))) < (t1003.length : Int) then (if 0 ≤ (rd t1003 (wrap64 (2 + (Int.tmod (Go.bits .and .i64 a1 65535) (wrap64 ((t1003.length : Int) - 2)))))) then (if (rd t1003 (wrap64 (2 + (Int.tmod (Go.bits .and .i64 a1 65535) (wrap64 ((t1003.length : Int) - 2)))))) < (t999.length : Int) then ((Za0.f k (Zb8 y1022 (rd t1003 1)) (Zb8 y1022 (rd t1003 (wrap64 (2 + (Int.tmod (Go.bits .and .i64 a1 65535) (wrap64 ((t1003.length : Int) - 2))))))) true).bind fun t1031 => (Zad.l0 k y1022 (Int.tmod (Go.bits .and .i64 a1 65535) (wrap64 ((t1003.length : Int) - 2))) bt1023.1 bt1023.2 t1031 0 t1002 t1003 t1006 t1009 t1010 t1011 t1014)) else (none)) else (none)) else (none)) else (none)) else (none)) else (none)) else (none)))) else (none)) else (none)) else (none))) = some r := by rw [if_pos rfl] at H; exact H
 clear H
 have H := H1
 clear H1
 by_cases c5 : (wrap64 ((t1003.length : Int) - 2)) = 0
 ·rw [if_pos c5] at H
  exact absurd H (by simp)
 rw [if_neg c5] at H
 have c5b0 : ((wrap64 ((t1003.length : Int) - 2)) == 0) = false := beq_eq_false_iff_ne.mpr c5
 have c5b1 : ((wrap64 ((t1003.length : Int) - 2)) != 0) = true := bne_iff_ne.mpr c5
 by_cases c6 : 0 < (t1003.length : Int)
 rotate_left
 ·rw [if_neg c6] at H
  exact absurd H (by simp)
 rw [if_pos c6] at H
 have c6b0 : decide (0 < (t1003.length : Int)) = true := decide_eq_true c6
 have c6b1 : decide (0 < t1003.length) = true := decide_eq_true (by omega)
 clear c6
 obtain ⟨y1019, hy1019⟩ : ∃ y_ : List (S41), y_ = (([(⟨Int.tmod (Go.bits .and .i64 a1 65535) (wrap64 ((t1003.length : Int) - 2)), Int.tmod (Go.bits .and .i64 a1 65535) (wrap64 ((t1003.length : Int) - 2))⟩ : S41)] : List (S41))) := ⟨_, rfl⟩
 replace H : (if 0 ≤ (rd t1003 0) then (if (rd t1003 0) < (t999.length : Int) then ((some (t999.set ((rd t1003 0) : Int).toNat y1019 : List (List (S41)))).bind fun y1022 => ((Zah.f k y1022 t1002 t1003 t1006 t1009 t1010 t1011 t1014).bind fun bt1023 => (if 1 < (t1003.length : Int) then (if 0 ≤ (rd t1003 1) then (if (rd t1003 1) < (t999.length : Int) then (if 0 ≤ (wrap64 (2 + (Int.tmod (Go.bits .and .i64 a1 65535) (wrap64 ((t1003.length : Int) - 2))))) then (if (wrap64 (2 + (Int.tmod (Go.bits .and .i64 a1 65535) (wrap64 ((t1003.length : Int) - 2))))) < (t1003.length : Int) then (if 0 ≤ (rd t1003 (wrap64 (2 + (Int.tmod (Go.bits .and .i64 a1 65535) (wrap64 ((t1003.length : Int) - 2)))))) then (if (rd t1003 (wrap64 (2 + (Int.tmod (Go.bits .and .i64 a1 65535) (wrap64 ((t1003.length : Int) - 2)))))) < (t999.length : Int) then ((Za0.f k (Zb8 y1022 (rd t1003 1)) (Zb8 y1022 (rd t1003 (wrap64 (2 + (Int.tmod (Go.bits .and .i64 a1 65535) (wrap64 ((t1003.length : Int) - 2))))))) true).bind fun t1031 => (Zad.l0 k y1022 (Int.tmod (Go.bits .and .i64 a1 65535) (wrap64 ((t1003.length : Int) - 2))) bt1023.1 bt1023.2 t1031 0 t1002 t1003 t1006 t1009 t1010 t1011 t1014)) else (none)) else (none)) else (none)) else (none)) else (none)) else (none)) else (none)))) else (none)) else (none)) = some r := by first | (rw [hy1019]; with_reducible exact H) | (have H2_ := (Option.bind_some _ _).symm.trans H; rw [hy1019]; with_reducible exact H2_) | (have H2_ := (Option.bind_some _ _).symm.trans H; with_reducible exact H2_) | with_reducible exact H | (rw [hy1019]; exact H) | exact H
 have Ny1019 := Zaa.mk hy1019
 clear hy1019
 by_cases c7 : 0 ≤ (rd t1003 0)
 rotate_left
 ·rw [if_neg c7] at H
  exact absurd H (by simp)
 rw [if_pos c7] at H
 have c7b0 : decide (0 ≤ (rd t1003 0)) = true := decide_eq_true c7
 clear c7
 by_cases c8 : (rd t1003 0) < (t999.length : Int)
 rotate_left
 ·rw [if_neg c8] at H
  exact absurd H (by simp)
 rw [if_pos c8] at H
 have c8b0 : decide ((rd t1003 0) < (t999.length : Int)) = true := decide_eq_true c8
 clear c8
 obtain ⟨y1022, hy1022⟩ : ∃ y_ : List (List (S41)), y_ = (t999.set ((rd t1003 0) : Int).toNat y1019) := ⟨_, rfl⟩
 replace H : ((Zah.f k y1022 t1002 t1003 t1006 t1009 t1010 t1011 t1014).bind fun bt1023 => (if 1 < (t1003.length : Int) then (if 0 ≤ (rd t1003 1) then (if (rd t1003 1) < (t999.length : Int) then (if 0 ≤ (wrap64 (2 + (Int.tmod (Go.bits .and .i64 a1 65535) (wrap64 ((t1003.length : Int) - 2))))) then (if (wrap64 (2 + (Int.tmod (Go.bits .and .i64 a1 65535) (wrap64 ((t1003.length : Int) - 2))))) < (t1003.length : Int) then (if 0 ≤ (rd t1003 (wrap64 (2 + (Int.tmod (Go.bits .and .i64 a1 65535) (wrap64 ((t1003.length : Int) - 2)))))) then (if (rd t1003 (wrap64 (2 + (Int.tmod (Go.bits .and .i64 a1 65535) (wrap64 ((t1003.length : Int) - 2)))))) < (t999.length : Int) then ((Za0.f k (Zb8 y1022 (rd t1003 1)) (Zb8 y1022 (rd t1003 (wrap64 (2 + (Int.tmod (Go.bits .and .i64 a1 65535) (wrap64 ((t1003.length : Int) - 2))))))) true).bind fun t1031 => (Zad.l0 k y1022 (Int.tmod (Go.bits .and .i64 a1 65535) (wrap64 ((t1003.length : Int) - 2))) bt1023.1 bt1023.2 t1031 0 t1002 t1003 t1006 t1009 t1010 t1011 t1014)) else (none)) else (none)) else (none)) else (none)) else (none)) else (none)) else (none))) = some r := by first | (rw [hy1022]; with_reducible exact H) | (have H2_ := (Option.bind_some _ _).symm.trans H; rw [hy1022]; with_reducible exact H2_) | (have H2_ := (Option.bind_some _ _).symm.trans H; with_reducible exact H2_) | with_reducible exact H | (rw [hy1022]; exact H) | exact H
 have Ny1022 := Zaa.mk hy1022
 clear hy1022
 replace H := Option.bind_eq_some_iff.mp H
 obtain ⟨⟨t1023, t1026⟩, A100, H⟩ := H
 replace H : (if 1 < (t1003.length : Int) then (if 0 ≤ (rd t1003 1) then (if (rd t1003 1) < (t999.length : Int) then (if 0 ≤ (wrap64 (2 + (Int.tmod (Go.bits .and .i64 a1 65535) (wrap64 ((t1003.length : Int) - 2))))) then (if (wrap64 (2 + (Int.tmod (Go.bits .and .i64 a1 65535) (wrap64 ((t1003.length : Int) - 2))))) < (t1003.length : Int) then (if 0 ≤ (rd t1003 (wrap64 (2 + (Int.tmod (Go.bits .and .i64 a1 65535) (wrap64 ((t1003.length : Int) - 2)))))) then (if (rd t1003 (wrap64 (2 + (Int.tmod (Go.bits .and .i64 a1 65535) (wrap64 ((t1003.length : Int) - 2)))))) < (t999.length : Int) then ((Za0.f k (Zb8 y1022 (rd t1003 1)) (Zb8 y1022 (rd t1003 (wrap64 (2 + (Int.tmod (Go.bits .and .i64 a1 65535) (wrap64 ((t1003.length : Int) - 2))))))) true).bind fun t1031 => (Zad.l0 k y1022 (Int.tmod (Go.bits .and .i64 a1 65535) (wrap64 ((t1003.length : Int) - 2))) t1023 t1026 t1031 0 t1002 t1003 t1006 t1009 t1010 t1011 t1014)) else (none)) else (none)) else (none)) else (none)) else (none)) else (none)) else (none)) = some r := H
 have A10 := Zaa.mk A100
 clear A100
 by_cases c11 : 1 < (t1003.length : Int)
 rotate_left
 ·rw [if_neg c11] at H
  exact absurd H (by simp)
 rw [if_pos c11] at H
 have c11b0 : decide (1 < (t1003.length : Int)) = true := decide_eq_true c11
 have c11b1 : decide (1 < t1003.length) = true := decide_eq_true (by omega)
 clear c11
 by_cases c12 : 0 ≤ (rd t1003 1)
 rotate_left
 ·rw [if_neg c12] at H
  exact absurd H (by simp)
 rw [if_pos c12] at H
 have c12b0 : decide (0 ≤ (rd t1003 1)) = true := decide_eq_true c12
 clear c12
 by_cases c13 : (rd t1003 1) < (t999.length : Int)
 rotate_left
 ·rw [if_neg c13] at H
  exact absurd H (by simp)
 rw [if_pos c13] at H
 have c13b0 : decide ((rd t1003 1) < (t999.length : Int)) = true := decide_eq_true c13
 clear c13
 obtain ⟨ji14, hji14⟩ : ∃ j_ : Int, (wrap64 (2 + (Int.tmod (Go.bits .and .i64 a1 65535) (wrap64 ((t1003.length : Int) - 2))))) = j_ := ⟨_, rfl⟩
 replace H : (if 0 ≤ (ji14) then (if (ji14) < (t1003.length : Int) then (if 0 ≤ (rd t1003 (ji14)) then (if (rd t1003 (ji14)) < (t999.length : Int) then ((Za0.f k (Zb8 y1022 (rd t1003 1)) (Zb8 y1022 (rd t1003 (ji14))) true).bind fun t1031 => (Zad.l0 k y1022 (Int.tmod (Go.bits .and .i64 a1 65535) (wrap64 ((t1003.length : Int) - 2))) t1023 t1026 t1031 0 t1002 t1003 t1006 t1009 t1010 t1011 t1014)) else (none)) else (none)) else (none)) else (none)) = some r := by first | (rw [hji14] at H; exact H) | (simp only [hji14] at H ⊢; exact H)
 (try rw [hji14] at A3)
 (try rw [hji14] at A10)
 have hji14w : (IntKind.i64.wrap (2 + (Int.tmod (Go.bits .and .i64 a1 65535) (wrap64 ((t1003.length : Int) - 2))))) = ji14 := (Za5 _).trans hji14
 by_cases c15 : 0 ≤ (ji14)
 rotate_left
 ·rw [if_neg c15] at H
  exact absurd H (by simp)
 rw [if_pos c15] at H
 have c15b0 : decide (0 ≤ (ji14)) = true := decide_eq_true c15
 clear c15
 by_cases c16 : (ji14) < (t1003.length : Int)
 rotate_left
 ·rw [if_neg c16] at H
  exact absurd H (by simp)
 rw [if_pos c16] at H
 have c16b0 : decide ((ji14) < (t1003.length : Int)) = true := decide_eq_true c16
 clear c16
 by_cases c17 : 0 ≤ (rd t1003 (ji14))
 rotate_left
 ·rw [if_neg c17] at H
  exact absurd H (by simp)
 rw [if_pos c17] at H
 have c17b0 : decide (0 ≤ (rd t1003 (ji14))) = true := decide_eq_true c17
 clear c17
 by_cases c18 : (rd t1003 (ji14)) < (t999.length : Int)
 rotate_left
 ·rw [if_neg c18] at H
  exact absurd H (by simp)
 rw [if_pos c18] at H
 have c18b0 : decide ((rd t1003 (ji14)) < (t999.length : Int)) = true := decide_eq_true c18
 clear c18
 replace H := Option.bind_eq_some_iff.mp H
 obtain ⟨t1031, A190, H⟩ := H
 replace H : (Zad.l0 k y1022 (Int.tmod (Go.bits .and .i64 a1 65535) (wrap64 ((t1003.length : Int) - 2))) t1023 t1026 t1031 0 t1002 t1003 t1006 t1009 t1010 t1011 t1014) = some r := H
 have A19 := Zaa.mk A190
 clear A190
 have H' := Zaa.mk H
 clear H
 go_enter Try.func11, Try.ntmps11
 try go_wp2_with (first | ((with_reducible refine Zbt (N := 2) rfl ?_); (try (refine Zcx (by rfl) ?_; dsimp only)); refine Zcj ?hg (N := 2) ?hd (cs := #[.slice A0_0 l0_0.length c0_0, .int .i64 a0_1, .slice A0_2 l0_2.length c0_2, .slice A0_3 l0_3.length c0_3, .int .i64 a0_4, .int .i64 a0_5, .slice A0_6 l0_6.length c0_6, .int .i64 a0_7, .slice A0_8 l0_8.length c0_8, .slice A0_9 l0_9.length c0_9]) (t := 27) ?hr ?_; (case hd => rfl); (case hg => rfl); (case hr => first | (go_simp; done) | (go_simp; rfl)); intro gb998 hg w20 hbox hb; have n0_ := Zaa.mk (Zaz (by repeat (first | (with_reducible first | exact HB.out | apply Zab | apply Za | apply Zac) | exact HB.out)) hb); have n1_ := Zaa.mk (hbox); have n2_ := Zaa.mk ((by rw [hg]; exact (Zal (by repeat (first | (with_reducible first | exact HB.out | apply Zab | apply Za | apply Zac) | exact HB.out))) : w.heap.size ≤ gb998)); have n3_ := Zaa.mk ((by rw [hg]; exact (Zal (by repeat (first | (with_reducible first | exact HB.out | apply Zab | apply Za | apply Zac) | exact HB.out))) : w.heap.size ≤ gb998)); clear HB; have HB := n0_; have BK998 := n1_; have GW998 := n2_; have GE998 := n3_; clear n0_ n1_ n2_ n3_; clear hb hbox hg; obtain ⟨hcz21_0, hcz21_1, hcz21_2, hcz21_3, hcz21_4, hcz21_5, hcz21_6, hcz21_7, hcz21_8, hcz21_9, hfz21_0, hfz21_1, hfz21_2, hfz21_3, hfz21_4, hfz21_5, hfz21_6, hfz21_7, hfz21_8, hfz21_9⟩ := blks10 BK998.out) | ((with_reducible refine Zbv (f := 14) rfl ?_); refine Zcw (some 16) rfl rfl Try.func14 (by kernel_rfl) rfl #[.agg #[.slice A0_0 l0_0.length c0_0, .int .i64 a0_1, .slice A0_2 l0_2.length c0_2, .slice A0_3 l0_3.length c0_3, .int .i64 a0_4, .int .i64 a0_5, .slice A0_6 l0_6.length c0_6, .int .i64 a0_7, .slice A0_8 l0_8.length c0_8, .slice A0_9 l0_9.length c0_9], .int .i64 3] rfl (by (try simp only [List.map_toArray, List.map_cons, List.map_nil]); first | done | rfl | (simp only [List.length_drop, List.length_take]; rfl)) ?_; (with_reducible refine (Zap.calls k _ _ l0_0 a0_1 _ _ l0_2 _ _ l0_3 a0_4 a0_5 _ _ l0_6 a0_7 _ _ l0_8 _ _ l0_9 3 t999 t1002 t1003 t1006 t1009 t1010 t1011 t1014 true _ ?side1 ?side2 ?side3 ?side4 ?side5 ?side6 ?side7 ?side8 ?side9 ?side10 ?side11 ?side12 A3.out).mono ?_); (case side1 => repeat (first | exact (Kd.Zbn HR0_0.out HB.out) | (with_reducible refine Kd.Zbc ?_ _) | (with_reducible refine Kd.Zba ?_ _) | (with_reducible refine Kd.Zbh ?_))); (case side2 => exact HC0_0.out); (case side3 => repeat (first | exact (Kd.Zbn HR0_2.out HB.out) | (with_reducible refine Kd.Zbc ?_ _) | (with_reducible refine Kd.Zba ?_ _) | (with_reducible refine Kd.Zbh ?_))); (case side4 => exact HC0_2.out); (case side5 => repeat (first | exact (Kd.Zbn HR0_3.out HB.out) | (with_reducible refine Kd.Zbc ?_ _) | (with_reducible refine Kd.Zba ?_ _) | (with_reducible refine Kd.Zbh ?_))); (case side6 => exact HC0_3.out); (case side7 => repeat (first | exact (Kd.Zbn HR0_6.out HB.out) | (with_reducible refine Kd.Zbc ?_ _) | (with_reducible refine Kd.Zba ?_ _) | (with_reducible refine Kd.Zbh ?_))); (case side8 => exact HC0_6.out); (case side9 => repeat (first | exact (Kd.Zbn HR0_8.out HB.out) | (with_reducible refine Kd.Zbc ?_ _) | (with_reducible refine Kd.Zba ?_ _) | (with_reducible refine Kd.Zbh ?_))); (case side10 => exact HC0_8.out); (case side11 => repeat (first | exact (Kd.Zbn HR0_9.out HB.out) | (with_reducible refine Kd.Zbc ?_ _) | (with_reducible refine Kd.Zba ?_ _) | (with_reducible refine Kd.Zbh ?_))); (case side12 => exact HC0_9.out); rintro e w22 ⟨v1000, v1004, v1007, v1012, rfl, ho0, ho1, ho2, ho3, hb⟩; refine ⟨_, rfl, ?_⟩; have n0_ := Zaa.mk (Kd.Zd5 ho0 (Zal (by repeat (first | (with_reducible first | exact HB.out | apply Zab | apply Za | apply Zac | refine Zag ?_ GE998.out) | exact HB.out)))); have n1_ := Zaa.mk (Kd.Zby ho1 (Zal (by repeat (first | (with_reducible first | exact HB.out | apply Zab | apply Za | apply Zac | refine Zag ?_ GE998.out) | exact HB.out)))); have n2_ := Zaa.mk (Kd.Zby ho2 (Zal (by repeat (first | (with_reducible first | exact HB.out | apply Zab | apply Za | apply Zac | refine Zag ?_ GE998.out) | exact HB.out)))); have n3_ := Zaa.mk (Kd.Zd5 ho3 (Zal (by repeat (first | (with_reducible first | exact HB.out | apply Zab | apply Za | apply Zac | refine Zag ?_ GE998.out) | exact HB.out)))); have n4_ := Zaa.mk (Zbe (g := gb998) (o := .cells #[.slice A0_0 l0_0.length c0_0, .int .i64 a0_1, .slice A0_2 l0_2.length c0_2, .slice A0_3 l0_3.length c0_3, .int .i64 a0_4, .int .i64 a0_5, .slice A0_6 l0_6.length c0_6, .int .i64 a0_7, .slice A0_8 l0_8.length c0_8, .slice A0_9 l0_9.length c0_9] 27 (0, 0)) (mvK BK998.out) hb); have n5_ := Zaa.mk (Zaz (by repeat (first | (with_reducible first | exact HB.out | apply Zab | apply Za | apply Zac | refine Zag ?_ GE998.out) | exact HB.out)) hb); clear BK998; clear HB; have HO1001 := n0_; have HO1005 := n1_; have HO1008 := n2_; have HO1013 := n3_; have BK998 := n4_; have HB := n5_; clear n0_ n1_ n2_ n3_ n4_ n5_; (try clear hb); (try clear hb2); (try clear hk); (try clear hi); (try clear ho0); (try clear ho1); (try clear ho2); (try clear ho3)) | ((with_reducible refine Zbt (N := 6) rfl ?_); (try (refine Zcx (by rfl) ?_; dsimp only)); refine Zcj ?hg (N := 6) ?hd (cs := #[.int .i64 0, .slice none 0 0, .slice none 0 0, .int .i64 0, .int .i64 0, .slice none 0 0, .int .i64 0]) (t := 25) ?hr ?_; (case hd => rfl); (case hg => rfl); (case hr => first | (go_simp; done) | (go_simp; rfl)); intro gb1016 hg w23 hbox hb; have n0_ := Zaa.mk (Kd.Zck (mvS HO1001.out) hb); have n1_ := Zaa.mk (Kd.Zbs (mvR HO1005.out) hb); have n2_ := Zaa.mk (Kd.Zbs (mvR HO1008.out) hb); have n3_ := Zaa.mk (Kd.Zck (mvS HO1013.out) hb); have n4_ := Zaa.mk (Zbe (g := gb998) (o := .cells #[.slice A0_0 l0_0.length c0_0, .int .i64 a0_1, .slice A0_2 l0_2.length c0_2, .slice A0_3 l0_3.length c0_3, .int .i64 a0_4, .int .i64 a0_5, .slice A0_6 l0_6.length c0_6, .int .i64 a0_7, .slice A0_8 l0_8.length c0_8, .slice A0_9 l0_9.length c0_9] 27 (0, 0)) (mvK BK998.out) hb); have n5_ := Zaa.mk (Zaz (by repeat (first | (with_reducible first | exact HB.out | apply Zab | apply Za | apply Zac | refine Zag ?_ GE998.out) | exact HB.out)) hb); have n6_ := Zaa.mk (hbox); have n7_ := Zaa.mk ((by rw [hg]; exact (Zal (by repeat (first | (with_reducible first | exact HB.out | apply Zab | apply Za | apply Zac | refine Zag ?_ GE998.out) | exact HB.out))) : w.heap.size ≤ gb1016)); have n8_ := Zaa.mk ((by rw [hg]; exact (Zal (by repeat (first | (with_reducible first | exact HB.out | apply Zab | apply Za | apply Zac | refine Zag ?_ GE998.out) | exact HB.out))) : w.heap.size ≤ gb1016)); have n9_ := Zaa.mk ((by rw [hg]; exact Nat.ne_of_lt (Zdj (g := gb998) (o := .cells #[.slice A0_0 l0_0.length c0_0, .int .i64 a0_1, .slice A0_2 l0_2.length c0_2, .slice A0_3 l0_3.length c0_3, .int .i64 a0_4, .int .i64 a0_5, .slice A0_6 l0_6.length c0_6, .int .i64 a0_7, .slice A0_8 l0_8.length c0_8, .slice A0_9 l0_9.length c0_9] 27 (0, 0)) (mvK BK998.out)) : gb998 ≠ gb1016)); have n10_ := Zaa.mk ((by rw [hg]; exact Nat.ne_of_gt (Zdj (g := gb998) (o := .cells #[.slice A0_0 l0_0.length c0_0, .int .i64 a0_1, .slice A0_2 l0_2.length c0_2, .slice A0_3 l0_3.length c0_3, .int .i64 a0_4, .int .i64 a0_5, .slice A0_6 l0_6.length c0_6, .int .i64 a0_7, .slice A0_8 l0_8.length c0_8, .slice A0_9 l0_9.length c0_9] 27 (0, 0)) (mvK BK998.out)) : gb1016 ≠ gb998)); clear HO1001; clear HO1005; clear HO1008; clear HO1013; clear BK998; clear HB; have HO1001 := n0_; have HO1005 := n1_; have HO1008 := n2_; have HO1013 := n3_; have BK998 := n4_; have HB := n5_; have BK1016 := n6_; have GW1016 := n7_; have GE1016 := n8_; have NB998_1016 := n9_; have NB1016_998 := n10_; clear n0_ n1_ n2_ n3_ n4_ n5_ n6_ n7_ n8_ n9_ n10_; clear hb hbox hg; have hnb24 := NB1016_998.out; have hnc24 := NB998_1016.out; obtain ⟨hcz25_0, hcz25_1, hcz25_2, hcz25_3, hcz25_4, hcz25_5, hcz25_6, hfz25_0, hfz25_1, hfz25_2, hfz25_3, hfz25_4, hfz25_5, hfz25_6⟩ := Zcu BK1016.out; obtain ⟨Ao26, co26, eo26⟩ := Kd.Zbr HO1005.out; subst eo26; obtain ⟨Ao27, co27, eo27⟩ := Kd.Zbr HO1008.out; subst eo27; obtain ⟨Ao28, co28, eo28⟩ := Kd.Zd9 HO1013.out; subst eo28; have p1018 : 0 ≤ (0 : Int) := (by omega); have q1018 : 0 < (t1003.length : Int) := of_decide_eq_true (by first | (with_reducible assumption) | assumption); obtain ⟨ad1018, e1018, hx1018_0⟩ := Kd.Zb2 (Kd.Zbb HO1005.out).2.2 0 p1018 q1018; cases e1018; have qi1018 : (0 < t1003.length) = True := eq_true (by omega); (try rw [show ((0 : Int)).toNat = 0 from rfl] at hx1018_0); (try rw [Addr.add_zero'] at hx1018_0); have hn1018_0 : ad1018.block ≠ gb1016 := Kd.Ze1 (Kd.R_ne HO1005.out BK1016.out (by decide)); have hn1018_1 : ad1018.block ≠ gb1016 := Kd.Ze1 (Kd.R_ne HO1005.out BK1016.out (by decide)); have hn1018_2 : ad1018.block ≠ gb1016 := Kd.Ze1 (Kd.R_ne HO1005.out BK1016.out (by decide)); have hn1018_3 : ad1018.block ≠ gb1016 := Kd.Ze1 (Kd.R_ne HO1005.out BK1016.out (by decide)); have hn1018_4 : ad1018.block ≠ gb1016 := Kd.Ze1 (Kd.R_ne HO1005.out BK1016.out (by decide)); have hn1018_5 : ad1018.block ≠ gb1016 := Kd.Ze1 (Kd.R_ne HO1005.out BK1016.out (by decide)); have hn1018_6 : ad1018.block ≠ gb1016 := Kd.Ze1 (Kd.R_ne HO1005.out BK1016.out (by decide)); replace hx1018_0 := (cell_far (p := ⟨gb1016, 0, none⟩) (by first | (rw [add_block]; exact hn1018_0) | (show (Addr.add _ _).block ≠ _; rw [add_block]; exact hn1018_0) | exact hn1018_0) (.int .i64 t1002)).trans hx1018_0; replace hx1018_0 := (cell_far (p := ⟨gb1016, 1, none⟩) (by first | (rw [add_block]; exact hn1018_1) | (show (Addr.add _ _).block ≠ _; rw [add_block]; exact hn1018_1) | exact hn1018_1) (.slice (some ad1018) t1003.length co26)).trans hx1018_0; replace hx1018_0 := (cell_far (p := ⟨gb1016, 2, none⟩) (by first | (rw [add_block]; exact hn1018_2) | (show (Addr.add _ _).block ≠ _; rw [add_block]; exact hn1018_2) | exact hn1018_2) (.slice Ao27 t1006.length co27)).trans hx1018_0; replace hx1018_0 := (cell_far (p := ⟨gb1016, 3, none⟩) (by first | (rw [add_block]; exact hn1018_3) | (show (Addr.add _ _).block ≠ _; rw [add_block]; exact hn1018_3) | exact hn1018_3) (.int .i64 t1009)).trans hx1018_0; replace hx1018_0 := (cell_far (p := ⟨gb1016, 4, none⟩) (by first | (rw [add_block]; exact hn1018_4) | (show (Addr.add _ _).block ≠ _; rw [add_block]; exact hn1018_4) | exact hn1018_4) (.int .i64 t1010)).trans hx1018_0; replace hx1018_0 := (cell_far (p := ⟨gb1016, 5, none⟩) (by first | (rw [add_block]; exact hn1018_5) | (show (Addr.add _ _).block ≠ _; rw [add_block]; exact hn1018_5) | exact hn1018_5) (.slice Ao28 t1011.length co28)).trans hx1018_0; replace hx1018_0 := (cell_far (p := ⟨gb1016, 6, none⟩) (by first | (rw [add_block]; exact hn1018_6) | (show (Addr.add _ _).block ≠ _; rw [add_block]; exact hn1018_6) | exact hn1018_6) (.int .i64 t1014)).trans hx1018_0; clear hn1018_0; clear hn1018_1; clear hn1018_2; clear hn1018_3; clear hn1018_4; clear hn1018_5; clear hn1018_6; replace p1018 := eq_true p1018; replace q1018 := eq_true q1018) | ((with_reducible refine Zbt (N := 38) rfl ?_); (try (refine Zcx (by rfl) ?_; dsimp only)); refine Kd.Zdq k41 _ 41 ?hg (N := 38) ?hd (xs := ([(⟨Int.tmod (Go.bits .and .i64 a1 65535) (wrap64 ((t1003.length : Int) - 2)), Int.tmod (Go.bits .and .i64 a1 65535) (wrap64 ((t1003.length : Int) - 2))⟩ : S41)] : List (S41))) (inner := [.int .i64 (Int.tmod (Go.bits .and .i64 a1 65535) (wrap64 ((t1003.length : Int) - 2))), .int .i64 (Int.tmod (Go.bits .and .i64 a1 65535) (wrap64 ((t1003.length : Int) - 2)))]) (ok := fun _ => True) (okp := fun _ => True) ?hr ?hp (fun _ hk => hk) trivial (Below.refl _ _) (Nat.le_refl _) (by simp) ?_; (case hd => rfl); (case hg => rfl); (case hr => first | (go_simp; done) | (go_simp; rfl)); (case hp => exact (Reps.c2 (show Kd.M k41 _ _ _ (⟨Int.tmod (Go.bits .and .i64 a1 65535) (wrap64 ((t1003.length : Int) - 2)), Int.tmod (Go.bits .and .i64 a1 65535) (wrap64 ((t1003.length : Int) - 2))⟩ : S41) [.int .i64 (Int.tmod (Go.bits .and .i64 a1 65535) (wrap64 ((t1003.length : Int) - 2))), .int .i64 (Int.tmod (Go.bits .and .i64 a1 65535) (wrap64 ((t1003.length : Int) - 2)))] from (Zcp _ _ _ (⟨Int.tmod (Go.bits .and .i64 a1 65535) (wrap64 ((t1003.length : Int) - 2)), Int.tmod (Go.bits .and .i64 a1 65535) (wrap64 ((t1003.length : Int) - 2))⟩ : S41) )) (Reps.none _ _))); intro v1020 w29 ho30 hb hg_ hnew_; clear hg_ hnew_; (first | rw [← Ny1019.out] at ho30 | (simp only [Int.reduceToNat] at ho30; rw [← Ny1019.out] at ho30)); have n0_ := Zaa.mk (Kd.Zdr (by (with_reducible repeat (first | apply Kd.Zb3 | apply Kd.Zb4 | apply Kd.Zb5)); exact (Kd.Zc1 (Kd.Zb7 (p := ⟨gb1016, 6, none⟩) (Kd.Zb7 (p := ⟨gb1016, 5, none⟩) (Kd.Zb7 (p := ⟨gb1016, 4, none⟩) (Kd.Zb7 (p := ⟨gb1016, 3, none⟩) (Kd.Zb7 (p := ⟨gb1016, 2, none⟩) (Kd.Zb7 (p := ⟨gb1016, 1, none⟩) (Kd.Zb7 (p := ⟨gb1016, 0, none⟩) (Kd.Zc2 HO1001.out BK1016.out (by decide)) (fun _ hk => hk.2) (.int .i64 t1002)) (fun _ hk => hk.2) (.slice (some ad1018) t1003.length co26)) (fun _ hk => hk.2) (.slice Ao27 t1006.length co27)) (fun _ hk => hk.2) (.int .i64 t1009)) (fun _ hk => hk.2) (.int .i64 t1010)) (fun _ hk => hk.2) (.slice Ao28 t1011.length co28)) (fun _ hk => hk.2) (.int .i64 t1014)) (fun _ h_ => h_.1))) (Kd.Zcb ho30) hb); have n1_ := Zaa.mk (Kd.Zbs (by (with_reducible repeat (first | apply Kd.Zao | apply Kd.Zan | apply Kd.Zat)); exact (Kd.Zbj (Kd.Zbp (p := ⟨gb1016, 6, none⟩) (Kd.Zbp (p := ⟨gb1016, 5, none⟩) (Kd.Zbp (p := ⟨gb1016, 4, none⟩) (Kd.Zbp (p := ⟨gb1016, 3, none⟩) (Kd.Zbp (p := ⟨gb1016, 2, none⟩) (Kd.Zbp (p := ⟨gb1016, 1, none⟩) (Kd.Zbp (p := ⟨gb1016, 0, none⟩) (Kd.Zca HO1005.out BK1016.out (by decide)) (fun _ hk => hk.2) (.int .i64 t1002)) (fun _ hk => hk.2) (.slice (some ad1018) t1003.length co26)) (fun _ hk => hk.2) (.slice Ao27 t1006.length co27)) (fun _ hk => hk.2) (.int .i64 t1009)) (fun _ hk => hk.2) (.int .i64 t1010)) (fun _ hk => hk.2) (.slice Ao28 t1011.length co28)) (fun _ hk => hk.2) (.int .i64 t1014)) (fun _ h_ => h_.1))) hb); have n2_ := Zaa.mk (Kd.Zbs (by (with_reducible repeat (first | apply Kd.Zao | apply Kd.Zan | apply Kd.Zat)); exact (Kd.Zbj (Kd.Zbp (p := ⟨gb1016, 6, none⟩) (Kd.Zbp (p := ⟨gb1016, 5, none⟩) (Kd.Zbp (p := ⟨gb1016, 4, none⟩) (Kd.Zbp (p := ⟨gb1016, 3, none⟩) (Kd.Zbp (p := ⟨gb1016, 2, none⟩) (Kd.Zbp (p := ⟨gb1016, 1, none⟩) (Kd.Zbp (p := ⟨gb1016, 0, none⟩) (Kd.Zca HO1008.out BK1016.out (by decide)) (fun _ hk => hk.2) (.int .i64 t1002)) (fun _ hk => hk.2) (.slice (some ad1018) t1003.length co26)) (fun _ hk => hk.2) (.slice Ao27 t1006.length co27)) (fun _ hk => hk.2) (.int .i64 t1009)) (fun _ hk => hk.2) (.int .i64 t1010)) (fun _ hk => hk.2) (.slice Ao28 t1011.length co28)) (fun _ hk => hk.2) (.int .i64 t1014)) (fun _ h_ => h_.1))) hb); have n3_ := Zaa.mk (Kd.Zck (by (with_reducible repeat (first | apply Kd.Zb3 | apply Kd.Zb4 | apply Kd.Zb5)); exact (Kd.Zc1 (Kd.Zb7 (p := ⟨gb1016, 6, none⟩) (Kd.Zb7 (p := ⟨gb1016, 5, none⟩) (Kd.Zb7 (p := ⟨gb1016, 4, none⟩) (Kd.Zb7 (p := ⟨gb1016, 3, none⟩) (Kd.Zb7 (p := ⟨gb1016, 2, none⟩) (Kd.Zb7 (p := ⟨gb1016, 1, none⟩) (Kd.Zb7 (p := ⟨gb1016, 0, none⟩) (Kd.Zc2 HO1013.out BK1016.out (by decide)) (fun _ hk => hk.2) (.int .i64 t1002)) (fun _ hk => hk.2) (.slice (some ad1018) t1003.length co26)) (fun _ hk => hk.2) (.slice Ao27 t1006.length co27)) (fun _ hk => hk.2) (.int .i64 t1009)) (fun _ hk => hk.2) (.int .i64 t1010)) (fun _ hk => hk.2) (.slice Ao28 t1011.length co28)) (fun _ hk => hk.2) (.int .i64 t1014)) (fun _ h_ => h_.1))) hb); have n4_ := Zaa.mk (Kd.Zby ho30 (Zal (by repeat (first | (with_reducible first | exact HB.out | apply Zab | apply Za | apply Zac | refine Zag ?_ GE998.out | refine Zag ?_ GE1016.out) | exact HB.out)))); have n5_ := Zaa.mk (Zbe (g := gb998) (o := .cells #[.slice A0_0 l0_0.length c0_0, .int .i64 a0_1, .slice A0_2 l0_2.length c0_2, .slice A0_3 l0_3.length c0_3, .int .i64 a0_4, .int .i64 a0_5, .slice A0_6 l0_6.length c0_6, .int .i64 a0_7, .slice A0_8 l0_8.length c0_8, .slice A0_9 l0_9.length c0_9] 27 (0, 0)) (by (with_reducible repeat (first | refine Zaf ?_ _ | refine Zaj ?_ | refine Zae ?_ _)); refine Zb1 ?_ NB998_1016.out _; (with_reducible repeat (first | refine Zaf ?_ _ | refine Zaj ?_ | refine Zae ?_ _)); refine Zb1 ?_ NB998_1016.out _; (with_reducible repeat (first | refine Zaf ?_ _ | refine Zaj ?_ | refine Zae ?_ _)); refine Zb1 ?_ NB998_1016.out _; (with_reducible repeat (first | refine Zaf ?_ _ | refine Zaj ?_ | refine Zae ?_ _)); refine Zb1 ?_ NB998_1016.out _; (with_reducible repeat (first | refine Zaf ?_ _ | refine Zaj ?_ | refine Zae ?_ _)); refine Zb1 ?_ NB998_1016.out _; (with_reducible repeat (first | refine Zaf ?_ _ | refine Zaj ?_ | refine Zae ?_ _)); refine Zb1 ?_ NB998_1016.out _; (with_reducible repeat (first | refine Zaf ?_ _ | refine Zaj ?_ | refine Zae ?_ _)); refine Zb1 ?_ NB998_1016.out _; (with_reducible repeat (first | refine Zaf ?_ _ | refine Zaj ?_ | refine Zae ?_ _)); exact BK998.out) hb); have n6_ := Zaa.mk (Zbe (g := gb1016) (o := .cells #[.int .i64 t1002, .slice (some ad1018) t1003.length co26, .slice Ao27 t1006.length co27, .int .i64 t1009, .int .i64 t1010, .slice Ao28 t1011.length co28, .int .i64 t1014] 25 (0, 0)) (by (with_reducible repeat (first | refine Zaf ?_ _ | refine Zaj ?_ | refine Zae ?_ _)); refine Zbo (cs := #[.int .i64 t1002, .slice (some ad1018) t1003.length co26, .slice Ao27 t1006.length co27, .int .i64 t1009, .int .i64 t1010, .slice Ao28 t1011.length co28, .int .i64 0]) ?_ 6 _ rfl; (with_reducible repeat (first | refine Zaf ?_ _ | refine Zaj ?_ | refine Zae ?_ _)); refine Zbo (cs := #[.int .i64 t1002, .slice (some ad1018) t1003.length co26, .slice Ao27 t1006.length co27, .int .i64 t1009, .int .i64 t1010, .slice none 0 0, .int .i64 0]) ?_ 5 _ rfl; (with_reducible repeat (first | refine Zaf ?_ _ | refine Zaj ?_ | refine Zae ?_ _)); refine Zbo (cs := #[.int .i64 t1002, .slice (some ad1018) t1003.length co26, .slice Ao27 t1006.length co27, .int .i64 t1009, .int .i64 0, .slice none 0 0, .int .i64 0]) ?_ 4 _ rfl; (with_reducible repeat (first | refine Zaf ?_ _ | refine Zaj ?_ | refine Zae ?_ _)); refine Zbo (cs := #[.int .i64 t1002, .slice (some ad1018) t1003.length co26, .slice Ao27 t1006.length co27, .int .i64 0, .int .i64 0, .slice none 0 0, .int .i64 0]) ?_ 3 _ rfl; (with_reducible repeat (first | refine Zaf ?_ _ | refine Zaj ?_ | refine Zae ?_ _)); refine Zbo (cs := #[.int .i64 t1002, .slice (some ad1018) t1003.length co26, .slice none 0 0, .int .i64 0, .int .i64 0, .slice none 0 0, .int .i64 0]) ?_ 2 _ rfl; (with_reducible repeat (first | refine Zaf ?_ _ | refine Zaj ?_ | refine Zae ?_ _)); refine Zbo (cs := #[.int .i64 t1002, .slice none 0 0, .slice none 0 0, .int .i64 0, .int .i64 0, .slice none 0 0, .int .i64 0]) ?_ 1 _ rfl; (with_reducible repeat (first | refine Zaf ?_ _ | refine Zaj ?_ | refine Zae ?_ _)); refine Zbo (cs := #[.int .i64 0, .slice none 0 0, .slice none 0 0, .int .i64 0, .int .i64 0, .slice none 0 0, .int .i64 0]) ?_ 0 _ rfl; (with_reducible repeat (first | refine Zaf ?_ _ | refine Zaj ?_ | refine Zae ?_ _)); exact BK1016.out) hb); have n7_ := Zaa.mk (Zaz (by repeat (first | (with_reducible first | exact HB.out | apply Zab | apply Za | apply Zac | refine Zag ?_ GE998.out | refine Zag ?_ GE1016.out) | exact HB.out)) hb); clear HO1001; clear HO1005; clear HO1008; clear HO1013; clear BK998; clear BK1016; clear HB; have HO1001 := n0_; have HO1005 := n1_; have HO1008 := n2_; have HO1013 := n3_; have HO1021 := n4_; have BK998 := n5_; have BK1016 := n6_; have HB := n7_; clear n0_ n1_ n2_ n3_ n4_ n5_ n6_ n7_; clear hb ho30; have p9 : 0 ≤ ((rd t1003 0) : Int) := of_decide_eq_true (by first | (with_reducible assumption) | assumption); have q9 : ((rd t1003 0) : Int) < ((t999.length : Int) : Int) := of_decide_eq_true (by first | (with_reducible assumption) | assumption); obtain ⟨go9, co9, eo9, gb9, gl9, cl9, HG9⟩ := Kd.S_form HO1001.out (by omega); (first | cases eo9 | (injection eo9 with ea_ en_ ec_; (first | subst ea_ | (injection ea_ with ea_; subst ea_)); subst ec_; clear en_)); have GB9 := Zaa.mk gb9; have GG9 := Zaa.mk HG9; clear gb9 gl9 HG9; obtain ⟨_, ce9, hcl9, hM9, hcc9, hfr9, _, _⟩ := Kd.S_elem HO1001.out [] ((rd t1003 0) : Int) p9 q9; obtain ⟨ve9_0, rfl, ge9_0⟩ := hM9; have hx9_0 := hcc9 0 _ rfl; have hf9_0 := hfr9 0; (try simp only [show ((Kd.slice 41 k41)).sz = 1 from rfl, Nat.mul_one, Nat.add_zero] at hx9_0); (try simp only [show ((Kd.slice 41 k41)).sz = 1 from rfl, Nat.mul_one, Nat.add_zero] at hf9_0); (try clear hM9); clear hcl9 hcc9 hfr9; replace p9 := eq_true p9; replace q9 := eq_true q9; have n_ := Zaa.mk (Kd.Zc1 (ok' := (fun k_ => some k_ ≠ (v1020 : Value).ownBlock)) HO1001.out (fun k_ hk => hk.2)); clear HO1001; have HO1001 := n_; clear n_; have HX31 := Zaa.mk (show Kd.S (Kd.slice 41 k41) 39 w29 w.heap.size (fun k_ => ((fun _ => True)) k_ ∧ ¬ ((fun k_ => some k_ = (v1020 : Value).ownBlock)) k_) (.slice (some ⟨go9, 0, none⟩) t999.length co9) t999 from (by (with_reducible repeat (first | apply Kd.Zb3 | apply Kd.Zb4 | apply Kd.Zb5)); exact Kd.Zc1 HO1001.out (fun k_ hk => ⟨trivial, fun e_ => hk e_⟩))); obtain ⟨oki31, ce31, hcl31, hM31, hcc31, hfr31, hoki31, hH31⟩ := Kd.S_elem HX31.out [] ((rd t1003 0) : Int) (of_decide_eq_true (by first | (with_reducible assumption) | assumption)) (by have h_ : ((rd t1003 0) : Int) < ((t999.length : Int) : Int) := of_decide_eq_true (by first | (with_reducible assumption) | assumption); first | exact h_ | (have e_ := (Kd.Zc HO1001.out).1; omega) | simpa using h_); obtain ⟨ve31_0, rfl, ge31_0⟩ := hM31; have HP31 := Kd.S_seg hH31 (of_decide_eq_true (by first | (with_reducible assumption) | assumption)) (by have h_ : ((rd t1003 0) : Int) < ((t999.length : Int) : Int) := of_decide_eq_true (by first | (with_reducible assumption) | assumption); first | exact h_ | (have e_ := (Kd.Zc HO1001.out).1; omega) | simpa using h_) (seg := [v1020]) (j := 0) (show 1 ≤ 1 from by decide) (x' := y1019) (Kd.M_row (Kd.Zbj (Kd.Zef rfl (Kd.Zbj (ok' := fun k_ => ((fun _ => True)) k_ ∧ k_ ≠ go9) (Kd.Zbz (HO1021.out) (Kd.Zdm HO1001.out) (by decide)) (fun k_ hk => ⟨trivial, fun e_ => (hk.2) (by rw [e_]; rfl)⟩))) (fun _ h_ => Or.inr (h_)))) (fun _ hk => hk) (fun k_ hk_ => ((Kd.Zbj (ok' := fun k_ => ((fun _ => True)) k_ ∧ k_ ≠ go9) (Kd.Zbz (HO1021.out) (Kd.Zdm HO1001.out) (by decide)) (fun k_ hk => ⟨trivial, fun e_ => (hk.2) (by rw [e_]; rfl)⟩))).1 k_ hk_.symm); have hx31_0 := hcc31 0 _ rfl; (try simp only [show ((Kd.slice 41 k41)).sz = 1 from rfl, Nat.mul_one, Nat.add_zero] at hx31_0); have hf31_0 := hfr31 0; (try simp only [show ((Kd.slice 41 k41)).sz = 1 from rfl, Nat.mul_one, Nat.add_zero] at hf31_0); (try clear hM31); clear hcl31 hcc31 hfr31 hoki31 hH31; (try simp only [show ((Kd.slice 41 k41)).sz = 1 from rfl, Nat.mul_one, Nat.add_zero] at HP31)) | ((with_reducible refine Zdh (t := 39) (p := 39) rfl ?_); refine Zdc (t := 39) (p := 39) (v := ?vo_w32) (w1 := (w29.setCell ⟨go9, ((rd t1003 0) : Int).toNat, none⟩ (v1020))) ?hg ?ho ?hn ?hr ?_; (case ho => rfl); (case hg => rfl); (case hn => rfl); (case hr => first | (go_simp; done) | (go_simp; rfl) | (obtain ⟨Aq_, cq_, eq_⟩ := Kd.Zbr HO1021.out; subst eq_; first | (go_simp; done) | (go_simp; rfl))); intro w32 hw; have hg : w29.grownBy w32 (some go9) := (by rw [hw]; exact HP31.2); have hp_ : Kd.S (Kd.slice 41 k41) 39 w32 w.heap.size (fun _ => True) (.slice (some ⟨go9, 0, none⟩) t999.length co9) y1022 := (by rw [hw, Ny1022.out]; exact HP31.1); clear HP31; have n0_ := Zaa.mk (Zci (g := gb998) (o := .cells #[.slice A0_0 l0_0.length c0_0, .int .i64 a0_1, .slice A0_2 l0_2.length c0_2, .slice A0_3 l0_3.length c0_3, .int .i64 a0_4, .int .i64 a0_5, .slice A0_6 l0_6.length c0_6, .int .i64 a0_7, .slice A0_8 l0_8.length c0_8, .slice A0_9 l0_9.length c0_9] 27 (0, 0)) (mvK BK998.out) hg (Kd.S_ne HO1001.out BK998.out (by decide))); have n1_ := Zaa.mk (hp_); have n2_ := Zaa.mk (Kd.Zex (v := (.slice (some ⟨go9, 0, none⟩) t999.length co9)) (mvR HO1005.out) (Kd.Zdm HO1001.out) (by decide) hg); have n3_ := Zaa.mk (Kd.Zex (v := (.slice (some ⟨go9, 0, none⟩) t999.length co9)) (mvR HO1008.out) (Kd.Zdm HO1001.out) (by decide) hg); have n4_ := Zaa.mk (Kd.S_over' (v := (.slice (some ⟨go9, 0, none⟩) t999.length co9)) (mvS HO1013.out) (Kd.Zdm HO1001.out) (by decide) hg); have n5_ := Zaa.mk (Zci (g := gb1016) (o := .cells #[.int .i64 t1002, .slice (some ad1018) t1003.length co26, .slice Ao27 t1006.length co27, .int .i64 t1009, .int .i64 t1010, .slice Ao28 t1011.length co28, .int .i64 t1014] 25 (0, 0)) (mvK BK1016.out) hg (Kd.S_ne HO1001.out BK1016.out (by decide))); have n6_ := Zaa.mk ((by rw [hw]; exact Zag (HB.out) GB9.out : Below w.heap.size w w32)); clear BK998; clear HO1001; clear HO1005; clear HO1008; clear HO1013; clear BK1016; clear HB; clear HO1021; have BK998 := n0_; have HO1001 := n1_; have HO1005 := n2_; have HO1008 := n3_; have HO1013 := n4_; have BK1016 := n5_; have HB := n6_; clear n0_ n1_ n2_ n3_ n4_ n5_ n6_; clear hg hw hp_; obtain ⟨hcz33_0, hcz33_1, hcz33_2, hcz33_3, hcz33_4, hcz33_5, hcz33_6, hfz33_0, hfz33_1, hfz33_2, hfz33_3, hfz33_4, hfz33_5, hfz33_6⟩ := Zcu BK1016.out) | ((with_reducible refine Zbv (f := 35) rfl ?_); refine Zcw (some 43) rfl rfl Try.func35 (by kernel_rfl) rfl #[.slice (some ⟨go9, 0, none⟩) y1022.length co9, .agg #[.int .i64 t1002, .slice (some ad1018) t1003.length co26, .slice Ao27 t1006.length co27, .int .i64 t1009, .int .i64 t1010, .slice Ao28 t1011.length co28, .int .i64 t1014]] rfl (by (try simp only [List.map_toArray, List.map_cons, List.map_nil]); first | done | (rw [show y1022.length = t999.length from (Kd.Zc HO1001.out).1.symm] <;> rfl) | rfl | (simp only [List.length_drop, List.length_take]; rfl)) ?_; (with_reducible refine (Zah.calls k _ _ y1022 t1002 _ _ t1003 _ _ t1006 t1009 t1010 _ _ t1011 t1014 t1023 t1026 _ ?side1 ?side2 ?side3 ?side4 ?side5 ?side6 ?side7 ?side8 A10.out).mono ?_); (case side1 => repeat (first | exact (Kd.Zc HO1001.out).2.2 | (with_reducible refine Kd.Zbc ?_ _) | (with_reducible refine Kd.Zba ?_ _) | (with_reducible refine Kd.Zbh ?_))); (case side2 => rw [show y1022.length = t999.length from (Kd.Zc HO1001.out).1.symm]; exact (Kd.Zc HO1001.out).2.1); (case side3 => repeat (first | exact (Kd.Zbb HO1005.out).2.2 | (with_reducible refine Kd.Zbc ?_ _) | (with_reducible refine Kd.Zba ?_ _) | (with_reducible refine Kd.Zbh ?_))); (case side4 => exact (Kd.Zbb HO1005.out).2.1); (case side5 => repeat (first | exact (Kd.Zbb HO1008.out).2.2 | (with_reducible refine Kd.Zbc ?_ _) | (with_reducible refine Kd.Zba ?_ _) | (with_reducible refine Kd.Zbh ?_))); (case side6 => exact (Kd.Zbb HO1008.out).2.1); (case side7 => repeat (first | exact (Kd.Zc HO1013.out).2.2 | (with_reducible refine Kd.Zbc ?_ _) | (with_reducible refine Kd.Zba ?_ _) | (with_reducible refine Kd.Zbh ?_))); (case side8 => exact (Kd.Zc HO1013.out).2.1); rintro e w34 ⟨v1024, rfl, ho0, hb⟩; refine ⟨_, rfl, ?_⟩; have n0_ := Zaa.mk (Kd.Zdr (mvS HO1001.out) (Kd.S_base ho0) hb); have n1_ := Zaa.mk (Kd.Zbs (mvR HO1005.out) hb); have n2_ := Zaa.mk (Kd.Zbs (mvR HO1008.out) hb); have n3_ := Zaa.mk (Kd.Zck (mvS HO1013.out) hb); have n4_ := Zaa.mk (Kd.Zd5 (Kd.S_new' ho0 (Kd.S_lt (mvS HO1001.out))) (Zal (by repeat (first | (with_reducible first | exact HB.out | apply Zab | apply Za | apply Zac | refine Zag ?_ GE998.out | refine Zag ?_ GE1016.out) | exact HB.out)))); have n5_ := Zaa.mk (Zbe (g := gb998) (o := .cells #[.slice A0_0 l0_0.length c0_0, .int .i64 a0_1, .slice A0_2 l0_2.length c0_2, .slice A0_3 l0_3.length c0_3, .int .i64 a0_4, .int .i64 a0_5, .slice A0_6 l0_6.length c0_6, .int .i64 a0_7, .slice A0_8 l0_8.length c0_8, .slice A0_9 l0_9.length c0_9] 27 (0, 0)) (mvK BK998.out) hb); have n6_ := Zaa.mk (Zbe (g := gb1016) (o := .cells #[.int .i64 t1002, .slice (some ad1018) t1003.length co26, .slice Ao27 t1006.length co27, .int .i64 t1009, .int .i64 t1010, .slice Ao28 t1011.length co28, .int .i64 t1014] 25 (0, 0)) (mvK BK1016.out) hb); have n7_ := Zaa.mk (Zaz (by repeat (first | (with_reducible first | exact HB.out | apply Zab | apply Za | apply Zac | refine Zag ?_ GE998.out | refine Zag ?_ GE1016.out) | exact HB.out)) hb); clear HO1001; clear HO1005; clear HO1008; clear HO1013; clear BK998; clear BK1016; clear HB; have HO1001 := n0_; have HO1005 := n1_; have HO1008 := n2_; have HO1013 := n3_; have HO1025 := n4_; have BK998 := n5_; have BK1016 := n6_; have HB := n7_; clear n0_ n1_ n2_ n3_ n4_ n5_ n6_ n7_; (try clear hb); (try clear hb2); (try clear hk); (try clear hi); (try clear ho0)))
 have n0_ := Zaa.mk (Kd.Zb5 HO1001.out)
 have n1_ := Zaa.mk (Kd.Zat HO1005.out)
 have n2_ := Zaa.mk (Kd.Zat HO1008.out)
 have n3_ := Zaa.mk (Kd.Zb5 HO1013.out)
 have n4_ := Zaa.mk (Kd.Zb5 HO1025.out)
 have n5_ := Zaa.mk (Zaj BK998.out)
 have n6_ := Zaa.mk (Zaj BK1016.out)
 have n7_ := Zaa.mk (Zac HB.out)
 clear HO1001
 clear HO1005
 clear HO1008
 clear HO1013
 clear HO1025
 clear BK998
 clear BK1016
 clear HB
 have HO1001 := n0_
 have HO1005 := n1_
 have HO1008 := n2_
 have HO1013 := n3_
 have HO1025 := n4_
 have BK998 := n5_
 have BK1016 := n6_
 have HB := n7_
 clear n0_ n1_ n2_ n3_ n4_ n5_ n6_ n7_
 have p1027 : 0 ≤ (1 : Int) := (by omega)
 have q1027 : 1 < (t1003.length : Int) := of_decide_eq_true (by first | (with_reducible assumption) | assumption)
 obtain ⟨ad1027, e1027, hx1027_0⟩ := Kd.Zb2 (Kd.Zbb HO1005.out).2.2 1 p1027 q1027
 obtain rfl : ad1018 = ad1027 := (by injection e1027)
 (try simp only [show (1 : Int).toNat = 1 from rfl, Nat.reduceMul, Nat.reduceEqDiff, Go.Addr.add, ↓reduceIte] at hx1027_0)
 have qi1027 : (1 < t1003.length) = True := eq_true (by omega)
 (try rw [show ((1 : Int)).toNat = 1 from rfl] at hx1027_0)
 replace p1027 := eq_true p1027
 replace q1027 := eq_true q1027
 have p1028 : 0 ≤ ((rd t1003 1) : Int) := of_decide_eq_true (by first | (with_reducible assumption) | assumption)
 have q1028 : (rd t1003 1) < (y1022.length : Int) := (by have h_ : ((rd t1003 1) : Int) < ((t999.length : Int) : Int) := of_decide_eq_true (by first | (with_reducible assumption) | assumption); first | (have e_ := (Kd.Zc HO1001.out).1; omega) | simpa only [Ny1022.out, List.length_set] using h_)
 have ql1028 : (((rd t1003 1) : Int) < ((t999.length : Int) : Int)) = True := eq_true (of_decide_eq_true (by first | (with_reducible assumption) | assumption))
 obtain ⟨ad1028, A1028_0, c1028_0, e1028, hx1028_0, hl1028_0, hi1028_0⟩ := Zee (Kd.Zc HO1001.out).2.2 (rd t1003 1) p1028 q1028
 obtain rfl : (⟨go9, 0, none⟩ : Addr) = ad1028 := (by injection e1028)
 obtain ⟨ce1028, hce1028, hMe1028, hcc1028⟩ := Kd.S_get HO1001.out [] (rd t1003 1) p1028 (by first | exact q1028 | exact of_decide_eq_true (by first | (with_reducible assumption) | assumption) | (have e_ := (Kd.Zc HO1001.out).1; omega))
 obtain ⟨ve1028_0, rfl, ge1028_0⟩ := hMe1028
 have hv1028_0 := hcc1028 0 _ rfl
 rw [Nat.add_zero, show ((Kd.slice 41 k41)).sz = 1 from rfl, Nat.mul_one] at hv1028_0
 replace hv1028_0 := Option.some.inj (hv1028_0.symm.trans hx1028_0)
 rw [hv1028_0] at ge1028_0
 have HL1028_0 := Zaa.mk (show Kd.R k41 41 _ _ _ _ (Zb8 y1022 (rd t1003 1)) from ge1028_0)
 clear hv1028_0 ge1028_0
 clear hcc1028 hce1028
 (first | simp only [add_plain] at hx1028_0 | simp only [Zgl] at hx1028_0 | simp only [Addr.add, Nat.zero_add] at hx1028_0 | skip)
 have HR1028_0 := Zaa.mk hi1028_0
 have HC1028_0 := Zaa.mk hl1028_0
 clear hi1028_0 hl1028_0
 replace p1028 := eq_true p1028
 replace q1028 := eq_true q1028
 have p1029 : 0 ≤ ((ji14) : Int) := of_decide_eq_true (by first | (with_reducible assumption) | assumption)
 have q1029 : (ji14) < (t1003.length : Int) := of_decide_eq_true (by first | (with_reducible assumption) | assumption)
 obtain ⟨ad1029, e1029, hx1029_0⟩ := Kd.Zb2 (Kd.Zbb HO1005.out).2.2 (ji14) p1029 q1029
 obtain rfl : ad1018 = ad1029 := (by injection e1029)
 replace p1029 := eq_true p1029
 replace q1029 := eq_true q1029
 have p1030 : 0 ≤ ((rd t1003 (ji14)) : Int) := of_decide_eq_true (by first | (with_reducible assumption) | assumption)
 have q1030 : (rd t1003 (ji14)) < (y1022.length : Int) := (by have h_ : ((rd t1003 (ji14)) : Int) < ((t999.length : Int) : Int) := of_decide_eq_true (by first | (with_reducible assumption) | assumption); first | (have e_ := (Kd.Zc HO1001.out).1; omega) | simpa only [Ny1022.out, List.length_set] using h_)
 have ql1030 : (((rd t1003 (ji14)) : Int) < ((t999.length : Int) : Int)) = True := eq_true (of_decide_eq_true (by first | (with_reducible assumption) | assumption))
 obtain ⟨ad1030, A1030_0, c1030_0, e1030, hx1030_0, hl1030_0, hi1030_0⟩ := Zee (Kd.Zc HO1001.out).2.2 (rd t1003 (ji14)) p1030 q1030
 obtain rfl : (⟨go9, 0, none⟩ : Addr) = ad1030 := (by injection e1030)
 obtain ⟨ce1030, hce1030, hMe1030, hcc1030⟩ := Kd.S_get HO1001.out [] (rd t1003 (ji14)) p1030 (by first | exact q1030 | exact of_decide_eq_true (by first | (with_reducible assumption) | assumption) | (have e_ := (Kd.Zc HO1001.out).1; omega))
 obtain ⟨ve1030_0, rfl, ge1030_0⟩ := hMe1030
 have hv1030_0 := hcc1030 0 _ rfl
 rw [Nat.add_zero, show ((Kd.slice 41 k41)).sz = 1 from rfl, Nat.mul_one] at hv1030_0
 replace hv1030_0 := Option.some.inj (hv1030_0.symm.trans hx1030_0)
 rw [hv1030_0] at ge1030_0
 have HL1030_0 := Zaa.mk (show Kd.R k41 41 _ _ _ _ (Zb8 y1022 (rd t1003 (ji14))) from ge1030_0)
 clear hv1030_0 ge1030_0
 clear hcc1030 hce1030
 (first | simp only [add_plain] at hx1030_0 | simp only [Zgl] at hx1030_0 | simp only [Addr.add, Nat.zero_add] at hx1030_0 | skip)
 have HR1030_0 := Zaa.mk hi1030_0
 have HC1030_0 := Zaa.mk hl1030_0
 clear hi1030_0 hl1030_0
 replace p1030 := eq_true p1030
 replace q1030 := eq_true q1030
 refine Zdx (n := 18) (S := fun w' => w'.cell? ⟨gb1016, 0, none⟩ = some (.int .i64 t1002) ∧ w'.cell? ⟨gb1016, 1, none⟩ = some (.slice (some ad1018) t1003.length co26) ∧ w'.cell? ⟨gb1016, 2, none⟩ = some (.slice Ao27 t1006.length co27) ∧ w'.cell? ⟨gb1016, 3, none⟩ = some (.int .i64 t1009) ∧ w'.cell? ⟨gb1016, 4, none⟩ = some (.int .i64 t1010) ∧ w'.cell? ⟨gb1016, 5, none⟩ = some (.slice Ao28 t1011.length co28) ∧ w'.cell? ⟨gb1016, 6, none⟩ = some (.int .i64 t1014) ∧ w'.cell? ⟨ad1018.block, ad1018.off + 1, none⟩ = some (.int .i64 (rd t1003 1)) ∧ w'.cell? ⟨go9, ((rd t1003 1)).toNat, none⟩ = some (.slice A1028_0 (Zb8 y1022 (rd t1003 1)).length c1028_0) ∧ w'.cell? (ad1018.add ((ji14)).toNat) = some (.int .i64 (rd t1003 (ji14))) ∧ w'.cell? ⟨go9, ((rd t1003 (ji14))).toNat, none⟩ = some (.slice A1030_0 (Zb8 y1022 (rd t1003 (ji14))).length c1030_0)) (ds := []) #[false, false, false, false, false, false, false, false, false, false, false, false, false, false, false, false, false, false] (by kernel_rfl) rfl rfl ⟨(Zax BK1016.out 0).trans rfl, (Zax BK1016.out 1).trans rfl, (Zax BK1016.out 2).trans rfl, (Zax BK1016.out 3).trans rfl, (Zax BK1016.out 4).trans rfl, (Zax BK1016.out 5).trans rfl, (Zax BK1016.out 6).trans rfl, hx1027_0, hx1028_0, hx1029_0, hx1030_0⟩ (fun hHeld => ?_); refine Zcv Zad.tab7 Zad.bits7 (fun HT_ HW_ => ?_)
 generalize w34.drew = w35 at HO1001 HO1005 HO1008 HO1013 HO1025 BK998 BK1016 HB HL1028_0 HL1030_0 HR1028_0 HR1030_0 hx1027_0 hx1028_0 hx1029_0 hx1030_0 hHeld ⊢
 refine Zbg (i := 0) (N := some 46) (v := ?_) (a' := ?_) #[true, false, false, false, false, false, false, false, false, false, false, false, false, false, false, false, false, false] rfl rfl (Za1 HT_.out (by kernel_rfl)) (fun _ _ _ h => h) (Or.inl ⟨by rfl, ?_⟩) ?_ ?_
 rotate_left
 ·intro w'
  go_simp
  with_reducible rfl
 rotate_left
 ·simp only [Act.put, List.setIfInBounds_toArray, List.set_cons_zero, List.set_cons_succ, Za5, Za9]
  rfl
 refine Zbg (i := 1) (N := some 47) (v := ?_) (a' := ?_) #[true, true, false, false, false, false, false, false, false, false, false, false, false, false, false, false, false, false] rfl rfl (Za1 HT_.out (by kernel_rfl)) (fun _ _ _ h => h) (Or.inl ⟨by rfl, ?_⟩) ?_ ?_
 rotate_left
 ·intro w'
  go_simp
  with_reducible rfl
 rotate_left
 ·simp only [Act.put, List.setIfInBounds_toArray, List.set_cons_zero, List.set_cons_succ, Za5, Za9]
  rfl
 refine Zbg (i := 7) (N := some 53) (v := ?_) (a' := ?_) #[true, true, false, false, false, false, false, true, false, false, false, false, false, false, false, false, false, false] rfl rfl (Za1 HT_.out (by kernel_rfl)) (fun _ _ _ h => h) (Or.inl ⟨by rfl, ?_⟩) ?_ ?_
 rotate_left
 ·intro w'
  go_simp
  with_reducible rfl
 rotate_left
 ·simp only [Act.put, List.setIfInBounds_toArray, List.set_cons_zero, List.set_cons_succ, Za5, Za9]
  rfl
 refine Zbg (i := 8) (N := some 54) (v := ?_) (a' := ?_) #[true, true, false, false, false, false, false, true, true, false, false, false, false, false, false, false, false, false] rfl rfl (Za1 HT_.out (by kernel_rfl)) (fun _ _ _ h => h) (Or.inl ⟨by rfl, ?_⟩) ?_ ?_
 rotate_left
 ·intro w'
  go_simp
  with_reducible rfl
 rotate_left
 ·simp only [Act.put, List.setIfInBounds_toArray, List.set_cons_zero, List.set_cons_succ, Za5, Za9]
  rfl
 refine Zbg (i := 10) (N := some 56) (v := ?_) (a' := ?_) #[true, true, false, false, false, false, false, true, true, false, true, false, false, false, false, false, false, false] rfl rfl (Za1 HT_.out (by kernel_rfl)) (fun _ _ _ h => h) (Or.inl ⟨by rfl, ?_⟩) ?_ ?_
 rotate_left
 ·intro w'
  go_simp
  with_reducible rfl
 rotate_left
 ·simp only [Act.put, List.setIfInBounds_toArray, List.set_cons_zero, List.set_cons_succ, Za5, Za9]
  rfl
 refine Zbg (i := 11) (N := some 57) (v := ?_) (a' := ?_) #[true, true, false, false, false, false, false, true, true, false, true, true, false, false, false, false, false, false] rfl rfl (Za1 HT_.out (by kernel_rfl)) (fun _ _ _ h => h) (Or.inl ⟨by rfl, ?_⟩) ?_ ?_
 rotate_left
 ·intro w'
  go_simp
  with_reducible rfl
 rotate_left
 ·simp only [Act.put, List.setIfInBounds_toArray, List.set_cons_zero, List.set_cons_succ, Za5, Za9]
  rfl
 refine Zc5 (i := 2) (N := some 48) (v := ?_) (a' := ?_) #[true, true, true, false, false, false, false, true, true, false, true, true, false, false, false, false, false, false] rfl rfl (Zb6 HT_.out HW_.out (by kernel_rfl)) (fun _ _ _ h => h) (Or.inl ⟨by rfl, ?_⟩) hHeld ?_ ?_
 rotate_left
 ·rintro w' ⟨s0, s1, s2, s3, s4, s5, s6, s7, s8, s9, s10⟩
  go_simp
  with_reducible rfl
 rotate_left
 ·simp only [Act.put, List.setIfInBounds_toArray, List.set_cons_zero, List.set_cons_succ, Za5, Za9]
  rfl
 refine Zbg (i := 3) (N := some 49) (v := ?_) (a' := ?_) #[true, true, true, true, false, false, false, true, true, false, true, true, false, false, false, false, false, false] rfl rfl (Za1 HT_.out (by kernel_rfl)) (fun _ _ _ h => h) (Or.inl ⟨by rfl, ?_⟩) ?_ ?_
 rotate_left
 ·intro w'
  go_simp
  with_reducible rfl
 rotate_left
 ·simp only [Act.put, List.setIfInBounds_toArray, List.set_cons_zero, List.set_cons_succ, Za5, Za9]
  rfl
 refine Zc5 (i := 4) (N := some 50) (v := ?_) (a' := ?_) #[true, true, true, true, true, false, false, true, true, false, true, true, false, false, false, false, false, false] rfl rfl (Zb6 HT_.out HW_.out (by kernel_rfl)) (fun _ _ _ h => h) (Or.inl ⟨by rfl, ?_⟩) hHeld ?_ ?_
 rotate_left
 ·rintro w' ⟨s0, s1, s2, s3, s4, s5, s6, s7, s8, s9, s10⟩
  go_simp
  with_reducible rfl
 rotate_left
 ·simp only [Act.put, List.setIfInBounds_toArray, List.set_cons_zero, List.set_cons_succ, Za5, Za9]
  rfl
 refine Zbg (i := 5) (N := some 51) (v := ?_) (a' := ?_) #[true, true, true, true, true, true, false, true, true, false, true, true, false, false, false, false, false, false] rfl rfl (Za1 HT_.out (by kernel_rfl)) (fun _ _ _ h => h) (Or.inl ⟨by rfl, ?_⟩) ?_ ?_
 rotate_left
 ·intro w'
  go_simp
  with_reducible rfl
 rotate_left
 ·simp only [Act.put, List.setIfInBounds_toArray, List.set_cons_zero, List.set_cons_succ, Za5, Za9]
  rfl
 refine Zc5 (i := 6) (N := some 52) (v := ?_) (a' := ?_) #[true, true, true, true, true, true, true, true, true, false, true, true, false, false, false, false, false, false] rfl rfl (Zb6 HT_.out HW_.out (by kernel_rfl)) (fun _ _ _ h => h) (Or.inl ⟨by rfl, ?_⟩) hHeld ?_ ?_
 rotate_left
 ·rintro w' ⟨s0, s1, s2, s3, s4, s5, s6, s7, s8, s9, s10⟩
  go_simp
  with_reducible rfl
 rotate_left
 ·simp only [Act.put, List.setIfInBounds_toArray, List.set_cons_zero, List.set_cons_succ, Za5, Za9]
  rfl
 refine Zc5 (i := 9) (N := some 55) (v := ?_) (a' := ?_) #[true, true, true, true, true, true, true, true, true, true, true, true, false, false, false, false, false, false] rfl rfl (Zb6 HT_.out HW_.out (by kernel_rfl)) (fun _ _ _ h => h) (Or.inl ⟨by rfl, ?_⟩) hHeld ?_ ?_
 rotate_left
 ·rintro w' ⟨s0, s1, s2, s3, s4, s5, s6, s7, s8, s9, s10⟩
  go_simp
  with_reducible rfl
 rotate_left
 ·simp only [Act.put, List.setIfInBounds_toArray, List.set_cons_zero, List.set_cons_succ, Za5, Za9]
  rfl
 refine Zbg (i := 12) (N := some 58) (v := ?_) (a' := ?_) #[true, true, true, true, true, true, true, true, true, true, true, true, true, false, false, false, false, false] rfl rfl (Za1 HT_.out (by kernel_rfl)) (fun _ _ _ h => h) (Or.inl ⟨by rfl, ?_⟩) ?_ ?_
 rotate_left
 ·intro w'
  go_simp
  with_reducible rfl
 rotate_left
 ·simp only [Act.put, List.setIfInBounds_toArray, List.set_cons_zero, List.set_cons_succ, Za5, Za9]
  rfl
 refine Zc5 (i := 13) (N := some 59) (v := ?_) (a' := ?_) #[true, true, true, true, true, true, true, true, true, true, true, true, true, true, false, false, false, false] rfl rfl (Zb6 HT_.out HW_.out (by kernel_rfl)) (fun _ _ _ h => h) (Or.inl ⟨by rfl, ?_⟩) hHeld ?_ ?_
 rotate_left
 ·rintro w' ⟨s0, s1, s2, s3, s4, s5, s6, s7, s8, s9, s10⟩
  go_simp
  with_reducible rfl
 rotate_left
 ·simp only [Act.put, List.setIfInBounds_toArray, List.set_cons_zero, List.set_cons_succ, Za5, Za9]
  rfl
 refine Zbg (i := 14) (N := some 60) (v := ?_) (a' := ?_) #[true, true, true, true, true, true, true, true, true, true, true, true, true, true, true, false, false, false] rfl rfl (Za1 HT_.out (by kernel_rfl)) (fun _ _ _ h => h) (Or.inl ⟨by rfl, ?_⟩) ?_ ?_
 rotate_left
 ·intro w'
  go_simp
  with_reducible rfl
 rotate_left
 ·simp only [Act.put, List.setIfInBounds_toArray, List.set_cons_zero, List.set_cons_succ, Za5, Za9]
  rfl
 refine Zc5 (i := 15) (N := some 61) (v := ?_) (a' := ?_) #[true, true, true, true, true, true, true, true, true, true, true, true, true, true, true, true, false, false] rfl rfl (Zb6 HT_.out HW_.out (by kernel_rfl)) (fun _ _ _ h => h) (Or.inl ⟨by rfl, ?_⟩) hHeld ?_ ?_
 rotate_left
 ·rintro w' ⟨s0, s1, s2, s3, s4, s5, s6, s7, s8, s9, s10⟩
  go_simp
  with_reducible rfl
 rotate_left
 ·simp only [Act.put, List.setIfInBounds_toArray, List.set_cons_zero, List.set_cons_succ, Za5, Za9]
  rfl
 refine one_ (i := 16) (N := some 62) #[true, true, true, true, true, true, true, true, true, true, true, true, true, true, true, true, true, false] rfl rfl (Zd2 HT_.out (by kernel_rfl)) (by decide) (fun K hK => ?_)
 refine goes_ Try.func37 (by kernel_rfl) rfl #[.slice A1028_0 (Zb8 y1022 (rd t1003 1)).length c1028_0, .slice A1030_0 (Zb8 y1022 (rd t1003 (ji14))).length c1030_0, .bool true] (by rfl) rfl rfl (by (try simp only [List.map_toArray, List.map_cons, List.map_nil]); first | done | (simp only [hji14]; rfl) | rfl | (simp only [List.length_drop, List.length_take]; rfl)) ?_
 with_reducible refine (Za0.calls k _ _ (Zb8 y1022 (rd t1003 1)) _ _ (Zb8 y1022 (rd t1003 (ji14))) true t1031 _ ?side1 ?side2 ?side3 ?side4 A19.out).mono ?_
 (case side1 => repeat (first | exact (by repeat (first | (with_reducible exact HR1028_0.out) | (with_reducible refine Kd.Zbc ?_ _) | (with_reducible refine Kd.Zba ?_ _) | (with_reducible refine Kd.Zbh ?_) | exact HR1028_0.out)) | (with_reducible refine Kd.Zbc ?_ _) | (with_reducible refine Kd.Zba ?_ _) | (with_reducible refine Kd.Zbh ?_)))
 (case side2 => exact HC1028_0.out)
 (case side3 => repeat (first | exact (by repeat (first | (with_reducible exact HR1030_0.out) | (with_reducible refine Kd.Zbc ?_ _) | (with_reducible refine Kd.Zba ?_ _) | (with_reducible refine Kd.Zbh ?_) | exact HR1030_0.out)) | (with_reducible refine Kd.Zbc ?_ _) | (with_reducible refine Kd.Zba ?_ _) | (with_reducible refine Kd.Zbh ?_)))
 (case side4 => exact HC1030_0.out)
 rintro e w36 ⟨v1032, rfl, ho0, hb⟩
 have HS7_ := (hb.cell (World.block_lt_of_cell? _ _ (hHeld.2.2.2.2.2.2.2.1))).trans (hHeld.2.2.2.2.2.2.2.1)
 have HS8_ := (hb.cell (World.block_lt_of_cell? _ _ (hHeld.2.2.2.2.2.2.2.2.1))).trans (hHeld.2.2.2.2.2.2.2.2.1)
 have HS9_ := (hb.cell (World.block_lt_of_cell? _ _ (hHeld.2.2.2.2.2.2.2.2.2.1))).trans (hHeld.2.2.2.2.2.2.2.2.2.1)
 have HS10_ := (hb.cell (World.block_lt_of_cell? _ _ (hHeld.2.2.2.2.2.2.2.2.2.2))).trans (hHeld.2.2.2.2.2.2.2.2.2.2)
 refine ⟨_, rfl, ?_⟩
 have n0_ := Zaa.mk (Kd.Zdr (mvS HO1001.out) (Kd.Zcb ho0) hb)
 have n1_ := Zaa.mk (Kd.Zbs (mvR HO1005.out) hb)
 have n2_ := Zaa.mk (Kd.Zbs (mvR HO1008.out) hb)
 have n3_ := Zaa.mk (Kd.Zck (mvS HO1013.out) hb)
 have n4_ := Zaa.mk (Kd.Zdr (mvS HO1025.out) (Kd.Zcb ho0) hb)
 have n5_ := Zaa.mk (Kd.Zcn (mvR HL1028_0.out) (Kd.Zcb ho0) hb)
 have n6_ := Zaa.mk (Kd.Zcn (mvR HL1030_0.out) (Kd.Zcb ho0) hb)
 have n7_ := Zaa.mk (Kd.Zby (Kd.Zdf (Kd.Zdf ho0 (Kd.R_lt (mvR HL1028_0.out))) (Kd.R_lt (mvR HL1030_0.out))) (Zal (mvB HB.out)))
 have n8_ := Zaa.mk (Zbe (g := gb998) (o := .cells #[.slice A0_0 l0_0.length c0_0, .int .i64 a0_1, .slice A0_2 l0_2.length c0_2, .slice A0_3 l0_3.length c0_3, .int .i64 a0_4, .int .i64 a0_5, .slice A0_6 l0_6.length c0_6, .int .i64 a0_7, .slice A0_8 l0_8.length c0_8, .slice A0_9 l0_9.length c0_9] 27 (0, 0)) (mvK BK998.out) hb)
 have n9_ := Zaa.mk (Zbe (g := gb1016) (o := .cells #[.int .i64 t1002, .slice (some ad1018) t1003.length co26, .slice Ao27 t1006.length co27, .int .i64 t1009, .int .i64 t1010, .slice Ao28 t1011.length co28, .int .i64 t1014] 25 (0, 0)) (mvK BK1016.out) hb)
 have n10_ := Zaa.mk (Kd.Zbn (by first | (with_reducible exact HR1028_0.out) | (with_reducible exact Kd.Zba HR1028_0.out _) | (with_reducible exact Kd.Zbh HR1028_0.out) | repeat (first | (with_reducible exact HR1028_0.out) | (with_reducible refine Kd.Zbc ?_ _) | (with_reducible refine Kd.Zba ?_ _) | (with_reducible refine Kd.Zbh ?_) | exact HR1028_0.out)) hb)
 have n11_ := Zaa.mk (Kd.Zbn (by first | (with_reducible exact HR1030_0.out) | (with_reducible exact Kd.Zba HR1030_0.out _) | (with_reducible exact Kd.Zbh HR1030_0.out) | repeat (first | (with_reducible exact HR1030_0.out) | (with_reducible refine Kd.Zbc ?_ _) | (with_reducible refine Kd.Zba ?_ _) | (with_reducible refine Kd.Zbh ?_) | exact HR1030_0.out)) hb)
 have n12_ := Zaa.mk (Zaz (mvB HB.out) hb)
 clear HO1001
 clear HO1005
 clear HO1008
 clear HO1013
 clear HO1025
 clear HL1028_0
 clear HL1030_0
 clear BK998
 clear BK1016
 clear HR1028_0
 clear HR1030_0
 clear HB
 have HO1001 := n0_
 have HO1005 := n1_
 have HO1008 := n2_
 have HO1013 := n3_
 have HO1025 := n4_
 have HL1028_0 := n5_
 have HL1030_0 := n6_
 have HO1033 := n7_
 have BK998 := n8_
 have BK1016 := n9_
 have HR1028_0 := n10_
 have HR1030_0 := n11_
 have HB := n12_
 clear n0_ n1_ n2_ n3_ n4_ n5_ n6_ n7_ n8_ n9_ n10_ n11_ n12_
 (try clear hb)
 (try clear hb2)
 (try clear hk)
 (try clear hi)
 (try clear ho0)
 refine hK.out _ _ ⟨(Zax BK1016.out 0).trans rfl, (Zax BK1016.out 1).trans rfl, (Zax BK1016.out 2).trans rfl, (Zax BK1016.out 3).trans rfl, (Zax BK1016.out 4).trans rfl, (Zax BK1016.out 5).trans rfl, (Zax BK1016.out 6).trans rfl, HS7_, HS8_, HS9_, HS10_⟩ (fun hHeld => ?_)
 clear hK K
 refine Zf8 (a' := ?_) ?_ ?_
 rotate_left
 ·show Act.put _ (some 62) _ = _
  simp only [Act.put, List.setIfInBounds_toArray, List.set_cons_zero, List.set_cons_succ, Za5, Za9]
  rfl
 refine Zbg (i := 17) (N := some 11) (v := ?_) (a' := ?_) #[true, true, true, true, true, true, true, true, true, true, true, true, true, true, true, true, true, true] rfl rfl (Za1 HT_.out (by kernel_rfl)) (fun _ _ _ h => h) (Or.inl ⟨by rfl, ?_⟩) ?_ ?_
 rotate_left
 ·intro w'
  go_simp
  with_reducible rfl
 rotate_left
 ·simp only [Act.put, List.setIfInBounds_toArray, List.set_cons_zero, List.set_cons_succ, Za5, Za9]
  rfl
 refine Zeu (Zdi HT_.out (by kernel_rfl)) ?_
 try go_wp2
 go_loopg [12] k (fun kq v12 w' => ∃ (x12_1 : Int), v12 = .int .i64 x12_1 ∧ Zaa (Zad.l0 kq y1022 (Int.tmod (Go.bits .and .i64 a1 65535) (wrap64 ((t1003.length : Int) - 2))) t1023 t1026 t1031 x12_1 t1002 t1003 t1006 t1009 t1010 t1011 t1014 = some r) ∧ Zaa (kq ≤ k) ∧ Zaa (Kd.S (Kd.slice 41 k41) 39 w' w.heap.size (fun k_ => some k_ ≠ (v1024 : Value).ownBlock ∧ some k_ ≠ (v1032 : Value).ownBlock) (.slice (some ⟨go9, 0, none⟩) t999.length co9) y1022) ∧ Zaa (Kd.S (Kd.slice 41 k41) 39 w' w.heap.size (fun k_ => some k_ ≠ ((.slice (some ⟨go9, 0, none⟩) t999.length co9) : Value).ownBlock ∧ some k_ ≠ (v1032 : Value).ownBlock) v1024 t1023) ∧ Zaa (Kd.R k41 41 w' w.heap.size (fun _ => True) v1032 t1031) ∧ Zaa (Kd.R (Kd.int .i64) 3 w' w.heap.size (fun k_ => some k_ ≠ ((.slice Ao27 t1006.length co27) : Value).ownBlock) (.slice (some ad1018) t1003.length co26) t1003) ∧ Zaa (Kd.R (Kd.int .i64) 3 w' w.heap.size (fun k_ => some k_ ≠ ((.slice (some ad1018) t1003.length co26) : Value).ownBlock) (.slice Ao27 t1006.length co27) t1006) ∧ Zaa (Kd.S (Kd.slice 3 (Kd.int .i64)) 23 w' w.heap.size (fun k_ => some k_ ≠ ((.slice (some ad1018) t1003.length co26) : Value).ownBlock ∧ some k_ ≠ ((.slice Ao27 t1006.length co27) : Value).ownBlock) (.slice Ao28 t1011.length co28) t1011) ∧ Zaa (w'.heap[gb998]? = some (.cells #[(.slice A0_0 l0_0.length c0_0), .int .i64 a0_1, (.slice A0_2 l0_2.length c0_2), (.slice A0_3 l0_3.length c0_3), .int .i64 a0_4, .int .i64 a0_5, (.slice A0_6 l0_6.length c0_6), .int .i64 a0_7, (.slice A0_8 l0_8.length c0_8), (.slice A0_9 l0_9.length c0_9)] 27 (0, 0))) ∧ Zaa (w'.heap[gb1016]? = some (.cells #[.int .i64 t1002, (.slice (some ad1018) t1003.length co26), (.slice Ao27 t1006.length co27), .int .i64 t1009, .int .i64 t1010, (.slice Ao28 t1011.length co28), .int .i64 t1014] 25 (0, 0))) ∧ Zaa (Kd.C k41 w' A1028_0 (Zb8 y1022 (rd t1003 1)).length (Zb8 y1022 (rd t1003 1))) ∧ Zaa (Kd.C k41 w' A1030_0 (Zb8 y1022 (rd t1003 (ji14))).length (Zb8 y1022 (rd t1003 (ji14)))) ∧ Zaa (Below w.heap.size w w'))
 case atStart => exact ⟨(0), (by first | rfl | (simp; done) | (simp [*]; done)), H', ⟨Nat.le_refl _⟩, ⟨by (with_reducible repeat (first | apply Kd.Zb3 | apply Kd.Zb4 | apply Kd.Zb5)); exact Kd.Zc1 HO1001.out (fun _ hk => ⟨hk.1.2, hk.2⟩)⟩, ⟨by (with_reducible repeat (first | apply Kd.Zb3 | apply Kd.Zb4 | apply Kd.Zb5)); exact Kd.Zc1 HO1025.out (fun _ hk => ⟨hk.1.2, hk.2⟩)⟩, ⟨by (with_reducible repeat (first | apply Kd.Zao | apply Kd.Zan | apply Kd.Zat)); exact Kd.Zbj HO1033.out (fun _ hk => trivial)⟩, ⟨by (with_reducible repeat (first | apply Kd.Zao | apply Kd.Zan | apply Kd.Zat)); exact HO1005.out⟩, ⟨by (with_reducible repeat (first | apply Kd.Zao | apply Kd.Zan | apply Kd.Zat)); exact HO1008.out⟩, ⟨by (with_reducible repeat (first | apply Kd.Zb3 | apply Kd.Zb4 | apply Kd.Zb5)); exact HO1013.out⟩, ⟨by (with_reducible repeat (first | refine Zaf ?_ _ | refine Zaj ?_ | refine Zae ?_ _)); exact BK998.out⟩, ⟨by (with_reducible repeat (first | refine Zaf ?_ _ | refine Zaj ?_ | refine Zae ?_ _)); exact BK1016.out⟩, ⟨by repeat (first | (with_reducible exact HR1028_0.out) | (with_reducible refine Kd.Zbc ?_ _) | (with_reducible refine Kd.Zba ?_ _) | (with_reducible refine Kd.Zbh ?_) | exact HR1028_0.out)⟩, ⟨by repeat (first | (with_reducible exact HR1030_0.out) | (with_reducible refine Kd.Zbc ?_ _) | (with_reducible refine Kd.Zba ?_ _) | (with_reducible refine Kd.Zbh ?_) | exact HR1030_0.out)⟩, ⟨by repeat (first | (with_reducible first | exact HB.out | apply Zab | apply Za | apply Zac | refine Zag ?_ GE998.out | refine Zag ?_ GE1016.out) | exact HB.out)⟩⟩
 case round =>
  clear H'
  try clear c1
  try clear p1
  try clear q1
  try clear hx1
  try clear qi1
  try clear c2
  try clear p2
  try clear c3
  try clear hx3
  try clear hf3
  try clear c4
  try clear c5
  try clear c5b0
  try clear c5b1
  try clear c6
  try clear c6b0
  try clear c6b1
  try clear p6
  try clear c7
  try clear c7b0
  try clear c8
  try clear c8b0
  try clear c9
  try clear p9
  try clear q9
  try clear hx9
  try clear hf9
  try clear c10
  try clear p10
  try clear q10
  try clear hx10
  try clear qi10
  try clear c11
  try clear c11b0
  try clear c11b1
  try clear c12
  try clear c12b0
  try clear c13
  try clear c13b0
  try clear c14
  try clear c15
  try clear c15b0
  try clear c16
  try clear c16b0
  try clear c17
  try clear c17b0
  try clear c18
  try clear c18b0
  try clear c24
  try clear c31
  try clear hx31
  try clear hf31
  try clear c35
  try clear hcz21_0
  try clear hcz21_1
  try clear hcz21_2
  try clear hcz21_3
  try clear hcz21_4
  try clear hcz21_5
  try clear hcz21_6
  try clear hcz21_7
  try clear hcz21_8
  try clear hcz21_9
  try clear hcz25_0
  try clear hcz25_1
  try clear hcz25_2
  try clear hcz25_3
  try clear hcz25_4
  try clear hcz25_5
  try clear hcz25_6
  try clear hcz33_0
  try clear hcz33_1
  try clear hcz33_2
  try clear hcz33_3
  try clear hcz33_4
  try clear hcz33_5
  try clear hcz33_6
  try clear hfz21_0
  try clear hfz21_1
  try clear hfz21_2
  try clear hfz21_3
  try clear hfz21_4
  try clear hfz21_5
  try clear hfz21_6
  try clear hfz21_7
  try clear hfz21_8
  try clear hfz21_9
  try clear hfz25_0
  try clear hfz25_1
  try clear hfz25_2
  try clear hfz25_3
  try clear hfz25_4
  try clear hfz25_5
  try clear hfz25_6
  try clear hfz33_0
  try clear hfz33_1
  try clear hfz33_2
  try clear hfz33_3
  try clear hfz33_4
  try clear hfz33_5
  try clear hfz33_6
  try clear hx1018_0
  try clear hx1027_0
  try clear hx1028_0
  try clear hx1029_0
  try clear hx1030_0
  try clear hx31_0
  try clear hx9_0
  try clear p1018
  try clear p1027
  try clear p1028
  try clear p1029
  try clear p1030
  try clear p9
  try clear q1018
  try clear q1027
  try clear q1028
  try clear q1029
  try clear q1030
  try clear q9
  obtain ⟨x12_1, rfl, HA, HK1, HO_5, HO_9, HO_11, HO_1017001, HO_1017002, HO_1017005, BK998, BK1016, HR1028_0, HR1030_0, HB⟩ := hrel
  have hl5_1 := (Kd.Zc HO_5.out).1
  rw [hl5_1] at HO_5
  (try simp only [hl5_1])
  (try simp only [hl5_1] at BK998)
  (try simp only [hl5_1] at BK1016)
  (try simp only [hl5_1] at HO_9)
  (try simp only [hl5_1] at HO_11)
  (try simp only [hl5_1] at HO_1017001)
  (try simp only [hl5_1] at HO_1017002)
  (try simp only [hl5_1] at HO_1017005)
  cases gk with
  | zero => exact absurd HA.out (by simp [Zad.l0])
  | succ k1 =>
   have H := HA.out
   clear HA
   simp only [Zad.l0] at H
   by_cases c37 : x12_1 < (y1022.length : Int)
   ·rw [if_pos c37] at H
    have c37b0 : decide (x12_1 < (y1022.length : Int)) = true := decide_eq_true c37
    try have c37b0_l : decide (x12_1 < (x5_1.length : Int)) = true := by first | (rw [← hl5_1]; exact c37b0) | exact c37b0
    clear c37
    by_cases c38 : 0 ≤ x12_1
    rotate_left
    ·rw [if_neg c38] at H
     exact absurd H (by simp)
    rw [if_pos c38] at H
    have c38b0 : decide (0 ≤ x12_1) = true := decide_eq_true c38
    clear c38
    by_cases c39 : ((Zb8 y1022 x12_1).length : Int) = 0
    rotate_left
    ·rw [if_neg c39] at H
     have c39b0 : (((Zb8 y1022 x12_1).length : Int) == 0) = false := beq_eq_false_iff_ne.mpr c39
     have c39b1 : (((Zb8 y1022 x12_1).length : Int) != 0) = true := bne_iff_ne.mpr c39
     have c39b2 : ¬ ((Zb8 y1022 x12_1) = []) := fun h_ => c39 (by rw [h_]; rfl)
     have H' := Zaa.mk H
     clear H
     have p1034 : 0 ≤ (x12_1 : Int) := of_decide_eq_true (by first | (with_reducible assumption) | assumption)
     have q1034 : x12_1 < (y1022.length : Int) := of_decide_eq_true (by first | (with_reducible assumption) | assumption)
     obtain ⟨ad1034, A1034_0, c1034_0, e1034, hx1034_0, hl1034_0, hi1034_0⟩ := Zee (Kd.Zc HO_5.out).2.2 x12_1 p1034 q1034
     obtain rfl : (⟨go9, 0, none⟩ : Addr) = ad1034 := (by injection e1034)
     obtain ⟨ce1034, hce1034, hMe1034, hcc1034⟩ := Kd.S_get HO_5.out [] x12_1 p1034 (by first | exact q1034 | exact of_decide_eq_true (by first | (with_reducible assumption) | assumption) | (have e_ := (Kd.Zc HO_5.out).1; omega))
     obtain ⟨ve1034_0, rfl, ge1034_0⟩ := hMe1034
     have hv1034_0 := hcc1034 0 _ rfl
     rw [Nat.add_zero, show ((Kd.slice 41 k41)).sz = 1 from rfl, Nat.mul_one] at hv1034_0
     replace hv1034_0 := Option.some.inj (hv1034_0.symm.trans hx1034_0)
     rw [hv1034_0] at ge1034_0
     have HL1034_0 := Zaa.mk (show Kd.R k41 41 _ _ _ _ (Zb8 y1022 x12_1) from ge1034_0)
     clear hv1034_0 ge1034_0
     clear hcc1034 hce1034
     (first | simp only [add_plain] at hx1034_0 | simp only [Zgl] at hx1034_0 | simp only [Addr.add, Nat.zero_add] at hx1034_0 | skip)
     have HR1034_0 := Zaa.mk hi1034_0
     have HC1034_0 := Zaa.mk hl1034_0
     clear hi1034_0 hl1034_0
     replace p1034 := eq_true p1034
     replace q1034 := eq_true q1034
     go_wp2
     (try simp only [← hl5_1])
     go_roundg k1
     case measure => have := HK1.out; omega
     case rel => exact ⟨(wrap64 (x12_1 + 1)), (by first | rfl | (simp; done) | (simp [*]; done)), H', ⟨by have := HK1.out; omega⟩, ⟨by (try simp only [hl5_1]); (with_reducible repeat (first | apply Kd.Zb3 | apply Kd.Zb4 | apply Kd.Zb5)); exact HO_5.out⟩, ⟨by (try simp only [hl5_1]); (with_reducible repeat (first | apply Kd.Zb3 | apply Kd.Zb4 | apply Kd.Zb5)); exact HO_9.out⟩, ⟨by (try simp only [hl5_1]); (with_reducible repeat (first | apply Kd.Zao | apply Kd.Zan | apply Kd.Zat)); exact HO_11.out⟩, ⟨by (try simp only [hl5_1]); (with_reducible repeat (first | apply Kd.Zao | apply Kd.Zan | apply Kd.Zat)); exact HO_1017001.out⟩, ⟨by (try simp only [hl5_1]); (with_reducible repeat (first | apply Kd.Zao | apply Kd.Zan | apply Kd.Zat)); exact HO_1017002.out⟩, ⟨by (try simp only [hl5_1]); (with_reducible repeat (first | apply Kd.Zb3 | apply Kd.Zb4 | apply Kd.Zb5)); exact HO_1017005.out⟩, ⟨by (try simp only [hl5_1]); (with_reducible repeat (first | refine Zaf ?_ _ | refine Zaj ?_ | refine Zae ?_ _)); exact BK998.out⟩, ⟨by (try simp only [hl5_1]); (with_reducible repeat (first | refine Zaf ?_ _ | refine Zaj ?_ | refine Zae ?_ _)); exact BK1016.out⟩, ⟨by repeat (first | (with_reducible exact HR1028_0.out) | (with_reducible refine Kd.Zbc ?_ _) | (with_reducible refine Kd.Zba ?_ _) | (with_reducible refine Kd.Zbh ?_) | exact HR1028_0.out)⟩, ⟨by repeat (first | (with_reducible exact HR1030_0.out) | (with_reducible refine Kd.Zbc ?_ _) | (with_reducible refine Kd.Zba ?_ _) | (with_reducible refine Kd.Zbh ?_) | exact HR1030_0.out)⟩, ⟨by repeat (first | (with_reducible first | exact HB.out | apply Zab | apply Za | apply Zac | refine Zag ?_ GE998.out | refine Zag ?_ GE1016.out) | exact HB.out)⟩⟩
    rw [if_pos c39] at H
    have c39b0 : (((Zb8 y1022 x12_1).length : Int) == 0) = true := beq_iff_eq.mpr c39
    have c39b1 : (((Zb8 y1022 x12_1).length : Int) != 0) = false := bne_eq_false_iff_eq.mpr c39
    clear c39
    by_cases c40 : t1026 = true
    ·subst c40
     have H1 : (none) = some r := by rw [if_pos rfl] at H; exact H
     clear H
     have H := H1
     clear H1
     exact absurd H (by simp)
    replace c40 := Bool.eq_false_iff.mpr c40
    subst c40
    have H1 : ((Za4.f k1).bind fun t1035 => (some t1035)) = some r := by rw [if_neg (show ¬ (false = true) by decide)] at H; exact H
    clear H
    have H := H1
    clear H1
    replace H := Option.bind_eq_some_iff.mp H
    obtain ⟨t1035, A410, H⟩ := H
    replace H : (some t1035) = some r := H
    have A41 := Zaa.mk A410
    clear A410
    obtain rfl := Option.some.inj H
    have p1034 : 0 ≤ (x12_1 : Int) := of_decide_eq_true (by first | (with_reducible assumption) | assumption)
    have q1034 : x12_1 < (y1022.length : Int) := of_decide_eq_true (by first | (with_reducible assumption) | assumption)
    obtain ⟨ad1034, A1034_0, c1034_0, e1034, hx1034_0, hl1034_0, hi1034_0⟩ := Zee (Kd.Zc HO_5.out).2.2 x12_1 p1034 q1034
    obtain rfl : (⟨go9, 0, none⟩ : Addr) = ad1034 := (by injection e1034)
    obtain ⟨ce1034, hce1034, hMe1034, hcc1034⟩ := Kd.S_get HO_5.out [] x12_1 p1034 (by first | exact q1034 | exact of_decide_eq_true (by first | (with_reducible assumption) | assumption) | (have e_ := (Kd.Zc HO_5.out).1; omega))
    obtain ⟨ve1034_0, rfl, ge1034_0⟩ := hMe1034
    have hv1034_0 := hcc1034 0 _ rfl
    rw [Nat.add_zero, show ((Kd.slice 41 k41)).sz = 1 from rfl, Nat.mul_one] at hv1034_0
    replace hv1034_0 := Option.some.inj (hv1034_0.symm.trans hx1034_0)
    rw [hv1034_0] at ge1034_0
    have HL1034_0 := Zaa.mk (show Kd.R k41 41 _ _ _ _ (Zb8 y1022 x12_1) from ge1034_0)
    clear hv1034_0 ge1034_0
    clear hcc1034 hce1034
    (first | simp only [add_plain] at hx1034_0 | simp only [Zgl] at hx1034_0 | simp only [Addr.add, Nat.zero_add] at hx1034_0 | skip)
    have HR1034_0 := Zaa.mk hi1034_0
    have HC1034_0 := Zaa.mk hl1034_0
    clear hi1034_0 hl1034_0
    replace p1034 := eq_true p1034
    replace q1034 := eq_true q1034
    go_wp2_with (first | (go_at_call 34; (with_reducible refine (Za4.calls k1  t1035 _ A41.out).mono ?_); rintro e w42 ⟨rfl, hb⟩; have n0_ := Zaa.mk (Kd.Zck (mvS HO_5.out) hb); have n1_ := Zaa.mk (Kd.Zck (mvS HO_9.out) hb); have n2_ := Zaa.mk (Kd.Zbs (mvR HO_11.out) hb); have n3_ := Zaa.mk (Kd.Zbs (mvR HO_1017001.out) hb); have n4_ := Zaa.mk (Kd.Zbs (mvR HO_1017002.out) hb); have n5_ := Zaa.mk (Kd.Zck (mvS HO_1017005.out) hb); have n6_ := Zaa.mk (Kd.Zbs (mvR HL1034_0.out) hb); have n7_ := Zaa.mk (Zbe (g := gb998) (o := .cells #[.slice A0_0 l0_0.length c0_0, .int .i64 a0_1, .slice A0_2 l0_2.length c0_2, .slice A0_3 l0_3.length c0_3, .int .i64 a0_4, .int .i64 a0_5, .slice A0_6 l0_6.length c0_6, .int .i64 a0_7, .slice A0_8 l0_8.length c0_8, .slice A0_9 l0_9.length c0_9] 27 (0, 0)) (mvK BK998.out) hb); have n8_ := Zaa.mk (Zbe (g := gb1016) (o := .cells #[.int .i64 t1002, .slice (some ad1018) t1003.length co26, .slice Ao27 t1006.length co27, .int .i64 t1009, .int .i64 t1010, .slice Ao28 t1011.length co28, .int .i64 t1014] 25 (0, 0)) (mvK BK1016.out) hb); have n9_ := Zaa.mk (Kd.Zbn (by first | (with_reducible exact HR1028_0.out) | (with_reducible exact Kd.Zba HR1028_0.out _) | (with_reducible exact Kd.Zbh HR1028_0.out) | repeat (first | (with_reducible exact HR1028_0.out) | (with_reducible refine Kd.Zbc ?_ _) | (with_reducible refine Kd.Zba ?_ _) | (with_reducible refine Kd.Zbh ?_) | exact HR1028_0.out)) hb); have n10_ := Zaa.mk (Kd.Zbn (by first | (with_reducible exact HR1030_0.out) | (with_reducible exact Kd.Zba HR1030_0.out _) | (with_reducible exact Kd.Zbh HR1030_0.out) | repeat (first | (with_reducible exact HR1030_0.out) | (with_reducible refine Kd.Zbc ?_ _) | (with_reducible refine Kd.Zba ?_ _) | (with_reducible refine Kd.Zbh ?_) | exact HR1030_0.out)) hb); have n11_ := Zaa.mk (Kd.Zbn (by first | (with_reducible exact HR1034_0.out) | (with_reducible exact Kd.Zba HR1034_0.out _) | (with_reducible exact Kd.Zbh HR1034_0.out) | repeat (first | (with_reducible exact HR1034_0.out) | (with_reducible refine Kd.Zbc ?_ _) | (with_reducible refine Kd.Zba ?_ _) | (with_reducible refine Kd.Zbh ?_) | exact HR1034_0.out)) hb); have n12_ := Zaa.mk (Zaz (mvB HB.out) hb); clear HO_5; clear HO_9; clear HO_11; clear HO_1017001; clear HO_1017002; clear HO_1017005; clear HL1034_0; clear BK998; clear BK1016; clear HR1028_0; clear HR1030_0; clear HR1034_0; clear HB; have HO_5 := n0_; have HO_9 := n1_; have HO_11 := n2_; have HO_1017001 := n3_; have HO_1017002 := n4_; have HO_1017005 := n5_; have HL1034_0 := n6_; have BK998 := n7_; have BK1016 := n8_; have HR1028_0 := n9_; have HR1030_0 := n10_; have HR1034_0 := n11_; have HB := n12_; clear n0_ n1_ n2_ n3_ n4_ n5_ n6_ n7_ n8_ n9_ n10_ n11_ n12_; (try clear hb); (try clear hb2); (try clear hk); (try clear hi)))
    go_ret
    exact ⟨by first | rfl | (simp [Za7, Za8] <;> rfl) | (simp only [← hji14]; first | rfl | (simp [Za7, Za8] <;> rfl)) | (simp [*, Za7, Za8] <;> rfl), by repeat (first | (with_reducible first | exact HB.out | apply Zab | apply Za | apply Zac | refine Zag ?_ GE998.out | refine Zag ?_ GE1016.out) | exact HB.out)⟩
   rw [if_neg c37] at H
   have c37b0 : decide (x12_1 < (y1022.length : Int)) = false := decide_eq_false c37
   try have c37b0_l : decide (x12_1 < (x5_1.length : Int)) = false := by first | (rw [← hl5_1]; exact c37b0) | exact c37b0
   clear c37
   by_cases c43 : (t1031.length : Int) = 0
   ·rw [if_pos c43] at H
    have c43b0 : ((t1031.length : Int) == 0) = true := beq_iff_eq.mpr c43
    have c43b1 : ((t1031.length : Int) != 0) = false := bne_eq_false_iff_eq.mpr c43
    clear c43
    by_cases c44 : t1026 = true
    ·subst c44
     have H1 : (none) = some r := by rw [if_pos rfl] at H; exact H
     clear H
     have H := H1
     clear H1
     exact absurd H (by simp)
    replace c44 := Bool.eq_false_iff.mpr c44
    subst c44
    have H1 : (if (t1023.length : Int) = 0 then ((Za4.f k1).bind fun t1036 => (some t1036)) else (none)) = some r := by rw [if_neg (show ¬ (false = true) by decide)] at H; exact H
    clear H
    have H := H1
    clear H1
    by_cases c45 : (t1023.length : Int) = 0
    rotate_left
    ·rw [if_neg c45] at H
     exact absurd H (by simp)
    rw [if_pos c45] at H
    have c45b0 : ((t1023.length : Int) == 0) = true := beq_iff_eq.mpr c45
    have c45b1 : ((t1023.length : Int) != 0) = false := bne_eq_false_iff_eq.mpr c45
    clear c45
    replace H := Option.bind_eq_some_iff.mp H
    obtain ⟨t1036, A460, H⟩ := H
    replace H : (some t1036) = some r := H
    have A46 := Zaa.mk A460
    clear A460
    obtain rfl := Option.some.inj H
    obtain ⟨Ao47, co47, eo47⟩ := Kd.Zbr HO_11.out
    subst eo47
    obtain ⟨Ao48, co48, eo48⟩ := Kd.Zd9 HO_9.out
    subst eo48
    go_wp2_with (first | (go_at_call 34; (with_reducible refine (Za4.calls k1  t1036 _ A46.out).mono ?_); rintro e w49 ⟨rfl, hb⟩; have n0_ := Zaa.mk (Kd.Zck (mvS HO_5.out) hb); have n1_ := Zaa.mk (Kd.Zck (mvS HO_9.out) hb); have n2_ := Zaa.mk (Kd.Zbs (mvR HO_11.out) hb); have n3_ := Zaa.mk (Kd.Zbs (mvR HO_1017001.out) hb); have n4_ := Zaa.mk (Kd.Zbs (mvR HO_1017002.out) hb); have n5_ := Zaa.mk (Kd.Zck (mvS HO_1017005.out) hb); have n6_ := Zaa.mk (Zbe (g := gb998) (o := .cells #[.slice A0_0 l0_0.length c0_0, .int .i64 a0_1, .slice A0_2 l0_2.length c0_2, .slice A0_3 l0_3.length c0_3, .int .i64 a0_4, .int .i64 a0_5, .slice A0_6 l0_6.length c0_6, .int .i64 a0_7, .slice A0_8 l0_8.length c0_8, .slice A0_9 l0_9.length c0_9] 27 (0, 0)) (mvK BK998.out) hb); have n7_ := Zaa.mk (Zbe (g := gb1016) (o := .cells #[.int .i64 t1002, .slice (some ad1018) t1003.length co26, .slice Ao27 t1006.length co27, .int .i64 t1009, .int .i64 t1010, .slice Ao28 t1011.length co28, .int .i64 t1014] 25 (0, 0)) (mvK BK1016.out) hb); have n8_ := Zaa.mk (Kd.Zbn (by first | (with_reducible exact HR1028_0.out) | (with_reducible exact Kd.Zba HR1028_0.out _) | (with_reducible exact Kd.Zbh HR1028_0.out) | repeat (first | (with_reducible exact HR1028_0.out) | (with_reducible refine Kd.Zbc ?_ _) | (with_reducible refine Kd.Zba ?_ _) | (with_reducible refine Kd.Zbh ?_) | exact HR1028_0.out)) hb); have n9_ := Zaa.mk (Kd.Zbn (by first | (with_reducible exact HR1030_0.out) | (with_reducible exact Kd.Zba HR1030_0.out _) | (with_reducible exact Kd.Zbh HR1030_0.out) | repeat (first | (with_reducible exact HR1030_0.out) | (with_reducible refine Kd.Zbc ?_ _) | (with_reducible refine Kd.Zba ?_ _) | (with_reducible refine Kd.Zbh ?_) | exact HR1030_0.out)) hb); have n10_ := Zaa.mk (Zaz (mvB HB.out) hb); clear HO_5; clear HO_9; clear HO_11; clear HO_1017001; clear HO_1017002; clear HO_1017005; clear BK998; clear BK1016; clear HR1028_0; clear HR1030_0; clear HB; have HO_5 := n0_; have HO_9 := n1_; have HO_11 := n2_; have HO_1017001 := n3_; have HO_1017002 := n4_; have HO_1017005 := n5_; have BK998 := n6_; have BK1016 := n7_; have HR1028_0 := n8_; have HR1030_0 := n9_; have HB := n10_; clear n0_ n1_ n2_ n3_ n4_ n5_ n6_ n7_ n8_ n9_ n10_; (try clear hb); (try clear hb2); (try clear hk); (try clear hi)))
    go_ret
    exact ⟨by first | rfl | (simp [Za7, Za8] <;> rfl) | (simp only [← hji14]; first | rfl | (simp [Za7, Za8] <;> rfl)) | (simp [*, Za7, Za8] <;> rfl), by repeat (first | (with_reducible first | exact HB.out | apply Zab | apply Za | apply Zac | refine Zag ?_ GE998.out | refine Zag ?_ GE1016.out) | exact HB.out)⟩
   rw [if_neg c43] at H
   have c43b0 : ((t1031.length : Int) == 0) = false := beq_eq_false_iff_ne.mpr c43
   have c43b1 : ((t1031.length : Int) != 0) = true := bne_iff_ne.mpr c43
   have c43b2 : ¬ (t1031 = []) := fun h_ => c43 (by rw [h_]; rfl)
   by_cases c50 : (t1023.length : Int) > (y1022.length : Int)
   ·rw [if_pos c50] at H
    exact absurd H (by simp)
   rw [if_neg c50] at H
   have c50b0 : decide ((y1022.length : Int) < (t1023.length : Int)) = false := decide_eq_false c50
   have c50b1 : decide (y1022.length < t1023.length) = false := decide_eq_false (fun h => c50 (Int.ofNat_lt.mpr h))
   clear c50
   have H' := Zaa.mk H
   clear H
   obtain ⟨Ao51, co51, eo51⟩ := Kd.Zbr HO_11.out
   subst eo51
   obtain ⟨Ao52, co52, eo52⟩ := Kd.Zd9 HO_9.out
   subst eo52
   go_wp2
   go_loopg [13] k1 (fun kq v13 w' => ∃ (x13_2 : Int), v13 = .int .i64 x13_2 ∧ Zaa (Zad.l1 kq y1022 (Int.tmod (Go.bits .and .i64 a1 65535) (wrap64 ((t1003.length : Int) - 2))) t1023 t1026 t1031 x13_2 t1002 t1003 t1006 t1009 t1010 t1011 t1014 = some r) ∧ Zaa (kq ≤ k1) ∧ Zaa (Kd.S (Kd.slice 41 k41) 39 w' w.heap.size (fun k_ => some k_ ≠ ((.slice Ao52 t1023.length co52) : Value).ownBlock ∧ some k_ ≠ ((.slice Ao51 t1031.length co51) : Value).ownBlock) (.slice (some ⟨go9, 0, none⟩) y1022.length co9) y1022) ∧ Zaa (Kd.S (Kd.slice 41 k41) 39 w' w.heap.size (fun k_ => some k_ ≠ ((.slice (some ⟨go9, 0, none⟩) y1022.length co9) : Value).ownBlock ∧ some k_ ≠ ((.slice Ao51 t1031.length co51) : Value).ownBlock) (.slice Ao52 t1023.length co52) t1023) ∧ Zaa (Kd.R k41 41 w' w.heap.size (fun _ => True) (.slice Ao51 t1031.length co51) t1031) ∧ Zaa (Kd.R (Kd.int .i64) 3 w' w.heap.size (fun k_ => some k_ ≠ ((.slice Ao27 t1006.length co27) : Value).ownBlock) (.slice (some ad1018) t1003.length co26) t1003) ∧ Zaa (Kd.R (Kd.int .i64) 3 w' w.heap.size (fun k_ => some k_ ≠ ((.slice (some ad1018) t1003.length co26) : Value).ownBlock) (.slice Ao27 t1006.length co27) t1006) ∧ Zaa (Kd.S (Kd.slice 3 (Kd.int .i64)) 23 w' w.heap.size (fun k_ => some k_ ≠ ((.slice (some ad1018) t1003.length co26) : Value).ownBlock ∧ some k_ ≠ ((.slice Ao27 t1006.length co27) : Value).ownBlock) (.slice Ao28 t1011.length co28) t1011) ∧ Zaa (w'.heap[gb998]? = some (.cells #[(.slice A0_0 l0_0.length c0_0), .int .i64 a0_1, (.slice A0_2 l0_2.length c0_2), (.slice A0_3 l0_3.length c0_3), .int .i64 a0_4, .int .i64 a0_5, (.slice A0_6 l0_6.length c0_6), .int .i64 a0_7, (.slice A0_8 l0_8.length c0_8), (.slice A0_9 l0_9.length c0_9)] 27 (0, 0))) ∧ Zaa (w'.heap[gb1016]? = some (.cells #[.int .i64 t1002, (.slice (some ad1018) t1003.length co26), (.slice Ao27 t1006.length co27), .int .i64 t1009, .int .i64 t1010, (.slice Ao28 t1011.length co28), .int .i64 t1014] 25 (0, 0))) ∧ Zaa (Kd.C k41 w' A1028_0 (Zb8 y1022 (rd t1003 1)).length (Zb8 y1022 (rd t1003 1))) ∧ Zaa (Kd.C k41 w' A1030_0 (Zb8 y1022 (rd t1003 (ji14))).length (Zb8 y1022 (rd t1003 (ji14)))) ∧ Zaa (Below w.heap.size w w'))
   case atStart => exact ⟨(0), (by first | rfl | (simp; done) | (simp [*]; done)), H', ⟨Nat.le_refl _⟩, ⟨by (try simp only [hl5_1]); (with_reducible repeat (first | apply Kd.Zb3 | apply Kd.Zb4 | apply Kd.Zb5)); exact HO_5.out⟩, ⟨by (try simp only [hl5_1]); (with_reducible repeat (first | apply Kd.Zb3 | apply Kd.Zb4 | apply Kd.Zb5)); exact HO_9.out⟩, ⟨by (try simp only [hl5_1]); (with_reducible repeat (first | apply Kd.Zao | apply Kd.Zan | apply Kd.Zat)); exact HO_11.out⟩, ⟨by (try simp only [hl5_1]); (with_reducible repeat (first | apply Kd.Zao | apply Kd.Zan | apply Kd.Zat)); exact HO_1017001.out⟩, ⟨by (try simp only [hl5_1]); (with_reducible repeat (first | apply Kd.Zao | apply Kd.Zan | apply Kd.Zat)); exact HO_1017002.out⟩, ⟨by (try simp only [hl5_1]); (with_reducible repeat (first | apply Kd.Zb3 | apply Kd.Zb4 | apply Kd.Zb5)); exact HO_1017005.out⟩, ⟨by (try simp only [hl5_1]); (with_reducible repeat (first | refine Zaf ?_ _ | refine Zaj ?_ | refine Zae ?_ _)); exact BK998.out⟩, ⟨by (try simp only [hl5_1]); (with_reducible repeat (first | refine Zaf ?_ _ | refine Zaj ?_ | refine Zae ?_ _)); exact BK1016.out⟩, ⟨by repeat (first | (with_reducible exact HR1028_0.out) | (with_reducible refine Kd.Zbc ?_ _) | (with_reducible refine Kd.Zba ?_ _) | (with_reducible refine Kd.Zbh ?_) | exact HR1028_0.out)⟩, ⟨by repeat (first | (with_reducible exact HR1030_0.out) | (with_reducible refine Kd.Zbc ?_ _) | (with_reducible refine Kd.Zba ?_ _) | (with_reducible refine Kd.Zbh ?_) | exact HR1030_0.out)⟩, ⟨by repeat (first | (with_reducible first | exact HB.out | apply Zab | apply Za | apply Zac | refine Zag ?_ GE998.out | refine Zag ?_ GE1016.out) | exact HB.out)⟩⟩
   case round =>
    clear H'
    try clear c1
    try clear p1
    try clear q1
    try clear hx1
    try clear qi1
    try clear c2
    try clear p2
    try clear c3
    try clear hx3
    try clear hf3
    try clear c4
    try clear c5
    try clear c5b0
    try clear c5b1
    try clear c6
    try clear c6b0
    try clear c6b1
    try clear p6
    try clear c7
    try clear c7b0
    try clear c8
    try clear c8b0
    try clear c9
    try clear p9
    try clear q9
    try clear hx9
    try clear hf9
    try clear c10
    try clear p10
    try clear q10
    try clear hx10
    try clear qi10
    try clear c11
    try clear c11b0
    try clear c11b1
    try clear c12
    try clear c12b0
    try clear c13
    try clear c13b0
    try clear c14
    try clear c15
    try clear c15b0
    try clear c16
    try clear c16b0
    try clear c17
    try clear c17b0
    try clear c18
    try clear c18b0
    try clear c24
    try clear c31
    try clear hx31
    try clear hf31
    try clear c35
    try clear c37
    try clear c37b0
    try clear c38
    try clear c38b0
    try clear c39
    try clear c39b0
    try clear c39b1
    try clear c39b2
    try clear c40
    try clear c43
    try clear c43b0
    try clear c43b1
    try clear c43b2
    try clear c44
    try clear c45
    try clear c45b0
    try clear c45b1
    try clear c50
    try clear c50b0
    try clear c50b1
    try clear hcz21_0
    try clear hcz21_1
    try clear hcz21_2
    try clear hcz21_3
    try clear hcz21_4
    try clear hcz21_5
    try clear hcz21_6
    try clear hcz21_7
    try clear hcz21_8
    try clear hcz21_9
    try clear hcz25_0
    try clear hcz25_1
    try clear hcz25_2
    try clear hcz25_3
    try clear hcz25_4
    try clear hcz25_5
    try clear hcz25_6
    try clear hcz33_0
    try clear hcz33_1
    try clear hcz33_2
    try clear hcz33_3
    try clear hcz33_4
    try clear hcz33_5
    try clear hcz33_6
    try clear hfz21_0
    try clear hfz21_1
    try clear hfz21_2
    try clear hfz21_3
    try clear hfz21_4
    try clear hfz21_5
    try clear hfz21_6
    try clear hfz21_7
    try clear hfz21_8
    try clear hfz21_9
    try clear hfz25_0
    try clear hfz25_1
    try clear hfz25_2
    try clear hfz25_3
    try clear hfz25_4
    try clear hfz25_5
    try clear hfz25_6
    try clear hfz33_0
    try clear hfz33_1
    try clear hfz33_2
    try clear hfz33_3
    try clear hfz33_4
    try clear hfz33_5
    try clear hfz33_6
    try clear hx1018_0
    try clear hx1027_0
    try clear hx1028_0
    try clear hx1029_0
    try clear hx1030_0
    try clear hx1034_0
    try clear hx31_0
    try clear hx9_0
    try clear p1
    try clear p10
    try clear p1018
    try clear p1027
    try clear p1028
    try clear p1029
    try clear p1030
    try clear p1034
    try clear p2
    try clear p6
    try clear p9
    try clear q1
    try clear q10
    try clear q1018
    try clear q1027
    try clear q1028
    try clear q1029
    try clear q1030
    try clear q1034
    try clear q9
    obtain ⟨x13_2, rfl, HA, HK2, HO_5, HO_9, HO_11, HO_1017001, HO_1017002, HO_1017005, BK998, BK1016, HR1028_0, HR1030_0, HB⟩ := hrel
    cases gk with
    | zero => exact absurd HA.out (by simp [Zad.l1])
    | succ k2 =>
     have H := HA.out
     clear HA
     simp only [Zad.l1] at H
     by_cases c53 : x13_2 < (t1023.length : Int)
     rotate_left
     ·rw [if_neg c53] at H
      have c53b0 : decide (x13_2 < (t1023.length : Int)) = false := decide_eq_false c53
      clear c53
      by_cases c67 : t1026 = true
      rotate_left
      ·replace c67 := Bool.eq_false_iff.mpr c67
       subst c67
       have H1 : (none) = some r := by rw [if_neg (show ¬ (false = true) by decide)] at H; exact H
       clear H
       have H := H1
       clear H1
       exact absurd H (by simp)
      subst c67
      have H1 : (if (t1023.length : Int) = (y1022.length : Int) then (if 1 < (t1003.length : Int) then (if 0 ≤ (rd t1003 1) then (if (rd t1003 1) < (t1023.length : Int) then ((Zar.f k2 (Zb8 t1023 (rd t1003 1)) t1031).bind fun t1044 => (if t1044 = true then (if 0 ≤ (wrap64 (2 + (Int.tmod (Go.bits .and .i64 a1 65535) (wrap64 ((t1003.length : Int) - 2))))) then (if (wrap64 (2 + (Int.tmod (Go.bits .and .i64 a1 65535) (wrap64 ((t1003.length : Int) - 2))))) < (t1003.length : Int) then (if 0 ≤ (rd t1003 (wrap64 (2 + (Int.tmod (Go.bits .and .i64 a1 65535) (wrap64 ((t1003.length : Int) - 2)))))) then (if (rd t1003 (wrap64 (2 + (Int.tmod (Go.bits .and .i64 a1 65535) (wrap64 ((t1003.length : Int) - 2)))))) < (t1023.length : Int) then ((Zar.f k2 (Zb8 t1023 (rd t1003 (wrap64 (2 + (Int.tmod (Go.bits .and .i64 a1 65535) (wrap64 ((t1003.length : Int) - 2))))))) t1031).bind fun t1047 => (if t1047 = true then ((Za4.f k2).bind fun t1048 => (some t1048)) else (none))) else (none)) else (none)) else (none)) else (none)) else (none))) else (none)) else (none)) else (none)) else (none)) = some r := by rw [if_pos rfl] at H; exact H
      clear H
      have H := H1
      clear H1
      by_cases c68 : (t1023.length : Int) = (y1022.length : Int)
      rotate_left
      ·rw [if_neg c68] at H
       exact absurd H (by simp)
      rw [if_pos c68] at H
      have c68b0 : ((t1023.length : Int) == (y1022.length : Int)) = true := beq_iff_eq.mpr c68
      have c68b1 : ((t1023.length : Int) != (y1022.length : Int)) = false := bne_eq_false_iff_eq.mpr c68
      have c68b2 : (t1023.length == y1022.length) = true := by first | simpa using c68 | (simp at c68 ⊢; omega)
      clear c68
      by_cases c69 : 1 < (t1003.length : Int)
      rotate_left
      ·rw [if_neg c69] at H
       exact absurd H (by simp)
      rw [if_pos c69] at H
      have c69b0 : decide (1 < (t1003.length : Int)) = true := decide_eq_true c69
      have c69b1 : decide (1 < t1003.length) = true := decide_eq_true (by omega)
      clear c69
      by_cases c70 : 0 ≤ (rd t1003 1)
      rotate_left
      ·rw [if_neg c70] at H
       exact absurd H (by simp)
      rw [if_pos c70] at H
      have c70b0 : decide (0 ≤ (rd t1003 1)) = true := decide_eq_true c70
      clear c70
      by_cases c71 : (rd t1003 1) < (t1023.length : Int)
      rotate_left
      ·rw [if_neg c71] at H
       exact absurd H (by simp)
      rw [if_pos c71] at H
      have c71b0 : decide ((rd t1003 1) < (t1023.length : Int)) = true := decide_eq_true c71
      clear c71
      replace H := Option.bind_eq_some_iff.mp H
      obtain ⟨t1044, A720, H⟩ := H
      replace H : (if t1044 = true then (if 0 ≤ (wrap64 (2 + (Int.tmod (Go.bits .and .i64 a1 65535) (wrap64 ((t1003.length : Int) - 2))))) then (if (wrap64 (2 + (Int.tmod (Go.bits .and .i64 a1 65535) (wrap64 ((t1003.length : Int) - 2))))) < (t1003.length : Int) then (if 0 ≤ (rd t1003 (wrap64 (2 + (Int.tmod (Go.bits .and .i64 a1 65535) (wrap64 ((t1003.length : Int) - 2)))))) then (if (rd t1003 (wrap64 (2 + (Int.tmod (Go.bits .and .i64 a1 65535) (wrap64 ((t1003.length : Int) - 2)))))) < (t1023.length : Int) then ((Zar.f k2 (Zb8 t1023 (rd t1003 (wrap64 (2 + (Int.tmod (Go.bits .and .i64 a1 65535) (wrap64 ((t1003.length : Int) - 2))))))) t1031).bind fun t1047 => (if t1047 = true then ((Za4.f k2).bind fun t1048 => (some t1048)) else (none))) else (none)) else (none)) else (none)) else (none)) else (none)) = some r := H
      have A72 := Zaa.mk A720
      clear A720
      by_cases c73 : t1044 = true
      rotate_left
      ·replace c73 := Bool.eq_false_iff.mpr c73
       subst c73
       have H1 : (none) = some r := by rw [if_neg (show ¬ (false = true) by decide)] at H; exact H
       clear H
       have H := H1
       clear H1
       exact absurd H (by simp)
      subst c73
      have H1 : (if 0 ≤ (wrap64 (2 + (Int.tmod (Go.bits .and .i64 a1 65535) (wrap64 ((t1003.length : Int) - 2))))) then (if (wrap64 (2 + (Int.tmod (Go.bits .and .i64 a1 65535) (wrap64 ((t1003.length : Int) - 2))))) < (t1003.length : Int) then (if 0 ≤ (rd t1003 (wrap64 (2 + (Int.tmod (Go.bits .and .i64 a1 65535) (wrap64 ((t1003.length : Int) - 2)))))) then (if (rd t1003 (wrap64 (2 + (Int.tmod (Go.bits .and .i64 a1 65535) (wrap64 ((t1003.length : Int) - 2)))))) < (t1023.length : Int) then ((Zar.f k2 (Zb8 t1023 (rd t1003 (wrap64 (2 + (Int.tmod (Go.bits .and .i64 a1 65535) (wrap64 ((t1003.length : Int) - 2))))))) t1031).bind fun t1047 => (if t1047 = true then ((Za4.f k2).bind fun t1048 => (some t1048)) else (none))) else (none)) else (none)) else (none)) else (none)) = some r := by rw [if_pos rfl] at H; exact H
      clear H
      have H := H1
      clear H1
      try clear hji14w
      try clear hji57w
      obtain ⟨ji74, hji74⟩ : ∃ j_ : Int, (wrap64 (2 + (Int.tmod (Go.bits .and .i64 a1 65535) (wrap64 ((t1003.length : Int) - 2))))) = j_ := ⟨_, rfl⟩
      replace H : (if 0 ≤ (ji74) then (if (ji74) < (t1003.length : Int) then (if 0 ≤ (rd t1003 (ji74)) then (if (rd t1003 (ji74)) < (t1023.length : Int) then ((Zar.f k2 (Zb8 t1023 (rd t1003 (ji74))) t1031).bind fun t1047 => (if t1047 = true then ((Za4.f k2).bind fun t1048 => (some t1048)) else (none))) else (none)) else (none)) else (none)) else (none)) = some r := by first | (rw [hji74] at H; exact H) | (simp only [hji74] at H ⊢; exact H)
      (try rw [hji74] at A72)
      have hji74w : (IntKind.i64.wrap (2 + (Int.tmod (Go.bits .and .i64 a1 65535) (wrap64 ((t1003.length : Int) - 2))))) = ji74 := (Za5 _).trans hji74
      by_cases c75 : 0 ≤ (ji74)
      rotate_left
      ·rw [if_neg c75] at H
       exact absurd H (by simp)
      rw [if_pos c75] at H
      have c75b0 : decide (0 ≤ (ji74)) = true := decide_eq_true c75
      clear c75
      by_cases c76 : (ji74) < (t1003.length : Int)
      rotate_left
      ·rw [if_neg c76] at H
       exact absurd H (by simp)
      rw [if_pos c76] at H
      have c76b0 : decide ((ji74) < (t1003.length : Int)) = true := decide_eq_true c76
      clear c76
      by_cases c77 : 0 ≤ (rd t1003 (ji74))
      rotate_left
      ·rw [if_neg c77] at H
       exact absurd H (by simp)
      rw [if_pos c77] at H
      have c77b0 : decide (0 ≤ (rd t1003 (ji74))) = true := decide_eq_true c77
      clear c77
      by_cases c78 : (rd t1003 (ji74)) < (t1023.length : Int)
      rotate_left
      ·rw [if_neg c78] at H
       exact absurd H (by simp)
      rw [if_pos c78] at H
      have c78b0 : decide ((rd t1003 (ji74)) < (t1023.length : Int)) = true := decide_eq_true c78
      clear c78
      replace H := Option.bind_eq_some_iff.mp H
      obtain ⟨t1047, A790, H⟩ := H
      replace H : (if t1047 = true then ((Za4.f k2).bind fun t1048 => (some t1048)) else (none)) = some r := H
      have A79 := Zaa.mk A790
      clear A790
      by_cases c80 : t1047 = true
      rotate_left
      ·replace c80 := Bool.eq_false_iff.mpr c80
       subst c80
       have H1 : (none) = some r := by rw [if_neg (show ¬ (false = true) by decide)] at H; exact H
       clear H
       have H := H1
       clear H1
       exact absurd H (by simp)
      subst c80
      have H1 : ((Za4.f k2).bind fun t1048 => (some t1048)) = some r := by rw [if_pos rfl] at H; exact H
      clear H
      have H := H1
      clear H1
      replace H := Option.bind_eq_some_iff.mp H
      obtain ⟨t1048, A810, H⟩ := H
      replace H : (some t1048) = some r := H
      have A81 := Zaa.mk A810
      clear A810
      obtain rfl := Option.some.inj H
      have hnb82 := NB1016_998.out
      have hnc82 := NB998_1016.out
      obtain ⟨hcz83_0, hcz83_1, hcz83_2, hcz83_3, hcz83_4, hcz83_5, hcz83_6, hfz83_0, hfz83_1, hfz83_2, hfz83_3, hfz83_4, hfz83_5, hfz83_6⟩ := Zcu BK1016.out
      have p1042 : 0 ≤ (1 : Int) := (by omega)
      have q1042 : 1 < (t1003.length : Int) := of_decide_eq_true (by first | (with_reducible assumption) | assumption)
      obtain ⟨ad1042, e1042, hx1042_0⟩ := Kd.Zb2 (Kd.Zbb HO_1017001.out).2.2 1 p1042 q1042
      obtain rfl : ad1018 = ad1042 := (by injection e1042)
      (try simp only [show (1 : Int).toNat = 1 from rfl, Nat.reduceMul, Nat.reduceEqDiff, Go.Addr.add, ↓reduceIte] at hx1042_0)
      have qi1042 : (1 < t1003.length) = True := eq_true (by omega)
      (try rw [show ((1 : Int)).toNat = 1 from rfl] at hx1042_0)
      replace p1042 := eq_true p1042
      replace q1042 := eq_true q1042
      have p1043 : 0 ≤ ((rd t1003 1) : Int) := of_decide_eq_true (by first | (with_reducible assumption) | assumption)
      have q1043 : (rd t1003 1) < (t1023.length : Int) := of_decide_eq_true (by first | (with_reducible assumption) | assumption)
      obtain ⟨ad1043, A1043_0, c1043_0, e1043, hx1043_0, hl1043_0, hi1043_0⟩ := Zee (Kd.Zc HO_9.out).2.2 (rd t1003 1) p1043 q1043
      cases e1043
      obtain ⟨ce1043, hce1043, hMe1043, hcc1043⟩ := Kd.S_get HO_9.out [] (rd t1003 1) p1043 (by first | exact q1043 | exact of_decide_eq_true (by first | (with_reducible assumption) | assumption) | (have e_ := (Kd.Zc HO_9.out).1; omega))
      obtain ⟨ve1043_0, rfl, ge1043_0⟩ := hMe1043
      have hv1043_0 := hcc1043 0 _ rfl
      rw [Nat.add_zero, show ((Kd.slice 41 k41)).sz = 1 from rfl, Nat.mul_one] at hv1043_0
      replace hv1043_0 := Option.some.inj (hv1043_0.symm.trans hx1043_0)
      rw [hv1043_0] at ge1043_0
      have HL1043_0 := Zaa.mk (show Kd.R k41 41 _ _ _ _ (Zb8 t1023 (rd t1003 1)) from ge1043_0)
      clear hv1043_0 ge1043_0
      clear hcc1043 hce1043
      have HR1043_0 := Zaa.mk hi1043_0
      have HC1043_0 := Zaa.mk hl1043_0
      clear hi1043_0 hl1043_0
      replace p1043 := eq_true p1043
      replace q1043 := eq_true q1043
      go_wp2_with (first | (go_at_call 39; (with_reducible refine (Zar.calls k2 _ _ (Zb8 t1023 (rd t1003 1)) _ _ t1031 true _ ?side1 ?side2 ?side3 ?side4 A72.out).mono ?_); (case side1 => repeat (first | exact (by repeat (first | (with_reducible exact HR1043_0.out) | (with_reducible refine Kd.Zbc ?_ _) | (with_reducible refine Kd.Zba ?_ _) | (with_reducible refine Kd.Zbh ?_) | exact HR1043_0.out)) | (with_reducible refine Kd.Zbc ?_ _) | (with_reducible refine Kd.Zba ?_ _) | (with_reducible refine Kd.Zbh ?_))); (case side2 => exact HC1043_0.out); (case side3 => repeat (first | exact (Kd.Zbb HO_11.out).2.2 | (with_reducible refine Kd.Zbc ?_ _) | (with_reducible refine Kd.Zba ?_ _) | (with_reducible refine Kd.Zbh ?_))); (case side4 => exact (Kd.Zbb HO_11.out).2.1); rintro e w' ⟨rfl, ⟨nd, rfl⟩⟩; have p1045 : 0 ≤ ((ji74) : Int) := of_decide_eq_true (by first | (with_reducible assumption) | assumption); have q1045 : (ji74) < (t1003.length : Int) := of_decide_eq_true (by first | (with_reducible assumption) | assumption); obtain ⟨ad1045, e1045, hx1045_0⟩ := Kd.Zb2 (Kd.Zbb HO_1017001.out).2.2 (ji74) p1045 q1045; obtain rfl : ad1018 = ad1045 := (by injection e1045); replace p1045 := eq_true p1045; replace q1045 := eq_true q1045; have p1046 : 0 ≤ ((rd t1003 (ji74)) : Int) := of_decide_eq_true (by first | (with_reducible assumption) | assumption); have q1046 : (rd t1003 (ji74)) < (t1023.length : Int) := of_decide_eq_true (by first | (with_reducible assumption) | assumption); obtain ⟨ad1046, A1046_0, c1046_0, e1046, hx1046_0, hl1046_0, hi1046_0⟩ := Zee (Kd.Zc HO_9.out).2.2 (rd t1003 (ji74)) p1046 q1046; obtain rfl : ad1043 = ad1046 := (by injection e1046); obtain ⟨ce1046, hce1046, hMe1046, hcc1046⟩ := Kd.S_get HO_9.out [] (rd t1003 (ji74)) p1046 (by first | exact q1046 | exact of_decide_eq_true (by first | (with_reducible assumption) | assumption) | (have e_ := (Kd.Zc HO_9.out).1; omega)); obtain ⟨ve1046_0, rfl, ge1046_0⟩ := hMe1046; have hv1046_0 := hcc1046 0 _ rfl; rw [Nat.add_zero, show ((Kd.slice 41 k41)).sz = 1 from rfl, Nat.mul_one] at hv1046_0; replace hv1046_0 := Option.some.inj (hv1046_0.symm.trans hx1046_0); rw [hv1046_0] at ge1046_0; have HL1046_0 := Zaa.mk (show Kd.R k41 41 _ _ _ _ (Zb8 t1023 (rd t1003 (ji74))) from ge1046_0); clear hv1046_0 ge1046_0; clear hcc1046 hce1046; have HR1046_0 := Zaa.mk hi1046_0; have HC1046_0 := Zaa.mk hl1046_0; clear hi1046_0 hl1046_0; replace p1046 := eq_true p1046; replace q1046 := eq_true q1046) | (go_at_call 39; (with_reducible refine (Zar.calls k2 _ _ (Zb8 t1023 (rd t1003 (ji74))) _ _ t1031 true _ ?side1 ?side2 ?side3 ?side4 A79.out).mono ?_); (case side1 => repeat (first | exact (by repeat (first | (with_reducible exact HR1046_0.out) | (with_reducible refine Kd.Zbc ?_ _) | (with_reducible refine Kd.Zba ?_ _) | (with_reducible refine Kd.Zbh ?_) | exact HR1046_0.out)) | (with_reducible refine Kd.Zbc ?_ _) | (with_reducible refine Kd.Zba ?_ _) | (with_reducible refine Kd.Zbh ?_))); (case side2 => exact HC1046_0.out); (case side3 => repeat (first | exact (Kd.Zbb HO_11.out).2.2 | (with_reducible refine Kd.Zbc ?_ _) | (with_reducible refine Kd.Zba ?_ _) | (with_reducible refine Kd.Zbh ?_))); (case side4 => exact (Kd.Zbb HO_11.out).2.1); rintro e w' ⟨rfl, ⟨nd, rfl⟩⟩) | (go_at_call 34; (with_reducible refine (Za4.calls k2  t1048 _ A81.out).mono ?_); rintro e w84 ⟨rfl, hb⟩; have n0_ := Zaa.mk (Kd.Zck (mvS HO_5.out) hb); have n1_ := Zaa.mk (Kd.Zck (mvS HO_9.out) hb); have n2_ := Zaa.mk (Kd.Zbs (mvR HO_11.out) hb); have n3_ := Zaa.mk (Kd.Zbs (mvR HO_1017001.out) hb); have n4_ := Zaa.mk (Kd.Zbs (mvR HO_1017002.out) hb); have n5_ := Zaa.mk (Kd.Zck (mvS HO_1017005.out) hb); have n6_ := Zaa.mk (Kd.Zbs (mvR HL1043_0.out) hb); have n7_ := Zaa.mk (Kd.Zbs (mvR HL1046_0.out) hb); have n8_ := Zaa.mk (Zbe (g := gb998) (o := .cells #[.slice A0_0 l0_0.length c0_0, .int .i64 a0_1, .slice A0_2 l0_2.length c0_2, .slice A0_3 l0_3.length c0_3, .int .i64 a0_4, .int .i64 a0_5, .slice A0_6 l0_6.length c0_6, .int .i64 a0_7, .slice A0_8 l0_8.length c0_8, .slice A0_9 l0_9.length c0_9] 27 (0, 0)) (mvK BK998.out) hb); have n9_ := Zaa.mk (Zbe (g := gb1016) (o := .cells #[.int .i64 t1002, .slice (some ad1018) t1003.length co26, .slice Ao27 t1006.length co27, .int .i64 t1009, .int .i64 t1010, .slice Ao28 t1011.length co28, .int .i64 t1014] 25 (0, 0)) (mvK BK1016.out) hb); have n10_ := Zaa.mk (Kd.Zbn (by first | (with_reducible exact HR1028_0.out) | (with_reducible exact Kd.Zba HR1028_0.out _) | (with_reducible exact Kd.Zbh HR1028_0.out) | repeat (first | (with_reducible exact HR1028_0.out) | (with_reducible refine Kd.Zbc ?_ _) | (with_reducible refine Kd.Zba ?_ _) | (with_reducible refine Kd.Zbh ?_) | exact HR1028_0.out)) hb); have n11_ := Zaa.mk (Kd.Zbn (by first | (with_reducible exact HR1030_0.out) | (with_reducible exact Kd.Zba HR1030_0.out _) | (with_reducible exact Kd.Zbh HR1030_0.out) | repeat (first | (with_reducible exact HR1030_0.out) | (with_reducible refine Kd.Zbc ?_ _) | (with_reducible refine Kd.Zba ?_ _) | (with_reducible refine Kd.Zbh ?_) | exact HR1030_0.out)) hb); have n12_ := Zaa.mk (Kd.Zbn (by first | (with_reducible exact HR1043_0.out) | (with_reducible exact Kd.Zba HR1043_0.out _) | (with_reducible exact Kd.Zbh HR1043_0.out) | repeat (first | (with_reducible exact HR1043_0.out) | (with_reducible refine Kd.Zbc ?_ _) | (with_reducible refine Kd.Zba ?_ _) | (with_reducible refine Kd.Zbh ?_) | exact HR1043_0.out)) hb); have n13_ := Zaa.mk (Kd.Zbn (by first | (with_reducible exact HR1046_0.out) | (with_reducible exact Kd.Zba HR1046_0.out _) | (with_reducible exact Kd.Zbh HR1046_0.out) | repeat (first | (with_reducible exact HR1046_0.out) | (with_reducible refine Kd.Zbc ?_ _) | (with_reducible refine Kd.Zba ?_ _) | (with_reducible refine Kd.Zbh ?_) | exact HR1046_0.out)) hb); have n14_ := Zaa.mk (Zaz (mvB HB.out) hb); clear HO_5; clear HO_9; clear HO_11; clear HO_1017001; clear HO_1017002; clear HO_1017005; clear HL1043_0; clear HL1046_0; clear BK998; clear BK1016; clear HR1028_0; clear HR1030_0; clear HR1043_0; clear HR1046_0; clear HB; have HO_5 := n0_; have HO_9 := n1_; have HO_11 := n2_; have HO_1017001 := n3_; have HO_1017002 := n4_; have HO_1017005 := n5_; have HL1043_0 := n6_; have HL1046_0 := n7_; have BK998 := n8_; have BK1016 := n9_; have HR1028_0 := n10_; have HR1030_0 := n11_; have HR1043_0 := n12_; have HR1046_0 := n13_; have HB := n14_; clear n0_ n1_ n2_ n3_ n4_ n5_ n6_ n7_ n8_ n9_ n10_ n11_ n12_ n13_ n14_; (try clear hb); (try clear hb2); (try clear hk); (try clear hi)))
      go_ret
      exact ⟨by first | rfl | (simp [Za7, Za8] <;> rfl) | (simp only [← hji14, ← hji74]; first | rfl | (simp [Za7, Za8] <;> rfl)) | (simp [*, Za7, Za8] <;> rfl), by repeat (first | (with_reducible first | exact HB.out | apply Zab | apply Za | apply Zac | refine Zag ?_ GE998.out | refine Zag ?_ GE1016.out) | exact HB.out)⟩
     rw [if_pos c53] at H
     have c53b0 : decide (x13_2 < (t1023.length : Int)) = true := decide_eq_true c53
     clear c53
     by_cases c54 : 1 < (t1003.length : Int)
     rotate_left
     ·rw [if_neg c54] at H
      exact absurd H (by simp)
     rw [if_pos c54] at H
     have c54b0 : decide (1 < (t1003.length : Int)) = true := decide_eq_true c54
     have c54b1 : decide (1 < t1003.length) = true := decide_eq_true (by omega)
     clear c54
     by_cases c55 : x13_2 = (rd t1003 1)
     ·rw [if_pos c55] at H
      have c55b0 : (x13_2 == (rd t1003 1)) = true := beq_iff_eq.mpr c55
      have c55b1 : (x13_2 != (rd t1003 1)) = false := bne_eq_false_iff_eq.mpr c55
      clear c55
      have H' := Zaa.mk H
      clear H
      try go_wp2
      have n0_ := Zaa.mk (Kd.Zb5 HO_5.out)
      have n1_ := Zaa.mk (Kd.Zb5 HO_9.out)
      have n2_ := Zaa.mk (Kd.Zat HO_11.out)
      have n3_ := Zaa.mk (Kd.Zat HO_1017001.out)
      have n4_ := Zaa.mk (Kd.Zat HO_1017002.out)
      have n5_ := Zaa.mk (Kd.Zb5 HO_1017005.out)
      have n6_ := Zaa.mk (Zaj BK998.out)
      have n7_ := Zaa.mk (Zaj BK1016.out)
      have n8_ := Zaa.mk (Kd.Zbh HR1028_0.out)
      have n9_ := Zaa.mk (Kd.Zbh HR1030_0.out)
      have n10_ := Zaa.mk (Zac HB.out)
      clear HO_5
      clear HO_9
      clear HO_11
      clear HO_1017001
      clear HO_1017002
      clear HO_1017005
      clear BK998
      clear BK1016
      clear HR1028_0
      clear HR1030_0
      clear HB
      have HO_5 := n0_
      have HO_9 := n1_
      have HO_11 := n2_
      have HO_1017001 := n3_
      have HO_1017002 := n4_
      have HO_1017005 := n5_
      have BK998 := n6_
      have BK1016 := n7_
      have HR1028_0 := n8_
      have HR1030_0 := n9_
      have HB := n10_
      clear n0_ n1_ n2_ n3_ n4_ n5_ n6_ n7_ n8_ n9_ n10_
      have p1037 : 0 ≤ (1 : Int) := (by omega)
      have q1037 : 1 < (t1003.length : Int) := of_decide_eq_true (by first | (with_reducible assumption) | assumption)
      obtain ⟨ad1037, e1037, hx1037_0⟩ := Kd.Zb2 (Kd.Zbb HO_1017001.out).2.2 1 p1037 q1037
      obtain rfl : ad1018 = ad1037 := (by injection e1037)
      (try simp only [show (1 : Int).toNat = 1 from rfl, Nat.reduceMul, Nat.reduceEqDiff, Go.Addr.add, ↓reduceIte] at hx1037_0)
      have qi1037 : (1 < t1003.length) = True := eq_true (by omega)
      (try rw [show ((1 : Int)).toNat = 1 from rfl] at hx1037_0)
      replace p1037 := eq_true p1037
      replace q1037 := eq_true q1037
      refine Zdx (n := 28) (S := fun w' => w'.cell? ⟨gb1016, 0, none⟩ = some (.int .i64 t1002) ∧ w'.cell? ⟨gb1016, 1, none⟩ = some (.slice (some ad1018) t1003.length co26) ∧ w'.cell? ⟨gb1016, 2, none⟩ = some (.slice Ao27 t1006.length co27) ∧ w'.cell? ⟨gb1016, 3, none⟩ = some (.int .i64 t1009) ∧ w'.cell? ⟨gb1016, 4, none⟩ = some (.int .i64 t1010) ∧ w'.cell? ⟨gb1016, 5, none⟩ = some (.slice Ao28 t1011.length co28) ∧ w'.cell? ⟨gb1016, 6, none⟩ = some (.int .i64 t1014) ∧ w'.cell? ⟨ad1018.block, ad1018.off + 1, none⟩ = some (.int .i64 (rd t1003 1))) (ds := []) #[false, false, false, false, false, false, false, false, false, false, false, false, false, false, false, false, false, false, false, false, false, false, false, false, false, false, false, false] (by kernel_rfl) rfl rfl ⟨(Zax BK1016.out 0).trans rfl, (Zax BK1016.out 1).trans rfl, (Zax BK1016.out 2).trans rfl, (Zax BK1016.out 3).trans rfl, (Zax BK1016.out 4).trans rfl, (Zax BK1016.out 5).trans rfl, (Zax BK1016.out 6).trans rfl, hx1037_0⟩ (fun hHeld => ?_); refine Zcv Zad.tab20 Zad.bits20 (fun HT_ HW_ => ?_)
      generalize wr.drew = w56 at HO_5 HO_9 HO_11 HO_1017001 HO_1017002 HO_1017005 BK998 BK1016 HR1028_0 HR1030_0 HB hx1037_0 hHeld ⊢
      refine Zbg (i := 0) (N := some 104) (v := ?_) (a' := ?_) #[true, false, false, false, false, false, false, false, false, false, false, false, false, false, false, false, false, false, false, false, false, false, false, false, false, false, false, false] rfl rfl (Za1 HT_.out (by kernel_rfl)) (fun _ _ _ h => h) (Or.inl ⟨by rfl, ?_⟩) ?_ ?_
      rotate_left
      ·intro w'
       go_simp
       with_reducible rfl
      rotate_left
      ·simp only [Act.put, List.setIfInBounds_toArray, List.set_cons_zero, List.set_cons_succ, Za5, Za9]
       rfl
      refine Zbg (i := 1) (N := some 105) (v := ?_) (a' := ?_) #[true, true, false, false, false, false, false, false, false, false, false, false, false, false, false, false, false, false, false, false, false, false, false, false, false, false, false, false] rfl rfl (Za1 HT_.out (by kernel_rfl)) (fun _ _ _ h => h) (Or.inl ⟨by rfl, ?_⟩) ?_ ?_
      rotate_left
      ·intro w'
       go_simp
       with_reducible rfl
      rotate_left
      ·simp only [Act.put, List.setIfInBounds_toArray, List.set_cons_zero, List.set_cons_succ, Za5, Za9]
       rfl
      refine Zc5 (i := 2) (N := some 106) (v := ?_) (a' := ?_) #[true, true, true, false, false, false, false, false, false, false, false, false, false, false, false, false, false, false, false, false, false, false, false, false, false, false, false, false] rfl rfl (Zb6 HT_.out HW_.out (by kernel_rfl)) (fun _ _ _ h => h) (Or.inl ⟨by rfl, ?_⟩) hHeld ?_ ?_
      rotate_left
      ·rintro w' ⟨s0, s1, s2, s3, s4, s5, s6, s7⟩
       go_simp
       with_reducible rfl
      rotate_left
      ·simp only [Act.put, List.setIfInBounds_toArray, List.set_cons_zero, List.set_cons_succ, Za5, Za9]
       rfl
      refine Zbg (i := 3) (N := some 107) (v := ?_) (a' := ?_) #[true, true, true, true, false, false, false, false, false, false, false, false, false, false, false, false, false, false, false, false, false, false, false, false, false, false, false, false] rfl rfl (Za1 HT_.out (by kernel_rfl)) (fun _ _ _ h => h) (Or.inl ⟨by rfl, ?_⟩) ?_ ?_
      rotate_left
      ·intro w'
       go_simp
       with_reducible rfl
      rotate_left
      ·simp only [Act.put, List.setIfInBounds_toArray, List.set_cons_zero, List.set_cons_succ, Za5, Za9]
       rfl
      refine Zc5 (i := 4) (N := some 108) (v := ?_) (a' := ?_) #[true, true, true, true, true, false, false, false, false, false, false, false, false, false, false, false, false, false, false, false, false, false, false, false, false, false, false, false] rfl rfl (Zb6 HT_.out HW_.out (by kernel_rfl)) (fun _ _ _ h => h) (Or.inl ⟨by rfl, ?_⟩) hHeld ?_ ?_
      rotate_left
      ·rintro w' ⟨s0, s1, s2, s3, s4, s5, s6, s7⟩
       go_simp
       with_reducible rfl
      rotate_left
      ·simp only [Act.put, List.setIfInBounds_toArray, List.set_cons_zero, List.set_cons_succ, Za5, Za9]
       rfl
      refine Zbg (i := 5) (N := some 109) (v := ?_) (a' := ?_) #[true, true, true, true, true, true, false, false, false, false, false, false, false, false, false, false, false, false, false, false, false, false, false, false, false, false, false, false] rfl rfl (Za1 HT_.out (by kernel_rfl)) (fun _ _ _ h => h) (Or.inl ⟨by rfl, ?_⟩) ?_ ?_
      rotate_left
      ·intro w'
       go_simp
       with_reducible rfl
      rotate_left
      ·simp only [Act.put, List.setIfInBounds_toArray, List.set_cons_zero, List.set_cons_succ, Za5, Za9]
       rfl
      refine Zbg (i := 6) (N := some 110) (v := ?_) (a' := ?_) #[true, true, true, true, true, true, true, false, false, false, false, false, false, false, false, false, false, false, false, false, false, false, false, false, false, false, false, false] rfl rfl (Za1 HT_.out (by kernel_rfl)) (fun _ _ _ h => h) (Or.inl ⟨by rfl, ?_⟩) ?_ ?_
      rotate_left
      ·intro w'
       go_simp
       with_reducible rfl
      rotate_left
      ·simp only [Act.put, List.setIfInBounds_toArray, List.set_cons_zero, List.set_cons_succ, Za5, Za9]
       rfl
      refine Zbg (i := 7) (N := some 111) (v := undef) (a' := ?_) #[true, true, true, true, true, true, true, true, false, false, false, false, false, false, false, false, false, false, false, false, false, false, false, false, false, false, false, false] rfl rfl (Za1 HT_.out (by kernel_rfl)) (fun _ _ _ h => h) (Or.inr ⟨by rfl, rfl⟩) ?_ ?_
      rotate_left
      ·simp only [Act.put, List.setIfInBounds_toArray, List.set_cons_zero, List.set_cons_succ, Za5, Za9]
       rfl
      refine Zbg (i := 8) (N := some 112) (v := undef) (a' := ?_) #[true, true, true, true, true, true, true, true, true, false, false, false, false, false, false, false, false, false, false, false, false, false, false, false, false, false, false, false] rfl rfl (Za1 HT_.out (by kernel_rfl)) (fun _ _ _ h => h) (Or.inr ⟨by rfl, rfl⟩) ?_ ?_
      rotate_left
      ·simp only [Act.put, List.setIfInBounds_toArray, List.set_cons_zero, List.set_cons_succ, Za5, Za9]
       rfl
      refine Zbg (i := 9) (N := some 113) (v := undef) (a' := ?_) #[true, true, true, true, true, true, true, true, true, true, false, false, false, false, false, false, false, false, false, false, false, false, false, false, false, false, false, false] rfl rfl (Za1 HT_.out (by kernel_rfl)) (fun _ _ _ h => h) (Or.inr ⟨by rfl, rfl⟩) ?_ ?_
      rotate_left
      ·simp only [Act.put, List.setIfInBounds_toArray, List.set_cons_zero, List.set_cons_succ, Za5, Za9]
       rfl
      refine Zbg (i := 10) (N := some 114) (v := undef) (a' := ?_) #[true, true, true, true, true, true, true, true, true, true, true, false, false, false, false, false, false, false, false, false, false, false, false, false, false, false, false, false] rfl rfl (Za1 HT_.out (by kernel_rfl)) (fun _ _ _ h => h) (Or.inr ⟨by rfl, rfl⟩) ?_ ?_
      rotate_left
      ·simp only [Act.put, List.setIfInBounds_toArray, List.set_cons_zero, List.set_cons_succ, Za5, Za9]
       rfl
      refine Zbg (i := 11) (N := some 115) (v := undef) (a' := ?_) #[true, true, true, true, true, true, true, true, true, true, true, true, false, false, false, false, false, false, false, false, false, false, false, false, false, false, false, false] rfl rfl (Za1 HT_.out (by kernel_rfl)) (fun _ _ _ h => h) (Or.inr ⟨by rfl, rfl⟩) ?_ ?_
      rotate_left
      ·simp only [Act.put, List.setIfInBounds_toArray, List.set_cons_zero, List.set_cons_succ, Za5, Za9]
       rfl
      refine Zbg (i := 12) (N := some 116) (v := undef) (a' := ?_) #[true, true, true, true, true, true, true, true, true, true, true, true, true, false, false, false, false, false, false, false, false, false, false, false, false, false, false, false] rfl rfl (Za1 HT_.out (by kernel_rfl)) (fun _ _ _ h => h) (Or.inr ⟨by rfl, rfl⟩) ?_ ?_
      rotate_left
      ·simp only [Act.put, List.setIfInBounds_toArray, List.set_cons_zero, List.set_cons_succ, Za5, Za9]
       rfl
      refine Zbg (i := 13) (N := some 117) (v := undef) (a' := ?_) #[true, true, true, true, true, true, true, true, true, true, true, true, true, true, false, false, false, false, false, false, false, false, false, false, false, false, false, false] rfl rfl (Za1 HT_.out (by kernel_rfl)) (fun _ _ _ h => h) (Or.inr ⟨by rfl, rfl⟩) ?_ ?_
      rotate_left
      ·simp only [Act.put, List.setIfInBounds_toArray, List.set_cons_zero, List.set_cons_succ, Za5, Za9]
       rfl
      refine Zbg (i := 14) (N := some 118) (v := undef) (a' := ?_) #[true, true, true, true, true, true, true, true, true, true, true, true, true, true, true, false, false, false, false, false, false, false, false, false, false, false, false, false] rfl rfl (Za1 HT_.out (by kernel_rfl)) (fun _ _ _ h => h) (Or.inr ⟨by rfl, rfl⟩) ?_ ?_
      rotate_left
      ·simp only [Act.put, List.setIfInBounds_toArray, List.set_cons_zero, List.set_cons_succ, Za5, Za9]
       rfl
      refine Zbg (i := 15) (N := some 119) (v := ?_) (a' := ?_) #[true, true, true, true, true, true, true, true, true, true, true, true, true, true, true, true, false, false, false, false, false, false, false, false, false, false, false, false] rfl rfl (Za1 HT_.out (by kernel_rfl)) (fun _ _ _ h => h) (Or.inl ⟨by rfl, ?_⟩) ?_ ?_
      rotate_left
      ·intro w'
       go_simp
       with_reducible rfl
      rotate_left
      ·simp only [Act.put, List.setIfInBounds_toArray, List.set_cons_zero, List.set_cons_succ, Za5, Za9]
       rfl
      refine Zbg (i := 16) (N := some 120) (v := ?_) (a' := ?_) #[true, true, true, true, true, true, true, true, true, true, true, true, true, true, true, true, true, false, false, false, false, false, false, false, false, false, false, false] rfl rfl (Za1 HT_.out (by kernel_rfl)) (fun _ _ _ h => h) (Or.inl ⟨by rfl, ?_⟩) ?_ ?_
      rotate_left
      ·intro w'
       go_simp
       with_reducible rfl
      rotate_left
      ·simp only [Act.put, List.setIfInBounds_toArray, List.set_cons_zero, List.set_cons_succ, Za5, Za9]
       rfl
      refine Zbg (i := 17) (N := some 121) (v := undef) (a' := ?_) #[true, true, true, true, true, true, true, true, true, true, true, true, true, true, true, true, true, true, false, false, false, false, false, false, false, false, false, false] rfl rfl (Za1 HT_.out (by kernel_rfl)) (fun _ _ _ h => h) (Or.inr ⟨by rfl, rfl⟩) ?_ ?_
      rotate_left
      ·simp only [Act.put, List.setIfInBounds_toArray, List.set_cons_zero, List.set_cons_succ, Za5, Za9]
       rfl
      refine Zbg (i := 18) (N := some 122) (v := undef) (a' := ?_) #[true, true, true, true, true, true, true, true, true, true, true, true, true, true, true, true, true, true, true, false, false, false, false, false, false, false, false, false] rfl rfl (Za1 HT_.out (by kernel_rfl)) (fun _ _ _ h => h) (Or.inr ⟨by rfl, rfl⟩) ?_ ?_
      rotate_left
      ·simp only [Act.put, List.setIfInBounds_toArray, List.set_cons_zero, List.set_cons_succ, Za5, Za9]
       rfl
      refine Zbg (i := 19) (N := some 123) (v := undef) (a' := ?_) #[true, true, true, true, true, true, true, true, true, true, true, true, true, true, true, true, true, true, true, true, false, false, false, false, false, false, false, false] rfl rfl (Za1 HT_.out (by kernel_rfl)) (fun _ _ _ h => h) (Or.inr ⟨by rfl, rfl⟩) ?_ ?_
      rotate_left
      ·simp only [Act.put, List.setIfInBounds_toArray, List.set_cons_zero, List.set_cons_succ, Za5, Za9]
       rfl
      refine Zbg (i := 20) (N := some 124) (v := undef) (a' := ?_) #[true, true, true, true, true, true, true, true, true, true, true, true, true, true, true, true, true, true, true, true, true, false, false, false, false, false, false, false] rfl rfl (Za1 HT_.out (by kernel_rfl)) (fun _ _ _ h => h) (Or.inr ⟨by rfl, rfl⟩) ?_ ?_
      rotate_left
      ·simp only [Act.put, List.setIfInBounds_toArray, List.set_cons_zero, List.set_cons_succ, Za5, Za9]
       rfl
      refine Zbg (i := 21) (N := some 125) (v := undef) (a' := ?_) #[true, true, true, true, true, true, true, true, true, true, true, true, true, true, true, true, true, true, true, true, true, true, false, false, false, false, false, false] rfl rfl (Za1 HT_.out (by kernel_rfl)) (fun _ _ _ h => h) (Or.inr ⟨by rfl, rfl⟩) ?_ ?_
      rotate_left
      ·simp only [Act.put, List.setIfInBounds_toArray, List.set_cons_zero, List.set_cons_succ, Za5, Za9]
       rfl
      refine Zbg (i := 22) (N := some 126) (v := undef) (a' := ?_) #[true, true, true, true, true, true, true, true, true, true, true, true, true, true, true, true, true, true, true, true, true, true, true, false, false, false, false, false] rfl rfl (Za1 HT_.out (by kernel_rfl)) (fun _ _ _ h => h) (Or.inr ⟨by rfl, rfl⟩) ?_ ?_
      rotate_left
      ·simp only [Act.put, List.setIfInBounds_toArray, List.set_cons_zero, List.set_cons_succ, Za5, Za9]
       rfl
      refine Zbg (i := 23) (N := some 127) (v := undef) (a' := ?_) #[true, true, true, true, true, true, true, true, true, true, true, true, true, true, true, true, true, true, true, true, true, true, true, true, false, false, false, false] rfl rfl (Za1 HT_.out (by kernel_rfl)) (fun _ _ _ h => h) (Or.inr ⟨by rfl, rfl⟩) ?_ ?_
      rotate_left
      ·simp only [Act.put, List.setIfInBounds_toArray, List.set_cons_zero, List.set_cons_succ, Za5, Za9]
       rfl
      refine Zbg (i := 24) (N := some 128) (v := undef) (a' := ?_) #[true, true, true, true, true, true, true, true, true, true, true, true, true, true, true, true, true, true, true, true, true, true, true, true, true, false, false, false] rfl rfl (Za1 HT_.out (by kernel_rfl)) (fun _ _ _ h => h) (Or.inr ⟨by rfl, rfl⟩) ?_ ?_
      rotate_left
      ·simp only [Act.put, List.setIfInBounds_toArray, List.set_cons_zero, List.set_cons_succ, Za5, Za9]
       rfl
      refine Zbg (i := 25) (N := some 129) (v := undef) (a' := ?_) #[true, true, true, true, true, true, true, true, true, true, true, true, true, true, true, true, true, true, true, true, true, true, true, true, true, true, false, false] rfl rfl (Za1 HT_.out (by kernel_rfl)) (fun _ _ _ h => h) (Or.inr ⟨by rfl, rfl⟩) ?_ ?_
      rotate_left
      ·simp only [Act.put, List.setIfInBounds_toArray, List.set_cons_zero, List.set_cons_succ, Za5, Za9]
       rfl
      refine Zbg (i := 26) (N := some 130) (v := undef) (a' := ?_) #[true, true, true, true, true, true, true, true, true, true, true, true, true, true, true, true, true, true, true, true, true, true, true, true, true, true, true, false] rfl rfl (Za1 HT_.out (by kernel_rfl)) (fun _ _ _ h => h) (Or.inr ⟨by rfl, rfl⟩) ?_ ?_
      rotate_left
      ·simp only [Act.put, List.setIfInBounds_toArray, List.set_cons_zero, List.set_cons_succ, Za5, Za9]
       rfl
      refine Zbg (i := 27) (N := some 131) (v := ?_) (a' := ?_) #[true, true, true, true, true, true, true, true, true, true, true, true, true, true, true, true, true, true, true, true, true, true, true, true, true, true, true, true] rfl rfl (Za1 HT_.out (by kernel_rfl)) (fun _ _ _ h => h) (Or.inl ⟨by rfl, ?_⟩) ?_ ?_
      rotate_left
      ·intro w'
       go_simp
       with_reducible rfl
      rotate_left
      ·simp only [Act.put, List.setIfInBounds_toArray, List.set_cons_zero, List.set_cons_succ, Za5, Za9]
       rfl
      refine Zeu (Zdi HT_.out (by kernel_rfl)) ?_
      try go_wp2
      go_roundg k2
      case measure => have := HK1.out; have := HK2.out; omega
      case rel => exact ⟨(wrap64 (x13_2 + 1)), (by first | rfl | (simp; done) | (simp [*]; done)), H', ⟨by have := HK1.out; have := HK2.out; omega⟩, ⟨by (try simp only [hl5_1]); (with_reducible repeat (first | apply Kd.Zb3 | apply Kd.Zb4 | apply Kd.Zb5)); exact HO_5.out⟩, ⟨by (try simp only [hl5_1]); (with_reducible repeat (first | apply Kd.Zb3 | apply Kd.Zb4 | apply Kd.Zb5)); exact HO_9.out⟩, ⟨by (try simp only [hl5_1]); (with_reducible repeat (first | apply Kd.Zao | apply Kd.Zan | apply Kd.Zat)); exact HO_11.out⟩, ⟨by (try simp only [hl5_1]); (with_reducible repeat (first | apply Kd.Zao | apply Kd.Zan | apply Kd.Zat)); exact HO_1017001.out⟩, ⟨by (try simp only [hl5_1]); (with_reducible repeat (first | apply Kd.Zao | apply Kd.Zan | apply Kd.Zat)); exact HO_1017002.out⟩, ⟨by (try simp only [hl5_1]); (with_reducible repeat (first | apply Kd.Zb3 | apply Kd.Zb4 | apply Kd.Zb5)); exact HO_1017005.out⟩, ⟨by (try simp only [hl5_1]); (with_reducible repeat (first | refine Zaf ?_ _ | refine Zaj ?_ | refine Zae ?_ _)); exact BK998.out⟩, ⟨by (try simp only [hl5_1]); (with_reducible repeat (first | refine Zaf ?_ _ | refine Zaj ?_ | refine Zae ?_ _)); exact BK1016.out⟩, ⟨by repeat (first | (with_reducible exact HR1028_0.out) | (with_reducible refine Kd.Zbc ?_ _) | (with_reducible refine Kd.Zba ?_ _) | (with_reducible refine Kd.Zbh ?_) | exact HR1028_0.out)⟩, ⟨by repeat (first | (with_reducible exact HR1030_0.out) | (with_reducible refine Kd.Zbc ?_ _) | (with_reducible refine Kd.Zba ?_ _) | (with_reducible refine Kd.Zbh ?_) | exact HR1030_0.out)⟩, ⟨by repeat (first | (with_reducible first | exact HB.out | apply Zab | apply Za | apply Zac | refine Zag ?_ GE998.out | refine Zag ?_ GE1016.out) | exact HB.out)⟩⟩
     rw [if_neg c55] at H
     have c55b0 : (x13_2 == (rd t1003 1)) = false := beq_eq_false_iff_ne.mpr c55
     have c55b1 : (x13_2 != (rd t1003 1)) = true := bne_iff_ne.mpr c55
     try clear hji14w
     obtain ⟨ji57, hji57⟩ : ∃ j_ : Int, (wrap64 (2 + (Int.tmod (Go.bits .and .i64 a1 65535) (wrap64 ((t1003.length : Int) - 2))))) = j_ := ⟨_, rfl⟩
     replace H : (if 0 ≤ (ji57) then (if (ji57) < (t1003.length : Int) then (if x13_2 = (rd t1003 (ji57)) then (Zad.l1 k2 y1022 (Int.tmod (Go.bits .and .i64 a1 65535) (wrap64 ((t1003.length : Int) - 2))) t1023 t1026 t1031 (wrap64 (x13_2 + 1)) t1002 t1003 t1006 t1009 t1010 t1011 t1014) else (if 0 ≤ x13_2 then (if x13_2 < (y1022.length : Int) then ((Zar.f k2 (Zb8 t1023 x13_2) (Zb8 y1022 x13_2)).bind fun t1041 => (if t1041 = true then (Zad.l1 k2 y1022 (Int.tmod (Go.bits .and .i64 a1 65535) (wrap64 ((t1003.length : Int) - 2))) t1023 t1026 t1031 (wrap64 (x13_2 + 1)) t1002 t1003 t1006 t1009 t1010 t1011 t1014) else (none))) else (none)) else (none))) else (none)) else (none)) = some r := by first | (rw [hji57] at H; exact H) | (simp only [hji57] at H ⊢; exact H)
     have hji57w : (IntKind.i64.wrap (2 + (Int.tmod (Go.bits .and .i64 a1 65535) (wrap64 ((t1003.length : Int) - 2))))) = ji57 := (Za5 _).trans hji57
     by_cases c58 : 0 ≤ (ji57)
     rotate_left
     ·rw [if_neg c58] at H
      exact absurd H (by simp)
     rw [if_pos c58] at H
     have c58b0 : decide (0 ≤ (ji57)) = true := decide_eq_true c58
     clear c58
     by_cases c59 : (ji57) < (t1003.length : Int)
     rotate_left
     ·rw [if_neg c59] at H
      exact absurd H (by simp)
     rw [if_pos c59] at H
     have c59b0 : decide ((ji57) < (t1003.length : Int)) = true := decide_eq_true c59
     clear c59
     by_cases c60 : x13_2 = (rd t1003 (ji57))
     ·rw [if_pos c60] at H
      have c60b0 : (x13_2 == (rd t1003 (ji57))) = true := beq_iff_eq.mpr c60
      have c60b1 : (x13_2 != (rd t1003 (ji57))) = false := bne_eq_false_iff_eq.mpr c60
      clear c60
      have H' := Zaa.mk H
      clear H
      try go_wp2
      have n0_ := Zaa.mk (Kd.Zb5 HO_5.out)
      have n1_ := Zaa.mk (Kd.Zb5 HO_9.out)
      have n2_ := Zaa.mk (Kd.Zat HO_11.out)
      have n3_ := Zaa.mk (Kd.Zat HO_1017001.out)
      have n4_ := Zaa.mk (Kd.Zat HO_1017002.out)
      have n5_ := Zaa.mk (Kd.Zb5 HO_1017005.out)
      have n6_ := Zaa.mk (Zaj BK998.out)
      have n7_ := Zaa.mk (Zaj BK1016.out)
      have n8_ := Zaa.mk (Kd.Zbh HR1028_0.out)
      have n9_ := Zaa.mk (Kd.Zbh HR1030_0.out)
      have n10_ := Zaa.mk (Zac HB.out)
      clear HO_5
      clear HO_9
      clear HO_11
      clear HO_1017001
      clear HO_1017002
      clear HO_1017005
      clear BK998
      clear BK1016
      clear HR1028_0
      clear HR1030_0
      clear HB
      have HO_5 := n0_
      have HO_9 := n1_
      have HO_11 := n2_
      have HO_1017001 := n3_
      have HO_1017002 := n4_
      have HO_1017005 := n5_
      have BK998 := n6_
      have BK1016 := n7_
      have HR1028_0 := n8_
      have HR1030_0 := n9_
      have HB := n10_
      clear n0_ n1_ n2_ n3_ n4_ n5_ n6_ n7_ n8_ n9_ n10_
      have p1037 : 0 ≤ (1 : Int) := (by omega)
      have q1037 : 1 < (t1003.length : Int) := of_decide_eq_true (by first | (with_reducible assumption) | assumption)
      obtain ⟨ad1037, e1037, hx1037_0⟩ := Kd.Zb2 (Kd.Zbb HO_1017001.out).2.2 1 p1037 q1037
      obtain rfl : ad1018 = ad1037 := (by injection e1037)
      (try simp only [show (1 : Int).toNat = 1 from rfl, Nat.reduceMul, Nat.reduceEqDiff, Go.Addr.add, ↓reduceIte] at hx1037_0)
      have qi1037 : (1 < t1003.length) = True := eq_true (by omega)
      (try rw [show ((1 : Int)).toNat = 1 from rfl] at hx1037_0)
      replace p1037 := eq_true p1037
      replace q1037 := eq_true q1037
      have p1038 : 0 ≤ ((ji57) : Int) := of_decide_eq_true (by first | (with_reducible assumption) | assumption)
      have q1038 : (ji57) < (t1003.length : Int) := of_decide_eq_true (by first | (with_reducible assumption) | assumption)
      obtain ⟨ad1038, e1038, hx1038_0⟩ := Kd.Zb2 (Kd.Zbb HO_1017001.out).2.2 (ji57) p1038 q1038
      obtain rfl : ad1018 = ad1038 := (by injection e1038)
      replace p1038 := eq_true p1038
      replace q1038 := eq_true q1038
      refine Zdx (n := 28) (S := fun w' => w'.cell? ⟨gb1016, 0, none⟩ = some (.int .i64 t1002) ∧ w'.cell? ⟨gb1016, 1, none⟩ = some (.slice (some ad1018) t1003.length co26) ∧ w'.cell? ⟨gb1016, 2, none⟩ = some (.slice Ao27 t1006.length co27) ∧ w'.cell? ⟨gb1016, 3, none⟩ = some (.int .i64 t1009) ∧ w'.cell? ⟨gb1016, 4, none⟩ = some (.int .i64 t1010) ∧ w'.cell? ⟨gb1016, 5, none⟩ = some (.slice Ao28 t1011.length co28) ∧ w'.cell? ⟨gb1016, 6, none⟩ = some (.int .i64 t1014) ∧ w'.cell? ⟨ad1018.block, ad1018.off + 1, none⟩ = some (.int .i64 (rd t1003 1)) ∧ w'.cell? (ad1018.add ((ji57)).toNat) = some (.int .i64 (rd t1003 (ji57)))) (ds := []) #[false, false, false, false, false, false, false, false, false, false, false, false, false, false, false, false, false, false, false, false, false, false, false, false, false, false, false, false] (by kernel_rfl) rfl rfl ⟨(Zax BK1016.out 0).trans rfl, (Zax BK1016.out 1).trans rfl, (Zax BK1016.out 2).trans rfl, (Zax BK1016.out 3).trans rfl, (Zax BK1016.out 4).trans rfl, (Zax BK1016.out 5).trans rfl, (Zax BK1016.out 6).trans rfl, hx1037_0, hx1038_0⟩ (fun hHeld => ?_); refine Zcv Zad.tab20 Zad.bits20 (fun HT_ HW_ => ?_)
      generalize wr.drew = w61 at HO_5 HO_9 HO_11 HO_1017001 HO_1017002 HO_1017005 BK998 BK1016 HR1028_0 HR1030_0 HB hx1037_0 hx1038_0 hHeld ⊢
      refine Zbg (i := 0) (N := some 104) (v := ?_) (a' := ?_) #[true, false, false, false, false, false, false, false, false, false, false, false, false, false, false, false, false, false, false, false, false, false, false, false, false, false, false, false] rfl rfl (Za1 HT_.out (by kernel_rfl)) (fun _ _ _ h => h) (Or.inl ⟨by rfl, ?_⟩) ?_ ?_
      rotate_left
      ·intro w'
       go_simp
       with_reducible rfl
      rotate_left
      ·simp only [Act.put, List.setIfInBounds_toArray, List.set_cons_zero, List.set_cons_succ, Za5, Za9]
       rfl
      refine Zbg (i := 1) (N := some 105) (v := ?_) (a' := ?_) #[true, true, false, false, false, false, false, false, false, false, false, false, false, false, false, false, false, false, false, false, false, false, false, false, false, false, false, false] rfl rfl (Za1 HT_.out (by kernel_rfl)) (fun _ _ _ h => h) (Or.inl ⟨by rfl, ?_⟩) ?_ ?_
      rotate_left
      ·intro w'
       go_simp
       with_reducible rfl
      rotate_left
      ·simp only [Act.put, List.setIfInBounds_toArray, List.set_cons_zero, List.set_cons_succ, Za5, Za9]
       rfl
      refine Zc5 (i := 2) (N := some 106) (v := ?_) (a' := ?_) #[true, true, true, false, false, false, false, false, false, false, false, false, false, false, false, false, false, false, false, false, false, false, false, false, false, false, false, false] rfl rfl (Zb6 HT_.out HW_.out (by kernel_rfl)) (fun _ _ _ h => h) (Or.inl ⟨by rfl, ?_⟩) hHeld ?_ ?_
      rotate_left
      ·rintro w' ⟨s0, s1, s2, s3, s4, s5, s6, s7, s8⟩
       go_simp
       with_reducible rfl
      rotate_left
      ·simp only [Act.put, List.setIfInBounds_toArray, List.set_cons_zero, List.set_cons_succ, Za5, Za9]
       rfl
      refine Zbg (i := 3) (N := some 107) (v := ?_) (a' := ?_) #[true, true, true, true, false, false, false, false, false, false, false, false, false, false, false, false, false, false, false, false, false, false, false, false, false, false, false, false] rfl rfl (Za1 HT_.out (by kernel_rfl)) (fun _ _ _ h => h) (Or.inl ⟨by rfl, ?_⟩) ?_ ?_
      rotate_left
      ·intro w'
       go_simp
       with_reducible rfl
      rotate_left
      ·simp only [Act.put, List.setIfInBounds_toArray, List.set_cons_zero, List.set_cons_succ, Za5, Za9]
       rfl
      refine Zc5 (i := 4) (N := some 108) (v := ?_) (a' := ?_) #[true, true, true, true, true, false, false, false, false, false, false, false, false, false, false, false, false, false, false, false, false, false, false, false, false, false, false, false] rfl rfl (Zb6 HT_.out HW_.out (by kernel_rfl)) (fun _ _ _ h => h) (Or.inl ⟨by rfl, ?_⟩) hHeld ?_ ?_
      rotate_left
      ·rintro w' ⟨s0, s1, s2, s3, s4, s5, s6, s7, s8⟩
       go_simp
       with_reducible rfl
      rotate_left
      ·simp only [Act.put, List.setIfInBounds_toArray, List.set_cons_zero, List.set_cons_succ, Za5, Za9]
       rfl
      refine Zbg (i := 5) (N := some 109) (v := ?_) (a' := ?_) #[true, true, true, true, true, true, false, false, false, false, false, false, false, false, false, false, false, false, false, false, false, false, false, false, false, false, false, false] rfl rfl (Za1 HT_.out (by kernel_rfl)) (fun _ _ _ h => h) (Or.inl ⟨by rfl, ?_⟩) ?_ ?_
      rotate_left
      ·intro w'
       go_simp
       with_reducible rfl
      rotate_left
      ·simp only [Act.put, List.setIfInBounds_toArray, List.set_cons_zero, List.set_cons_succ, Za5, Za9]
       rfl
      refine Zbg (i := 6) (N := some 110) (v := ?_) (a' := ?_) #[true, true, true, true, true, true, true, false, false, false, false, false, false, false, false, false, false, false, false, false, false, false, false, false, false, false, false, false] rfl rfl (Za1 HT_.out (by kernel_rfl)) (fun _ _ _ h => h) (Or.inl ⟨by rfl, ?_⟩) ?_ ?_
      rotate_left
      ·intro w'
       go_simp
       with_reducible rfl
      rotate_left
      ·simp only [Act.put, List.setIfInBounds_toArray, List.set_cons_zero, List.set_cons_succ, Za5, Za9]
       rfl
      refine Zbg (i := 7) (N := some 111) (v := ?_) (a' := ?_) #[true, true, true, true, true, true, true, true, false, false, false, false, false, false, false, false, false, false, false, false, false, false, false, false, false, false, false, false] rfl rfl (Za1 HT_.out (by kernel_rfl)) (fun _ _ _ h => h) (Or.inl ⟨by rfl, ?_⟩) ?_ ?_
      rotate_left
      ·intro w'
       go_simp
       with_reducible rfl
      rotate_left
      ·simp only [Act.put, List.setIfInBounds_toArray, List.set_cons_zero, List.set_cons_succ, Za5, Za9]
       rfl
      refine Zbg (i := 8) (N := some 112) (v := ?_) (a' := ?_) #[true, true, true, true, true, true, true, true, true, false, false, false, false, false, false, false, false, false, false, false, false, false, false, false, false, false, false, false] rfl rfl (Za1 HT_.out (by kernel_rfl)) (fun _ _ _ h => h) (Or.inl ⟨by rfl, ?_⟩) ?_ ?_
      rotate_left
      ·intro w'
       go_simp
       with_reducible rfl
      rotate_left
      ·simp only [Act.put, List.setIfInBounds_toArray, List.set_cons_zero, List.set_cons_succ, Za5, Za9]
       rfl
      refine Zbg (i := 10) (N := some 114) (v := ?_) (a' := ?_) #[true, true, true, true, true, true, true, true, true, false, true, false, false, false, false, false, false, false, false, false, false, false, false, false, false, false, false, false] rfl rfl (Za1 HT_.out (by kernel_rfl)) (fun _ _ _ h => h) (Or.inl ⟨by rfl, ?_⟩) ?_ ?_
      rotate_left
      ·intro w'
       go_simp
       with_reducible rfl
      rotate_left
      ·simp only [Act.put, List.setIfInBounds_toArray, List.set_cons_zero, List.set_cons_succ, Za5, Za9]
       rfl
      refine Zbg (i := 11) (N := some 115) (v := ?_) (a' := ?_) #[true, true, true, true, true, true, true, true, true, false, true, true, false, false, false, false, false, false, false, false, false, false, false, false, false, false, false, false] rfl rfl (Za1 HT_.out (by kernel_rfl)) (fun _ _ _ h => h) (Or.inl ⟨by rfl, ?_⟩) ?_ ?_
      rotate_left
      ·intro w'
       go_simp
       with_reducible rfl
      rotate_left
      ·simp only [Act.put, List.setIfInBounds_toArray, List.set_cons_zero, List.set_cons_succ, Za5, Za9]
       rfl
      refine Zc5 (i := 9) (N := some 113) (v := ?_) (a' := ?_) #[true, true, true, true, true, true, true, true, true, true, true, true, false, false, false, false, false, false, false, false, false, false, false, false, false, false, false, false] rfl rfl (Zb6 HT_.out HW_.out (by kernel_rfl)) (fun _ _ _ h => h) (Or.inl ⟨by rfl, ?_⟩) hHeld ?_ ?_
      rotate_left
      ·rintro w' ⟨s0, s1, s2, s3, s4, s5, s6, s7, s8⟩
       go_simp
       with_reducible rfl
      rotate_left
      ·simp only [Act.put, List.setIfInBounds_toArray, List.set_cons_zero, List.set_cons_succ, Za5, Za9]
       rfl
      refine Zbg (i := 12) (N := some 116) (v := ?_) (a' := ?_) #[true, true, true, true, true, true, true, true, true, true, true, true, true, false, false, false, false, false, false, false, false, false, false, false, false, false, false, false] rfl rfl (Za1 HT_.out (by kernel_rfl)) (fun _ _ _ h => h) (Or.inl ⟨by rfl, ?_⟩) ?_ ?_
      rotate_left
      ·intro w'
       go_simp
       with_reducible rfl
      rotate_left
      ·simp only [Act.put, List.setIfInBounds_toArray, List.set_cons_zero, List.set_cons_succ, Za5, Za9]
       rfl
      refine Zc5 (i := 13) (N := some 117) (v := ?_) (a' := ?_) #[true, true, true, true, true, true, true, true, true, true, true, true, true, true, false, false, false, false, false, false, false, false, false, false, false, false, false, false] rfl rfl (Zb6 HT_.out HW_.out (by kernel_rfl)) (fun _ _ _ h => h) (Or.inl ⟨by rfl, ?_⟩) hHeld ?_ ?_
      rotate_left
      ·rintro w' ⟨s0, s1, s2, s3, s4, s5, s6, s7, s8⟩
       go_simp
       with_reducible rfl
      rotate_left
      ·simp only [Act.put, List.setIfInBounds_toArray, List.set_cons_zero, List.set_cons_succ, Za5, Za9]
       rfl
      refine Zbg (i := 14) (N := some 118) (v := ?_) (a' := ?_) #[true, true, true, true, true, true, true, true, true, true, true, true, true, true, true, false, false, false, false, false, false, false, false, false, false, false, false, false] rfl rfl (Za1 HT_.out (by kernel_rfl)) (fun _ _ _ h => h) (Or.inl ⟨by rfl, ?_⟩) ?_ ?_
      rotate_left
      ·intro w'
       go_simp
       with_reducible rfl
      rotate_left
      ·simp only [Act.put, List.setIfInBounds_toArray, List.set_cons_zero, List.set_cons_succ, Za5, Za9]
       rfl
      refine Zbg (i := 15) (N := some 119) (v := ?_) (a' := ?_) #[true, true, true, true, true, true, true, true, true, true, true, true, true, true, true, true, false, false, false, false, false, false, false, false, false, false, false, false] rfl rfl (Za1 HT_.out (by kernel_rfl)) (fun _ _ _ h => h) (Or.inl ⟨by rfl, ?_⟩) ?_ ?_
      rotate_left
      ·intro w'
       go_simp
       with_reducible rfl
      rotate_left
      ·simp only [Act.put, List.setIfInBounds_toArray, List.set_cons_zero, List.set_cons_succ, Za5, Za9]
       rfl
      refine Zbg (i := 16) (N := some 120) (v := ?_) (a' := ?_) #[true, true, true, true, true, true, true, true, true, true, true, true, true, true, true, true, true, false, false, false, false, false, false, false, false, false, false, false] rfl rfl (Za1 HT_.out (by kernel_rfl)) (fun _ _ _ h => h) (Or.inl ⟨by rfl, ?_⟩) ?_ ?_
      rotate_left
      ·intro w'
       go_simp
       with_reducible rfl
      rotate_left
      ·simp only [Act.put, List.setIfInBounds_toArray, List.set_cons_zero, List.set_cons_succ, Za5, Za9]
       rfl
      refine Zbg (i := 17) (N := some 121) (v := undef) (a' := ?_) #[true, true, true, true, true, true, true, true, true, true, true, true, true, true, true, true, true, true, false, false, false, false, false, false, false, false, false, false] rfl rfl (Za1 HT_.out (by kernel_rfl)) (fun _ _ _ h => h) (Or.inr ⟨by rfl, rfl⟩) ?_ ?_
      rotate_left
      ·simp only [Act.put, List.setIfInBounds_toArray, List.set_cons_zero, List.set_cons_succ, Za5, Za9]
       rfl
      refine Zbg (i := 18) (N := some 122) (v := undef) (a' := ?_) #[true, true, true, true, true, true, true, true, true, true, true, true, true, true, true, true, true, true, true, false, false, false, false, false, false, false, false, false] rfl rfl (Za1 HT_.out (by kernel_rfl)) (fun _ _ _ h => h) (Or.inr ⟨by rfl, rfl⟩) ?_ ?_
      rotate_left
      ·simp only [Act.put, List.setIfInBounds_toArray, List.set_cons_zero, List.set_cons_succ, Za5, Za9]
       rfl
      refine Zbg (i := 19) (N := some 123) (v := undef) (a' := ?_) #[true, true, true, true, true, true, true, true, true, true, true, true, true, true, true, true, true, true, true, true, false, false, false, false, false, false, false, false] rfl rfl (Za1 HT_.out (by kernel_rfl)) (fun _ _ _ h => h) (Or.inr ⟨by rfl, rfl⟩) ?_ ?_
      rotate_left
      ·simp only [Act.put, List.setIfInBounds_toArray, List.set_cons_zero, List.set_cons_succ, Za5, Za9]
       rfl
      refine Zbg (i := 20) (N := some 124) (v := undef) (a' := ?_) #[true, true, true, true, true, true, true, true, true, true, true, true, true, true, true, true, true, true, true, true, true, false, false, false, false, false, false, false] rfl rfl (Za1 HT_.out (by kernel_rfl)) (fun _ _ _ h => h) (Or.inr ⟨by rfl, rfl⟩) ?_ ?_
      rotate_left
      ·simp only [Act.put, List.setIfInBounds_toArray, List.set_cons_zero, List.set_cons_succ, Za5, Za9]
       rfl
      refine Zbg (i := 21) (N := some 125) (v := undef) (a' := ?_) #[true, true, true, true, true, true, true, true, true, true, true, true, true, true, true, true, true, true, true, true, true, true, false, false, false, false, false, false] rfl rfl (Za1 HT_.out (by kernel_rfl)) (fun _ _ _ h => h) (Or.inr ⟨by rfl, rfl⟩) ?_ ?_
      rotate_left
      ·simp only [Act.put, List.setIfInBounds_toArray, List.set_cons_zero, List.set_cons_succ, Za5, Za9]
       rfl
      refine Zbg (i := 22) (N := some 126) (v := undef) (a' := ?_) #[true, true, true, true, true, true, true, true, true, true, true, true, true, true, true, true, true, true, true, true, true, true, true, false, false, false, false, false] rfl rfl (Za1 HT_.out (by kernel_rfl)) (fun _ _ _ h => h) (Or.inr ⟨by rfl, rfl⟩) ?_ ?_
      rotate_left
      ·simp only [Act.put, List.setIfInBounds_toArray, List.set_cons_zero, List.set_cons_succ, Za5, Za9]
       rfl
      refine Zbg (i := 23) (N := some 127) (v := undef) (a' := ?_) #[true, true, true, true, true, true, true, true, true, true, true, true, true, true, true, true, true, true, true, true, true, true, true, true, false, false, false, false] rfl rfl (Za1 HT_.out (by kernel_rfl)) (fun _ _ _ h => h) (Or.inr ⟨by rfl, rfl⟩) ?_ ?_
      rotate_left
      ·simp only [Act.put, List.setIfInBounds_toArray, List.set_cons_zero, List.set_cons_succ, Za5, Za9]
       rfl
      refine Zbg (i := 24) (N := some 128) (v := undef) (a' := ?_) #[true, true, true, true, true, true, true, true, true, true, true, true, true, true, true, true, true, true, true, true, true, true, true, true, true, false, false, false] rfl rfl (Za1 HT_.out (by kernel_rfl)) (fun _ _ _ h => h) (Or.inr ⟨by rfl, rfl⟩) ?_ ?_
      rotate_left
      ·simp only [Act.put, List.setIfInBounds_toArray, List.set_cons_zero, List.set_cons_succ, Za5, Za9]
       rfl
      refine Zbg (i := 25) (N := some 129) (v := undef) (a' := ?_) #[true, true, true, true, true, true, true, true, true, true, true, true, true, true, true, true, true, true, true, true, true, true, true, true, true, true, false, false] rfl rfl (Za1 HT_.out (by kernel_rfl)) (fun _ _ _ h => h) (Or.inr ⟨by rfl, rfl⟩) ?_ ?_
      rotate_left
      ·simp only [Act.put, List.setIfInBounds_toArray, List.set_cons_zero, List.set_cons_succ, Za5, Za9]
       rfl
      refine Zbg (i := 26) (N := some 130) (v := undef) (a' := ?_) #[true, true, true, true, true, true, true, true, true, true, true, true, true, true, true, true, true, true, true, true, true, true, true, true, true, true, true, false] rfl rfl (Za1 HT_.out (by kernel_rfl)) (fun _ _ _ h => h) (Or.inr ⟨by rfl, rfl⟩) ?_ ?_
      rotate_left
      ·simp only [Act.put, List.setIfInBounds_toArray, List.set_cons_zero, List.set_cons_succ, Za5, Za9]
       rfl
      refine Zbg (i := 27) (N := some 131) (v := ?_) (a' := ?_) #[true, true, true, true, true, true, true, true, true, true, true, true, true, true, true, true, true, true, true, true, true, true, true, true, true, true, true, true] rfl rfl (Za1 HT_.out (by kernel_rfl)) (fun _ _ _ h => h) (Or.inl ⟨by rfl, ?_⟩) ?_ ?_
      rotate_left
      ·intro w'
       go_simp
       with_reducible rfl
      rotate_left
      ·simp only [Act.put, List.setIfInBounds_toArray, List.set_cons_zero, List.set_cons_succ, Za5, Za9]
       rfl
      refine Zeu (Zdi HT_.out (by kernel_rfl)) ?_
      try go_wp2
      go_roundg k2
      case measure => have := HK1.out; have := HK2.out; omega
      case rel => exact ⟨(wrap64 (x13_2 + 1)), (by first | rfl | (simp; done) | (simp [*]; done)), H', ⟨by have := HK1.out; have := HK2.out; omega⟩, ⟨by (try simp only [hl5_1]); (with_reducible repeat (first | apply Kd.Zb3 | apply Kd.Zb4 | apply Kd.Zb5)); exact HO_5.out⟩, ⟨by (try simp only [hl5_1]); (with_reducible repeat (first | apply Kd.Zb3 | apply Kd.Zb4 | apply Kd.Zb5)); exact HO_9.out⟩, ⟨by (try simp only [hl5_1]); (with_reducible repeat (first | apply Kd.Zao | apply Kd.Zan | apply Kd.Zat)); exact HO_11.out⟩, ⟨by (try simp only [hl5_1]); (with_reducible repeat (first | apply Kd.Zao | apply Kd.Zan | apply Kd.Zat)); exact HO_1017001.out⟩, ⟨by (try simp only [hl5_1]); (with_reducible repeat (first | apply Kd.Zao | apply Kd.Zan | apply Kd.Zat)); exact HO_1017002.out⟩, ⟨by (try simp only [hl5_1]); (with_reducible repeat (first | apply Kd.Zb3 | apply Kd.Zb4 | apply Kd.Zb5)); exact HO_1017005.out⟩, ⟨by (try simp only [hl5_1]); (with_reducible repeat (first | refine Zaf ?_ _ | refine Zaj ?_ | refine Zae ?_ _)); exact BK998.out⟩, ⟨by (try simp only [hl5_1]); (with_reducible repeat (first | refine Zaf ?_ _ | refine Zaj ?_ | refine Zae ?_ _)); exact BK1016.out⟩, ⟨by repeat (first | (with_reducible exact HR1028_0.out) | (with_reducible refine Kd.Zbc ?_ _) | (with_reducible refine Kd.Zba ?_ _) | (with_reducible refine Kd.Zbh ?_) | exact HR1028_0.out)⟩, ⟨by repeat (first | (with_reducible exact HR1030_0.out) | (with_reducible refine Kd.Zbc ?_ _) | (with_reducible refine Kd.Zba ?_ _) | (with_reducible refine Kd.Zbh ?_) | exact HR1030_0.out)⟩, ⟨by repeat (first | (with_reducible first | exact HB.out | apply Zab | apply Za | apply Zac | refine Zag ?_ GE998.out | refine Zag ?_ GE1016.out) | exact HB.out)⟩⟩
     rw [if_neg c60] at H
     have c60b0 : (x13_2 == (rd t1003 (ji57))) = false := beq_eq_false_iff_ne.mpr c60
     have c60b1 : (x13_2 != (rd t1003 (ji57))) = true := bne_iff_ne.mpr c60
     by_cases c62 : 0 ≤ x13_2
     rotate_left
     ·rw [if_neg c62] at H
      exact absurd H (by simp)
     rw [if_pos c62] at H
     have c62b0 : decide (0 ≤ x13_2) = true := decide_eq_true c62
     clear c62
     by_cases c63 : x13_2 < (y1022.length : Int)
     rotate_left
     ·rw [if_neg c63] at H
      exact absurd H (by simp)
     rw [if_pos c63] at H
     have c63b0 : decide (x13_2 < (y1022.length : Int)) = true := decide_eq_true c63
     try have c63b0_l : decide (x13_2 < (x5_1.length : Int)) = true := by first | (rw [← hl5_1]; exact c63b0) | exact c63b0
     clear c63
     replace H := Option.bind_eq_some_iff.mp H
     obtain ⟨t1041, A640, H⟩ := H
     replace H : (if t1041 = true then (Zad.l1 k2 y1022 (Int.tmod (Go.bits .and .i64 a1 65535) (wrap64 ((t1003.length : Int) - 2))) t1023 t1026 t1031 (wrap64 (x13_2 + 1)) t1002 t1003 t1006 t1009 t1010 t1011 t1014) else (none)) = some r := H
     have A64 := Zaa.mk A640
     clear A640
     by_cases c65 : t1041 = true
     rotate_left
     ·replace c65 := Bool.eq_false_iff.mpr c65
      subst c65
      have H1 : (none) = some r := by rw [if_neg (show ¬ (false = true) by decide)] at H; exact H
      clear H
      have H := H1
      clear H1
      exact absurd H (by simp)
     subst c65
     have H1 : (Zad.l1 k2 y1022 (Int.tmod (Go.bits .and .i64 a1 65535) (wrap64 ((t1003.length : Int) - 2))) t1023 t1026 t1031 (wrap64 (x13_2 + 1)) t1002 t1003 t1006 t1009 t1010 t1011 t1014) = some r := by rw [if_pos rfl] at H; exact H
     clear H
     have H := H1
     clear H1
     have H' := Zaa.mk H
     clear H
     try go_wp2
     have n0_ := Zaa.mk (Kd.Zb5 HO_5.out)
     have n1_ := Zaa.mk (Kd.Zb5 HO_9.out)
     have n2_ := Zaa.mk (Kd.Zat HO_11.out)
     have n3_ := Zaa.mk (Kd.Zat HO_1017001.out)
     have n4_ := Zaa.mk (Kd.Zat HO_1017002.out)
     have n5_ := Zaa.mk (Kd.Zb5 HO_1017005.out)
     have n6_ := Zaa.mk (Zaj BK998.out)
     have n7_ := Zaa.mk (Zaj BK1016.out)
     have n8_ := Zaa.mk (Kd.Zbh HR1028_0.out)
     have n9_ := Zaa.mk (Kd.Zbh HR1030_0.out)
     have n10_ := Zaa.mk (Zac HB.out)
     clear HO_5
     clear HO_9
     clear HO_11
     clear HO_1017001
     clear HO_1017002
     clear HO_1017005
     clear BK998
     clear BK1016
     clear HR1028_0
     clear HR1030_0
     clear HB
     have HO_5 := n0_
     have HO_9 := n1_
     have HO_11 := n2_
     have HO_1017001 := n3_
     have HO_1017002 := n4_
     have HO_1017005 := n5_
     have BK998 := n6_
     have BK1016 := n7_
     have HR1028_0 := n8_
     have HR1030_0 := n9_
     have HB := n10_
     clear n0_ n1_ n2_ n3_ n4_ n5_ n6_ n7_ n8_ n9_ n10_
     have p1037 : 0 ≤ (1 : Int) := (by omega)
     have q1037 : 1 < (t1003.length : Int) := of_decide_eq_true (by first | (with_reducible assumption) | assumption)
     obtain ⟨ad1037, e1037, hx1037_0⟩ := Kd.Zb2 (Kd.Zbb HO_1017001.out).2.2 1 p1037 q1037
     obtain rfl : ad1018 = ad1037 := (by injection e1037)
     (try simp only [show (1 : Int).toNat = 1 from rfl, Nat.reduceMul, Nat.reduceEqDiff, Go.Addr.add, ↓reduceIte] at hx1037_0)
     have qi1037 : (1 < t1003.length) = True := eq_true (by omega)
     (try rw [show ((1 : Int)).toNat = 1 from rfl] at hx1037_0)
     replace p1037 := eq_true p1037
     replace q1037 := eq_true q1037
     have p1038 : 0 ≤ ((ji57) : Int) := of_decide_eq_true (by first | (with_reducible assumption) | assumption)
     have q1038 : (ji57) < (t1003.length : Int) := of_decide_eq_true (by first | (with_reducible assumption) | assumption)
     obtain ⟨ad1038, e1038, hx1038_0⟩ := Kd.Zb2 (Kd.Zbb HO_1017001.out).2.2 (ji57) p1038 q1038
     obtain rfl : ad1018 = ad1038 := (by injection e1038)
     replace p1038 := eq_true p1038
     replace q1038 := eq_true q1038
     have p1039 : 0 ≤ (x13_2 : Int) := of_decide_eq_true (by first | (with_reducible assumption) | assumption)
     have q1039 : x13_2 < (t1023.length : Int) := of_decide_eq_true (by first | (with_reducible assumption) | assumption)
     obtain ⟨ad1039, A1039_0, c1039_0, e1039, hx1039_0, hl1039_0, hi1039_0⟩ := Zee (Kd.Zc HO_9.out).2.2 x13_2 p1039 q1039
     cases e1039
     obtain ⟨ce1039, hce1039, hMe1039, hcc1039⟩ := Kd.S_get HO_9.out [] x13_2 p1039 (by first | exact q1039 | exact of_decide_eq_true (by first | (with_reducible assumption) | assumption) | (have e_ := (Kd.Zc HO_9.out).1; omega))
     obtain ⟨ve1039_0, rfl, ge1039_0⟩ := hMe1039
     have hv1039_0 := hcc1039 0 _ rfl
     rw [Nat.add_zero, show ((Kd.slice 41 k41)).sz = 1 from rfl, Nat.mul_one] at hv1039_0
     replace hv1039_0 := Option.some.inj (hv1039_0.symm.trans hx1039_0)
     rw [hv1039_0] at ge1039_0
     have HL1039_0 := Zaa.mk (show Kd.R k41 41 _ _ _ _ (Zb8 t1023 x13_2) from ge1039_0)
     clear hv1039_0 ge1039_0
     clear hcc1039 hce1039
     have HR1039_0 := Zaa.mk hi1039_0
     have HC1039_0 := Zaa.mk hl1039_0
     clear hi1039_0 hl1039_0
     replace p1039 := eq_true p1039
     replace q1039 := eq_true q1039
     have p1040 : 0 ≤ (x13_2 : Int) := of_decide_eq_true (by first | (with_reducible assumption) | assumption)
     have q1040 : x13_2 < (y1022.length : Int) := of_decide_eq_true (by first | (with_reducible assumption) | assumption)
     obtain ⟨ad1040, A1040_0, c1040_0, e1040, hx1040_0, hl1040_0, hi1040_0⟩ := Zee (Kd.Zc HO_5.out).2.2 x13_2 p1040 q1040
     obtain rfl : (⟨go9, 0, none⟩ : Addr) = ad1040 := (by injection e1040)
     obtain ⟨ce1040, hce1040, hMe1040, hcc1040⟩ := Kd.S_get HO_5.out [] x13_2 p1040 (by first | exact q1040 | exact of_decide_eq_true (by first | (with_reducible assumption) | assumption) | (have e_ := (Kd.Zc HO_5.out).1; omega))
     obtain ⟨ve1040_0, rfl, ge1040_0⟩ := hMe1040
     have hv1040_0 := hcc1040 0 _ rfl
     rw [Nat.add_zero, show ((Kd.slice 41 k41)).sz = 1 from rfl, Nat.mul_one] at hv1040_0
     replace hv1040_0 := Option.some.inj (hv1040_0.symm.trans hx1040_0)
     rw [hv1040_0] at ge1040_0
     have HL1040_0 := Zaa.mk (show Kd.R k41 41 _ _ _ _ (Zb8 y1022 x13_2) from ge1040_0)
     clear hv1040_0 ge1040_0
     clear hcc1040 hce1040
     (first | simp only [add_plain] at hx1040_0 | simp only [Zgl] at hx1040_0 | simp only [Addr.add, Nat.zero_add] at hx1040_0 | skip)
     have HR1040_0 := Zaa.mk hi1040_0
     have HC1040_0 := Zaa.mk hl1040_0
     clear hi1040_0 hl1040_0
     replace p1040 := eq_true p1040
     replace q1040 := eq_true q1040
     refine Zdx (n := 28) (S := fun w' => w'.cell? ⟨gb1016, 0, none⟩ = some (.int .i64 t1002) ∧ w'.cell? ⟨gb1016, 1, none⟩ = some (.slice (some ad1018) t1003.length co26) ∧ w'.cell? ⟨gb1016, 2, none⟩ = some (.slice Ao27 t1006.length co27) ∧ w'.cell? ⟨gb1016, 3, none⟩ = some (.int .i64 t1009) ∧ w'.cell? ⟨gb1016, 4, none⟩ = some (.int .i64 t1010) ∧ w'.cell? ⟨gb1016, 5, none⟩ = some (.slice Ao28 t1011.length co28) ∧ w'.cell? ⟨gb1016, 6, none⟩ = some (.int .i64 t1014) ∧ w'.cell? ⟨ad1018.block, ad1018.off + 1, none⟩ = some (.int .i64 (rd t1003 1)) ∧ w'.cell? (ad1018.add ((ji57)).toNat) = some (.int .i64 (rd t1003 (ji57))) ∧ w'.cell? (ad1039.add (x13_2).toNat) = some (.slice A1039_0 (Zb8 t1023 x13_2).length c1039_0) ∧ w'.cell? ⟨go9, (x13_2).toNat, none⟩ = some (.slice A1040_0 (Zb8 y1022 x13_2).length c1040_0)) (ds := []) #[false, false, false, false, false, false, false, false, false, false, false, false, false, false, false, false, false, false, false, false, false, false, false, false, false, false, false, false] (by kernel_rfl) rfl rfl ⟨(Zax BK1016.out 0).trans rfl, (Zax BK1016.out 1).trans rfl, (Zax BK1016.out 2).trans rfl, (Zax BK1016.out 3).trans rfl, (Zax BK1016.out 4).trans rfl, (Zax BK1016.out 5).trans rfl, (Zax BK1016.out 6).trans rfl, hx1037_0, hx1038_0, hx1039_0, hx1040_0⟩ (fun hHeld => ?_); refine Zcv Zad.tab20 Zad.bits20 (fun HT_ HW_ => ?_)
     generalize wr.drew = w66 at HO_5 HO_9 HO_11 HO_1017001 HO_1017002 HO_1017005 BK998 BK1016 HR1028_0 HR1030_0 HB HL1039_0 HL1040_0 HR1039_0 HR1040_0 hx1037_0 hx1038_0 hx1039_0 hx1040_0 hHeld ⊢
     refine Zbg (i := 0) (N := some 104) (v := ?_) (a' := ?_) #[true, false, false, false, false, false, false, false, false, false, false, false, false, false, false, false, false, false, false, false, false, false, false, false, false, false, false, false] rfl rfl (Za1 HT_.out (by kernel_rfl)) (fun _ _ _ h => h) (Or.inl ⟨by rfl, ?_⟩) ?_ ?_
     rotate_left
     ·intro w'
      go_simp
      with_reducible rfl
     rotate_left
     ·simp only [Act.put, List.setIfInBounds_toArray, List.set_cons_zero, List.set_cons_succ, Za5, Za9]
      rfl
     refine Zbg (i := 1) (N := some 105) (v := ?_) (a' := ?_) #[true, true, false, false, false, false, false, false, false, false, false, false, false, false, false, false, false, false, false, false, false, false, false, false, false, false, false, false] rfl rfl (Za1 HT_.out (by kernel_rfl)) (fun _ _ _ h => h) (Or.inl ⟨by rfl, ?_⟩) ?_ ?_
     rotate_left
     ·intro w'
      go_simp
      with_reducible rfl
     rotate_left
     ·simp only [Act.put, List.setIfInBounds_toArray, List.set_cons_zero, List.set_cons_succ, Za5, Za9]
      rfl
     refine Zc5 (i := 2) (N := some 106) (v := ?_) (a' := ?_) #[true, true, true, false, false, false, false, false, false, false, false, false, false, false, false, false, false, false, false, false, false, false, false, false, false, false, false, false] rfl rfl (Zb6 HT_.out HW_.out (by kernel_rfl)) (fun _ _ _ h => h) (Or.inl ⟨by rfl, ?_⟩) hHeld ?_ ?_
     rotate_left
     ·rintro w' ⟨s0, s1, s2, s3, s4, s5, s6, s7, s8, s9, s10⟩
      go_simp
      with_reducible rfl
     rotate_left
     ·simp only [Act.put, List.setIfInBounds_toArray, List.set_cons_zero, List.set_cons_succ, Za5, Za9]
      rfl
     refine Zbg (i := 3) (N := some 107) (v := ?_) (a' := ?_) #[true, true, true, true, false, false, false, false, false, false, false, false, false, false, false, false, false, false, false, false, false, false, false, false, false, false, false, false] rfl rfl (Za1 HT_.out (by kernel_rfl)) (fun _ _ _ h => h) (Or.inl ⟨by rfl, ?_⟩) ?_ ?_
     rotate_left
     ·intro w'
      go_simp
      with_reducible rfl
     rotate_left
     ·simp only [Act.put, List.setIfInBounds_toArray, List.set_cons_zero, List.set_cons_succ, Za5, Za9]
      rfl
     refine Zc5 (i := 4) (N := some 108) (v := ?_) (a' := ?_) #[true, true, true, true, true, false, false, false, false, false, false, false, false, false, false, false, false, false, false, false, false, false, false, false, false, false, false, false] rfl rfl (Zb6 HT_.out HW_.out (by kernel_rfl)) (fun _ _ _ h => h) (Or.inl ⟨by rfl, ?_⟩) hHeld ?_ ?_
     rotate_left
     ·rintro w' ⟨s0, s1, s2, s3, s4, s5, s6, s7, s8, s9, s10⟩
      go_simp
      with_reducible rfl
     rotate_left
     ·simp only [Act.put, List.setIfInBounds_toArray, List.set_cons_zero, List.set_cons_succ, Za5, Za9]
      rfl
     refine Zbg (i := 5) (N := some 109) (v := ?_) (a' := ?_) #[true, true, true, true, true, true, false, false, false, false, false, false, false, false, false, false, false, false, false, false, false, false, false, false, false, false, false, false] rfl rfl (Za1 HT_.out (by kernel_rfl)) (fun _ _ _ h => h) (Or.inl ⟨by rfl, ?_⟩) ?_ ?_
     rotate_left
     ·intro w'
      go_simp
      with_reducible rfl
     rotate_left
     ·simp only [Act.put, List.setIfInBounds_toArray, List.set_cons_zero, List.set_cons_succ, Za5, Za9]
      rfl
     refine Zbg (i := 6) (N := some 110) (v := ?_) (a' := ?_) #[true, true, true, true, true, true, true, false, false, false, false, false, false, false, false, false, false, false, false, false, false, false, false, false, false, false, false, false] rfl rfl (Za1 HT_.out (by kernel_rfl)) (fun _ _ _ h => h) (Or.inl ⟨by rfl, ?_⟩) ?_ ?_
     rotate_left
     ·intro w'
      go_simp
      with_reducible rfl
     rotate_left
     ·simp only [Act.put, List.setIfInBounds_toArray, List.set_cons_zero, List.set_cons_succ, Za5, Za9]
      rfl
     refine Zbg (i := 7) (N := some 111) (v := ?_) (a' := ?_) #[true, true, true, true, true, true, true, true, false, false, false, false, false, false, false, false, false, false, false, false, false, false, false, false, false, false, false, false] rfl rfl (Za1 HT_.out (by kernel_rfl)) (fun _ _ _ h => h) (Or.inl ⟨by rfl, ?_⟩) ?_ ?_
     rotate_left
     ·intro w'
      go_simp
      with_reducible rfl
     rotate_left
     ·simp only [Act.put, List.setIfInBounds_toArray, List.set_cons_zero, List.set_cons_succ, Za5, Za9]
      rfl
     refine Zbg (i := 8) (N := some 112) (v := ?_) (a' := ?_) #[true, true, true, true, true, true, true, true, true, false, false, false, false, false, false, false, false, false, false, false, false, false, false, false, false, false, false, false] rfl rfl (Za1 HT_.out (by kernel_rfl)) (fun _ _ _ h => h) (Or.inl ⟨by rfl, ?_⟩) ?_ ?_
     rotate_left
     ·intro w'
      go_simp
      with_reducible rfl
     rotate_left
     ·simp only [Act.put, List.setIfInBounds_toArray, List.set_cons_zero, List.set_cons_succ, Za5, Za9]
      rfl
     refine Zbg (i := 10) (N := some 114) (v := ?_) (a' := ?_) #[true, true, true, true, true, true, true, true, true, false, true, false, false, false, false, false, false, false, false, false, false, false, false, false, false, false, false, false] rfl rfl (Za1 HT_.out (by kernel_rfl)) (fun _ _ _ h => h) (Or.inl ⟨by rfl, ?_⟩) ?_ ?_
     rotate_left
     ·intro w'
      go_simp
      with_reducible rfl
     rotate_left
     ·simp only [Act.put, List.setIfInBounds_toArray, List.set_cons_zero, List.set_cons_succ, Za5, Za9]
      rfl
     refine Zbg (i := 11) (N := some 115) (v := ?_) (a' := ?_) #[true, true, true, true, true, true, true, true, true, false, true, true, false, false, false, false, false, false, false, false, false, false, false, false, false, false, false, false] rfl rfl (Za1 HT_.out (by kernel_rfl)) (fun _ _ _ h => h) (Or.inl ⟨by rfl, ?_⟩) ?_ ?_
     rotate_left
     ·intro w'
      go_simp
      with_reducible rfl
     rotate_left
     ·simp only [Act.put, List.setIfInBounds_toArray, List.set_cons_zero, List.set_cons_succ, Za5, Za9]
      rfl
     refine Zc5 (i := 9) (N := some 113) (v := ?_) (a' := ?_) #[true, true, true, true, true, true, true, true, true, true, true, true, false, false, false, false, false, false, false, false, false, false, false, false, false, false, false, false] rfl rfl (Zb6 HT_.out HW_.out (by kernel_rfl)) (fun _ _ _ h => h) (Or.inl ⟨by rfl, ?_⟩) hHeld ?_ ?_
     rotate_left
     ·rintro w' ⟨s0, s1, s2, s3, s4, s5, s6, s7, s8, s9, s10⟩
      go_simp
      with_reducible rfl
     rotate_left
     ·simp only [Act.put, List.setIfInBounds_toArray, List.set_cons_zero, List.set_cons_succ, Za5, Za9]
      rfl
     refine Zbg (i := 12) (N := some 116) (v := ?_) (a' := ?_) #[true, true, true, true, true, true, true, true, true, true, true, true, true, false, false, false, false, false, false, false, false, false, false, false, false, false, false, false] rfl rfl (Za1 HT_.out (by kernel_rfl)) (fun _ _ _ h => h) (Or.inl ⟨by rfl, ?_⟩) ?_ ?_
     rotate_left
     ·intro w'
      go_simp
      with_reducible rfl
     rotate_left
     ·simp only [Act.put, List.setIfInBounds_toArray, List.set_cons_zero, List.set_cons_succ, Za5, Za9]
      rfl
     refine Zc5 (i := 13) (N := some 117) (v := ?_) (a' := ?_) #[true, true, true, true, true, true, true, true, true, true, true, true, true, true, false, false, false, false, false, false, false, false, false, false, false, false, false, false] rfl rfl (Zb6 HT_.out HW_.out (by kernel_rfl)) (fun _ _ _ h => h) (Or.inl ⟨by rfl, ?_⟩) hHeld ?_ ?_
     rotate_left
     ·rintro w' ⟨s0, s1, s2, s3, s4, s5, s6, s7, s8, s9, s10⟩
      go_simp
      with_reducible rfl
     rotate_left
     ·simp only [Act.put, List.setIfInBounds_toArray, List.set_cons_zero, List.set_cons_succ, Za5, Za9]
      rfl
     refine Zbg (i := 14) (N := some 118) (v := ?_) (a' := ?_) #[true, true, true, true, true, true, true, true, true, true, true, true, true, true, true, false, false, false, false, false, false, false, false, false, false, false, false, false] rfl rfl (Za1 HT_.out (by kernel_rfl)) (fun _ _ _ h => h) (Or.inl ⟨by rfl, ?_⟩) ?_ ?_
     rotate_left
     ·intro w'
      go_simp
      with_reducible rfl
     rotate_left
     ·simp only [Act.put, List.setIfInBounds_toArray, List.set_cons_zero, List.set_cons_succ, Za5, Za9]
      rfl
     refine Zbg (i := 15) (N := some 119) (v := ?_) (a' := ?_) #[true, true, true, true, true, true, true, true, true, true, true, true, true, true, true, true, false, false, false, false, false, false, false, false, false, false, false, false] rfl rfl (Za1 HT_.out (by kernel_rfl)) (fun _ _ _ h => h) (Or.inl ⟨by rfl, ?_⟩) ?_ ?_
     rotate_left
     ·intro w'
      go_simp
      with_reducible rfl
     rotate_left
     ·simp only [Act.put, List.setIfInBounds_toArray, List.set_cons_zero, List.set_cons_succ, Za5, Za9]
      rfl
     refine Zbg (i := 16) (N := some 120) (v := ?_) (a' := ?_) #[true, true, true, true, true, true, true, true, true, true, true, true, true, true, true, true, true, false, false, false, false, false, false, false, false, false, false, false] rfl rfl (Za1 HT_.out (by kernel_rfl)) (fun _ _ _ h => h) (Or.inl ⟨by rfl, ?_⟩) ?_ ?_
     rotate_left
     ·intro w'
      go_simp
      with_reducible rfl
     rotate_left
     ·simp only [Act.put, List.setIfInBounds_toArray, List.set_cons_zero, List.set_cons_succ, Za5, Za9]
      rfl
     refine Zbg (i := 17) (N := some 121) (v := ?_) (a' := ?_) #[true, true, true, true, true, true, true, true, true, true, true, true, true, true, true, true, true, true, false, false, false, false, false, false, false, false, false, false] rfl rfl (Za1 HT_.out (by kernel_rfl)) (fun _ _ _ h => h) (Or.inl ⟨by rfl, ?_⟩) ?_ ?_
     rotate_left
     ·intro w'
      go_simp
      with_reducible rfl
     rotate_left
     ·simp only [Act.put, List.setIfInBounds_toArray, List.set_cons_zero, List.set_cons_succ, Za5, Za9]
      rfl
     refine Zbg (i := 18) (N := some 122) (v := ?_) (a' := ?_) #[true, true, true, true, true, true, true, true, true, true, true, true, true, true, true, true, true, true, true, false, false, false, false, false, false, false, false, false] rfl rfl (Za1 HT_.out (by kernel_rfl)) (fun _ _ _ h => h) (Or.inl ⟨by rfl, ?_⟩) ?_ ?_
     rotate_left
     ·intro w'
      go_simp
      with_reducible rfl
     rotate_left
     ·simp only [Act.put, List.setIfInBounds_toArray, List.set_cons_zero, List.set_cons_succ, Za5, Za9]
      rfl
     refine Zbg (i := 19) (N := some 123) (v := ?_) (a' := ?_) #[true, true, true, true, true, true, true, true, true, true, true, true, true, true, true, true, true, true, true, true, false, false, false, false, false, false, false, false] rfl rfl (Za1 HT_.out (by kernel_rfl)) (fun _ _ _ h => h) (Or.inl ⟨by rfl, ?_⟩) ?_ ?_
     rotate_left
     ·intro w'
      go_simp
      with_reducible rfl
     rotate_left
     ·simp only [Act.put, List.setIfInBounds_toArray, List.set_cons_zero, List.set_cons_succ, Za5, Za9]
      rfl
     refine Zbg (i := 21) (N := some 125) (v := ?_) (a' := ?_) #[true, true, true, true, true, true, true, true, true, true, true, true, true, true, true, true, true, true, true, true, false, true, false, false, false, false, false, false] rfl rfl (Za1 HT_.out (by kernel_rfl)) (fun _ _ _ h => h) (Or.inl ⟨by rfl, ?_⟩) ?_ ?_
     rotate_left
     ·intro w'
      go_simp
      with_reducible rfl
     rotate_left
     ·simp only [Act.put, List.setIfInBounds_toArray, List.set_cons_zero, List.set_cons_succ, Za5, Za9]
      rfl
     refine Zbg (i := 22) (N := some 126) (v := ?_) (a' := ?_) #[true, true, true, true, true, true, true, true, true, true, true, true, true, true, true, true, true, true, true, true, false, true, true, false, false, false, false, false] rfl rfl (Za1 HT_.out (by kernel_rfl)) (fun _ _ _ h => h) (Or.inl ⟨by rfl, ?_⟩) ?_ ?_
     rotate_left
     ·intro w'
      go_simp
      with_reducible rfl
     rotate_left
     ·simp only [Act.put, List.setIfInBounds_toArray, List.set_cons_zero, List.set_cons_succ, Za5, Za9]
      rfl
     refine Zbg (i := 23) (N := some 127) (v := ?_) (a' := ?_) #[true, true, true, true, true, true, true, true, true, true, true, true, true, true, true, true, true, true, true, true, false, true, true, true, false, false, false, false] rfl rfl (Za1 HT_.out (by kernel_rfl)) (fun _ _ _ h => h) (Or.inl ⟨by rfl, ?_⟩) ?_ ?_
     rotate_left
     ·intro w'
      go_simp
      with_reducible rfl
     rotate_left
     ·simp only [Act.put, List.setIfInBounds_toArray, List.set_cons_zero, List.set_cons_succ, Za5, Za9]
      rfl
     refine Zc5 (i := 20) (N := some 124) (v := ?_) (a' := ?_) #[true, true, true, true, true, true, true, true, true, true, true, true, true, true, true, true, true, true, true, true, true, true, true, true, false, false, false, false] rfl rfl (Zb6 HT_.out HW_.out (by kernel_rfl)) (fun _ _ _ h => h) (Or.inl ⟨by rfl, ?_⟩) hHeld ?_ ?_
     rotate_left
     ·rintro w' ⟨s0, s1, s2, s3, s4, s5, s6, s7, s8, s9, s10⟩
      go_simp
      with_reducible rfl
     rotate_left
     ·simp only [Act.put, List.setIfInBounds_toArray, List.set_cons_zero, List.set_cons_succ, Za5, Za9]
      rfl
     refine Zc5 (i := 24) (N := some 128) (v := ?_) (a' := ?_) #[true, true, true, true, true, true, true, true, true, true, true, true, true, true, true, true, true, true, true, true, true, true, true, true, true, false, false, false] rfl rfl (Zb6 HT_.out HW_.out (by kernel_rfl)) (fun _ _ _ h => h) (Or.inl ⟨by rfl, ?_⟩) hHeld ?_ ?_
     rotate_left
     ·rintro w' ⟨s0, s1, s2, s3, s4, s5, s6, s7, s8, s9, s10⟩
      go_simp
      with_reducible rfl
     rotate_left
     ·simp only [Act.put, List.setIfInBounds_toArray, List.set_cons_zero, List.set_cons_succ, Za5, Za9]
      rfl
     refine one_ (i := 25) (N := some 129) #[true, true, true, true, true, true, true, true, true, true, true, true, true, true, true, true, true, true, true, true, true, true, true, true, true, true, false, false] rfl rfl (Zd2 HT_.out (by kernel_rfl)) (by decide) (fun K hK => ?_)
     refine goes_ Try.func39 (by kernel_rfl) rfl #[.slice A1039_0 (Zb8 t1023 x13_2).length c1039_0, .slice A1040_0 (Zb8 y1022 x13_2).length c1040_0] (by rfl) rfl rfl (by (try simp only [List.map_toArray, List.map_cons, List.map_nil]); first | done | rfl | (simp only [List.length_drop, List.length_take]; rfl)) ?_
     with_reducible refine (Zar.calls k2 _ _ (Zb8 t1023 x13_2) _ _ (Zb8 y1022 x13_2) true _ ?side1 ?side2 ?side3 ?side4 A64.out).mono ?_
     (case side1 => repeat (first | exact (by repeat (first | (with_reducible exact HR1039_0.out) | (with_reducible refine Kd.Zbc ?_ _) | (with_reducible refine Kd.Zba ?_ _) | (with_reducible refine Kd.Zbh ?_) | exact HR1039_0.out)) | (with_reducible refine Kd.Zbc ?_ _) | (with_reducible refine Kd.Zba ?_ _) | (with_reducible refine Kd.Zbh ?_)))
     (case side2 => exact HC1039_0.out)
     (case side3 => repeat (first | exact (by repeat (first | (with_reducible exact HR1040_0.out) | (with_reducible refine Kd.Zbc ?_ _) | (with_reducible refine Kd.Zba ?_ _) | (with_reducible refine Kd.Zbh ?_) | exact HR1040_0.out)) | (with_reducible refine Kd.Zbc ?_ _) | (with_reducible refine Kd.Zba ?_ _) | (with_reducible refine Kd.Zbh ?_)))
     (case side4 => exact HC1040_0.out)
     rintro e w' ⟨rfl, ⟨nd, rfl⟩⟩
     refine ⟨_, rfl, ?_⟩
     refine hK.out _ _ ⟨(Zax BK1016.out 0).trans rfl, (Zax BK1016.out 1).trans rfl, (Zax BK1016.out 2).trans rfl, (Zax BK1016.out 3).trans rfl, (Zax BK1016.out 4).trans rfl, (Zax BK1016.out 5).trans rfl, (Zax BK1016.out 6).trans rfl, hHeld.2.2.2.2.2.2.2.1, hHeld.2.2.2.2.2.2.2.2.1, hHeld.2.2.2.2.2.2.2.2.2.1, hHeld.2.2.2.2.2.2.2.2.2.2⟩ (fun hHeld => ?_)
     clear hK K
     refine Zf8 (a' := ?_) ?_ ?_
     rotate_left
     ·show Act.put _ (some 129) _ = _
      simp only [Act.put, List.setIfInBounds_toArray, List.set_cons_zero, List.set_cons_succ, Za5, Za9]
      rfl
     refine Zbg (i := 26) (N := some 130) (v := ?_) (a' := ?_) #[true, true, true, true, true, true, true, true, true, true, true, true, true, true, true, true, true, true, true, true, true, true, true, true, true, true, true, false] rfl rfl (Za1 HT_.out (by kernel_rfl)) (fun _ _ _ h => h) (Or.inl ⟨by rfl, ?_⟩) ?_ ?_
     rotate_left
     ·intro w'
      go_simp
      with_reducible rfl
     rotate_left
     ·simp only [Act.put, List.setIfInBounds_toArray, List.set_cons_zero, List.set_cons_succ, Za5, Za9]
      rfl
     refine Zbg (i := 27) (N := some 131) (v := ?_) (a' := ?_) #[true, true, true, true, true, true, true, true, true, true, true, true, true, true, true, true, true, true, true, true, true, true, true, true, true, true, true, true] rfl rfl (Za1 HT_.out (by kernel_rfl)) (fun _ _ _ h => h) (Or.inl ⟨by rfl, ?_⟩) ?_ ?_
     rotate_left
     ·intro w'
      go_simp
      with_reducible rfl
     rotate_left
     ·simp only [Act.put, List.setIfInBounds_toArray, List.set_cons_zero, List.set_cons_succ, Za5, Za9]
      rfl
     refine Zeu (Zdi HT_.out (by kernel_rfl)) ?_
     try go_wp2
     go_roundg k2
     case measure => have := HK1.out; have := HK2.out; omega
     case rel => exact ⟨(wrap64 (x13_2 + 1)), (by first | rfl | (simp; done) | (simp [*]; done)), H', ⟨by have := HK1.out; have := HK2.out; omega⟩, ⟨by (try simp only [hl5_1]); (with_reducible repeat (first | apply Kd.Zb3 | apply Kd.Zb4 | apply Kd.Zb5)); exact HO_5.out⟩, ⟨by (try simp only [hl5_1]); (with_reducible repeat (first | apply Kd.Zb3 | apply Kd.Zb4 | apply Kd.Zb5)); exact HO_9.out⟩, ⟨by (try simp only [hl5_1]); (with_reducible repeat (first | apply Kd.Zao | apply Kd.Zan | apply Kd.Zat)); exact HO_11.out⟩, ⟨by (try simp only [hl5_1]); (with_reducible repeat (first | apply Kd.Zao | apply Kd.Zan | apply Kd.Zat)); exact HO_1017001.out⟩, ⟨by (try simp only [hl5_1]); (with_reducible repeat (first | apply Kd.Zao | apply Kd.Zan | apply Kd.Zat)); exact HO_1017002.out⟩, ⟨by (try simp only [hl5_1]); (with_reducible repeat (first | apply Kd.Zb3 | apply Kd.Zb4 | apply Kd.Zb5)); exact HO_1017005.out⟩, ⟨by (try simp only [hl5_1]); (with_reducible repeat (first | refine Zaf ?_ _ | refine Zaj ?_ | refine Zae ?_ _)); exact BK998.out⟩, ⟨by (try simp only [hl5_1]); (with_reducible repeat (first | refine Zaf ?_ _ | refine Zaj ?_ | refine Zae ?_ _)); exact BK1016.out⟩, ⟨by repeat (first | (with_reducible exact HR1028_0.out) | (with_reducible refine Kd.Zbc ?_ _) | (with_reducible refine Kd.Zba ?_ _) | (with_reducible refine Kd.Zbh ?_) | exact HR1028_0.out)⟩, ⟨by repeat (first | (with_reducible exact HR1030_0.out) | (with_reducible refine Kd.Zbc ?_ _) | (with_reducible refine Kd.Zba ?_ _) | (with_reducible refine Kd.Zbh ?_) | exact HR1030_0.out)⟩, ⟨by repeat (first | (with_reducible first | exact HB.out | apply Zab | apply Za | apply Zac | refine Zag ?_ GE998.out | refine Zag ?_ GE1016.out) | exact HB.out)⟩⟩
end Go.Proofs.Ytpbcigilipdedaa.P
/- ElementKnown: where the index is known the result and the variable of its place have the same values left; all others of the list stay. -/
namespace Go.Proofs.Ytpbcigilipdedaa.P
open Go.RowKit Go.Proofs.YtpbcigilipdedaaW.PrintWords Go.Proofs.YtpbcigilipdedaaW.PrintLast Go.Proofs.YtpbcigilipdedaaW.PrintMore
set_option linter.unusedVariables false
set_option linter.unusedSimpArgs false
set_option linter.unusedSectionVars false

theorem doms_set {d : List (List Rg)} (hd : Doms d) (i : Nat) {n : Int} (h0 : -1048576 ≤ n) (h1 : n ≤ 1048576) : Doms (d.set i [⟨n, n⟩]) := by
  refine ⟨by rw [List.length_set]; exact hd.1, fun x hx => ?_⟩
  rcases List.mem_or_eq_of_mem_set hx with h | rfl
  · exact hd.2 x h
  have g : Gd 1048576 (-1048576) [(⟨n, n⟩ : Rg)] := ⟨h0, Int.le_refl _, h1, trivial⟩
  have g2 : Gd n n [(⟨n, n⟩ : Rg)] := ⟨Int.le_refl _, Int.le_refl _, Int.le_refl _, trivial⟩
  have := Zc6 g2
  exact ⟨g, by omega⟩
theorem Va_one (n i : Int) : Va [(⟨n, n⟩ : Rg)] i ↔ i = n := by
  constructor
  · rintro ⟨x, hx, h1, h2⟩
    rw [List.mem_singleton] at hx
    subst hx
    have h1' : n ≤ i := h1
    have h2' : i ≤ n := h2
    omega
  rintro rfl
  exact ⟨_, List.mem_singleton.2 rfl, Int.le_refl _, Int.le_refl _⟩
section
variable {d l : List (List Rg)} {both : List Rg} {n : Nat} {is : Bool} {ix rs : Int} {list : List Int} (kd : Int) (coefs : List Int) (op rhs : Int) (rows : List (List Int)) (b : Int)
  (hd : Doms d) (hm : ∀ v ∈ ix :: rs :: list, 0 ≤ v ∧ v < (d.length : Int)) (hll : list.length ≤ d.length) (hn : n < list.length)
include hd hm hll hn
theorem known_l1 (hl : l.length = d.length) (hoth : ∀ j, 0 ≤ j → j ≠ rs → j ≠ list.getD n 0 → dv l j = dv d j) (e1 : Ev (fun k => Zar.f k (dv l rs) both) true) (e2 : Ev (fun k => Zar.f k (dv l (list.getD n 0)) both) true) :
    ∀ (m i : Nat), i + m = d.length → Ev (fun k => Zad.l1 k d (n : Int) l true both (i : Int) kd (ix :: rs :: list) coefs op rhs rows b) true := by
  have h64 := hd.1
  have hlen : ((ix :: rs :: list).length : Int) = (list.length : Int) + 2 := by simp only [List.length_cons]; omega
  have hrs := hm rs (List.mem_cons_of_mem _ List.mem_cons_self)
  have ers : Go.Proofs.YtpbcigilipdedaaW.PrintWords.rd (ix :: rs :: list) 1 = rs := rfl
  have hw2 := Zaa.mk (show wrap64 (2 + (n : Int)) = ((n + 2 : Nat) : Int) from by rw [w64 (by omega) (by omega)]; omega)
  have ev : Go.Proofs.YtpbcigilipdedaaW.PrintWords.rd (ix :: rs :: list) ((n + 2 : Nat) : Int) = list.getD n 0 := by
    rw [Zcq _ (n + 2) (by simp only [List.length_cons]; omega), List.getD_eq_getElem?_getD, List.getElem?_eq_getElem hn]
    rfl
  have hv : list.getD n 0 ∈ list := by
    rw [List.getD_eq_getElem?_getD, List.getElem?_eq_getElem hn]
    exact List.getElem_mem _
  have hv2 := hm _ (List.mem_cons_of_mem _ (List.mem_cons_of_mem _ hv))
  intro m
  induction m with
  | zero =>
    intro i h
    refine Ev.step (fun k => by rw [Zad.l1, if_neg (by omega), if_pos rfl, if_pos (by omega), if_pos (by omega), ers, if_pos hrs.1, if_pos (by omega), rdR_dv]) ?_
    refine Ev.bind e1 (Ev.Zce rfl ?_)
    rw [hw2.out]
    refine Ev.Zce (by omega) (Ev.Zce (by omega) ?_)
    rw [ev, rdR_dv]
    refine Ev.Zce hv2.1 (Ev.Zce (by omega) ?_)
    refine Ev.bind e2 (Ev.Zce rfl ?_)
    exact Ev.bind Zgm (Ev.pure _)
  | succ m ih =>
    intro i h
    have next := ih (i + 1) (by omega)
    rw [← w1 (show i < 4611686018427387904 by omega)] at next
    by_cases c1 : (i : Int) = rs
    · exact Ev.step (fun k => by rw [Zad.l1, if_pos (by omega), if_pos (by omega), ers, if_pos c1]) next
    by_cases c2 : (i : Int) = list.getD n 0
    · exact Ev.step (fun k => by rw [Zad.l1, if_pos (by omega), if_pos (by omega), ers, if_neg c1, hw2.out, if_pos (by omega), if_pos (by omega), ev, if_pos c2]) next
    refine Ev.step (fun k => by rw [Zad.l1, if_pos (by omega), if_pos (by omega), ers, if_neg c1, hw2.out, if_pos (by omega), if_pos (by omega), ev, if_neg c2, if_pos (by omega), if_pos (by omega), rdR_dv, rdR_dv, hoth _ (by omega) c1 c2]) ?_
    have hdl := hd.len (Zfn (d := d) (v := (i : Int)) (by omega) (by omega))
    exact Ev.bind (Ze8 _ (by omega)) (Ev.Zce rfl next)
theorem known_l0 (hl : (∃ x ∈ d, x = []) → is = false)
    (hend : (∀ x ∈ d, x ≠ []) → Ev (fun k => if (both.length : Int) = 0 then (if is = true then none else (if (l.length : Int) = 0 then (Za4.f k).bind fun t => some t else none)) else (if (l.length : Int) > (d.length : Int) then none else Zad.l1 k d (n : Int) l is both 0 kd (ix :: rs :: list) coefs op rhs rows b)) true) :
    ∀ (m i : Nat), i + m = d.length → (∀ x ∈ d.take i, x ≠ []) → Ev (fun k => Zad.l0 k d (n : Int) l is both (i : Int) kd (ix :: rs :: list) coefs op rhs rows b) true := by
  have h64 := hd.1
  intro m
  induction m with
  | zero =>
    intro i h ht
    rw [List.take_of_length_le (by omega)] at ht
    exact Ev.step (fun k => by rw [Zad.l0, if_neg (by omega)]) (hend ht)
  | succ m ih =>
    intro i h ht
    have hi : i < d.length := by omega
    refine Ev.step (fun k => by rw [Zad.l0, if_pos (by omega), if_pos (by omega), rdR_nat d i hi]) ?_
    by_cases hz : d[i] = []
    · have := hl ⟨_, List.getElem_mem hi, hz⟩
      refine Ev.Zce (by rw [hz]; rfl) (Ev.Zde (by rw [this]; exact Bool.false_ne_true) Zez)
    have hpos : 0 < d[i].length := List.length_pos_iff.2 hz
    refine Ev.Zde (by omega) ?_
    simp only [w1 (show i < 4611686018427387904 by omega)]
    refine ih (i + 1) (by omega) (fun x hx => ?_)
    rw [List.take_succ_eq_append_getElem hi, List.mem_append, List.mem_singleton] at hx
    exact hx.elim (ht x) (fun e => e ▸ hz)
end
set_option maxHeartbeats 2000000 in
theorem Zft (A0 : Option Addr) (c0 : Nat) (x0 : List (List Int)) (x1 : Int) (A2 : Option Addr) (c2 : Nat) (x2 : List Int) (A3 : Option Addr) (c3 : Nat) (x3 : List Int) (x4 x5 : Int) (A6 : Option Addr) (c6 : Nat) (x6 : List (List Int)) (x7 : Int) (A8 : Option Addr) (c8 : Nat) (x8 : List Int) (A9 : Option Addr) (c9 : Nat) (x9 : List Int) (x10 : Int) (W : World)
    (hC0 : (Kd.slice 3 (Kd.int .i64)).C W A0 x0.length x0) (hc0 : x0.length ≤ c0) (ok0 : x0.length * 24 ≤ 140737488351232 ∧ ∀ x ∈ x0, x.length * 8 ≤ 140737488351232 ∧ ∀ y ∈ x, (Lit.int .i64 y).wf = true) (ok1 : (Lit.int .i64 x1).wf = true)
    (hC2 : (Kd.int .i64).C W A2 x2.length x2) (hc2 : x2.length ≤ c2) (ok2 : x2.length * 8 ≤ 140737488351232 ∧ ∀ y ∈ x2, (Lit.int .i64 y).wf = true)
    (hC3 : (Kd.int .i64).C W A3 x3.length x3) (hc3 : x3.length ≤ c3) (ok3 : x3.length * 8 ≤ 140737488351232 ∧ ∀ y ∈ x3, (Lit.int .i64 y).wf = true) (ok4 : (Lit.int .i64 x4).wf = true) (ok5 : (Lit.int .i64 x5).wf = true)
    (hC6 : (Kd.slice 3 (Kd.int .i64)).C W A6 x6.length x6) (hc6 : x6.length ≤ c6) (ok6 : x6.length * 24 ≤ 140737488351232 ∧ ∀ x ∈ x6, x.length * 8 ≤ 140737488351232 ∧ ∀ y ∈ x, (Lit.int .i64 y).wf = true) (ok7 : (Lit.int .i64 x7).wf = true)
    (hC8 : (Kd.int .i64).C W A8 x8.length x8) (hc8 : x8.length ≤ c8) (ok8 : x8.length * 8 ≤ 140737488351232 ∧ ∀ y ∈ x8, (Lit.int .i64 y).wf = true)
    (hC9 : (Kd.int .i64).C W A9 x9.length x9) (hc9 : x9.length ≤ c9) (ok9 : x9.length * 8 ≤ 140737488351232 ∧ ∀ y ∈ x9, (Lit.int .i64 y).wf = true) (ok10 : (Lit.int .i64 x10).wf = true) :
    Calls Try.prog 11 #[.agg #[.slice A0 x0.length c0, .int .i64 x1, .slice A2 x2.length c2, .slice A3 x3.length c3, .int .i64 x4, .int .i64 x5, .slice A6 x6.length c6, .int .i64 x7, .slice A8 x8.length c8, .slice A9 x9.length c9], .int .i64 x10] W fun e W' => e = .returned (.bool true) ∧ Below W.heap.size W W' := by
  have hb : ∀ x ∈ x6, x.length * 8 ≤ 140737488351232 := fun x hx => (ok6.2 x hx).1
  obtain ⟨ok, hL, hok⟩ := laid_ev x0 x1 x2 x3 x4 x5 x6 x7 x8 x9 3 (.inr rfl) ok2.1 ok3.1 ok6.1 hb
  have hE : Ev (fun k => Zad.f k x0 x1 x2 x3 x4 x5 x6 x7 x8 x9 x10) true := by
    unfold Zad.f
    refine Ev.bind hL ?_
    cases ok with
    | false => exact Ev.Zde Bool.false_ne_true Zez
    | true =>
      have hT := (hok rfl).elem
      have hd0 := domsC_doms x0
      obtain ⟨ix, rs, list, rfl, hne, hir, hi, hr, hll⟩ := hT.form
      have h64 := hd0.1
      have hlen : ((ix :: rs :: list).length : Int) = (list.length : Int) + 2 := by simp only [List.length_cons]; omega
      have hw := Zaa.mk (show wrap64 (((ix :: rs :: list).length : Int) - 2) = (list.length : Int) from by rw [hlen, w64 (by omega) (by omega)]; omega)
      have hpos : 0 < list.length := List.length_pos_iff.2 hne
      obtain ⟨b0, b1⟩ := and16 x10
      obtain ⟨t0, t1⟩ := tmod_in (m := list.length) b0 hpos
      obtain ⟨n, hn'⟩ := Int.eq_ofNat_of_zero_le t0
      have hn : n < list.length := by omega
      have hix := hT.mem ix List.mem_cons_self
      have hrs := hT.mem rs (List.mem_cons_of_mem _ List.mem_cons_self)
      have eix : Go.Proofs.YtpbcigilipdedaaW.PrintWords.rd (ix :: rs :: list) 0 = ix := rfl
      have ers : Go.Proofs.YtpbcigilipdedaaW.PrintWords.rd (ix :: rs :: list) 1 = rs := rfl
      have hw2 := Zaa.mk (show wrap64 (2 + (n : Int)) = ((n + 2 : Nat) : Int) from by rw [w64 (by omega) (by omega)]; omega)
      have ev : Go.Proofs.YtpbcigilipdedaaW.PrintWords.rd (ix :: rs :: list) ((n + 2 : Nat) : Int) = list.getD n 0 := by
        rw [Zcq _ (n + 2) (by simp only [List.length_cons]; omega), List.getD_eq_getElem?_getD, List.getElem?_eq_getElem hn]
        rfl
      have hv : list.getD n 0 ∈ list := by
        rw [List.getD_eq_getElem?_getD, List.getElem?_eq_getElem hn]
        exact List.getElem_mem _
      have hv2 := hT.mem _ (List.mem_cons_of_mem _ (List.mem_cons_of_mem _ hv))
      refine Ev.Zce rfl ?_
      dsimp only
      rw [hw.out, hn']
      refine Ev.Zde (by omega) (Ev.Zce (by omega) ?_)
      rw [eix]
      refine Ev.Zce hix.1 (Ev.Zce hix.2 (Ev.bind (Ev.pure _) ?_))
      have hd := doms_set hd0 ix.toNat (n := (n : Int)) (by omega) (by omega)
      have hsl : ((domsC x0).set ix.toNat [(⟨(n : Int), (n : Int)⟩ : Rg)]).length = (domsC x0).length := List.length_set
      have hdix : dv ((domsC x0).set ix.toNat [(⟨(n : Int), (n : Int)⟩ : Rg)]) ix = [⟨(n : Int), (n : Int)⟩] := dv_same hix.1 hix.2
      have hm : ∀ v ∈ ix :: rs :: list, 0 ≤ v ∧ v < (((domsC x0).set ix.toNat [(⟨(n : Int), (n : Int)⟩ : Rg)]).length : Int) := by rw [hsl]; exact hT.mem
      have hll' : list.length ≤ ((domsC x0).set ix.toNat [(⟨(n : Int), (n : Int)⟩ : Rg)]).length := by rw [hsl]; exact hll
      generalize (domsC x0).set ix.toNat [(⟨(n : Int), (n : Int)⟩ : Rg)] = d at hd hsl hdix hm hll' ⊢
      obtain ⟨gr, _⟩ := hd.2 _ (Zfn (hm rs (List.mem_cons_of_mem _ List.mem_cons_self)).1 (hm rs (List.mem_cons_of_mem _ List.mem_cons_self)).2)
      obtain ⟨ga, _⟩ := hd.2 _ (Zfn (hm _ (List.mem_cons_of_mem _ (List.mem_cons_of_mem _ hv))).1 (hm _ (List.mem_cons_of_mem _ (List.mem_cons_of_mem _ hv))).2)
      obtain ⟨r, hPk, hR⟩ := ref_Pick_ev true (dv d rs) (dv d (list.getD n 0)) gr ga
      have hR2 : ∀ v, Va r v ↔ Va (dv d rs) v ∧ Va (dv d (list.getD n 0)) v := fun v => (hR.2 v).trans (and_congr Iff.rfl decide_eq_true_iff)
      have go : ∀ (res : List (List Rg) × Bool), Ev (fun k => Zah.f k d 3 (ix :: rs :: list) x3 x4 x5 (x6.take 20) x7) res → ((∃ x ∈ d, x = []) → res.2 = false) →
          ((∀ x ∈ d, x ≠ []) → Ev (fun k => if (r.length : Int) = 0 then (if res.2 = true then none else (if (res.1.length : Int) = 0 then (Za4.f k).bind fun t => some t else none)) else (if (res.1.length : Int) > (d.length : Int) then none else Zad.l1 k d (n : Int) res.1 res.2 r 0 3 (ix :: rs :: list) x3 x4 x5 (x6.take 20) x7)) true) →
          Ev (fun k => (Zah.f k d 3 (ix :: rs :: list) x3 x4 x5 (x6.take 20) x7).bind fun bt1023 => (if 1 < ((ix :: rs :: list).length : Int) then (if 0 ≤ Go.Proofs.YtpbcigilipdedaaW.PrintWords.rd (ix :: rs :: list) 1 then (if Go.Proofs.YtpbcigilipdedaaW.PrintWords.rd (ix :: rs :: list) 1 < ((domsC x0).length : Int) then (if 0 ≤ wrap64 (2 + (n : Int)) then (if wrap64 (2 + (n : Int)) < ((ix :: rs :: list).length : Int) then (if 0 ≤ Go.Proofs.YtpbcigilipdedaaW.PrintWords.rd (ix :: rs :: list) (wrap64 (2 + (n : Int))) then (if Go.Proofs.YtpbcigilipdedaaW.PrintWords.rd (ix :: rs :: list) (wrap64 (2 + (n : Int))) < ((domsC x0).length : Int) then ((Za0.f k (Zb8 d (Go.Proofs.YtpbcigilipdedaaW.PrintWords.rd (ix :: rs :: list) 1)) (Zb8 d (Go.Proofs.YtpbcigilipdedaaW.PrintWords.rd (ix :: rs :: list) (wrap64 (2 + (n : Int))))) true).bind fun t1031 => (Zad.l0 k d (n : Int) bt1023.1 bt1023.2 t1031 0 3 (ix :: rs :: list) x3 x4 x5 (x6.take 20) x7)) else none) else none) else none) else none) else none) else none) else none)) true := by
        intro res hP h1 h2
        refine Ev.bind hP (Ev.Zce (by omega) ?_)
        rw [ers, hw2.out, ev]
        refine Ev.Zce hrs.1 (Ev.Zce hrs.2 (Ev.Zce (by omega) (Ev.Zce (by omega) (Ev.Zce hv2.1 (Ev.Zce hv2.2 (Ev.bind hPk ?_))))))
        exact known_l0 3 x3 x4 x5 (x6.take 20) x7 hd hm hll' hn h1 h2 d.length 0 (by omega) (fun x hx => by simp at hx)
      rcases prune_ev d hd ix rs list hm 3 x3 x4 x5 (x6.take 20) x7 with ⟨⟨x, hx, hx0⟩, hP⟩ | ⟨hfull, places, hss, hmem, h⟩
      · exact go _ hP (fun _ => rfl) (fun h => absurd hx0 (h x hx))
      have hmem2 : ∀ i, i ∈ places ↔ i = (n : Int) ∧ ∃ x, Va (dv d rs) x ∧ Va (dv d (list.getD n 0)) x := fun i => by
        rw [hmem i, hdix, Va_one]
        refine and_congr_right (fun e => ?_)
        subst e
        unfold isPlace
        rw [Int.toNat_natCast]
        exact ⟨fun ⟨_, _, x, h1, h2⟩ => ⟨x, h2, h1⟩, fun ⟨x, h1, h2⟩ => ⟨by omega, by omega, x, h2, h1⟩⟩
      rcases h with ⟨hp0, hP⟩ | ⟨hp0, o, may, hO, hM, hP⟩
      · have hr0 : r = [] := by
          refine Classical.byContradiction (fun hz => ?_)
          obtain ⟨x, hx⟩ := hR.1.some hz
          have := (hmem2 (n : Int)).2 ⟨rfl, x, (hR2 x).1 hx⟩
          rw [hp0] at this
          cases this
        refine go _ hP (fun _ => rfl) (fun _ => Ev.Zce (by rw [hr0]; rfl) (Ev.Zde Bool.false_ne_true (Ev.Zce rfl Zez)))
      obtain ⟨p, hp⟩ := List.exists_mem_of_ne_nil _ hp0
      obtain ⟨rfl, x, hx⟩ := (hmem2 p).1 hp
      have hpl : places = [(n : Int)] := SS.ext hss (List.pairwise_singleton _ _) (fun i => by
        rw [hmem2 i, List.mem_singleton]
        exact ⟨fun h => h.1, fun h => ⟨h, x, hx⟩⟩)
      subst hpl
      have hpb : ∀ i ∈ [(n : Int)], 0 ≤ i ∧ i < (list.length : Int) := fun i hi => by
        rw [List.mem_singleton] at hi
        omega
      have hrne : r ≠ [] := Va_ne ((hR2 x).2 hx)
      have hrpos : 0 < r.length := List.length_pos_iff.2 hrne
      have ew : list.getD ([(n : Int)].getD 0 0).toNat 0 = list.getD n 0 := rfl
      have hmay : ∀ v, (∃ i ∈ [(n : Int)], Va (dv d (list.getD i.toNat 0)) v ∧ Va (dv d rs) v) ↔ (Va (dv d rs) v ∧ (decide (Va (dv d (list.getD n 0)) v) = true)) := fun v => by
        rw [decide_eq_true_iff]
        constructor
        · rintro ⟨i, hi, h1, h2⟩
          rw [List.mem_singleton] at hi
          subst hi
          exact ⟨h2, h1⟩
        rintro ⟨h1, h2⟩
        exact ⟨_, List.mem_singleton.2 rfl, h2, h1⟩
      have hsame := rsame_ev hM hR hmay
      have eo : o = [(⟨(n : Int), (n : Int)⟩ : Rg)] := DomOf.eq hO (q' := fun i => i = (n : Int)) ⟨⟨(by show (-1048576 : Int) ≤ (n : Int); omega), Int.le_refl _, (by show (n : Int) ≤ 1048576; omega), trivial⟩, fun v => Va_one _ _⟩ (fun v => List.mem_singleton)
      refine go _ hP (fun h => by obtain ⟨y, hy, hy0⟩ := h; exact absurd hy0 (hfull y hy)) (fun _ => ?_)
      dsimp only
      refine Ev.Zde (by omega) (Ev.Zde (by rw [Zf5]; omega) ?_)
      have hll9 : (Zah.last d ix rs list [(n : Int)] o may).length = d.length := Zf5 _ _ _ _ _ _ _
      refine known_l1 3 x3 x4 x5 (x6.take 20) x7 hd hm hll' hn hll9 (fun j h0 h1 h2 => ?_) ?_ ?_ d.length 0 (by omega)
      · by_cases hj : j = ix
        · subst hj
          rw [last_ix hm hir hi hr hpb, hdix, eo]
        exact last_other hm hir hi hr hpb h0 hj h1 (fun _ => by rw [ew]; exact h2)
      · rw [last_rs hm hir hi hr hpb]
        exact hsame
      have := last_w (o := o) (may := may) hm hir hi hr hpb rfl
      rw [ew] at this
      rw [this]
      exact hsame
  obtain ⟨k, hk⟩ := hE.out
  exact Zad.calls k A0 c0 x0 x1 A2 c2 x2 A3 c3 x3 x4 x5 A6 c6 x6 x7 A8 c8 x8 A9 c9 x9 x10 true W hC0 hc0 hC2 hc2 hC3 hc3 hC6 hc6 hC8 hc8 hC9 hc9 hk
end Go.Proofs.Ytpbcigilipdedaa.P
/- What a datum of a statement's arguments holds: a number, a text, a row, a struct, whatever is nested: its cells read as a value of the kind; and how long its rows are at most (by the weight of the whole). -/
namespace Go.Proofs.Ytpbcigilipdedaa.P
open Go.RowKit Go.ChangeShapes Go.WideShapes Go.Proofs.YtpbcigilipdedaaW.PrintWords
set_option linter.unusedVariables false

/-- Whatever reads as a datum of type t is a value of kind d, of which ok is true. -/
structure OpensZ {α : Type} (P : Program) (d : Kd α) (ok : α → Prop) (t : TypeId) : Prop where
  out : ∀ {H : Type} (enc : TypeId × Value → H) (w : World) (base : Nat) (sp : Nat → Bool) (held : Bool) (fuel : Nat) (cs : List Value) (x : DataW H × List MemPlace),
    DataW.trod enc P w base sp held fuel t cs = some x → (∀ n ∈ x.1.weights P t, n ≤ reachBytes) → ∃ v : α, d.K w v cs ∧ ok v
theorem OpensZ.int {P : Program} {t : TypeId} {k : IntKind} (ht : P.underlying t = some (.int k)) : OpensZ P (Kd.int k) (fun n => (Lit.int k n).wf = true) t := by
  refine ⟨?_⟩
  intro H enc w base sp held fuel cs x h hz
  obtain ⟨n, rfl, rfl, hw⟩ := DataW.trod_int ht h
  exact ⟨n, rfl, hw⟩
theorem OpensZ.bool {P : Program} {t : TypeId} (ht : P.underlying t = some .bool) : OpensZ P Kd.bool (fun _ => True) t := by
  refine ⟨?_⟩
  intro H enc w base sp held fuel cs x h hz
  obtain ⟨b, rfl, rfl⟩ := DataW.trod_bool ht h
  exact ⟨b, rfl, trivial⟩
theorem OpensZ.string {P : Program} {t : TypeId} (ht : P.underlying t = some .string) : OpensZ P Kd.string (fun s => s.size ≤ maxLen) t := by
  refine ⟨?_⟩
  intro H enc w base sp held fuel cs x h hz
  obtain ⟨s, rfl, rfl, hs⟩ := DataW.trod_string ht h
  exact ⟨s, rfl, hs⟩
theorem OpensZ.iso {α β : Type} {P : Program} {d : Kd α} {ok : α → Prop} {t : TypeId} (h : OpensZ P d ok t) (f : β → α) (g : α → β) (hfg : ∀ a, f (g a) = a) : OpensZ P (Kd.iso d f) (fun b => ok (f b)) t := by
  refine ⟨?_⟩
  intro H enc w base sp held fuel cs x hx hz
  obtain ⟨v, hK, hok⟩ := h.out enc w base sp held fuel cs x hx hz
  exact ⟨g v, by show d.K w (f (g v)) cs; rw [hfg]; exact hK, by show ok (f (g v)); rw [hfg]; exact hok⟩
theorem Zfc {H : Type} {P : Program} {t e : TypeId} (ht : P.underlying t = some (.slice e)) {el sp : List (DataW H)} : (DataW.slice el sp : DataW H).weights P t = (el.length + sp.length) * P.bytesOf e :: (DataW.weightsAll P e el ++ DataW.weightsAll P e sp) := by simp [DataW.weights, ht]
theorem weights_agg {H : Type} {P : Program} {t : TypeId} {fs : Array Field} (ht : P.underlying t = some (.struct fs)) {ps : List (DataW H)} : (DataW.agg ps : DataW H).weights P t = DataW.weightsEach P (fs.toList.map (·.type)) ps := by simp [DataW.weights, ht]
theorem Zew {H : Type} {P : Program} {e : TypeId} {d : DataW H} : ∀ {l : List (DataW H)}, d ∈ l → ∀ {n : Nat}, n ∈ d.weights P e → n ∈ DataW.weightsAll P e l
  | x :: l, hd, n, hn => by
    simp only [DataW.weightsAll, List.mem_append]
    rcases List.mem_cons.1 hd with rfl | hd
    · exact .inl hn
    exact .inr (Zew hd hn)
theorem choose_list {α : Type} {n : Nat} {R : Nat → α → Prop} (h : ∀ i, i < n → ∃ a, R i a) : ∃ l : List α, l.length = n ∧ ∀ i (hi : i < l.length), R i l[i] := by
  induction n with
  | zero => exact ⟨[], rfl, fun i hi => absurd hi (by simp)⟩
  | succ n ih =>
    obtain ⟨l, hl, hR⟩ := ih (fun i hi => h i (by omega))
    obtain ⟨a, ha⟩ := h n (by omega)
    refine ⟨l ++ [a], by simp [hl], fun i hi => ?_⟩
    rcases Nat.lt_or_ge i l.length with hlt | hge
    · rw [List.getElem_append_left hlt]
      exact hR i hlt
    have : i = l.length := by simp at hi; omega
    subst this
    rw [List.getElem_append_right (by omega)]
    simpa [hl] using ha
theorem addr_add (a : Addr) (i j : Nat) : (a.add i).add j = a.add (i + j) := by
  by_cases h : i = 0
  · subst h; simp [Addr.add]
  by_cases h2 : j = 0
  · subst h2; simp [Addr.add]
  simp [Addr.add, h, h2, Nat.add_assoc]
theorem OpensZ.row {α : Type} {P : Program} {d : Kd α} {ok : α → Prop} {t e : TypeId} {B : Nat} (ht : P.underlying t = some (.slice e)) (hc : P.cellsOf e = d.sz) (hB : P.bytesOf e = B) (h : OpensZ P d ok e) :
    OpensZ P (Kd.slice e d) (fun l => l.length * B ≤ 140737488351232 ∧ ∀ x ∈ l, ok x) t := by
  refine ⟨?_⟩
  intro H enc w base sp held fuel cs x hx hz
  rcases Go.Deep.open_slice ht hx with ⟨rfl, rfl⟩ | ⟨a, len, cap, m, n, D, Pl, rfl, hb, hl, hm, hmm, rfl, he⟩
  · exact ⟨[], ⟨none, 0, rfl, Nat.le_refl _, rfl, by simp, fun h => absurd h (by simp)⟩, by simp, fun x hx => by simp at hx⟩
  have hlm : len ≤ m := by rw [hmm]; split <;> omega
  have each : ∀ i, i < len → ∃ v : α, ok v ∧ ∃ c, c.length = d.sz ∧ d.K w v c ∧ ∀ j u, c[j]? = some u → w.cell? (a.add (i * d.sz + j)) = some u := fun i hi => by
    obtain ⟨cs', h1, h2⟩ := he i (by omega)
    obtain ⟨v, hK, hok⟩ := h.out enc w base sp held n cs' _ h2 (fun q hq => hz q (by
      rw [Zfc ht]
      refine List.mem_cons_of_mem _ (List.mem_append_left _ (Zew (d := D i) (List.mem_map.2 ⟨i, List.mem_range.2 hi, rfl⟩) hq))))
    obtain ⟨_, hlen, hcell⟩ := World.cells?_some h1
    rw [hc] at hlen hcell
    refine ⟨v, hok, cs', hlen, hK, fun j u hu => ?_⟩
    have hj : j < d.sz := by rw [← hlen]; exact (List.getElem?_eq_some_iff.1 hu).1
    have := hcell j hj
    rw [hu] at this
    rw [← this, addr_add]
  obtain ⟨l, hll, hR⟩ := choose_list each
  have hmax : cap ≤ 9223372036854775807 := by unfold maxLen at hm; exact hm
  refine ⟨l, ⟨some a, cap, by rw [hll], by omega, rfl, by omega, fun _ => ⟨a, rfl, fun j p hp => ?_⟩⟩, ?_, fun x hx => ?_⟩
  · obtain ⟨hj, rfl⟩ := List.getElem?_eq_some_iff.1 hp
    obtain ⟨_, c, h1, h2, h3⟩ := hR j hj
    exact ⟨c, h1, h2, h3⟩
  · have h3 := hz ((len + (m - len)) * P.bytesOf e) (by rw [Zfc ht]; simp)
    rw [hB] at h3
    rw [hll]
    exact Nat.le_trans (Nat.mul_le_mul_right _ (by omega)) h3
  obtain ⟨i, hi, rfl⟩ := List.mem_iff_getElem.1 hx
  exact (hR i hi).1
/-- The fields from an offset on. -/
structure OpensZF {α : Type} (P : Program) (d : Kd α) (ok : α → Prop) (fs : List Field) (off : Nat) : Prop where
  out : ∀ {H : Type} (enc : TypeId × Value → H) (w : World) (base : Nat) (sp : Nat → Bool) (held : Bool) (fuel : Nat) (cs : List Value), cs.length = off + d.sz →
    (∀ f ∈ fs, ∃ x, DataW.trod enc P w base sp held fuel f.type ((cs.drop f.offset).take (P.cellsOf f.type)) = some x ∧ ∀ n ∈ x.1.weights P f.type, n ≤ reachBytes) → ∃ v : α, d.K w v (cs.drop off) ∧ ok v
theorem OpensZF.last {α : Type} {P : Program} {d : Kd α} {ok : α → Prop} {f : Field} {off : Nat} (ho : f.offset = off) (hc : P.cellsOf f.type = d.sz) (h : OpensZ P d ok f.type) : OpensZF P d ok [f] off := by
  refine ⟨?_⟩
  intro H enc w base sp held fuel cs hl hf
  obtain ⟨x, hx, hz⟩ := hf f (by simp)
  rw [ho, hc, List.take_of_length_le (by simp; omega)] at hx
  exact h.out enc w base sp held fuel _ x hx hz
theorem OpensZF.cons {α β : Type} {P : Program} {d : Kd α} {ok : α → Prop} {d' : Kd β} {ok' : β → Prop} {f : Field} {fs : List Field} {off : Nat} (ho : f.offset = off) (hc : P.cellsOf f.type = d.sz) (h : OpensZ P d ok f.type) (h' : OpensZF P d' ok' fs (off + d.sz)) :
    OpensZF P (Kd.pair d d') (fun z => ok z.1 ∧ ok' z.2) (f :: fs) off := by
  refine ⟨?_⟩
  intro H enc w base sp held fuel cs hl hf
  have hl' : cs.length = off + (d.sz + d'.sz) := hl
  obtain ⟨x, hx, hz⟩ := hf f (by simp)
  obtain ⟨v, hK, hok⟩ := h.out enc w base sp held fuel _ x hx hz
  obtain ⟨v', hK', hok'⟩ := h'.out enc w base sp held fuel cs (by omega) (fun g hg => hf g (List.mem_cons_of_mem _ hg))
  rw [ho, hc] at hK
  refine ⟨(v, v'), ⟨(cs.drop off).take d.sz, cs.drop (off + d.sz), ?_, hK, hK'⟩, hok, hok'⟩
  rw [← List.drop_drop, List.take_append_drop]
theorem OpensZ.struct {α : Type} {P : Program} {d : Kd α} {ok : α → Prop} {t : TypeId} {fs : List Field} (ht : P.underlying t = some (.struct fs.toArray)) (hc : P.cellsOf t = d.sz) (h : OpensZF P d ok fs 0) : OpensZ P d ok t := by
  refine ⟨?_⟩
  intro H enc w base sp held fuel cs x hx hz
  obtain ⟨xs, n, rfl, rfl, hl, hxl, hf⟩ := DataW.trod_struct ht hx
  have := h.out enc w base sp held n cs (by omega) (fun f hf' => by
    obtain ⟨i, hi, rfl⟩ := List.mem_iff_getElem.1 hf'
    have := hf i fs[i] (by simp [hi])
    have hix : i < xs.length := by simp at hxl; omega
    rw [List.getElem?_eq_getElem hix] at this
    refine ⟨xs[i], by simpa using this, fun q hq => hz q ?_⟩
    rw [weights_agg ht]
    exact DataW.weights_mem_each (j := i) (t := fs[i].type) (d := xs[i].1) (by simp [hi]) (by simp [hix]) q hq)
  simpa using this
/-- A slice that is an argument. -/
theorem OpensZ.arg {α H : Type} {P : Program} {d : Kd α} {ok : List α → Prop} {e t : TypeId} (h : OpensZ P (Kd.slice e d) ok t) {enc : TypeId × Value → H} {w : World} {base : Nat} {sp : Nat → Bool} {held : Bool} {A : Option Addr} {len cap : Nat} {dt : DataW H} {ps : List MemPlace}
    (hT : DataW.Trod enc P w base sp held t (.slice A len cap) dt ps) (hz : ∀ n ∈ dt.weights P t, n ≤ reachBytes) : ∃ l : List α, l.length = len ∧ l.length ≤ cap ∧ d.C w A l.length l ∧ ok l := by
  obtain ⟨fuel, hf⟩ := hT
  obtain ⟨l, ⟨A', c, hcs, hl, hC⟩, hok⟩ := h.out enc w base sp held fuel _ _ hf hz
  simp [Value.cells] at hcs
  obtain ⟨rfl, rfl, rfl⟩ := hcs
  exact ⟨l, rfl, hl, hC, hok⟩
theorem each_weights {H : Type} {P : Program} {ts : List TypeId} {ds : List (DataW H)} (h : (DataW.weightsEach P ts ds).all (· ≤ reachBytes) = true) {j : Nat} {t : TypeId} {d : DataW H} (ht : ts[j]? = some t) (hd : ds[j]? = some d) : ∀ n ∈ d.weights P t, n ≤ reachBytes := fun n hn => by
  have := List.all_eq_true.1 h n (DataW.weights_mem_each ht hd n hn)
  simpa using this
end Go.Proofs.Ytpbcigilipdedaa.P
namespace Go.Proofs.Ytpbcigilipdedaa.elementKnown
open Go.ChangeShapes Go.WideShapes Go.ChangeAt Go.RowKit
open Go.ChangeMaps (open_string shut_string)
open Go.Proofs.Ytpbcigilipdedaa.P
open Go.Proofs.YtpbcigilipdedaaW.PrintWords
set_option linter.unusedVariables false
theorem own : ownKnob Try.prog.godebug = none := by kernel_rfl
theorem laidOut : laidOutB Try.prog = true := by kernel_rfl
theorem o_int : OpensZ Try.prog (Kd.int .i64) (fun n => (Lit.int .i64 n).wf = true) 3 := OpensZ.int Try.underlying3
theorem o_Lint : OpensZ Try.prog (Kd.slice 3 (Kd.int .i64)) (fun l => (List.length l * 8 ≤ 140737488351232 ∧ ∀ y1_ ∈ l, (Lit.int .i64 y1_).wf = true)) 23 := OpensZ.row Try.underlying23 (by kernel_rfl) (by kernel_rfl) o_int
theorem o_LLint : OpensZ Try.prog (Kd.slice 23 (Kd.slice 3 (Kd.int .i64))) (fun l => (List.length l * 24 ≤ 140737488351232 ∧ ∀ y1_ ∈ l, (List.length y1_ * 8 ≤ 140737488351232 ∧ ∀ y2_ ∈ y1_, (Lit.int .i64 y2_).wf = true))) 22 := OpensZ.row Try.underlying22 (by kernel_rfl) (by kernel_rfl) o_Lint
set_option maxHeartbeats 2000000 in
theorem p_api_Con : OpensZ Try.prog (Kd.pair (Kd.int .i64) (Kd.pair (Kd.slice 3 (Kd.int .i64)) (Kd.pair (Kd.slice 3 (Kd.int .i64)) (Kd.pair (Kd.int .i64) (Kd.pair (Kd.int .i64) (Kd.pair (Kd.slice 23 (Kd.slice 3 (Kd.int .i64))) (Kd.int .i64))))))) (fun z => ((Lit.int .i64 (z).1).wf = true ∧ ((List.length ((z).2).1 * 8 ≤ 140737488351232 ∧ ∀ y1_ ∈ ((z).2).1, (Lit.int .i64 y1_).wf = true) ∧ ((List.length (((z).2).2).1 * 8 ≤ 140737488351232 ∧ ∀ y1_ ∈ (((z).2).2).1, (Lit.int .i64 y1_).wf = true) ∧ ((Lit.int .i64 ((((z).2).2).2).1).wf = true ∧ ((Lit.int .i64 (((((z).2).2).2).2).1).wf = true ∧ ((List.length ((((((z).2).2).2).2).2).1 * 24 ≤ 140737488351232 ∧ ∀ y1_ ∈ ((((((z).2).2).2).2).2).1, (List.length y1_ * 8 ≤ 140737488351232 ∧ ∀ y2_ ∈ y1_, (Lit.int .i64 y2_).wf = true)) ∧ (Lit.int .i64 ((((((z).2).2).2).2).2).2).wf = true))))))) 25 := by
 refine OpensZ.struct (d := (Kd.pair (Kd.int .i64) (Kd.pair (Kd.slice 3 (Kd.int .i64)) (Kd.pair (Kd.slice 3 (Kd.int .i64)) (Kd.pair (Kd.int .i64) (Kd.pair (Kd.int .i64) (Kd.pair (Kd.slice 23 (Kd.slice 3 (Kd.int .i64))) (Kd.int .i64)))))))) Try.underlying25 (by kernel_rfl) ?_
 refine OpensZF.cons (d := (Kd.int .i64)) (ok := fun v_ : Int => (Lit.int .i64 v_).wf = true) (ok' := fun z_ : ((List Int) × (List Int) × Int × Int × (List (List Int)) × Int) => ((List.length (z_).1 * 8 ≤ 140737488351232 ∧ ∀ y1_ ∈ (z_).1, (Lit.int .i64 y1_).wf = true) ∧ ((List.length ((z_).2).1 * 8 ≤ 140737488351232 ∧ ∀ y1_ ∈ ((z_).2).1, (Lit.int .i64 y1_).wf = true) ∧ ((Lit.int .i64 (((z_).2).2).1).wf = true ∧ ((Lit.int .i64 ((((z_).2).2).2).1).wf = true ∧ ((List.length (((((z_).2).2).2).2).1 * 24 ≤ 140737488351232 ∧ ∀ y1_ ∈ (((((z_).2).2).2).2).1, (List.length y1_ * 8 ≤ 140737488351232 ∧ ∀ y2_ ∈ y1_, (Lit.int .i64 y2_).wf = true)) ∧ (Lit.int .i64 (((((z_).2).2).2).2).2).wf = true)))))) (by kernel_rfl) (by kernel_rfl) o_int ?_
 refine OpensZF.cons (d := (Kd.slice 3 (Kd.int .i64))) (ok := fun v_ : (List Int) => (List.length v_ * 8 ≤ 140737488351232 ∧ ∀ y1_ ∈ v_, (Lit.int .i64 y1_).wf = true)) (ok' := fun z_ : ((List Int) × Int × Int × (List (List Int)) × Int) => ((List.length (z_).1 * 8 ≤ 140737488351232 ∧ ∀ y1_ ∈ (z_).1, (Lit.int .i64 y1_).wf = true) ∧ ((Lit.int .i64 ((z_).2).1).wf = true ∧ ((Lit.int .i64 (((z_).2).2).1).wf = true ∧ ((List.length ((((z_).2).2).2).1 * 24 ≤ 140737488351232 ∧ ∀ y1_ ∈ ((((z_).2).2).2).1, (List.length y1_ * 8 ≤ 140737488351232 ∧ ∀ y2_ ∈ y1_, (Lit.int .i64 y2_).wf = true)) ∧ (Lit.int .i64 ((((z_).2).2).2).2).wf = true))))) (by kernel_rfl) (by kernel_rfl) o_Lint ?_
 refine OpensZF.cons (d := (Kd.slice 3 (Kd.int .i64))) (ok := fun v_ : (List Int) => (List.length v_ * 8 ≤ 140737488351232 ∧ ∀ y1_ ∈ v_, (Lit.int .i64 y1_).wf = true)) (ok' := fun z_ : (Int × Int × (List (List Int)) × Int) => ((Lit.int .i64 (z_).1).wf = true ∧ ((Lit.int .i64 ((z_).2).1).wf = true ∧ ((List.length (((z_).2).2).1 * 24 ≤ 140737488351232 ∧ ∀ y1_ ∈ (((z_).2).2).1, (List.length y1_ * 8 ≤ 140737488351232 ∧ ∀ y2_ ∈ y1_, (Lit.int .i64 y2_).wf = true)) ∧ (Lit.int .i64 (((z_).2).2).2).wf = true)))) (by kernel_rfl) (by kernel_rfl) o_Lint ?_
 refine OpensZF.cons (d := (Kd.int .i64)) (ok := fun v_ : Int => (Lit.int .i64 v_).wf = true) (ok' := fun z_ : (Int × (List (List Int)) × Int) => ((Lit.int .i64 (z_).1).wf = true ∧ ((List.length ((z_).2).1 * 24 ≤ 140737488351232 ∧ ∀ y1_ ∈ ((z_).2).1, (List.length y1_ * 8 ≤ 140737488351232 ∧ ∀ y2_ ∈ y1_, (Lit.int .i64 y2_).wf = true)) ∧ (Lit.int .i64 ((z_).2).2).wf = true))) (by kernel_rfl) (by kernel_rfl) o_int ?_
 refine OpensZF.cons (d := (Kd.int .i64)) (ok := fun v_ : Int => (Lit.int .i64 v_).wf = true) (ok' := fun z_ : ((List (List Int)) × Int) => ((List.length (z_).1 * 24 ≤ 140737488351232 ∧ ∀ y1_ ∈ (z_).1, (List.length y1_ * 8 ≤ 140737488351232 ∧ ∀ y2_ ∈ y1_, (Lit.int .i64 y2_).wf = true)) ∧ (Lit.int .i64 (z_).2).wf = true)) (by kernel_rfl) (by kernel_rfl) o_int ?_
 refine OpensZF.cons (d := (Kd.slice 23 (Kd.slice 3 (Kd.int .i64)))) (ok := fun v_ : (List (List Int)) => (List.length v_ * 24 ≤ 140737488351232 ∧ ∀ y1_ ∈ v_, (List.length y1_ * 8 ≤ 140737488351232 ∧ ∀ y2_ ∈ y1_, (Lit.int .i64 y2_).wf = true))) (ok' := fun z_ : (Int) => (Lit.int .i64 z_).wf = true) (by kernel_rfl) (by kernel_rfl) o_LLint ?_
 exact OpensZF.last (d := (Kd.int .i64)) (ok := fun v_ : Int => (Lit.int .i64 v_).wf = true) (by kernel_rfl) (by kernel_rfl) o_int
set_option maxHeartbeats 2000000 in
theorem Zev : OpensZ Try.prog (Kd.pair (Kd.slice 23 (Kd.slice 3 (Kd.int .i64))) (Kd.pair (Kd.pair (Kd.int .i64) (Kd.pair (Kd.slice 3 (Kd.int .i64)) (Kd.pair (Kd.slice 3 (Kd.int .i64)) (Kd.pair (Kd.int .i64) (Kd.pair (Kd.int .i64) (Kd.pair (Kd.slice 23 (Kd.slice 3 (Kd.int .i64))) (Kd.int .i64))))))) (Kd.pair (Kd.slice 3 (Kd.int .i64)) (Kd.slice 3 (Kd.int .i64))))) (fun z => ((List.length (z).1 * 24 ≤ 140737488351232 ∧ ∀ y1_ ∈ (z).1, (List.length y1_ * 8 ≤ 140737488351232 ∧ ∀ y2_ ∈ y1_, (Lit.int .i64 y2_).wf = true)) ∧ (((Lit.int .i64 (((z).2).1).1).wf = true ∧ ((List.length ((((z).2).1).2).1 * 8 ≤ 140737488351232 ∧ ∀ y1_ ∈ ((((z).2).1).2).1, (Lit.int .i64 y1_).wf = true) ∧ ((List.length (((((z).2).1).2).2).1 * 8 ≤ 140737488351232 ∧ ∀ y1_ ∈ (((((z).2).1).2).2).1, (Lit.int .i64 y1_).wf = true) ∧ ((Lit.int .i64 ((((((z).2).1).2).2).2).1).wf = true ∧ ((Lit.int .i64 (((((((z).2).1).2).2).2).2).1).wf = true ∧ ((List.length ((((((((z).2).1).2).2).2).2).2).1 * 24 ≤ 140737488351232 ∧ ∀ y1_ ∈ ((((((((z).2).1).2).2).2).2).2).1, (List.length y1_ * 8 ≤ 140737488351232 ∧ ∀ y2_ ∈ y1_, (Lit.int .i64 y2_).wf = true)) ∧ (Lit.int .i64 ((((((((z).2).1).2).2).2).2).2).2).wf = true)))))) ∧ ((List.length (((z).2).2).1 * 8 ≤ 140737488351232 ∧ ∀ y1_ ∈ (((z).2).2).1, (Lit.int .i64 y1_).wf = true) ∧ (List.length (((z).2).2).2 * 8 ≤ 140737488351232 ∧ ∀ y1_ ∈ (((z).2).2).2, (Lit.int .i64 y1_).wf = true))))) 27 := by
 refine OpensZ.struct (d := (Kd.pair (Kd.slice 23 (Kd.slice 3 (Kd.int .i64))) (Kd.pair (Kd.pair (Kd.int .i64) (Kd.pair (Kd.slice 3 (Kd.int .i64)) (Kd.pair (Kd.slice 3 (Kd.int .i64)) (Kd.pair (Kd.int .i64) (Kd.pair (Kd.int .i64) (Kd.pair (Kd.slice 23 (Kd.slice 3 (Kd.int .i64))) (Kd.int .i64))))))) (Kd.pair (Kd.slice 3 (Kd.int .i64)) (Kd.slice 3 (Kd.int .i64)))))) Try.underlying27 (by kernel_rfl) ?_
 refine OpensZF.cons (d := (Kd.slice 23 (Kd.slice 3 (Kd.int .i64)))) (ok := fun v_ : (List (List Int)) => (List.length v_ * 24 ≤ 140737488351232 ∧ ∀ y1_ ∈ v_, (List.length y1_ * 8 ≤ 140737488351232 ∧ ∀ y2_ ∈ y1_, (Lit.int .i64 y2_).wf = true))) (ok' := fun z_ : ((Int × (List Int) × (List Int) × Int × Int × (List (List Int)) × Int) × (List Int) × (List Int)) => (((Lit.int .i64 ((z_).1).1).wf = true ∧ ((List.length (((z_).1).2).1 * 8 ≤ 140737488351232 ∧ ∀ y1_ ∈ (((z_).1).2).1, (Lit.int .i64 y1_).wf = true) ∧ ((List.length ((((z_).1).2).2).1 * 8 ≤ 140737488351232 ∧ ∀ y1_ ∈ ((((z_).1).2).2).1, (Lit.int .i64 y1_).wf = true) ∧ ((Lit.int .i64 (((((z_).1).2).2).2).1).wf = true ∧ ((Lit.int .i64 ((((((z_).1).2).2).2).2).1).wf = true ∧ ((List.length (((((((z_).1).2).2).2).2).2).1 * 24 ≤ 140737488351232 ∧ ∀ y1_ ∈ (((((((z_).1).2).2).2).2).2).1, (List.length y1_ * 8 ≤ 140737488351232 ∧ ∀ y2_ ∈ y1_, (Lit.int .i64 y2_).wf = true)) ∧ (Lit.int .i64 (((((((z_).1).2).2).2).2).2).2).wf = true)))))) ∧ ((List.length ((z_).2).1 * 8 ≤ 140737488351232 ∧ ∀ y1_ ∈ ((z_).2).1, (Lit.int .i64 y1_).wf = true) ∧ (List.length ((z_).2).2 * 8 ≤ 140737488351232 ∧ ∀ y1_ ∈ ((z_).2).2, (Lit.int .i64 y1_).wf = true)))) (by kernel_rfl) (by kernel_rfl) o_LLint ?_
 refine OpensZF.cons (d := (Kd.pair (Kd.int .i64) (Kd.pair (Kd.slice 3 (Kd.int .i64)) (Kd.pair (Kd.slice 3 (Kd.int .i64)) (Kd.pair (Kd.int .i64) (Kd.pair (Kd.int .i64) (Kd.pair (Kd.slice 23 (Kd.slice 3 (Kd.int .i64))) (Kd.int .i64)))))))) (ok := fun v_ : (Int × (List Int) × (List Int) × Int × Int × (List (List Int)) × Int) => ((Lit.int .i64 (v_).1).wf = true ∧ ((List.length ((v_).2).1 * 8 ≤ 140737488351232 ∧ ∀ y1_ ∈ ((v_).2).1, (Lit.int .i64 y1_).wf = true) ∧ ((List.length (((v_).2).2).1 * 8 ≤ 140737488351232 ∧ ∀ y1_ ∈ (((v_).2).2).1, (Lit.int .i64 y1_).wf = true) ∧ ((Lit.int .i64 ((((v_).2).2).2).1).wf = true ∧ ((Lit.int .i64 (((((v_).2).2).2).2).1).wf = true ∧ ((List.length ((((((v_).2).2).2).2).2).1 * 24 ≤ 140737488351232 ∧ ∀ y1_ ∈ ((((((v_).2).2).2).2).2).1, (List.length y1_ * 8 ≤ 140737488351232 ∧ ∀ y2_ ∈ y1_, (Lit.int .i64 y2_).wf = true)) ∧ (Lit.int .i64 ((((((v_).2).2).2).2).2).2).wf = true))))))) (ok' := fun z_ : ((List Int) × (List Int)) => ((List.length (z_).1 * 8 ≤ 140737488351232 ∧ ∀ y1_ ∈ (z_).1, (Lit.int .i64 y1_).wf = true) ∧ (List.length (z_).2 * 8 ≤ 140737488351232 ∧ ∀ y1_ ∈ (z_).2, (Lit.int .i64 y1_).wf = true))) (by kernel_rfl) (by kernel_rfl) p_api_Con ?_
 refine OpensZF.cons (d := (Kd.slice 3 (Kd.int .i64))) (ok := fun v_ : (List Int) => (List.length v_ * 8 ≤ 140737488351232 ∧ ∀ y1_ ∈ v_, (Lit.int .i64 y1_).wf = true)) (ok' := fun z_ : ((List Int)) => (List.length z_ * 8 ≤ 140737488351232 ∧ ∀ y1_ ∈ z_, (Lit.int .i64 y1_).wf = true)) (by kernel_rfl) (by kernel_rfl) o_Lint ?_
 exact OpensZF.last (d := (Kd.slice 3 (Kd.int .i64))) (ok := fun v_ : (List Int) => (List.length v_ * 8 ≤ 140737488351232 ∧ ∀ y1_ ∈ v_, (Lit.int .i64 y1_).wf = true)) (by kernel_rfl) (by kernel_rfl) o_Lint
set_option maxRecDepth 100000 in
theorem lifted (os : Os) (started : os.Started) (H : Type) (enc : TypeId × Value → H) :
  ReturnsInHanded {} Try.checked os 11 .any (Rows.elementKnownSpec.pre6 enc Try.prog Try.f11 Rows.elementKnownRow.domain false) (Rows.elementKnownSpec.post enc Try.prog Try.f11 false true false false) := by
 refine returnsInHanded_of_change_sized (C := Try.checked) own started (by kernel_rfl) Try.func11
  (ChangeSpec.witness6 (enc := enc) (C := Try.checked) false ⟨#[], #[.agg #[.slice none 0 0, .int .i64 0, .slice none 0 0, .slice none 0 0, .int .i64 0, .int .i64 0, .slice none 0 0, .int .i64 0, .slice none 0 0, .slice none 0 0], .int .i64 0], []⟩ 8 (by kernel_rfl) (by kernel_rfl) (by kernel_rfl) (by kernel_rfl)) ?_
 intro W base args ds gs before hval0 hW hcnd hsz0 _
 have hsz : (DataW.weightsEach Try.prog (Try.f11.params.toList ++ Rows.elementKnownSpec.plain.varTypes Try.prog) (ds ++ gs)).all (· ≤ reachBytes) = true := hsz0
 have hval : ∀ (j : Nat) t v, Try.f11.params[j]? = some t → args[j]? = some v → Value.okWide Try.prog W .any base t v := hval0
 have hW' := hW
 obtain ⟨p, q, hA0, hV, rfl, hfz, hnd⟩ := hW
 have hA : DataW.TrodAll enc Try.prog W 0 (fun _ => true) true Try.f11.params.toList args.toList ds p := hA0
 rw [Try.params11] at hA hval hsz
 obtain ⟨v0, vs0, d0, ds0, p0, q0, hargs, rfl, rfl, h0, r0⟩ := trodAll_cons hA
 obtain ⟨v1, vs1, d1, ds1, p1, q1, rfl, rfl, rfl, h1, r1⟩ := trodAll_cons r0
 obtain ⟨rfl, rfl, rfl⟩ := trodAll_nil r1
 obtain rfl : args = #[v0, v1] := by cases args; simp_all
 obtain ⟨rfl, rfl⟩ := trodVars_none hV
 have k0 := h0
 have lt0 : ∀ x ∈ p0, x.block < W.heap.size := by obtain ⟨m, hm⟩ := k0; exact DataW.trod_lt m _ _ _ hm
 obtain ⟨cs0, rfl, _⟩ := okWide_struct Try.underlying27 (hval 0 27 v0 rfl rfl)
 obtain ⟨fu0, hf0⟩ := h0
 obtain ⟨⟨x0, ⟨⟨x1, ⟨x2, ⟨x3, ⟨x4, ⟨x5, ⟨x6, x7⟩⟩⟩⟩⟩⟩, ⟨x8, x9⟩⟩⟩, hK0, ⟨ok0, ⟨⟨ok1, ⟨ok2, ⟨ok3, ⟨ok4, ⟨ok5, ⟨ok6, ok7⟩⟩⟩⟩⟩⟩, ⟨ok8, ok9⟩⟩⟩⟩ := Zev.out _ _ _ _ _ _ _ _ hf0 (each_weights hsz (j := 0) (t := 27) rfl rfl)
 obtain ⟨_, _, e, ⟨A0, c0, rfl, hc0, hC0⟩, ⟨_, _, rfl, ⟨_, _, rfl, rfl, ⟨_, _, rfl, ⟨A2, c2, rfl, hc2, hC2⟩, ⟨_, _, rfl, ⟨A3, c3, rfl, hc3, hC3⟩, ⟨_, _, rfl, rfl, ⟨_, _, rfl, rfl, ⟨_, _, rfl, ⟨A6, c6, rfl, hc6, hC6⟩, rfl⟩⟩⟩⟩⟩⟩, ⟨_, _, rfl, ⟨A8, c8, rfl, hc8, hC8⟩, ⟨A9, c9, rfl, hc9, hC9⟩⟩⟩⟩ := hK0
 obtain rfl : cs0 = #[.slice A0 x0.length c0, .int .i64 x1, .slice A2 x2.length c2, .slice A3 x3.length c3, .int .i64 x4, .int .i64 x5, .slice A6 x6.length c6, .int .i64 x7, .slice A8 x8.length c8, .slice A9 x9.length c9] := by
  apply Array.ext'
  simpa [Value.cells] using e
 have k1 := h1
 have lt1 : ∀ x ∈ p1, x.block < W.heap.size := by obtain ⟨m, hm⟩ := k1; exact DataW.trod_lt m _ _ _ hm
 obtain ⟨x10, rfl, rfl, rfl, ok10⟩ := open_int Try.underlying3 (hval 1 3 v1 rfl rfl) h1
 clear hA0 hval0 hsz0 hsz
 refine (P.Zft A0 c0 x0 x1 A2 c2 x2 A3 c3 x3 x4 x5 A6 c6 x6 x7 A8 c8 x8 A9 c9 x9 x10 W hC0 hc0 ok0 ok1 hC2 hc2 ok2 hC3 hc3 ok3 ok4 ok5 hC6 hc6 ok6 ok7 hC8 hc8 ok8 hC9 hc9 ok9 ok10).mono fun e W' ⟨he, bel⟩ => ?_
 subst he
 exact ⟨_, rfl, _, _, _, [], _, [], hW', trodAll_mk1 (shut_bool Try.underlying4 _), (trodAll_cons_mk (Below.trod laidOut (by kernel_rfl) (of_decide_eq_true (by kernel_rfl)) k0 bel lt0) (trodAll_cons_mk (Below.trod laidOut (by kernel_rfl) (of_decide_eq_true (by kernel_rfl)) k1 bel lt1) trodAll_mk0)), rfl, bel.frame _, fun h => by cases h⟩
theorem over : Rows.elementKnownRow.holds Try.pinned (OpenSpec.ofChange Rows.elementKnownSpec) :=
 OpenClaim.holds_of_wide 11 Try.f11 rfl rfl rfl rfl rfl rfl rfl ⟨rfl, rfl, rfl, rfl, rfl⟩ rfl rfl rfl rfl rfl (by kernel_rfl) Try.func11 (by kernel_rfl)
  (of_decide_eq_true (by kernel_rfl)) (by unfold Func.isWrapper; first | (rw [if_pos (by decide +kernel)]; kernel_rfl) | (rw [if_neg (by decide +kernel)]; exact ⟨rfl, rfl⟩))
  (fun os started H enc _ => lifted os started H enc)
theorem proved : Rows.ElementKnownSaid := over
end Go.Proofs.Ytpbcigilipdedaa.elementKnown
namespace Go.Proofs.Ytpbcigilipdedaa
/-- The row, under a short name, for the claim. -/
theorem elementKnown_holds : Rows.ElementKnownSaid := elementKnown.proved
end Go.Proofs.Ytpbcigilipdedaa
