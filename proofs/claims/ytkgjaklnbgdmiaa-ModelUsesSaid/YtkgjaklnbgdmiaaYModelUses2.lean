/- Proved: the statement ModelUses. Conditions: none but those of the statement. -/
import Derived.Test.YtkgjaklnbgdmiaaZ1
import Derived.Test.YtkgjaklnbgdmiaaYModelUses1
import Derived.Test.YtkgjaklnbgdmiaaZ2
namespace Go.Proofs.Ytkgjaklnbgdmiaa.P
open Go.RowKit Go.Proofs.YtkgjaklnbgdmiaaW.PrintWords Go.Proofs.YtkgjaklnbgdmiaaW.PrintLast Go.Proofs.YtkgjaklnbgdmiaaW.PrintMore
attribute [local go_sem] Zcs Zcu Zc7 Zc8 Zcc Zcd Zct Zcv
set_option linter.unusedVariables false
set_option linter.unusedSimpArgs false
def cutR (l : List (List Int)) : List (List Int) := (l.take 20).map fun r => r.take 14
def bRows.f (l : List (List Int)) : Option (List (List Int)) := some (cutR l)
mutual
def Zak.j1 : Nat → List (S50) → List (S31) → Int → List Int → List Int → List (S50) → Int → List Int → List Int → Option ((List (S50)) × (List (S31)) × Int × List Int × List Int)
 | 0, _, _, _, _, _, _, _, _, _ => none
 | k + 1, x132000, x132001, x132002, x132003, x132004, x134000, x134002, x134003, x134004 => Zak.l1 k 0 x132000 x132001 x132002 x132003 x132004 x134000 ([] : List (S31)) x134002 x134003 x134004
def Zak.l1 : Nat → Int → List (S50) → List (S31) → Int → List Int → List Int → List (S50) → List (S31) → Int → List Int → List Int → Option ((List (S50)) × (List (S31)) × Int × List Int × List Int)
 | 0, _, _, _, _, _, _, _, _, _, _, _ => none
 | k + 1, x6, x132000, x132001, x132002, x132003, x132004, x134000, x134001, x134002, x134003, x134004 => if x6 < (x132001.length : Int) then (Zak.j3 k x6 (decide (x6 < 16)) x132000 x132001 x132002 x132003 x132004 x134000 x134001 x134002 x134003 x134004) else (Zak.j3 k x6 false x132000 x132001 x132002 x132003 x132004 x134000 x134001 x134002 x134003 x134004)
def Zak.j3 : Nat → Int → Bool → List (S50) → List (S31) → Int → List Int → List Int → List (S50) → List (S31) → Int → List Int → List Int → Option ((List (S50)) × (List (S31)) × Int × List Int × List Int)
 | 0, _, _, _, _, _, _, _, _, _, _, _, _ => none
 | k + 1, x6, x59, x132000, x132001, x132002, x132003, x132004, x134000, x134001, x134002, x134003, x134004 => if x59 = true then (if 0 ≤ x6 then (if x6 < (x132001.length : Int) then (if 0 ≤ (mn (((Zah x132001 x6).f1).length : Int) 14) then (if (mn (((Zah x132001 x6).f1).length : Int) 14) ≤ (((Zah x132001 x6).f1).length : Int) then (if 0 ≤ (mn (((Zah x132001 x6).f2).length : Int) 14) then (if (mn (((Zah x132001 x6).f2).length : Int) 14) ≤ (((Zah x132001 x6).f2).length : Int) then ((bRows.f ((Zah x132001 x6).f5)).bind fun t167 => ((Zb1.f k ((Zah x132001 x6).f0) (((Zah x132001 x6).f1).take ((mn (((Zah x132001 x6).f1).length : Int) 14) : Int).toNat) (((Zah x132001 x6).f2).take ((mn (((Zah x132001 x6).f2).length : Int) 14) : Int).toNat) ((Zah x132001 x6).f3) ((Zah x132001 x6).f4) t167 ((Zah x132001 x6).f6)).bind fun bt170 => (if x134001.length < 1353245080339 then (Zak.l1 k (wrap64 (x6 + 1)) x132000 x132001 x132002 x132003 x132004 x134000 (x134001 ++ [(⟨bt170.1, bt170.2.1, bt170.2.2.1, bt170.2.2.2.1, bt170.2.2.2.2.1, bt170.2.2.2.2.2.1, bt170.2.2.2.2.2.2⟩ : S31)]) x134002 x134003 x134004) else (none)))) else (none)) else (none)) else (none)) else (none)) else (none)) else (none)) else ((some (([] : List Int) : List Int)).bind fun y149 => (if 0 ≤ (mn (x132003.length : Int) 14) then (if (mn (x132003.length : Int) 14) ≤ (x132003.length : Int) then (if y149.length + (x132003.take ((mn (x132003.length : Int) 14) : Int).toNat).length < 17592186044416 then ((some (([] : List Int) : List Int)).bind fun y156 => (if 0 ≤ (mn (x132004.length : Int) 14) then (if (mn (x132004.length : Int) 14) ≤ (x132004.length : Int) then (if y156.length + (x132004.take ((mn (x132004.length : Int) 14) : Int).toNat).length < 17592186044416 then (some (x134000, x134001, x134002, (y149 ++ (x132003.take ((mn (x132003.length : Int) 14) : Int).toNat)), (y156 ++ (x132004.take ((mn (x132004.length : Int) 14) : Int).toNat)))) else (none)) else (none)) else (none))) else (none)) else (none)) else (none)))
def Zak.l0 : Nat → Int → List (S50) → List (S31) → Int → List Int → List Int → List (S50) → Int → List Int → List Int → Option ((List (S50)) × (List (S31)) × Int × List Int × List Int)
 | 0, _, _, _, _, _, _, _, _, _, _ => none
 | k + 1, x4, x132000, x132001, x132002, x132003, x132004, x134000, x134002, x134003, x134004 => if x4 < (x132000.length : Int) then (if x4 < 10 then (if 0 ≤ x4 then (if 0 ≤ (mn (((Za4 x132000 x4).f0).size : Int) 20) then (if (mn (((Za4 x132000 x4).f0).size : Int) 20) ≤ (((Za4 x132000 x4).f0).size : Int) then ((some (([] : List (S48)) : List (S48))).bind fun y136 => (if 0 ≤ (mn (((Za4 x132000 x4).f1).length : Int) 12) then (if (mn (((Za4 x132000 x4).f1).length : Int) 12) ≤ (((Za4 x132000 x4).f1).length : Int) then ((some (((Za4 x132000 x4).f1).take ((mn (((Za4 x132000 x4).f1).length : Int) 12) : Int).toNat : List (S48))).bind fun y139 => (if y136.length + y139.length < 8796093022208 then (if x134000.length < 3518437208883 then (Zak.l0 k (wrap64 (x4 + 1)) x132000 x132001 x132002 x132003 x132004 (x134000 ++ [(⟨((Za4 x132000 x4).f0).extract 0 ((mn (((Za4 x132000 x4).f0).size : Int) 20) : Int).toNat, (y136 ++ y139)⟩ : S50)]) x134002 x134003 x134004) else (none)) else (none))) else (none)) else (none))) else (none)) else (none)) else (none)) else (Zak.j1 k x132000 x132001 x132002 x132003 x132004 x134000 x134002 x134003 x134004)) else (Zak.j1 k x132000 x132001 x132002 x132003 x132004 x134000 x134002 x134003 x134004)
end
def Zak.f (k : Nat) (l0_0 : List (S50)) (l0_1 : List (S31)) (a0_2 : Int) (l0_3 : List Int) (l0_4 : List Int) : Option ((List (S50)) × (List (S31)) × Int × List Int × List Int) := Zak.l0 k 0 l0_0 l0_1 a0_2 l0_3 l0_4 ([] : List (S50)) a0_2 l0_3 l0_4
def Zak.T6 : Bool × List (List Nat × List Nat) := (true, [([], []), ([0], [0]), ([], []), ([2], [2]), ([], []), ([4], [4]), ([5], [5]), ([6], [6]), ([3, 7], [3, 7]), ([], []), ([], []), ([10], [10]), ([], []), ([12], [12]), ([13], [13]), ([14], [14]), ([11, 15], [11, 15]), ([9, 16], [9, 16]), ([8, 17], [8, 17]), ([18], [18]), ([1, 19, 17], [1, 19]), ([0, 1, 2, 3, 4, 5, 6, 7, 8, 9, 10, 11, 12, 13, 14, 15, 16, 17, 18, 19, 20], []), ([21, 20, 20, 0, 1, 2, 3, 4, 5, 6, 7, 8, 9, 10, 11, 12, 13, 14, 15, 16, 17, 18, 19, 20], [20, 21])])
def Zak.B6 : List Nat := [0, 1, 0, 4, 0, 16, 48, 112, 252, 0, 0, 1024, 0, 4096, 12288, 28672, 64512, 130560, 262140, 524284, 1048575, 2097151, 4194303]
theorem Zak.tab6 : rtab .any (opsOf Try.f10 6) = Zak.T6 := by kernel_rfl
theorem Zak.bits6 : waitsOk Zak.T6.2 Zak.B6 = true := by kernel_rfl
def Zak.T17 : Bool × List (List Nat × List Nat) := (true, [([], []), ([], []), ([1], [1]), ([], []), ([2, 3], [2, 3]), ([4], [4]), ([], []), ([6], [6]), ([], []), ([7, 8], [7, 8]), ([9], [9]), ([10], [10]), ([11], [11]), ([5, 12], [5, 12]), ([13], [13]), ([0, 14], [0, 14]), ([15, 15, 0, 1, 2, 3, 4, 5, 6, 7, 8, 9, 10, 11, 12, 13, 14, 15], [0, 15])])
def Zak.B17 : List Nat := [0, 0, 2, 0, 14, 30, 0, 64, 0, 448, 960, 1984, 4032, 8190, 16382, 32767, 65535]
theorem Zak.tab17 : rtab .any (opsOf Try.f10 17) = Zak.T17 := by kernel_rfl
theorem Zak.bits17 : waitsOk Zak.T17.2 Zak.B17 = true := by kernel_rfl
def Zak.T19 : Bool × List (List Nat × List Nat) := (true, [([], []), ([0], [0]), ([], []), ([2], [2]), ([3], [3]), ([1, 4, 3], [1, 4]), ([0, 1, 2, 3, 4, 5], []), ([6, 5, 5, 0, 1, 2, 3, 4, 5], [5, 6])])
def Zak.B19 : List Nat := [0, 1, 0, 4, 12, 31, 63, 127]
theorem Zak.tab19 : rtab .any (opsOf Try.f10 19) = Zak.T19 := by kernel_rfl
theorem Zak.bits19 : waitsOk Zak.T19.2 Zak.B19 = true := by kernel_rfl
set_option maxHeartbeats 8000000 in
set_option maxRecDepth 100000 in
theorem Zak.calls (k : Nat) (A0_0 : Option Addr) (c0_0 : Nat) (l0_0 : List (S50)) (A0_1 : Option Addr) (c0_1 : Nat) (l0_1 : List (S31)) (a0_2 : Int) (A0_3 : Option Addr) (c0_3 : Nat) (l0_3 : List Int) (A0_4 : Option Addr) (c0_4 : Nat) (l0_4 : List Int) (r1 : List (S50)) (r2 : List (S31)) (r3 : Int) (r4 : List Int) (r5 : List Int) (w : World) (hr0_0 : Kd.C k50 w A0_0 l0_0.length l0_0) (hc0_0 : l0_0.length ≤ c0_0) (hr0_1 : Kd.C k31 w A0_1 l0_1.length l0_1) (hc0_1 : l0_1.length ≤ c0_1) (hr0_3 : Kd.C (Kd.int .i64) w A0_3 l0_3.length l0_3) (hc0_3 : l0_3.length ≤ c0_3) (hr0_4 : Kd.C (Kd.int .i64) w A0_4 l0_4.length l0_4) (hc0_4 : l0_4.length ≤ c0_4) (h : Zak.f k l0_0 l0_1 a0_2 l0_3 l0_4 = some (r1, r2, r3, r4, r5)) :
  Calls Try.prog 10 #[.agg #[.slice A0_0 l0_0.length c0_0, .slice A0_1 l0_1.length c0_1, .int .i64 a0_2, .slice A0_3 l0_3.length c0_3, .slice A0_4 l0_4.length c0_4]] w fun e w' => ∃ v0_ v1_ v3_ v4_ : Value, e = .returned (.agg #[v0_, v1_, .int .i64 r3, v3_, v4_]) ∧ Kd.S k50 50 w' w.heap.size (fun _ => True) v0_ r1 ∧ Kd.R k31 31 w' w.heap.size (fun k_ => some k_ ≠ (v3_ : Value).ownBlock ∧ some k_ ≠ (v4_ : Value).ownBlock) v1_ r2 ∧ Kd.R (Kd.int .i64) 3 w' w.heap.size (fun k_ => some k_ ≠ (v4_ : Value).ownBlock) v3_ r4 ∧ Kd.R (Kd.int .i64) 3 w' w.heap.size (fun k_ => some k_ ≠ (v3_ : Value).ownBlock) v4_ r5 ∧ Below w.heap.size w w' := by
 have hu28 := Try.underlying28
 have hu26 := Try.underlying26
 have hu50 := Try.underlying50
 have hu31 := Try.underlying31
 have HR0_0 := Za.mk hr0_0
 have HC0_0 := Za.mk hc0_0
 clear hr0_0 hc0_0
 have HR0_1 := Za.mk hr0_1
 have HC0_1 := Za.mk hc0_1
 clear hr0_1 hc0_1
 have HR0_3 := Za.mk hr0_3
 have HC0_3 := Za.mk hc0_3
 clear hr0_3 hc0_3
 have HR0_4 := Za.mk hr0_4
 have HC0_4 := Za.mk hc0_4
 clear hr0_4 hc0_4
 have HB := Za.mk (Below.refl w.heap.size w)
 have H : (Zak.l0 k 0 l0_0 l0_1 a0_2 l0_3 l0_4 ([] : List (S50)) a0_2 l0_3 l0_4) = some (r1, r2, r3, r4, r5) := h
 clear h
 have HC2 := Za.mk H
 clear H
 go_enter Try.func10, Try.ntmps10
 go_upto_block 0 with (first | ((with_reducible refine Zax (N := 1) rfl ?_); refine Za7 ?hg (N := 1) ?hd (cs := #[.slice A0_0 l0_0.length c0_0, .slice A0_1 l0_1.length c0_1, .int .i64 a0_2, .slice A0_3 l0_3.length c0_3, .slice A0_4 l0_4.length c0_4]) (t := 28) ?hr ?_; (case hd => rfl); (case hg => rfl); (case hr => first | (go_simp; done) | (go_simp; rfl)); intro gb131 hg w3 hbox hb; have n0_ := Za.mk (Zaf (by repeat (first | (with_reducible first | exact HB.out | apply Zab | apply Zaa | apply Zad) | exact HB.out)) hb); have n1_ := Za.mk (hbox); have n2_ := Za.mk ((by rw [hg]; exact (Zan (by repeat (first | (with_reducible first | exact HB.out | apply Zab | apply Zaa | apply Zad) | exact HB.out))) : w.heap.size ≤ gb131)); have n3_ := Za.mk ((by rw [hg]; exact (Zan (by repeat (first | (with_reducible first | exact HB.out | apply Zab | apply Zaa | apply Zad) | exact HB.out))) : w.heap.size ≤ gb131)); clear HB; have HB := n0_; have BK131 := n1_; have GW131 := n2_; have GE131 := n3_; clear n0_ n1_ n2_ n3_; clear hb hbox hg) | ((with_reducible refine Zax (N := 2) rfl ?_); refine Za7 ?hg (N := 2) ?hd (cs := #[.slice none 0 0, .slice none 0 0, .int .i64 0, .slice none 0 0, .slice none 0 0]) (t := 28) ?hr ?_; (case hd => rfl); (case hg => rfl); (case hr => first | (go_simp; done) | (go_simp; rfl)); intro gb132 hg w4 hbox hb; have n0_ := Za.mk (Zap (g := gb131) (o := .cells #[.slice A0_0 l0_0.length c0_0, .slice A0_1 l0_1.length c0_1, .int .i64 a0_2, .slice A0_3 l0_3.length c0_3, .slice A0_4 l0_4.length c0_4] 28 (0, 0)) (by (with_reducible repeat (first | refine Zag ?_ _ | refine Zai ?_ | refine Zae ?_ _)); exact BK131.out) hb); have n1_ := Za.mk (Zaf (by repeat (first | (with_reducible first | exact HB.out | apply Zab | apply Zaa | apply Zad | refine Zac ?_ GE131.out) | exact HB.out)) hb); have n2_ := Za.mk (hbox); have n3_ := Za.mk ((by rw [hg]; exact (Zan (by repeat (first | (with_reducible first | exact HB.out | apply Zab | apply Zaa | apply Zad | refine Zac ?_ GE131.out) | exact HB.out))) : w.heap.size ≤ gb132)); have n4_ := Za.mk ((by rw [hg]; exact (Zan (by repeat (first | (with_reducible first | exact HB.out | apply Zab | apply Zaa | apply Zad | refine Zac ?_ GE131.out) | exact HB.out))) : w.heap.size ≤ gb132)); have n5_ := Za.mk ((by rw [hg]; exact Nat.ne_of_lt (Zbt (g := gb131) (o := .cells #[.slice A0_0 l0_0.length c0_0, .slice A0_1 l0_1.length c0_1, .int .i64 a0_2, .slice A0_3 l0_3.length c0_3, .slice A0_4 l0_4.length c0_4] 28 (0, 0)) (by (with_reducible repeat (first | refine Zag ?_ _ | refine Zai ?_ | refine Zae ?_ _)); exact BK131.out)) : gb131 ≠ gb132)); have n6_ := Za.mk ((by rw [hg]; exact Nat.ne_of_gt (Zbt (g := gb131) (o := .cells #[.slice A0_0 l0_0.length c0_0, .slice A0_1 l0_1.length c0_1, .int .i64 a0_2, .slice A0_3 l0_3.length c0_3, .slice A0_4 l0_4.length c0_4] 28 (0, 0)) (by (with_reducible repeat (first | refine Zag ?_ _ | refine Zai ?_ | refine Zae ?_ _)); exact BK131.out)) : gb132 ≠ gb131)); clear BK131; clear HB; have BK131 := n0_; have HB := n1_; have BK132 := n2_; have GW132 := n3_; have GE132 := n4_; have NB131_132 := n5_; have NB132_131 := n6_; clear n0_ n1_ n2_ n3_ n4_ n5_ n6_; clear hb hbox hg; have hnb5 := NB131_132.out; have hnc5 := NB132_131.out; obtain ⟨hcz6_0, hcz6_1, hcz6_2, hcz6_3, hcz6_4, hfz6_0, hfz6_1, hfz6_2, hfz6_3, hfz6_4⟩ := Zde BK131.out) | ((with_reducible refine Zax (N := 3) rfl ?_); refine Za7 ?hg (N := 3) ?hd (cs := #[.slice none 0 0, .slice none 0 0, .int .i64 0, .slice none 0 0, .slice none 0 0]) (t := 28) ?hr ?_; (case hd => rfl); (case hg => rfl); (case hr => first | (go_simp; done) | (go_simp; rfl)); intro gb133 hg w7 hbox hb; have n0_ := Za.mk (Zap (g := gb131) (o := .cells #[.slice A0_0 l0_0.length c0_0, .slice A0_1 l0_1.length c0_1, .int .i64 a0_2, .slice A0_3 l0_3.length c0_3, .slice A0_4 l0_4.length c0_4] 28 (0, 0)) (by (with_reducible repeat (first | refine Zag ?_ _ | refine Zai ?_ | refine Zae ?_ _)); exact BK131.out) hb); have n1_ := Za.mk (Zap (g := gb132) (o := .cells #[.slice none 0 0, .slice none 0 0, .int .i64 0, .slice none 0 0, .slice none 0 0] 28 (0, 0)) (by (with_reducible repeat (first | refine Zag ?_ _ | refine Zai ?_ | refine Zae ?_ _)); exact BK132.out) hb); have n2_ := Za.mk (Zaf (by repeat (first | (with_reducible first | exact HB.out | apply Zab | apply Zaa | apply Zad | refine Zac ?_ GE131.out | refine Zac ?_ GE132.out) | exact HB.out)) hb); have n3_ := Za.mk (hbox); have n4_ := Za.mk ((by rw [hg]; exact (Zan (by repeat (first | (with_reducible first | exact HB.out | apply Zab | apply Zaa | apply Zad | refine Zac ?_ GE131.out | refine Zac ?_ GE132.out) | exact HB.out))) : w.heap.size ≤ gb133)); have n5_ := Za.mk ((by rw [hg]; exact (Zan (by repeat (first | (with_reducible first | exact HB.out | apply Zab | apply Zaa | apply Zad | refine Zac ?_ GE131.out | refine Zac ?_ GE132.out) | exact HB.out))) : w.heap.size ≤ gb133)); have n6_ := Za.mk ((by rw [hg]; exact Nat.ne_of_lt (Zbt (g := gb131) (o := .cells #[.slice A0_0 l0_0.length c0_0, .slice A0_1 l0_1.length c0_1, .int .i64 a0_2, .slice A0_3 l0_3.length c0_3, .slice A0_4 l0_4.length c0_4] 28 (0, 0)) (by (with_reducible repeat (first | refine Zag ?_ _ | refine Zai ?_ | refine Zae ?_ _)); exact BK131.out)) : gb131 ≠ gb133)); have n7_ := Za.mk ((by rw [hg]; exact Nat.ne_of_gt (Zbt (g := gb131) (o := .cells #[.slice A0_0 l0_0.length c0_0, .slice A0_1 l0_1.length c0_1, .int .i64 a0_2, .slice A0_3 l0_3.length c0_3, .slice A0_4 l0_4.length c0_4] 28 (0, 0)) (by (with_reducible repeat (first | refine Zag ?_ _ | refine Zai ?_ | refine Zae ?_ _)); exact BK131.out)) : gb133 ≠ gb131)); have n8_ := Za.mk ((by rw [hg]; exact Nat.ne_of_lt (Zbt (g := gb132) (o := .cells #[.slice none 0 0, .slice none 0 0, .int .i64 0, .slice none 0 0, .slice none 0 0] 28 (0, 0)) (by (with_reducible repeat (first | refine Zag ?_ _ | refine Zai ?_ | refine Zae ?_ _)); exact BK132.out)) : gb132 ≠ gb133)); have n9_ := Za.mk ((by rw [hg]; exact Nat.ne_of_gt (Zbt (g := gb132) (o := .cells #[.slice none 0 0, .slice none 0 0, .int .i64 0, .slice none 0 0, .slice none 0 0] 28 (0, 0)) (by (with_reducible repeat (first | refine Zag ?_ _ | refine Zai ?_ | refine Zae ?_ _)); exact BK132.out)) : gb133 ≠ gb132)); clear BK131; clear BK132; clear HB; have BK131 := n0_; have BK132 := n1_; have HB := n2_; have BK133 := n3_; have GW133 := n4_; have GE133 := n5_; have NB131_133 := n6_; have NB133_131 := n7_; have NB132_133 := n8_; have NB133_132 := n9_; clear n0_ n1_ n2_ n3_ n4_ n5_ n6_ n7_ n8_ n9_; clear hb hbox hg; have hnb8 := NB133_131.out; have hnc8 := NB131_133.out; have hnb9 := NB133_132.out; have hnc9 := NB132_133.out; obtain ⟨hcz10_0, hcz10_1, hcz10_2, hcz10_3, hcz10_4, hfz10_0, hfz10_1, hfz10_2, hfz10_3, hfz10_4⟩ := Zde BK133.out))
 (try simp only [Act.put, List.setIfInBounds_toArray, List.set_cons_zero, List.set_cons_succ])
 go_cut [] (fun wc => ∃ (kq : Nat) (x134000_1 : List (S50)) (u134000 : Value), Za (Zak.j1 kq l0_0 l0_1 a0_2 l0_3 l0_4 x134000_1 a0_2 l0_3 l0_4 = some (r1, r2, r3, r4, r5)) ∧ Za (kq ≤ k) ∧ Za (Kd.S k50 50 wc w.heap.size (fun _ => True) u134000 x134000_1) ∧ Za (wc.heap[gb131]? = some (.cells #[(.slice A0_0 l0_0.length c0_0), (.slice A0_1 l0_1.length c0_1), .int .i64 a0_2, (.slice A0_3 l0_3.length c0_3), (.slice A0_4 l0_4.length c0_4)] 28 (0, 0))) ∧ Za (wc.heap[gb132]? = some (.cells #[(.slice none 0 0), (.slice none 0 0), .int .i64 0, (.slice none 0 0), (.slice none 0 0)] 28 (0, 0))) ∧ Za (wc.heap[gb133]? = some (.cells #[u134000, (.slice none 0 0), .int .i64 a0_2, (.slice A0_3 l0_3.length c0_3), (.slice A0_4 l0_4.length c0_4)] 28 (0, 0))) ∧ Za (Below w.heap.size w wc))
 case first =>
  have H := HC2.out
  clear HC2
  have H' := Za.mk H
  clear H
  go_wp2
  go_loopg [4] k (fun kq v4 w' => ∃ (x4_1 : Int) (x134000_1 : List (S50)) (u134000 : Value), v4 = .int .i64 x4_1 ∧ Za (Zak.l0 kq x4_1 l0_0 l0_1 a0_2 l0_3 l0_4 x134000_1 a0_2 l0_3 l0_4 = some (r1, r2, r3, r4, r5)) ∧ Za (kq ≤ k) ∧ Za (Kd.S k50 50 w' w.heap.size (fun _ => True) u134000 x134000_1) ∧ Za (w'.heap[gb131]? = some (.cells #[(.slice A0_0 l0_0.length c0_0), (.slice A0_1 l0_1.length c0_1), .int .i64 a0_2, (.slice A0_3 l0_3.length c0_3), (.slice A0_4 l0_4.length c0_4)] 28 (0, 0))) ∧ Za (w'.heap[gb132]? = some (.cells #[(.slice none 0 0), (.slice none 0 0), .int .i64 0, (.slice none 0 0), (.slice none 0 0)] 28 (0, 0))) ∧ Za (w'.heap[gb133]? = some (.cells #[u134000, (.slice none 0 0), .int .i64 a0_2, (.slice A0_3 l0_3.length c0_3), (.slice A0_4 l0_4.length c0_4)] 28 (0, 0))) ∧ Za (Below w.heap.size w w'))
  case atStart => exact ⟨(0), (([] : List (S50))), (.slice none 0 0), (by first | rfl | (simp; done) | (simp [*]; done)), H', ⟨Nat.le_refl _⟩, ⟨by first | exact Kd.S_nil _ _ _ _ _ | exact Kd.N_nil _ _ _ _ _ | exact Kd.Ze _ _ _ _ _ | exact Kd.Q_nil _ _ _ _ _ | exact Kd.Zfa _ _ _ _ _⟩, ⟨by (with_reducible repeat (first | refine Zag ?_ _ | refine Zai ?_ | refine Zae ?_ _)); refine Zav ?_ NB131_133.out _; (with_reducible repeat (first | refine Zag ?_ _ | refine Zai ?_ | refine Zae ?_ _)); refine Zav ?_ NB131_133.out _; (with_reducible repeat (first | refine Zag ?_ _ | refine Zai ?_ | refine Zae ?_ _)); refine Zav ?_ NB131_133.out _; (with_reducible repeat (first | refine Zag ?_ _ | refine Zai ?_ | refine Zae ?_ _)); refine Zav ?_ NB131_133.out _; (with_reducible repeat (first | refine Zag ?_ _ | refine Zai ?_ | refine Zae ?_ _)); refine Zav ?_ NB131_133.out _; (with_reducible repeat (first | refine Zag ?_ _ | refine Zai ?_ | refine Zae ?_ _)); exact BK131.out⟩, ⟨by (with_reducible repeat (first | refine Zag ?_ _ | refine Zai ?_ | refine Zae ?_ _)); refine Zav ?_ NB132_133.out _; (with_reducible repeat (first | refine Zag ?_ _ | refine Zai ?_ | refine Zae ?_ _)); refine Zav ?_ NB132_133.out _; (with_reducible repeat (first | refine Zag ?_ _ | refine Zai ?_ | refine Zae ?_ _)); refine Zav ?_ NB132_133.out _; (with_reducible repeat (first | refine Zag ?_ _ | refine Zai ?_ | refine Zae ?_ _)); refine Zav ?_ NB132_133.out _; (with_reducible repeat (first | refine Zag ?_ _ | refine Zai ?_ | refine Zae ?_ _)); refine Zav ?_ NB132_133.out _; (with_reducible repeat (first | refine Zag ?_ _ | refine Zai ?_ | refine Zae ?_ _)); exact BK132.out⟩, ⟨by (with_reducible repeat (first | refine Zag ?_ _ | refine Zai ?_ | refine Zae ?_ _)); refine Zaq (cs := #[.slice none 0 0, .slice none 0 0, .int .i64 a0_2, .slice A0_3 l0_3.length c0_3, .slice none 0 0]) ?_ 4 _ rfl; (with_reducible repeat (first | refine Zag ?_ _ | refine Zai ?_ | refine Zae ?_ _)); refine Zaq (cs := #[.slice none 0 0, .slice none 0 0, .int .i64 a0_2, .slice none 0 0, .slice none 0 0]) ?_ 3 _ rfl; (with_reducible repeat (first | refine Zag ?_ _ | refine Zai ?_ | refine Zae ?_ _)); refine Zaq (cs := #[.slice none 0 0, .slice none 0 0, .int .i64 0, .slice none 0 0, .slice none 0 0]) ?_ 2 _ rfl; (with_reducible repeat (first | refine Zag ?_ _ | refine Zai ?_ | refine Zae ?_ _)); refine Zaq (cs := #[.slice none 0 0, .slice none 0 0, .int .i64 0, .slice none 0 0, .slice none 0 0]) ?_ 1 _ rfl; (with_reducible repeat (first | refine Zag ?_ _ | refine Zai ?_ | refine Zae ?_ _)); refine Zaq (cs := #[.slice none 0 0, .slice none 0 0, .int .i64 0, .slice none 0 0, .slice none 0 0]) ?_ 0 _ rfl; (with_reducible repeat (first | refine Zag ?_ _ | refine Zai ?_ | refine Zae ?_ _)); exact BK133.out⟩, ⟨by repeat (first | (with_reducible first | exact HB.out | apply Zab | apply Zaa | apply Zad | refine Zac ?_ GE131.out | refine Zac ?_ GE132.out | refine Zac ?_ GE133.out) | exact HB.out)⟩⟩
  case round =>
   clear H'
   try clear c1
   try clear p2
   try clear c5
   try clear c8
   try clear c9
   try clear c10
   try clear hcz10_0
   try clear hcz10_1
   try clear hcz10_2
   try clear hcz10_3
   try clear hcz10_4
   try clear hcz6_0
   try clear hcz6_1
   try clear hcz6_2
   try clear hcz6_3
   try clear hcz6_4
   try clear hfz10_0
   try clear hfz10_1
   try clear hfz10_2
   try clear hfz10_3
   try clear hfz10_4
   try clear hfz6_0
   try clear hfz6_1
   try clear hfz6_2
   try clear hfz6_3
   try clear hfz6_4
   obtain ⟨x4_1, x134000_1, u134000, rfl, HA, HK1, HO_134000, BK131, BK132, BK133, HB⟩ := hrel
   cases gk with
   | zero => exact absurd HA.out (by simp [Zak.l0])
   | succ k1 =>
    have H := HA.out
    clear HA
    simp only [Zak.l0] at H
    by_cases c11 : x4_1 < (l0_0.length : Int)
    rotate_left
    ·rw [if_neg c11] at H
     have c11b0 : decide (x4_1 < (l0_0.length : Int)) = false := decide_eq_false c11
     clear c11
     (first | rw [c11b0] | (simp only [Zbb, Zbd]; rw [c11b0]) | skip)
     have H' := Za.mk H
     clear H
     have hnb43 := NB131_132.out
     have hnc43 := NB132_131.out
     have hnb44 := NB131_133.out
     have hnc44 := NB133_131.out
     obtain ⟨hcz45_0, hcz45_1, hcz45_2, hcz45_3, hcz45_4, hfz45_0, hfz45_1, hfz45_2, hfz45_3, hfz45_4⟩ := Zde BK131.out
     go_wp2
     go_meet
     case rel => exact ⟨_, (x134000_1), (u134000), H', ⟨by have := HK1.out; first | omega | exact Nat.le_refl _⟩, ⟨by (with_reducible repeat (first | apply Kd.Zbj | apply Kd.Zbk | apply Kd.Zbr)); exact HO_134000.out⟩, ⟨by (with_reducible repeat (first | refine Zag ?_ _ | refine Zai ?_ | refine Zae ?_ _)); exact BK131.out⟩, ⟨by (with_reducible repeat (first | refine Zag ?_ _ | refine Zai ?_ | refine Zae ?_ _)); exact BK132.out⟩, ⟨by (with_reducible repeat (first | refine Zag ?_ _ | refine Zai ?_ | refine Zae ?_ _)); exact BK133.out⟩, ⟨by repeat (first | (with_reducible first | exact HB.out | apply Zab | apply Zaa | apply Zad | refine Zac ?_ GE131.out | refine Zac ?_ GE132.out | refine Zac ?_ GE133.out) | exact HB.out)⟩⟩
    rw [if_pos c11] at H
    have c11b0 : decide (x4_1 < (l0_0.length : Int)) = true := decide_eq_true c11
    clear c11
    (first | rw [c11b0] | (simp only [Zbb, Zbd]; rw [c11b0]) | skip)
    by_cases c12 : x4_1 < 10
    rotate_left
    ·rw [if_neg c12] at H
     have c12b0 : decide (x4_1 < 10) = false := decide_eq_false c12
     clear c12
     have H' := Za.mk H
     clear H
     have hnb40 := NB131_132.out
     have hnc40 := NB132_131.out
     have hnb41 := NB131_133.out
     have hnc41 := NB133_131.out
     obtain ⟨hcz42_0, hcz42_1, hcz42_2, hcz42_3, hcz42_4, hfz42_0, hfz42_1, hfz42_2, hfz42_3, hfz42_4⟩ := Zde BK131.out
     go_wp2
     go_meet
     case rel => exact ⟨_, (x134000_1), (u134000), H', ⟨by have := HK1.out; first | omega | exact Nat.le_refl _⟩, ⟨by (with_reducible repeat (first | apply Kd.Zbj | apply Kd.Zbk | apply Kd.Zbr)); exact HO_134000.out⟩, ⟨by (with_reducible repeat (first | refine Zag ?_ _ | refine Zai ?_ | refine Zae ?_ _)); exact BK131.out⟩, ⟨by (with_reducible repeat (first | refine Zag ?_ _ | refine Zai ?_ | refine Zae ?_ _)); exact BK132.out⟩, ⟨by (with_reducible repeat (first | refine Zag ?_ _ | refine Zai ?_ | refine Zae ?_ _)); exact BK133.out⟩, ⟨by repeat (first | (with_reducible first | exact HB.out | apply Zab | apply Zaa | apply Zad | refine Zac ?_ GE131.out | refine Zac ?_ GE132.out | refine Zac ?_ GE133.out) | exact HB.out)⟩⟩
    rw [if_pos c12] at H
    have c12b0 : decide (x4_1 < 10) = true := decide_eq_true c12
    clear c12
    by_cases c13 : 0 ≤ x4_1
    rotate_left
    ·rw [if_neg c13] at H
     exact absurd H (by simp)
    rw [if_pos c13] at H
    have c13b0 : decide (0 ≤ x4_1) = true := decide_eq_true c13
    clear c13
    obtain ⟨ji14, hji14⟩ : ∃ j_ : Int, (mn (((Za4 l0_0 x4_1).f0).size : Int) 20) = j_ := ⟨_, rfl⟩
    replace H : (if 0 ≤ (ji14) then (if (ji14) ≤ (((Za4 l0_0 x4_1).f0).size : Int) then ((some (([] : List (S48)) : List (S48))).bind fun y136 => (if 0 ≤ (mn (((Za4 l0_0 x4_1).f1).length : Int) 12) then (if (mn (((Za4 l0_0 x4_1).f1).length : Int) 12) ≤ (((Za4 l0_0 x4_1).f1).length : Int) then ((some (((Za4 l0_0 x4_1).f1).take ((mn (((Za4 l0_0 x4_1).f1).length : Int) 12) : Int).toNat : List (S48))).bind fun y139 => (if y136.length + y139.length < 8796093022208 then (if x134000_1.length < 3518437208883 then (Zak.l0 k1 (wrap64 (x4_1 + 1)) l0_0 l0_1 a0_2 l0_3 l0_4 (x134000_1 ++ [(⟨((Za4 l0_0 x4_1).f0).extract 0 ((ji14) : Int).toNat, (y136 ++ y139)⟩ : S50)]) a0_2 l0_3 l0_4) else (none)) else (none))) else (none)) else (none))) else (none)) else (none)) = some (r1, r2, r3, r4, r5) := by first | (rw [hji14] at H; exact H) | (simp only [hji14] at H ⊢; exact H)
    have hji14_ : (if 20 < (((Za4 l0_0 x4_1).f0).size : Int) then 20 else (((Za4 l0_0 x4_1).f0).size : Int)) = ji14 := hji14
    by_cases c15 : 0 ≤ (ji14)
    rotate_left
    ·rw [if_neg c15] at H
     exact absurd H (by simp)
    rw [if_pos c15] at H
    have c15b0 := eq_true c15
    have c15b1 : decide (0 ≤ (ji14)) = true := decide_eq_true c15
    clear c15
    by_cases c16 : (ji14) ≤ (((Za4 l0_0 x4_1).f0).size : Int)
    rotate_left
    ·rw [if_neg c16] at H
     exact absurd H (by simp)
    rw [if_pos c16] at H
    have c16b0 := eq_true c16
    have c16b1 : decide ((ji14) ≤ (((Za4 l0_0 x4_1).f0).size : Int)) = true := decide_eq_true c16
    clear c16
    obtain ⟨y136, hy136⟩ : ∃ y_ : List (S48), y_ = (([] : List (S48))) := ⟨_, rfl⟩
    replace H : (if 0 ≤ (mn (((Za4 l0_0 x4_1).f1).length : Int) 12) then (if (mn (((Za4 l0_0 x4_1).f1).length : Int) 12) ≤ (((Za4 l0_0 x4_1).f1).length : Int) then ((some (((Za4 l0_0 x4_1).f1).take ((mn (((Za4 l0_0 x4_1).f1).length : Int) 12) : Int).toNat : List (S48))).bind fun y139 => (if y136.length + y139.length < 8796093022208 then (if x134000_1.length < 3518437208883 then (Zak.l0 k1 (wrap64 (x4_1 + 1)) l0_0 l0_1 a0_2 l0_3 l0_4 (x134000_1 ++ [(⟨((Za4 l0_0 x4_1).f0).extract 0 ((ji14) : Int).toNat, (y136 ++ y139)⟩ : S50)]) a0_2 l0_3 l0_4) else (none)) else (none))) else (none)) else (none)) = some (r1, r2, r3, r4, r5) := by first | (rw [hy136]; with_reducible exact H) | (have H2_ := (Option.bind_some _ _).symm.trans H; rw [hy136]; with_reducible exact H2_) | (have H2_ := (Option.bind_some _ _).symm.trans H; with_reducible exact H2_) | with_reducible exact H | (rw [hy136]; exact H) | exact H
    have Ny136 := Za.mk hy136
    clear hy136
    obtain ⟨ji17, hji17⟩ : ∃ j_ : Int, (mn (((Za4 l0_0 x4_1).f1).length : Int) 12) = j_ := ⟨_, rfl⟩
    replace H : (if 0 ≤ (ji17) then (if (ji17) ≤ (((Za4 l0_0 x4_1).f1).length : Int) then ((some (((Za4 l0_0 x4_1).f1).take ((ji17) : Int).toNat : List (S48))).bind fun y139 => (if y136.length + y139.length < 8796093022208 then (if x134000_1.length < 3518437208883 then (Zak.l0 k1 (wrap64 (x4_1 + 1)) l0_0 l0_1 a0_2 l0_3 l0_4 (x134000_1 ++ [(⟨((Za4 l0_0 x4_1).f0).extract 0 ((ji14) : Int).toNat, (y136 ++ y139)⟩ : S50)]) a0_2 l0_3 l0_4) else (none)) else (none))) else (none)) else (none)) = some (r1, r2, r3, r4, r5) := by first | (rw [hji17] at H; exact H) | (simp only [hji17] at H ⊢; exact H)
    have hji17_ : (if 12 < (((Za4 l0_0 x4_1).f1).length : Int) then 12 else (((Za4 l0_0 x4_1).f1).length : Int)) = ji17 := hji17
    by_cases c18 : 0 ≤ (ji17)
    rotate_left
    ·rw [if_neg c18] at H
     exact absurd H (by simp)
    rw [if_pos c18] at H
    have c18b0 := eq_true c18
    have c18b1 : decide (0 ≤ (ji17)) = true := decide_eq_true c18
    clear c18
    by_cases c19 : (ji17) ≤ (((Za4 l0_0 x4_1).f1).length : Int)
    rotate_left
    ·rw [if_neg c19] at H
     exact absurd H (by simp)
    rw [if_pos c19] at H
    have c19b0 := eq_true c19
    have c19b1 : decide ((ji17) ≤ (((Za4 l0_0 x4_1).f1).length : Int)) = true := decide_eq_true c19
    clear c19
    obtain ⟨y139, hy139⟩ : ∃ y_ : List (S48), y_ = (((Za4 l0_0 x4_1).f1).take ((ji17) : Int).toNat) := ⟨_, rfl⟩
    replace H : (if y136.length + y139.length < 8796093022208 then (if x134000_1.length < 3518437208883 then (Zak.l0 k1 (wrap64 (x4_1 + 1)) l0_0 l0_1 a0_2 l0_3 l0_4 (x134000_1 ++ [(⟨((Za4 l0_0 x4_1).f0).extract 0 ((ji14) : Int).toNat, (y136 ++ y139)⟩ : S50)]) a0_2 l0_3 l0_4) else (none)) else (none)) = some (r1, r2, r3, r4, r5) := by first | (rw [hy139]; with_reducible exact H) | (have H2_ := (Option.bind_some _ _).symm.trans H; rw [hy139]; with_reducible exact H2_) | (have H2_ := (Option.bind_some _ _).symm.trans H; with_reducible exact H2_) | with_reducible exact H | (rw [hy139]; exact H) | exact H
    have Ny139 := Za.mk hy139
    clear hy139
    by_cases c20 : y136.length + y139.length < 8796093022208
    rotate_left
    ·rw [if_neg c20] at H
     exact absurd H (by simp)
    rw [if_pos c20] at H
    have LMc20 := Za.mk c20
    clear c20
    obtain ⟨y143, hy143⟩ : ∃ y_ : List (S48), y_ = (y136 ++ y139) := ⟨_, rfl⟩
    replace H : (if x134000_1.length < 3518437208883 then (Zak.l0 k1 (wrap64 (x4_1 + 1)) l0_0 l0_1 a0_2 l0_3 l0_4 (x134000_1 ++ [(⟨((Za4 l0_0 x4_1).f0).extract 0 ((ji14) : Int).toNat, y143⟩ : S50)]) a0_2 l0_3 l0_4) else (none)) = some (r1, r2, r3, r4, r5) := by first | (rw [hy143]; with_reducible exact H) | (have H2_ := (Option.bind_some _ _).symm.trans H; rw [hy143]; with_reducible exact H2_) | (have H2_ := (Option.bind_some _ _).symm.trans H; with_reducible exact H2_) | with_reducible exact H | (rw [hy143]; exact H) | exact H
    have Ny143 := Za.mk hy143
    clear hy143
    by_cases c21 : x134000_1.length < 3518437208883
    rotate_left
    ·rw [if_neg c21] at H
     exact absurd H (by simp)
    rw [if_pos c21] at H
    have LMc21 := Za.mk c21
    clear c21
    obtain ⟨y146, hy146⟩ : ∃ y_ : List (S50), y_ = (x134000_1 ++ [(⟨((Za4 l0_0 x4_1).f0).extract 0 ((ji14) : Int).toNat, y143⟩ : S50)]) := ⟨_, rfl⟩
    replace H : (Zak.l0 k1 (wrap64 (x4_1 + 1)) l0_0 l0_1 a0_2 l0_3 l0_4 y146 a0_2 l0_3 l0_4) = some (r1, r2, r3, r4, r5) := by first | (rw [hy146]; with_reducible exact H) | (have H2_ := (Option.bind_some _ _).symm.trans H; rw [hy146]; with_reducible exact H2_) | (have H2_ := (Option.bind_some _ _).symm.trans H; with_reducible exact H2_) | with_reducible exact H | (rw [hy146]; exact H) | exact H
    have Ny146 := Za.mk hy146
    clear hy146
    have H' := Za.mk H
    clear H
    have hnb22 := NB131_132.out
    have hnc22 := NB132_131.out
    have hnb23 := NB131_133.out
    have hnc23 := NB133_131.out
    obtain ⟨hcz24_0, hcz24_1, hcz24_2, hcz24_3, hcz24_4, hfz24_0, hfz24_1, hfz24_2, hfz24_3, hfz24_4⟩ := Zde BK131.out
    have p134 : 0 ≤ (x4_1 : Int) := of_decide_eq_true (by first | (with_reducible assumption) | assumption)
    have q134 : x4_1 < (l0_0.length : Int) := of_decide_eq_true (by first | (with_reducible assumption) | assumption)
    obtain ⟨ad134, A134_1, c134_1, e134, hx134_0, hx134_1, hl134_1, hi134_1⟩ := Zg HR0_0.out x4_1 p134 q134
    cases e134
    replace hx134_0 := (HB.out.cell (World.block_lt_of_cell? w _ hx134_0)).trans hx134_0
    replace hx134_1 := (HB.out.cell (World.block_lt_of_cell? w _ hx134_1)).trans hx134_1
    have HR134_1 := Za.mk hi134_1
    have HC134_1 := Za.mk hl134_1
    clear hi134_1 hl134_1
    replace p134 := eq_true p134
    replace q134 := eq_true q134
    try go_wp2_with (first | ((with_reducible refine Zax (N := 5) rfl ?_); refine Za7 ?hg (N := 5) ?hd (cs := #[.string (⟨#[]⟩ : ByteArray), .slice none 0 0]) (t := 50) ?hr ?_; (case hd => rfl); (case hg => rfl); (case hr => first | (go_simp; done) | (go_simp; rfl)); intro gb135 hg w25 hbox hb; have n0_ := Za.mk (Kd.Zcw (Kd.S_elderB (by (with_reducible repeat (first | apply Kd.Zbj | apply Kd.Zbk | apply Kd.Zbr)); exact HO_134000.out) gb135 (Nat.le_of_eq hg.symm)) hb); have n1_ := Za.mk (Zap (g := gb131) (o := .cells #[.slice (some ad134) l0_0.length c0_0, .slice A0_1 l0_1.length c0_1, .int .i64 a0_2, .slice A0_3 l0_3.length c0_3, .slice A0_4 l0_4.length c0_4] 28 (0, 0)) (by (with_reducible repeat (first | refine Zag ?_ _ | refine Zai ?_ | refine Zae ?_ _)); exact BK131.out) hb); have n2_ := Za.mk (Zap (g := gb132) (o := .cells #[.slice none 0 0, .slice none 0 0, .int .i64 0, .slice none 0 0, .slice none 0 0] 28 (0, 0)) (by (with_reducible repeat (first | refine Zag ?_ _ | refine Zai ?_ | refine Zae ?_ _)); exact BK132.out) hb); have n3_ := Za.mk (Zap (g := gb133) (o := .cells #[u134000, .slice none 0 0, .int .i64 a0_2, .slice A0_3 l0_3.length c0_3, .slice A0_4 l0_4.length c0_4] 28 (0, 0)) (by (with_reducible repeat (first | refine Zag ?_ _ | refine Zai ?_ | refine Zae ?_ _)); exact BK133.out) hb); have n4_ := Za.mk (Zaf (by repeat (first | (with_reducible first | exact HB.out | apply Zab | apply Zaa | apply Zad | refine Zac ?_ GE131.out | refine Zac ?_ GE132.out | refine Zac ?_ GE133.out) | exact HB.out)) hb); have n5_ := Za.mk (hbox); have n7_ := Za.mk ((by rw [hg]; exact (Zan (by repeat (first | (with_reducible first | exact HB.out | apply Zab | apply Zaa | apply Zad | refine Zac ?_ GE131.out | refine Zac ?_ GE132.out | refine Zac ?_ GE133.out) | exact HB.out))) : w.heap.size ≤ gb135)); have n8_ := Za.mk ((by rw [hg]; exact Nat.ne_of_lt (Zbt (g := gb131) (o := .cells #[.slice (some ad134) l0_0.length c0_0, .slice A0_1 l0_1.length c0_1, .int .i64 a0_2, .slice A0_3 l0_3.length c0_3, .slice A0_4 l0_4.length c0_4] 28 (0, 0)) (by (with_reducible repeat (first | refine Zag ?_ _ | refine Zai ?_ | refine Zae ?_ _)); exact BK131.out)) : gb131 ≠ gb135)); have n9_ := Za.mk ((by rw [hg]; exact Nat.ne_of_gt (Zbt (g := gb131) (o := .cells #[.slice (some ad134) l0_0.length c0_0, .slice A0_1 l0_1.length c0_1, .int .i64 a0_2, .slice A0_3 l0_3.length c0_3, .slice A0_4 l0_4.length c0_4] 28 (0, 0)) (by (with_reducible repeat (first | refine Zag ?_ _ | refine Zai ?_ | refine Zae ?_ _)); exact BK131.out)) : gb135 ≠ gb131)); have n10_ := Za.mk ((by rw [hg]; exact Nat.ne_of_lt (Zbt (g := gb132) (o := .cells #[.slice none 0 0, .slice none 0 0, .int .i64 0, .slice none 0 0, .slice none 0 0] 28 (0, 0)) (by (with_reducible repeat (first | refine Zag ?_ _ | refine Zai ?_ | refine Zae ?_ _)); exact BK132.out)) : gb132 ≠ gb135)); have n11_ := Za.mk ((by rw [hg]; exact Nat.ne_of_gt (Zbt (g := gb132) (o := .cells #[.slice none 0 0, .slice none 0 0, .int .i64 0, .slice none 0 0, .slice none 0 0] 28 (0, 0)) (by (with_reducible repeat (first | refine Zag ?_ _ | refine Zai ?_ | refine Zae ?_ _)); exact BK132.out)) : gb135 ≠ gb132)); have n12_ := Za.mk ((by rw [hg]; exact Nat.ne_of_lt (Zbt (g := gb133) (o := .cells #[u134000, .slice none 0 0, .int .i64 a0_2, .slice A0_3 l0_3.length c0_3, .slice A0_4 l0_4.length c0_4] 28 (0, 0)) (by (with_reducible repeat (first | refine Zag ?_ _ | refine Zai ?_ | refine Zae ?_ _)); exact BK133.out)) : gb133 ≠ gb135)); have n13_ := Za.mk ((by rw [hg]; exact Nat.ne_of_gt (Zbt (g := gb133) (o := .cells #[u134000, .slice none 0 0, .int .i64 a0_2, .slice A0_3 l0_3.length c0_3, .slice A0_4 l0_4.length c0_4] 28 (0, 0)) (by (with_reducible repeat (first | refine Zag ?_ _ | refine Zai ?_ | refine Zae ?_ _)); exact BK133.out)) : gb135 ≠ gb133)); clear HO_134000; clear BK131; clear BK132; clear BK133; clear HB; have HO_134000 := n0_; have BK131 := n1_; have BK132 := n2_; have BK133 := n3_; have HB := n4_; have BK135 := n5_; have GE135 := n7_; have NB131_135 := n8_; have NB135_131 := n9_; have NB132_135 := n10_; have NB135_132 := n11_; have NB133_135 := n12_; have NB135_133 := n13_; clear n0_ n1_ n2_ n3_ n4_ n5_ n7_ n8_ n9_ n10_ n11_ n12_ n13_; clear hb hbox hg; have hnb26 := NB135_131.out; have hnc26 := NB131_135.out; have hnb27 := NB135_132.out; have hnc27 := NB132_135.out; have hnb28 := NB135_133.out; have hnc28 := NB133_135.out; obtain ⟨hcz29_0, hcz29_1, hfz29_0, hfz29_1⟩ := Zd8 BK135.out))
    have n0_ : Za (Kd.S k50 50 ((w25.setCell ⟨gb135, 0, none⟩ (.string ((Za4 l0_0 x4_1).f0))).setCell ⟨gb135, 1, none⟩ (.slice A134_1 ((Za4 l0_0 x4_1).f1).length c134_1)) w.heap.size (fun k_ => k_ ≠ gb135) u134000 x134000_1) := ⟨by (with_reducible repeat (first | apply Kd.Zbj | apply Kd.Zbk | apply Kd.Zbr)); exact Kd.Zcj (Kd.Zbv (p := ⟨gb135, 1, none⟩) (Kd.Zbv (p := ⟨gb135, 0, none⟩) (Kd.Zcj HO_134000.out (fun k_ hk => (⟨hk, hk.2⟩ : _ ∧ k_ ≠ gb135))) (fun _ hk => hk.2) (.string ((Za4 l0_0 x4_1).f0))) (fun _ hk => hk.2) (.slice A134_1 ((Za4 l0_0 x4_1).f1).length c134_1)) (fun _ hk => hk.1.2)⟩
    have n1_ : Za (((w25.setCell ⟨gb135, 0, none⟩ (.string ((Za4 l0_0 x4_1).f0))).setCell ⟨gb135, 1, none⟩ (.slice A134_1 ((Za4 l0_0 x4_1).f1).length c134_1)).heap[gb131]? = some (.cells #[.slice (some ad134) l0_0.length c0_0, .slice A0_1 l0_1.length c0_1, .int .i64 a0_2, .slice A0_3 l0_3.length c0_3, .slice A0_4 l0_4.length c0_4] 28 (0, 0))) := ⟨by (with_reducible repeat (first | refine Zag ?_ _ | refine Zai ?_ | refine Zae ?_ _)); refine Zav ?_ NB131_135.out _; (with_reducible repeat (first | refine Zag ?_ _ | refine Zai ?_ | refine Zae ?_ _)); refine Zav ?_ NB131_135.out _; (with_reducible repeat (first | refine Zag ?_ _ | refine Zai ?_ | refine Zae ?_ _)); exact BK131.out⟩
    have n2_ : Za (((w25.setCell ⟨gb135, 0, none⟩ (.string ((Za4 l0_0 x4_1).f0))).setCell ⟨gb135, 1, none⟩ (.slice A134_1 ((Za4 l0_0 x4_1).f1).length c134_1)).heap[gb132]? = some (.cells #[.slice none 0 0, .slice none 0 0, .int .i64 0, .slice none 0 0, .slice none 0 0] 28 (0, 0))) := ⟨by (with_reducible repeat (first | refine Zag ?_ _ | refine Zai ?_ | refine Zae ?_ _)); refine Zav ?_ NB132_135.out _; (with_reducible repeat (first | refine Zag ?_ _ | refine Zai ?_ | refine Zae ?_ _)); refine Zav ?_ NB132_135.out _; (with_reducible repeat (first | refine Zag ?_ _ | refine Zai ?_ | refine Zae ?_ _)); exact BK132.out⟩
    have n3_ : Za (((w25.setCell ⟨gb135, 0, none⟩ (.string ((Za4 l0_0 x4_1).f0))).setCell ⟨gb135, 1, none⟩ (.slice A134_1 ((Za4 l0_0 x4_1).f1).length c134_1)).heap[gb133]? = some (.cells #[u134000, .slice none 0 0, .int .i64 a0_2, .slice A0_3 l0_3.length c0_3, .slice A0_4 l0_4.length c0_4] 28 (0, 0))) := ⟨by (with_reducible repeat (first | refine Zag ?_ _ | refine Zai ?_ | refine Zae ?_ _)); refine Zav ?_ NB133_135.out _; (with_reducible repeat (first | refine Zag ?_ _ | refine Zai ?_ | refine Zae ?_ _)); refine Zav ?_ NB133_135.out _; (with_reducible repeat (first | refine Zag ?_ _ | refine Zai ?_ | refine Zae ?_ _)); exact BK133.out⟩
    have n4_ : Za (((w25.setCell ⟨gb135, 0, none⟩ (.string ((Za4 l0_0 x4_1).f0))).setCell ⟨gb135, 1, none⟩ (.slice A134_1 ((Za4 l0_0 x4_1).f1).length c134_1)).heap[gb135]? = some (.cells #[.string ((Za4 l0_0 x4_1).f0), .slice A134_1 ((Za4 l0_0 x4_1).f1).length c134_1] 50 (0, 0))) := ⟨by (with_reducible repeat (first | refine Zag ?_ _ | refine Zai ?_ | refine Zae ?_ _)); refine Zaq (cs := #[.string ((Za4 l0_0 x4_1).f0), .slice none 0 0]) ?_ 1 _ rfl; (with_reducible repeat (first | refine Zag ?_ _ | refine Zai ?_ | refine Zae ?_ _)); refine Zaq (cs := #[.string (⟨#[]⟩ : ByteArray), .slice none 0 0]) ?_ 0 _ rfl; (with_reducible repeat (first | refine Zag ?_ _ | refine Zai ?_ | refine Zae ?_ _)); exact BK135.out⟩
    have n5_ : Za (Below w.heap.size w ((w25.setCell ⟨gb135, 0, none⟩ (.string ((Za4 l0_0 x4_1).f0))).setCell ⟨gb135, 1, none⟩ (.slice A134_1 ((Za4 l0_0 x4_1).f1).length c134_1))) := ⟨by repeat (first | (with_reducible first | exact HB.out | apply Zab | apply Zaa | apply Zad | refine Zac ?_ GE131.out | refine Zac ?_ GE132.out | refine Zac ?_ GE133.out | refine Zac ?_ GE135.out) | exact HB.out)⟩
    (try clear HO_134000)
    (try clear BK131)
    (try clear BK132)
    (try clear BK133)
    (try clear BK135)
    (try clear HB)
    generalize ((w25.setCell ⟨gb135, 0, none⟩ (.string ((Za4 l0_0 x4_1).f0))).setCell ⟨gb135, 1, none⟩ (.slice A134_1 ((Za4 l0_0 x4_1).f1).length c134_1)) = w30 at n0_ n1_ n2_ n3_ n4_ n5_ ⊢
    have HO_134000 := n0_
    have BK131 := n1_
    have BK132 := n2_
    have BK133 := n3_
    have BK135 := n4_
    have HB := n5_
    clear n0_ n1_ n2_ n3_ n4_ n5_
    have n0_ := Za.mk (Kd.Zbr HO_134000.out)
    have n1_ := Za.mk (Zai BK131.out)
    have n2_ := Za.mk (Zai BK132.out)
    have n3_ := Za.mk (Zai BK133.out)
    have n4_ := Za.mk (Zai BK135.out)
    have n5_ := Za.mk (Zad HB.out)
    clear HO_134000
    clear BK131
    clear BK132
    clear BK133
    clear BK135
    clear HB
    have HO_134000 := n0_
    have BK131 := n1_
    have BK132 := n2_
    have BK133 := n3_
    have BK135 := n4_
    have HB := n5_
    clear n0_ n1_ n2_ n3_ n4_ n5_
    have q32 : ((ji17) : Int) ≤ ((((Za4 l0_0 x4_1).f1).length : Int) : Int) := of_decide_eq_true (by first | (with_reducible assumption) | assumption)
    obtain ⟨i032, hi032, _, hsz32, _⟩ := info_parts info48
    have hroom32 : ((Za4 l0_0 x4_1).f1).length ≤ c134_1 := HC134_1.out
    have hC32 : Kd.C k48 _ A134_1 ((Za4 l0_0 x4_1).f1).length ((Za4 l0_0 x4_1).f1) := HR134_1.out
    have hcut32 := cut_to (P := Try.prog) 37 48 .i64 Try.underlying37 hi032 A134_1 ((Za4 l0_0 x4_1).f1).length c134_1 (ji17) (of_decide_eq_true (by first | (with_reducible assumption) | assumption)) q32 hroom32
    have hr32 := Kd.C_take (m := ((ji17) : Int).toNat) hC32 (by omega)
    have hy32 : y139.length = ((ji17) : Int).toNat := (by rw [Ny139.out, List.length_take]; omega)
    rw [← Ny139.out] at hr32
    rw [← hy32] at hcut32
    have HR142 := Za.mk hr32
    have HC142 := Za.mk (show y139.length ≤ c134_1 from by omega)
    clear hr32 hC32 hroom32 hi032 hsz32
    have KY32 := Za.mk hy32
    clear hy32
    replace q32 := eq_true q32
    refine Zfw (n := 23) (S := fun w' => w'.cell? ⟨gb133, 0, none⟩ = some (u134000) ∧ w'.cell? ⟨gb133, 1, none⟩ = some (.slice none 0 0) ∧ w'.cell? ⟨gb133, 2, none⟩ = some (.int .i64 a0_2) ∧ w'.cell? ⟨gb133, 3, none⟩ = some (.slice A0_3 l0_3.length c0_3) ∧ w'.cell? ⟨gb133, 4, none⟩ = some (.slice A0_4 l0_4.length c0_4) ∧ w'.cell? ⟨gb135, 0, none⟩ = some (.string ((Za4 l0_0 x4_1).f0)) ∧ w'.cell? ⟨gb135, 1, none⟩ = some (.slice A134_1 ((Za4 l0_0 x4_1).f1).length c134_1)) (ds := [22]) #[false, false, false, false, false, false, false, false, false, false, false, false, false, false, false, false, false, false, false, false, false, false, false] (by kernel_rfl) rfl rfl ⟨(Zaj BK133.out 0).trans rfl, (Zaj BK133.out 1).trans rfl, (Zaj BK133.out 2).trans rfl, (Zaj BK133.out 3).trans rfl, (Zaj BK133.out 4).trans rfl, (Zaj BK135.out 0).trans rfl, (Zaj BK135.out 1).trans rfl⟩ (fun hHeld => ?_); refine Zds Zak.tab6 Zak.bits6 (fun HT_ HW_ => ?_)
    generalize w30.drew = w31 at HO_134000 BK131 BK132 BK133 BK135 HB HR142 hHeld ⊢
    refine Zbx (i := 0) (N := some 29) (v := ?_) (a' := ?_) #[true, false, false, false, false, false, false, false, false, false, false, false, false, false, false, false, false, false, false, false, false, false, false] rfl rfl (Zbi HT_.out (by kernel_rfl)) (fun _ _ _ h => h) (Or.inl ⟨by rfl, ?_⟩) ?_ ?_
    rotate_left
    ·intro w'
     go_simp
     with_reducible rfl
    rotate_left
    ·simp only [Act.put, List.setIfInBounds_toArray, List.set_cons_zero, List.set_cons_succ, Zbb, Zbd]
     rfl
    refine Zbx (i := 2) (N := some 31) (v := ?_) (a' := ?_) #[true, false, true, false, false, false, false, false, false, false, false, false, false, false, false, false, false, false, false, false, false, false, false] rfl rfl (Zbi HT_.out (by kernel_rfl)) (fun _ _ _ h => h) (Or.inl ⟨by rfl, ?_⟩) ?_ ?_
    rotate_left
    ·intro w'
     go_simp
     with_reducible rfl
    rotate_left
    ·simp only [Act.put, List.setIfInBounds_toArray, List.set_cons_zero, List.set_cons_succ, Zbb, Zbd]
     rfl
    refine Zbx (i := 4) (N := some 33) (v := ?_) (a' := ?_) #[true, false, true, false, true, false, false, false, false, false, false, false, false, false, false, false, false, false, false, false, false, false, false] rfl rfl (Zbi HT_.out (by kernel_rfl)) (fun _ _ _ h => h) (Or.inl ⟨by rfl, ?_⟩) ?_ ?_
    rotate_left
    ·intro w'
     go_simp
     with_reducible rfl
    rotate_left
    ·simp only [Act.put, List.setIfInBounds_toArray, List.set_cons_zero, List.set_cons_succ, Zbb, Zbd]
     rfl
    refine Zbx (i := 10) (N := some 39) (v := ?_) (a' := ?_) #[true, false, true, false, true, false, false, false, false, false, true, false, false, false, false, false, false, false, false, false, false, false, false] rfl rfl (Zbi HT_.out (by kernel_rfl)) (fun _ _ _ h => h) (Or.inl ⟨by rfl, ?_⟩) ?_ ?_
    rotate_left
    ·intro w'
     go_simp
     with_reducible rfl
    rotate_left
    ·simp only [Act.put, List.setIfInBounds_toArray, List.set_cons_zero, List.set_cons_succ, Zbb, Zbd]
     rfl
    refine Zbx (i := 12) (N := some 41) (v := ?_) (a' := ?_) #[true, false, true, false, true, false, false, false, false, false, true, false, true, false, false, false, false, false, false, false, false, false, false] rfl rfl (Zbi HT_.out (by kernel_rfl)) (fun _ _ _ h => h) (Or.inl ⟨by rfl, ?_⟩) ?_ ?_
    rotate_left
    ·intro w'
     go_simp
     with_reducible rfl
    rotate_left
    ·simp only [Act.put, List.setIfInBounds_toArray, List.set_cons_zero, List.set_cons_succ, Zbb, Zbd]
     rfl
    refine Zdj (i := 1) (N := some 30) (v := ?_) (a' := ?_) #[true, true, true, false, true, false, false, false, false, false, true, false, true, false, false, false, false, false, false, false, false, false, false] rfl rfl (Zb8 HT_.out HW_.out (by kernel_rfl)) (fun _ _ _ h => h) (Or.inl ⟨by rfl, ?_⟩) hHeld ?_ ?_
    rotate_left
    ·rintro w' ⟨s0, s1, s2, s3, s4, s5, s6⟩
     go_simp
     with_reducible rfl
    rotate_left
    ·simp only [Act.put, List.setIfInBounds_toArray, List.set_cons_zero, List.set_cons_succ, Zbb, Zbd]
     rfl
    refine Zdj (i := 3) (N := some 32) (v := ?_) (a' := ?_) #[true, true, true, true, true, false, false, false, false, false, true, false, true, false, false, false, false, false, false, false, false, false, false] rfl rfl (Zb8 HT_.out HW_.out (by kernel_rfl)) (fun _ _ _ h => h) (Or.inl ⟨by rfl, ?_⟩) hHeld ?_ ?_
    rotate_left
    ·rintro w' ⟨s0, s1, s2, s3, s4, s5, s6⟩
     go_simp
     with_reducible rfl
    rotate_left
    ·simp only [Act.put, List.setIfInBounds_toArray, List.set_cons_zero, List.set_cons_succ, Zbb, Zbd]
     rfl
    refine Zdj (i := 5) (N := some 34) (v := ?_) (a' := ?_) #[true, true, true, true, true, true, false, false, false, false, true, false, true, false, false, false, false, false, false, false, false, false, false] rfl rfl (Zb8 HT_.out HW_.out (by kernel_rfl)) (fun _ _ _ h => h) (Or.inl ⟨by rfl, ?_⟩) hHeld ?_ ?_
    rotate_left
    ·rintro w' ⟨s0, s1, s2, s3, s4, s5, s6⟩
     go_simp
     with_reducible rfl
    rotate_left
    ·simp only [Act.put, List.setIfInBounds_toArray, List.set_cons_zero, List.set_cons_succ, Zbb, Zbd]
     rfl
    refine Zbx (i := 6) (N := some 35) (v := ?_) (a' := ?_) #[true, true, true, true, true, true, true, false, false, false, true, false, true, false, false, false, false, false, false, false, false, false, false] rfl rfl (Zbi HT_.out (by kernel_rfl)) (fun _ _ _ h => h) (Or.inl ⟨by rfl, ?_⟩) ?_ ?_
    rotate_left
    ·intro w'
     go_simp
     with_reducible rfl
    rotate_left
    ·simp only [Act.put, List.setIfInBounds_toArray, List.set_cons_zero, List.set_cons_succ, Zbb, Zbd]
     rfl
    refine Zbx (i := 7) (N := some 36) (v := ?_) (a' := ?_) #[true, true, true, true, true, true, true, true, false, false, true, false, true, false, false, false, false, false, false, false, false, false, false] rfl rfl (Zbi HT_.out (by kernel_rfl)) (fun _ _ _ h => h) (Or.inl ⟨by rfl, ?_⟩) ?_ ?_
    rotate_left
    ·intro w'
     go_simp
     with_reducible rfl
    rotate_left
    ·simp only [Act.put, List.setIfInBounds_toArray, List.set_cons_zero, List.set_cons_succ, Zbb, Zbd]
     rfl
    refine Zbx (i := 8) (N := some 37) (v := ?_) (a' := ?_) #[true, true, true, true, true, true, true, true, true, false, true, false, true, false, false, false, false, false, false, false, false, false, false] rfl rfl (Zbi HT_.out (by kernel_rfl)) (fun _ _ _ h => h) (Or.inl ⟨by rfl, ?_⟩) ?_ ?_
    rotate_left
    ·intro w'
     go_simp
     with_reducible rfl
    rotate_left
    ·simp only [Act.put, List.setIfInBounds_toArray, List.set_cons_zero, List.set_cons_succ, Zbb, Zbd]
     rfl
    refine Zdj (i := 11) (N := some 40) (v := ?_) (a' := ?_) #[true, true, true, true, true, true, true, true, true, false, true, true, true, false, false, false, false, false, false, false, false, false, false] rfl rfl (Zb8 HT_.out HW_.out (by kernel_rfl)) (fun _ _ _ h => h) (Or.inl ⟨by rfl, ?_⟩) hHeld ?_ ?_
    rotate_left
    ·rintro w' ⟨s0, s1, s2, s3, s4, s5, s6⟩
     go_simp
     with_reducible rfl
    rotate_left
    ·simp only [Act.put, List.setIfInBounds_toArray, List.set_cons_zero, List.set_cons_succ, Zbb, Zbd]
     rfl
    refine Zdj (i := 13) (N := some 42) (v := ?_) (a' := ?_) #[true, true, true, true, true, true, true, true, true, false, true, true, true, true, false, false, false, false, false, false, false, false, false] rfl rfl (Zb8 HT_.out HW_.out (by kernel_rfl)) (fun _ _ _ h => h) (Or.inl ⟨by rfl, ?_⟩) hHeld ?_ ?_
    rotate_left
    ·rintro w' ⟨s0, s1, s2, s3, s4, s5, s6⟩
     go_simp
     with_reducible rfl
    rotate_left
    ·simp only [Act.put, List.setIfInBounds_toArray, List.set_cons_zero, List.set_cons_succ, Zbb, Zbd]
     rfl
    refine Zbx (i := 14) (N := some 43) (v := ?_) (a' := ?_) #[true, true, true, true, true, true, true, true, true, false, true, true, true, true, true, false, false, false, false, false, false, false, false] rfl rfl (Zbi HT_.out (by kernel_rfl)) (fun _ _ _ h => h) (Or.inl ⟨by rfl, ?_⟩) ?_ ?_
    rotate_left
    ·intro w'
     go_simp
     with_reducible rfl
    rotate_left
    ·simp only [Act.put, List.setIfInBounds_toArray, List.set_cons_zero, List.set_cons_succ, Zbb, Zbd]
     rfl
    refine Zbx (i := 15) (N := some 44) (v := ?_) (a' := ?_) #[true, true, true, true, true, true, true, true, true, false, true, true, true, true, true, true, false, false, false, false, false, false, false] rfl rfl (Zbi HT_.out (by kernel_rfl)) (fun _ _ _ h => h) (Or.inl ⟨by rfl, ?_⟩) ?_ ?_
    rotate_left
    ·intro w'
     go_simp
     with_reducible rfl
    rotate_left
    ·simp only [Act.put, List.setIfInBounds_toArray, List.set_cons_zero, List.set_cons_succ, Zbb, Zbd]
     rfl
    refine Zbx (i := 16) (N := some 45) (v := ?_) (a' := ?_) #[true, true, true, true, true, true, true, true, true, false, true, true, true, true, true, true, true, false, false, false, false, false, false] rfl rfl (Zbi HT_.out (by kernel_rfl)) (fun _ _ _ h => h) (Or.inl ⟨by rfl, ?_⟩) ?_ ?_
    rotate_left
    ·intro w'
     go_simp
     with_reducible rfl
    rotate_left
    ·simp only [Act.put, List.setIfInBounds_toArray, List.set_cons_zero, List.set_cons_succ, Zbb, Zbd]
     rfl
    refine one_ (i := 9) (N := some 38) #[true, true, true, true, true, true, true, true, true, true, true, true, true, true, true, true, true, false, false, false, false, false, false] rfl rfl (Zck HT_.out (by kernel_rfl)) (by decide) (fun K hK => ?_)
    refine Kd.Zez k48 _ 48 ?hg (N := 38) ?hd (xs := ([] : List (S48))) (inner := []) (ok := fun _ => True) (okp := fun _ => True) ?hr ?hp (fun _ hk => hk) trivial (Below.refl _ _) (Nat.le_refl _) (by simp) ?_; (case hd => rfl); (case hg => rfl); (case hr => first | (go_simp; done) | (go_simp; rfl)); (case hp => exact (Reps.none _ _))
    intro v137 w33 ho34 hb hg_ hnew_
    clear hg_ hnew_
    (first | rw [← Ny136.out] at ho34 | (simp only [Int.reduceToNat] at ho34; rw [← Ny136.out] at ho34))
    have n0_ := Za.mk (Kd.Zeo (by (with_reducible repeat (first | apply Kd.Zbj | apply Kd.Zbk | apply Kd.Zbr)); exact HO_134000.out) (Kd.Zb4 ho34) hb)
    have n1_ := Za.mk (Kd.Zbp ho34 (Zan (by repeat (first | (with_reducible first | exact HB.out | apply Zab | apply Zaa | apply Zad | refine Zac ?_ GE131.out | refine Zac ?_ GE132.out | refine Zac ?_ GE133.out | refine Zac ?_ GE135.out) | exact HB.out))))
    have n2_ := Za.mk (Zap (g := gb131) (o := .cells #[.slice (some ad134) l0_0.length c0_0, .slice A0_1 l0_1.length c0_1, .int .i64 a0_2, .slice A0_3 l0_3.length c0_3, .slice A0_4 l0_4.length c0_4] 28 (0, 0)) (by (with_reducible repeat (first | refine Zag ?_ _ | refine Zai ?_ | refine Zae ?_ _)); exact BK131.out) hb)
    have n3_ := Za.mk (Zap (g := gb132) (o := .cells #[.slice none 0 0, .slice none 0 0, .int .i64 0, .slice none 0 0, .slice none 0 0] 28 (0, 0)) (by (with_reducible repeat (first | refine Zag ?_ _ | refine Zai ?_ | refine Zae ?_ _)); exact BK132.out) hb)
    have n4_ := Za.mk (Zap (g := gb133) (o := .cells #[u134000, .slice none 0 0, .int .i64 a0_2, .slice A0_3 l0_3.length c0_3, .slice A0_4 l0_4.length c0_4] 28 (0, 0)) (by (with_reducible repeat (first | refine Zag ?_ _ | refine Zai ?_ | refine Zae ?_ _)); exact BK133.out) hb)
    have n5_ := Za.mk (Zap (g := gb135) (o := .cells #[.string ((Za4 l0_0 x4_1).f0), .slice A134_1 ((Za4 l0_0 x4_1).f1).length c134_1] 50 (0, 0)) (by (with_reducible repeat (first | refine Zag ?_ _ | refine Zai ?_ | refine Zae ?_ _)); exact BK135.out) hb)
    have n6_ := Za.mk (Zaf (by repeat (first | (with_reducible first | exact HB.out | apply Zab | apply Zaa | apply Zad | refine Zac ?_ GE131.out | refine Zac ?_ GE132.out | refine Zac ?_ GE133.out | refine Zac ?_ GE135.out) | exact HB.out)) hb)
    clear HO_134000
    clear BK131
    clear BK132
    clear BK133
    clear BK135
    clear HB
    have HO_134000 := n0_
    have HO138 := n1_
    have BK131 := n2_
    have BK132 := n3_
    have BK133 := n4_
    have BK135 := n5_
    have HB := n6_
    clear n0_ n1_ n2_ n3_ n4_ n5_ n6_
    clear hb ho34
    refine hK.out _ _ ⟨(Zaj BK133.out 0).trans rfl, (Zaj BK133.out 1).trans rfl, (Zaj BK133.out 2).trans rfl, (Zaj BK133.out 3).trans rfl, (Zaj BK133.out 4).trans rfl, (Zaj BK135.out 0).trans rfl, (Zaj BK135.out 1).trans rfl⟩ (fun hHeld => ?_)
    clear hK K
    refine Zc4 (a' := ?_) ?_ ?_
    rotate_left
    ·show Act.put _ (some 38) _ = _
     simp only [Act.put, List.setIfInBounds_toArray, List.set_cons_zero, List.set_cons_succ, Zbb, Zbd]
     rfl
    refine one_ (i := 17) (N := some 46) #[true, true, true, true, true, true, true, true, true, true, true, true, true, true, true, true, true, true, false, false, false, false, false] rfl rfl (Zck HT_.out (by kernel_rfl)) (by decide) (fun K hK => ?_)
    refine Kd.Zem k48 (w0 := w) w.heap.size (by rfl) (.tmp 38) (.tmp 45) 37 48 (.agg #[(.int .i64 0), (.int .i64 0)]) 16 rfl Try.underlying37 info48 rfl (by decide) (by omega) v137 y136 y139 _ _ _ (fun _ => True) (fun _ => False) rfl rfl ?aO ?aR (fun _ _ h => h) (fun _ h => h.elim) ?aF ?aB ?aS ?aL ?_
    (case aR => repeat (first | exact (Kd.Zal HR142.out HB.out) | (with_reducible refine Kd.C_alloc ?_ _) | (with_reducible refine Kd.Zaw ?_ _) | (with_reducible refine Kd.C_drew ?_)))
    (case aB => exact (by repeat (first | (with_reducible first | exact HB.out | apply Zab | apply Zaa | apply Zad | refine Zac ?_ GE131.out | refine Zac ?_ GE132.out | refine Zac ?_ GE133.out | refine Zac ?_ GE135.out) | exact HB.out)))
    (case aF => exact (fun _ _ => trivial))
    (case aO => exact (by (with_reducible repeat (first | apply Kd.Zat | apply Kd.Zau | apply Kd.Zaz)); exact HO138.out))
    (case aS => exact (Zan (by repeat (first | (with_reducible first | exact HB.out | apply Zab | apply Zaa | apply Zad | refine Zac ?_ GE131.out | refine Zac ?_ GE132.out | refine Zac ?_ GE133.out | refine Zac ?_ GE135.out) | exact HB.out))))
    (case aL => have := LMc20.out; omega)
    intro v144 w35 ho hb hg hat
    rw [← Ny143.out] at ho
    have n0_ := Za.mk (Kd.S_after (ok := (fun k_ => k_ ≠ gb135)) (by (with_reducible repeat (first | apply Kd.Zbj | apply Kd.Zbk | apply Kd.Zbr)); exact HO_134000.out) hg hat)
    have n1_ := Za.mk (Zbl (g := gb131) (o := .cells #[.slice (some ad134) l0_0.length c0_0, .slice A0_1 l0_1.length c0_1, .int .i64 a0_2, .slice A0_3 l0_3.length c0_3, .slice A0_4 l0_4.length c0_4] 28 (0, 0)) (by (with_reducible repeat (first | refine Zag ?_ _ | refine Zai ?_ | refine Zae ?_ _)); exact BK131.out) hg (Kd.R_ne HO138.out BK131.out (by decide)))
    have n2_ := Za.mk (Zbl (g := gb132) (o := .cells #[.slice none 0 0, .slice none 0 0, .int .i64 0, .slice none 0 0, .slice none 0 0] 28 (0, 0)) (by (with_reducible repeat (first | refine Zag ?_ _ | refine Zai ?_ | refine Zae ?_ _)); exact BK132.out) hg (Kd.R_ne HO138.out BK132.out (by decide)))
    have n3_ := Za.mk (Zbl (g := gb133) (o := .cells #[u134000, .slice none 0 0, .int .i64 a0_2, .slice A0_3 l0_3.length c0_3, .slice A0_4 l0_4.length c0_4] 28 (0, 0)) (by (with_reducible repeat (first | refine Zag ?_ _ | refine Zai ?_ | refine Zae ?_ _)); exact BK133.out) hg (Kd.R_ne HO138.out BK133.out (by decide)))
    have n4_ := Za.mk (Zbl (g := gb135) (o := .cells #[.string ((Za4 l0_0 x4_1).f0), .slice A134_1 ((Za4 l0_0 x4_1).f1).length c134_1] 50 (0, 0)) (by (with_reducible repeat (first | refine Zag ?_ _ | refine Zai ?_ | refine Zae ?_ _)); exact BK135.out) hg (Kd.R_ne HO138.out BK135.out (by decide)))
    have n5_ := Za.mk (hb)
    have n6_ := Za.mk (ho)
    clear HO_134000
    clear BK131
    clear BK132
    clear BK133
    clear BK135
    clear HB
    clear HO138
    have HO_134000 := n0_
    have BK131 := n1_
    have BK132 := n2_
    have BK133 := n3_
    have BK135 := n4_
    have HB := n5_
    have HO145 := n6_
    clear n0_ n1_ n2_ n3_ n4_ n5_ n6_
    clear ho hb hg hat
    obtain ⟨Ao36, co36, eo36⟩ := Kd.Za9 HO145.out
    (first | subst eo36 | (injection eo36 with f1_ f2_ f3_; have f4_ := f1_.symm; have f5_ := f3_.symm; clear f1_ f2_ f3_; subst f4_; subst f5_))
    refine hK.out _ _ ⟨(Zaj BK133.out 0).trans rfl, (Zaj BK133.out 1).trans rfl, (Zaj BK133.out 2).trans rfl, (Zaj BK133.out 3).trans rfl, (Zaj BK133.out 4).trans rfl, (Zaj BK135.out 0).trans rfl, (Zaj BK135.out 1).trans rfl⟩ (fun hHeld => ?_)
    clear hK K
    refine Zc4 (a' := ?_) ?_ ?_
    rotate_left
    ·show Act.put _ (some 46) _ = _
     simp only [Act.put, List.setIfInBounds_toArray, List.set_cons_zero, List.set_cons_succ, Zbb, Zbd]
     rfl
    refine Zbx (i := 18) (N := some 47) (v := ?_) (a' := ?_) #[true, true, true, true, true, true, true, true, true, true, true, true, true, true, true, true, true, true, true, false, false, false, false] rfl rfl (Zbi HT_.out (by kernel_rfl)) (fun _ _ _ h => h) (Or.inl ⟨by rfl, ?_⟩) ?_ ?_
    rotate_left
    ·intro w'
     go_simp
     with_reducible rfl
    rotate_left
    ·simp only [Act.put, List.setIfInBounds_toArray, List.set_cons_zero, List.set_cons_succ, Zbb, Zbd]
     rfl
    refine one_ (i := 19) (N := some 48) #[true, true, true, true, true, true, true, true, true, true, true, true, true, true, true, true, true, true, true, true, false, false, false] rfl rfl (Zck HT_.out (by kernel_rfl)) (by decide) (fun K hK => ?_)
    refine value_ (w1 := ?_) (v := ?_) (by rfl) rfl ?_ ?_
    rotate_left 2
    ·go_simp
     constructor
     ·rfl
     rfl
    refine hK.out _ _ ⟨(Zaj (Zae BK133.out _) 0).trans rfl, (Zaj (Zae BK133.out _) 1).trans rfl, (Zaj (Zae BK133.out _) 2).trans rfl, (Zaj (Zae BK133.out _) 3).trans rfl, (Zaj (Zae BK133.out _) 4).trans rfl, (Zaj (Zae BK135.out _) 0).trans rfl, (Zaj (Zae BK135.out _) 1).trans rfl⟩ (fun hHeld => ?_)
    clear hK K
    refine Zc4 (a' := ?_) ?_ ?_
    rotate_left
    ·show Act.put _ (some 48) _ = _
     simp only [Act.put, List.setIfInBounds_toArray, List.set_cons_zero, List.set_cons_succ, Zbb, Zbd]
     rfl
    refine one_ (i := 20) (N := some 49) #[true, true, true, true, true, true, true, true, true, true, true, true, true, true, true, true, true, true, true, true, true, false, false] rfl rfl (Zck HT_.out (by kernel_rfl)) (by decide) (fun K hK => ?_)
    refine Kd.Zen k50 (w0 := w) w.heap.size (by rfl) (.tmp 30) (.tmp 48) 22 50 (.agg #[(.string ⟨#[]⟩), (.slice none 0 0)]) 40 rfl Try.underlying22 info50 rfl (by decide) (by omega) u134000 x134000_1 (⟨((Za4 l0_0 x4_1).f0).extract 0 ((ji14) : Int).toNat, y143⟩ : S50) [.string (((Za4 l0_0 x4_1).f0).extract 0 ((ji14) : Int).toNat), .slice Ao36 y143.length co36] (fun k_ => k_ ≠ gb135) (fun k_ => some k_ = (.slice Ao36 y143.length co36 : Value).ownBlock) rfl rfl ?aP (fun k_ hk_ => ((Kd.Za2 (ok' := fun k_ => ((fun k_ => k_ ≠ gb135)) k_ ∧ some k_ ≠ (u134000 : Value).ownBlock) (Kd.Zbc (Kd.Zc2 (HO145.out) (Kd.Zd HO_134000.out) (by decide)) BK135.out (by decide)) (fun k_ hk => ⟨hk.2, hk.1.2⟩))).1 k_ hk_.symm) ?aF ?aO ?aB ?aS ?aL ?_
    (case aP => exact k50_mkM _ _ _ (⟨((Za4 l0_0 x4_1).f0).extract 0 ((ji14) : Int).toNat, y143⟩ : S50) (Kd.Za2 (Kd.Zdd rfl (Kd.Za2 (ok' := fun k_ => ((fun k_ => k_ ≠ gb135)) k_ ∧ some k_ ≠ (u134000 : Value).ownBlock) (Kd.Zbc (Kd.Zc2 (HO145.out) (Kd.Zd HO_134000.out) (by decide)) BK135.out (by decide)) (fun k_ hk => ⟨hk.2, hk.1.2⟩))) (fun _ h_ => h_)))
    (case aB => exact (by repeat (first | (with_reducible first | exact HB.out | apply Zab | apply Zaa | apply Zad | refine Zac ?_ GE131.out | refine Zac ?_ GE132.out | refine Zac ?_ GE133.out | refine Zac ?_ GE135.out) | exact HB.out)))
    (case aF => exact (fun k_ hk => Kd.freshB (g := gb135) (o := .cells #[.string ((Za4 l0_0 x4_1).f0), .slice A134_1 ((Za4 l0_0 x4_1).f1).length c134_1] 50 (0, 0)) (by (with_reducible repeat (first | refine Zag ?_ _ | refine Zai ?_ | refine Zae ?_ _)); exact BK135.out) k_ hk))
    (case aO => exact (by (with_reducible repeat (first | apply Kd.Zbj | apply Kd.Zbk | apply Kd.Zbr)); exact Kd.Zcj HO_134000.out (fun k_ hk => ⟨hk.1, fun e_ => hk.2 e_⟩)))
    (case aS => exact (Zan (by repeat (first | (with_reducible first | exact HB.out | apply Zab | apply Zaa | apply Zad | refine Zac ?_ GE131.out | refine Zac ?_ GE132.out | refine Zac ?_ GE133.out | refine Zac ?_ GE135.out) | exact HB.out))))
    (case aL => have := LMc21.out; omega)
    intro v147 w37 ho hb hg hat
    rw [← Ny146.out] at ho
    have n0_ := Za.mk (Zbl (g := gb131) (o := .cells #[.slice (some ad134) l0_0.length c0_0, .slice A0_1 l0_1.length c0_1, .int .i64 a0_2, .slice A0_3 l0_3.length c0_3, .slice A0_4 l0_4.length c0_4] 28 (0, 0)) (by (with_reducible repeat (first | refine Zag ?_ _ | refine Zai ?_ | refine Zae ?_ _)); exact BK131.out) hg (Kd.S_ne HO_134000.out BK131.out (by decide)))
    have n1_ := Za.mk (Zbl (g := gb132) (o := .cells #[.slice none 0 0, .slice none 0 0, .int .i64 0, .slice none 0 0, .slice none 0 0] 28 (0, 0)) (by (with_reducible repeat (first | refine Zag ?_ _ | refine Zai ?_ | refine Zae ?_ _)); exact BK132.out) hg (Kd.S_ne HO_134000.out BK132.out (by decide)))
    have n2_ := Za.mk (Zbl (g := gb133) (o := .cells #[u134000, .slice none 0 0, .int .i64 a0_2, .slice A0_3 l0_3.length c0_3, .slice A0_4 l0_4.length c0_4] 28 (0, 0)) (by (with_reducible repeat (first | refine Zag ?_ _ | refine Zai ?_ | refine Zae ?_ _)); exact BK133.out) hg (Kd.S_ne HO_134000.out BK133.out (by decide)))
    have n3_ := Za.mk (Zbl (g := gb135) (o := .cells #[.string ((Za4 l0_0 x4_1).f0), .slice A134_1 ((Za4 l0_0 x4_1).f1).length c134_1] 50 (0, 0)) (by (with_reducible repeat (first | refine Zag ?_ _ | refine Zai ?_ | refine Zae ?_ _)); exact BK135.out) hg (Kd.S_away HO_134000.out (fun _ hk => hk.1)))
    have n4_ := Za.mk (hb)
    have n5_ := Za.mk (ho)
    clear BK131
    clear BK132
    clear BK133
    clear BK135
    clear HB
    clear HO_134000
    clear HO145
    have BK131 := n0_
    have BK132 := n1_
    have BK133 := n2_
    have BK135 := n3_
    have HB := n4_
    have HO148 := n5_
    clear n0_ n1_ n2_ n3_ n4_ n5_
    clear ho hb hg hat
    obtain ⟨Ao38, co38, eo38⟩ := Kd.Zdr HO148.out
    (first | subst eo38 | (injection eo38 with f1_ f2_ f3_; have f4_ := f1_.symm; have f5_ := f3_.symm; clear f1_ f2_ f3_; subst f4_; subst f5_))
    refine hK.out _ _ ⟨(Zaj BK133.out 0).trans rfl, (Zaj BK133.out 1).trans rfl, (Zaj BK133.out 2).trans rfl, (Zaj BK133.out 3).trans rfl, (Zaj BK133.out 4).trans rfl, (Zaj BK135.out 0).trans rfl, (Zaj BK135.out 1).trans rfl⟩ (fun hHeld => ?_)
    clear hK K
    refine Zc4 (a' := ?_) ?_ ?_
    rotate_left
    ·show Act.put _ (some 49) _ = _
     simp only [Act.put, List.setIfInBounds_toArray, List.set_cons_zero, List.set_cons_succ, Zbb, Zbd]
     rfl
    refine Zbx (i := 21) (N := some 50) (v := ?_) (a' := ?_) #[true, true, true, true, true, true, true, true, true, true, true, true, true, true, true, true, true, true, true, true, true, true, false] rfl rfl (Zbi HT_.out (by kernel_rfl)) (fun _ _ _ h => h) (Or.inl ⟨by rfl, ?_⟩) ?_ ?_
    rotate_left
    ·intro w'
     go_simp
     with_reducible rfl
    rotate_left
    ·simp only [Act.put, List.setIfInBounds_toArray, List.set_cons_zero, List.set_cons_succ, Zbb, Zbd]
     rfl
    refine last_ (i := 22) (N := none) #[true, true, true, true, true, true, true, true, true, true, true, true, true, true, true, true, true, true, true, true, true, true, true] rfl rfl (Zck HT_.out (by kernel_rfl)) (by decide) (fun K hK => ?_)
    have hs39 : w37.cell? ⟨gb133, 0, none⟩ = some (u134000) := (Zaj BK133.out 0).trans rfl
    have hfs39 := Zao BK133.out 0
    have hns39_0 := NB131_133.out
    have hns39_1 := NB132_133.out
    have hns39_3 := NB135_133.out
    have hms39_0 := NB133_131.out
    have hms39_1 := NB133_132.out
    have hms39_3 := NB133_135.out
    refine skip_ (w1 := ?_) (by rfl) rfl ?_ ?_
    rotate_left
    ·go_simp
     rfl
    refine hK.out _ _ ?_
    clear hK K
    refine done_ (Zek HT_.out (by kernel_rfl)) ?_
    try go_wp2
    go_roundg k1
    case measure => have := HK1.out; omega
    case rel => exact ⟨(wrap64 (x4_1 + 1)), (y146), (.slice Ao38 y146.length co38), (by first | rfl | (simp; done) | (simp [*]; done)), H', ⟨by have := HK1.out; omega⟩, ⟨by (with_reducible repeat (first | apply Kd.Zbj | apply Kd.Zbk | apply Kd.Zbr)); exact Kd.Zcj (Kd.Zbv (p := ⟨gb133, 0, none⟩) (Kd.Zcm HO148.out BK133.out (by decide)) (fun _ hk => hk.2) (.slice Ao38 y146.length co38)) (fun _ hk => trivial)⟩, ⟨by (with_reducible repeat (first | refine Zag ?_ _ | refine Zai ?_ | refine Zae ?_ _)); refine Zav ?_ NB131_133.out _; (with_reducible repeat (first | refine Zag ?_ _ | refine Zai ?_ | refine Zae ?_ _)); exact BK131.out⟩, ⟨by (with_reducible repeat (first | refine Zag ?_ _ | refine Zai ?_ | refine Zae ?_ _)); refine Zav ?_ NB132_133.out _; (with_reducible repeat (first | refine Zag ?_ _ | refine Zai ?_ | refine Zae ?_ _)); exact BK132.out⟩, ⟨by (with_reducible repeat (first | refine Zag ?_ _ | refine Zai ?_ | refine Zae ?_ _)); refine Zaq (cs := #[u134000, .slice none 0 0, .int .i64 a0_2, .slice A0_3 l0_3.length c0_3, .slice A0_4 l0_4.length c0_4]) ?_ 0 _ rfl; (with_reducible repeat (first | refine Zag ?_ _ | refine Zai ?_ | refine Zae ?_ _)); exact BK133.out⟩, ⟨by repeat (first | (with_reducible first | exact HB.out | apply Zab | apply Zaa | apply Zad | refine Zac ?_ GE131.out | refine Zac ?_ GE132.out | refine Zac ?_ GE133.out | refine Zac ?_ GE135.out) | exact HB.out)⟩⟩
 case rest =>
  clear HC2
  try clear c1
  try clear p1
  try clear q1
  try clear hx1
  try clear c2
  try clear p2
  try clear q3
  try clear c4
  try clear c5
  try clear p6
  try clear c8
  try clear c9
  try clear c10
  try clear c11
  try clear c11b0
  try clear c12
  try clear c12b0
  try clear c13
  try clear c13b0
  try clear p13
  try clear q13
  try clear hx13
  try clear c15
  try clear c15b0
  try clear c15b1
  try clear c16
  try clear c16b0
  try clear c16b1
  try clear c18
  try clear c18b0
  try clear c18b1
  try clear c19
  try clear c19b0
  try clear c19b1
  try clear c20
  try clear c21
  try clear c22
  try clear c23
  try clear c26
  try clear c27
  try clear c28
  try clear q32
  try clear c40
  try clear c41
  try clear c43
  try clear c44
  try clear hcz10_0
  try clear hcz10_1
  try clear hcz10_2
  try clear hcz10_3
  try clear hcz10_4
  try clear hcz24_0
  try clear hcz24_1
  try clear hcz24_2
  try clear hcz24_3
  try clear hcz24_4
  try clear hcz29_0
  try clear hcz29_1
  try clear hcz42_0
  try clear hcz42_1
  try clear hcz42_2
  try clear hcz42_3
  try clear hcz42_4
  try clear hcz45_0
  try clear hcz45_1
  try clear hcz45_2
  try clear hcz45_3
  try clear hcz45_4
  try clear hcz6_0
  try clear hcz6_1
  try clear hcz6_2
  try clear hcz6_3
  try clear hcz6_4
  try clear hfz10_0
  try clear hfz10_1
  try clear hfz10_2
  try clear hfz10_3
  try clear hfz10_4
  try clear hfz24_0
  try clear hfz24_1
  try clear hfz24_2
  try clear hfz24_3
  try clear hfz24_4
  try clear hfz29_0
  try clear hfz29_1
  try clear hfz42_0
  try clear hfz42_1
  try clear hfz42_2
  try clear hfz42_3
  try clear hfz42_4
  try clear hfz45_0
  try clear hfz45_1
  try clear hfz45_2
  try clear hfz45_3
  try clear hfz45_4
  try clear hfz6_0
  try clear hfz6_1
  try clear hfz6_2
  try clear hfz6_3
  try clear hfz6_4
  try clear hx134_0
  try clear hx134_1
  try clear p134
  try clear p2
  try clear q134
  try clear q32
  obtain ⟨kq, x134000_1, u134000, HA, HJ1, HO_134000, BK131, BK132, BK133, HB⟩ := hcut
  cases kq with
  | zero => exact absurd HA.out (by simp [Zak.j1])
  | succ kj1 =>
   have H := HA.out
   clear HA
   simp only [Zak.j1] at H
   have H' := Za.mk H
   clear H
   go_wp2
   go_loopg [6] kj1 (fun kq v6 w' => ∃ (x6_2 : Int) (x134001_2 : List (S31)) (u134001 : Value), v6 = .int .i64 x6_2 ∧ Za (Zak.l1 kq x6_2 l0_0 l0_1 a0_2 l0_3 l0_4 x134000_1 x134001_2 a0_2 l0_3 l0_4 = some (r1, r2, r3, r4, r5)) ∧ Za (kq ≤ kj1) ∧ Za (Kd.S k50 50 w' w.heap.size (fun _ => True) u134000 x134000_1) ∧ Za (Kd.R k31 31 w' w.heap.size (fun _ => True) u134001 x134001_2) ∧ Za (w'.heap[gb131]? = some (.cells #[(.slice A0_0 l0_0.length c0_0), (.slice A0_1 l0_1.length c0_1), .int .i64 a0_2, (.slice A0_3 l0_3.length c0_3), (.slice A0_4 l0_4.length c0_4)] 28 (0, 0))) ∧ Za (w'.heap[gb132]? = some (.cells #[(.slice none 0 0), (.slice none 0 0), .int .i64 0, (.slice none 0 0), (.slice none 0 0)] 28 (0, 0))) ∧ Za (w'.heap[gb133]? = some (.cells #[u134000, u134001, .int .i64 a0_2, (.slice A0_3 l0_3.length c0_3), (.slice A0_4 l0_4.length c0_4)] 28 (0, 0))) ∧ Za (Below w.heap.size w w'))
   case atStart => exact ⟨(0), (([] : List (S31))), (.slice none 0 0), (by first | rfl | (simp; done) | (simp [*]; done)), H', ⟨Nat.le_refl _⟩, ⟨by (with_reducible repeat (first | apply Kd.Zbj | apply Kd.Zbk | apply Kd.Zbr)); exact HO_134000.out⟩, ⟨by first | exact Kd.Zfa _ _ _ _ _ | exact Kd.N_nil _ _ _ _ _ | exact Kd.Ze _ _ _ _ _ | exact Kd.Q_nil _ _ _ _ _ | exact Kd.S_nil _ _ _ _ _⟩, ⟨by (with_reducible repeat (first | refine Zag ?_ _ | refine Zai ?_ | refine Zae ?_ _)); exact BK131.out⟩, ⟨by (with_reducible repeat (first | refine Zag ?_ _ | refine Zai ?_ | refine Zae ?_ _)); exact BK132.out⟩, ⟨by (with_reducible repeat (first | refine Zag ?_ _ | refine Zai ?_ | refine Zae ?_ _)); exact BK133.out⟩, ⟨by repeat (first | (with_reducible first | exact HB.out | apply Zab | apply Zaa | apply Zad | refine Zac ?_ GE131.out | refine Zac ?_ GE132.out | refine Zac ?_ GE133.out) | exact HB.out)⟩⟩
   case round =>
    clear H'
    try clear c1
    try clear p1
    try clear q1
    try clear hx1
    try clear c2
    try clear p2
    try clear q3
    try clear c4
    try clear c5
    try clear p6
    try clear c8
    try clear c9
    try clear c10
    try clear c11
    try clear c11b0
    try clear c12
    try clear c12b0
    try clear c13
    try clear c13b0
    try clear p13
    try clear q13
    try clear hx13
    try clear c15
    try clear c15b0
    try clear c15b1
    try clear c16
    try clear c16b0
    try clear c16b1
    try clear c18
    try clear c18b0
    try clear c18b1
    try clear c19
    try clear c19b0
    try clear c19b1
    try clear c20
    try clear c21
    try clear c22
    try clear c23
    try clear c26
    try clear c27
    try clear c28
    try clear q32
    try clear c40
    try clear c41
    try clear c43
    try clear c44
    try clear hcz10_0
    try clear hcz10_1
    try clear hcz10_2
    try clear hcz10_3
    try clear hcz10_4
    try clear hcz24_0
    try clear hcz24_1
    try clear hcz24_2
    try clear hcz24_3
    try clear hcz24_4
    try clear hcz29_0
    try clear hcz29_1
    try clear hcz42_0
    try clear hcz42_1
    try clear hcz42_2
    try clear hcz42_3
    try clear hcz42_4
    try clear hcz45_0
    try clear hcz45_1
    try clear hcz45_2
    try clear hcz45_3
    try clear hcz45_4
    try clear hcz6_0
    try clear hcz6_1
    try clear hcz6_2
    try clear hcz6_3
    try clear hcz6_4
    try clear hfz10_0
    try clear hfz10_1
    try clear hfz10_2
    try clear hfz10_3
    try clear hfz10_4
    try clear hfz24_0
    try clear hfz24_1
    try clear hfz24_2
    try clear hfz24_3
    try clear hfz24_4
    try clear hfz29_0
    try clear hfz29_1
    try clear hfz42_0
    try clear hfz42_1
    try clear hfz42_2
    try clear hfz42_3
    try clear hfz42_4
    try clear hfz45_0
    try clear hfz45_1
    try clear hfz45_2
    try clear hfz45_3
    try clear hfz45_4
    try clear hfz6_0
    try clear hfz6_1
    try clear hfz6_2
    try clear hfz6_3
    try clear hfz6_4
    try clear hx134_0
    try clear hx134_1
    try clear p1
    try clear p13
    try clear p134
    try clear p2
    try clear p6
    try clear q1
    try clear q13
    try clear q134
    try clear q3
    try clear q32
    obtain ⟨x6_2, x134001_2, u134001, rfl, HA, HK2, HO_134000, HO_134001, BK131, BK132, BK133, HB⟩ := hrel
    cases gk with
    | zero => exact absurd HA.out (by simp [Zak.l1])
    | succ k2 =>
     have H := HA.out
     clear HA
     simp only [Zak.l1] at H
     have HC46 := Za.mk H
     clear H
     go_upto_region 8 with (fail)
     go_cut [59] (fun v59 wc => ∃ (kq : Nat) (x59_45 : Bool), v59 = .bool x59_45 ∧ Za (Zak.j3 kq x6_2 x59_45 l0_0 l0_1 a0_2 l0_3 l0_4 x134000_1 x134001_2 a0_2 l0_3 l0_4 = some (r1, r2, r3, r4, r5)) ∧ Za (kq ≤ k2) ∧ Za (Kd.S k50 50 wc w.heap.size (fun _ => True) u134000 x134000_1) ∧ Za (Kd.R k31 31 wc w.heap.size (fun _ => True) u134001 x134001_2) ∧ Za (wc.heap[gb131]? = some (.cells #[(.slice A0_0 l0_0.length c0_0), (.slice A0_1 l0_1.length c0_1), .int .i64 a0_2, (.slice A0_3 l0_3.length c0_3), (.slice A0_4 l0_4.length c0_4)] 28 (0, 0))) ∧ Za (wc.heap[gb132]? = some (.cells #[(.slice none 0 0), (.slice none 0 0), .int .i64 0, (.slice none 0 0), (.slice none 0 0)] 28 (0, 0))) ∧ Za (wc.heap[gb133]? = some (.cells #[u134000, u134001, .int .i64 a0_2, (.slice A0_3 l0_3.length c0_3), (.slice A0_4 l0_4.length c0_4)] 28 (0, 0))) ∧ Za (Below w.heap.size w wc))
     case first =>
      have H := HC46.out
      clear HC46
      by_cases c47 : x6_2 < (l0_1.length : Int)
      rotate_left
      ·rw [if_neg c47] at H
       have c47b0 : decide (x6_2 < (l0_1.length : Int)) = false := decide_eq_false c47
       clear c47
       (first | rw [c47b0] | (simp only [Zbb, Zbd]; rw [c47b0]) | skip)
       have H' := Za.mk H
       clear H
       have hnb51 := NB131_132.out
       have hnc51 := NB132_131.out
       have hnb52 := NB131_133.out
       have hnc52 := NB133_131.out
       obtain ⟨hcz53_0, hcz53_1, hcz53_2, hcz53_3, hcz53_4, hfz53_0, hfz53_1, hfz53_2, hfz53_3, hfz53_4⟩ := Zde BK131.out
       go_wp2
       go_meet
       case rel => exact ⟨_, (false), (by first | rfl | (simp; done) | (simp [*]; done)), H', ⟨by have := HJ1.out; have := HK2.out; first | omega | exact Nat.le_refl _⟩, ⟨by (with_reducible repeat (first | apply Kd.Zbj | apply Kd.Zbk | apply Kd.Zbr)); exact HO_134000.out⟩, ⟨by (with_reducible repeat (first | apply Kd.Zat | apply Kd.Zau | apply Kd.Zaz)); exact HO_134001.out⟩, ⟨by (with_reducible repeat (first | refine Zag ?_ _ | refine Zai ?_ | refine Zae ?_ _)); exact BK131.out⟩, ⟨by (with_reducible repeat (first | refine Zag ?_ _ | refine Zai ?_ | refine Zae ?_ _)); exact BK132.out⟩, ⟨by (with_reducible repeat (first | refine Zag ?_ _ | refine Zai ?_ | refine Zae ?_ _)); exact BK133.out⟩, ⟨by repeat (first | (with_reducible first | exact HB.out | apply Zab | apply Zaa | apply Zad | refine Zac ?_ GE131.out | refine Zac ?_ GE132.out | refine Zac ?_ GE133.out) | exact HB.out)⟩⟩
      rw [if_pos c47] at H
      have c47b0 : decide (x6_2 < (l0_1.length : Int)) = true := decide_eq_true c47
      clear c47
      (first | rw [c47b0] | (simp only [Zbb, Zbd]; rw [c47b0]) | skip)
      have H' := Za.mk H
      clear H
      have hnb48 := NB131_132.out
      have hnc48 := NB132_131.out
      have hnb49 := NB131_133.out
      have hnc49 := NB133_131.out
      obtain ⟨hcz50_0, hcz50_1, hcz50_2, hcz50_3, hcz50_4, hfz50_0, hfz50_1, hfz50_2, hfz50_3, hfz50_4⟩ := Zde BK131.out
      go_wp2
      go_meet
      case rel => exact ⟨_, (decide (x6_2 < 16)), (by first | rfl | (simp; done) | (simp [*]; done)), H', ⟨by have := HJ1.out; have := HK2.out; first | omega | exact Nat.le_refl _⟩, ⟨by (with_reducible repeat (first | apply Kd.Zbj | apply Kd.Zbk | apply Kd.Zbr)); exact HO_134000.out⟩, ⟨by (with_reducible repeat (first | apply Kd.Zat | apply Kd.Zau | apply Kd.Zaz)); exact HO_134001.out⟩, ⟨by (with_reducible repeat (first | refine Zag ?_ _ | refine Zai ?_ | refine Zae ?_ _)); exact BK131.out⟩, ⟨by (with_reducible repeat (first | refine Zag ?_ _ | refine Zai ?_ | refine Zae ?_ _)); exact BK132.out⟩, ⟨by (with_reducible repeat (first | refine Zag ?_ _ | refine Zai ?_ | refine Zae ?_ _)); exact BK133.out⟩, ⟨by repeat (first | (with_reducible first | exact HB.out | apply Zab | apply Zaa | apply Zad | refine Zac ?_ GE131.out | refine Zac ?_ GE132.out | refine Zac ?_ GE133.out) | exact HB.out)⟩⟩
     case rest =>
      clear HC46
      try clear c1
      try clear p1
      try clear q1
      try clear hx1
      try clear c2
      try clear p2
      try clear q3
      try clear c4
      try clear c5
      try clear p6
      try clear c8
      try clear c9
      try clear c10
      try clear c11
      try clear c11b0
      try clear c12
      try clear c12b0
      try clear c13
      try clear c13b0
      try clear p13
      try clear q13
      try clear hx13
      try clear c15
      try clear c15b0
      try clear c15b1
      try clear c16
      try clear c16b0
      try clear c16b1
      try clear c18
      try clear c18b0
      try clear c18b1
      try clear c19
      try clear c19b0
      try clear c19b1
      try clear c20
      try clear c21
      try clear c22
      try clear c23
      try clear c26
      try clear c27
      try clear c28
      try clear q32
      try clear c40
      try clear c41
      try clear c43
      try clear c44
      try clear c47
      try clear c47b0
      try clear c48
      try clear c49
      try clear c51
      try clear c52
      try clear hcz10_0
      try clear hcz10_1
      try clear hcz10_2
      try clear hcz10_3
      try clear hcz10_4
      try clear hcz24_0
      try clear hcz24_1
      try clear hcz24_2
      try clear hcz24_3
      try clear hcz24_4
      try clear hcz29_0
      try clear hcz29_1
      try clear hcz42_0
      try clear hcz42_1
      try clear hcz42_2
      try clear hcz42_3
      try clear hcz42_4
      try clear hcz45_0
      try clear hcz45_1
      try clear hcz45_2
      try clear hcz45_3
      try clear hcz45_4
      try clear hcz50_0
      try clear hcz50_1
      try clear hcz50_2
      try clear hcz50_3
      try clear hcz50_4
      try clear hcz53_0
      try clear hcz53_1
      try clear hcz53_2
      try clear hcz53_3
      try clear hcz53_4
      try clear hcz6_0
      try clear hcz6_1
      try clear hcz6_2
      try clear hcz6_3
      try clear hcz6_4
      try clear hfz10_0
      try clear hfz10_1
      try clear hfz10_2
      try clear hfz10_3
      try clear hfz10_4
      try clear hfz24_0
      try clear hfz24_1
      try clear hfz24_2
      try clear hfz24_3
      try clear hfz24_4
      try clear hfz29_0
      try clear hfz29_1
      try clear hfz42_0
      try clear hfz42_1
      try clear hfz42_2
      try clear hfz42_3
      try clear hfz42_4
      try clear hfz45_0
      try clear hfz45_1
      try clear hfz45_2
      try clear hfz45_3
      try clear hfz45_4
      try clear hfz50_0
      try clear hfz50_1
      try clear hfz50_2
      try clear hfz50_3
      try clear hfz50_4
      try clear hfz53_0
      try clear hfz53_1
      try clear hfz53_2
      try clear hfz53_3
      try clear hfz53_4
      try clear hfz6_0
      try clear hfz6_1
      try clear hfz6_2
      try clear hfz6_3
      try clear hfz6_4
      try clear hx134_0
      try clear hx134_1
      try clear p1
      try clear p13
      try clear p134
      try clear p2
      try clear p6
      try clear q1
      try clear q13
      try clear q134
      try clear q3
      try clear q32
      obtain ⟨kq, x59_45, rfl, HA, HJ45, HO_134000, HO_134001, BK131, BK132, BK133, HB⟩ := hcut
      cases kq with
      | zero => exact absurd HA.out (by simp [Zak.j3])
      | succ kj45 =>
       have H := HA.out
       clear HA
       simp only [Zak.j3] at H
       by_cases c54 : x59_45 = true
       rotate_left
       ·replace c54 := Bool.eq_false_iff.mpr c54
        subst c54
        have H1 : ((some (([] : List Int) : List Int)).bind fun y149 => (if 0 ≤ (mn (l0_3.length : Int) 14) then (if (mn (l0_3.length : Int) 14) ≤ (l0_3.length : Int) then (if y149.length + (l0_3.take ((mn (l0_3.length : Int) 14) : Int).toNat).length < 17592186044416 then ((some (([] : List Int) : List Int)).bind fun y156 => (if 0 ≤ (mn (l0_4.length : Int) 14) then (if (mn (l0_4.length : Int) 14) ≤ (l0_4.length : Int) then (if y156.length + (l0_4.take ((mn (l0_4.length : Int) 14) : Int).toNat).length < 17592186044416 then (some (x134000_1, x134001_2, a0_2, (y149 ++ (l0_3.take ((mn (l0_3.length : Int) 14) : Int).toNat)), (y156 ++ (l0_4.take ((mn (l0_4.length : Int) 14) : Int).toNat)))) else (none)) else (none)) else (none))) else (none)) else (none)) else (none))) = some (r1, r2, r3, r4, r5) := by rw [if_neg (show ¬ (false = true) by decide)] at H; exact H
        clear H
        have H := H1
        clear H1
        obtain ⟨y149, hy149⟩ : ∃ y_ : List Int, y_ = (([] : List Int)) := ⟨_, rfl⟩
        replace H : (if 0 ≤ (mn (l0_3.length : Int) 14) then (if (mn (l0_3.length : Int) 14) ≤ (l0_3.length : Int) then (if y149.length + (l0_3.take ((mn (l0_3.length : Int) 14) : Int).toNat).length < 17592186044416 then ((some (([] : List Int) : List Int)).bind fun y156 => (if 0 ≤ (mn (l0_4.length : Int) 14) then (if (mn (l0_4.length : Int) 14) ≤ (l0_4.length : Int) then (if y156.length + (l0_4.take ((mn (l0_4.length : Int) 14) : Int).toNat).length < 17592186044416 then (some (x134000_1, x134001_2, a0_2, (y149 ++ (l0_3.take ((mn (l0_3.length : Int) 14) : Int).toNat)), (y156 ++ (l0_4.take ((mn (l0_4.length : Int) 14) : Int).toNat)))) else (none)) else (none)) else (none))) else (none)) else (none)) else (none)) = some (r1, r2, r3, r4, r5) := by first | (rw [hy149]; with_reducible exact H) | (have H2_ := (Option.bind_some _ _).symm.trans H; rw [hy149]; with_reducible exact H2_) | (have H2_ := (Option.bind_some _ _).symm.trans H; with_reducible exact H2_) | with_reducible exact H | (rw [hy149]; exact H) | exact H
        have Ny149 := Za.mk hy149
        clear hy149
        obtain ⟨ji88, hji88⟩ : ∃ j_ : Int, (mn (l0_3.length : Int) 14) = j_ := ⟨_, rfl⟩
        replace H : (if 0 ≤ (ji88) then (if (ji88) ≤ (l0_3.length : Int) then (if y149.length + (l0_3.take ((ji88) : Int).toNat).length < 17592186044416 then ((some (([] : List Int) : List Int)).bind fun y156 => (if 0 ≤ (mn (l0_4.length : Int) 14) then (if (mn (l0_4.length : Int) 14) ≤ (l0_4.length : Int) then (if y156.length + (l0_4.take ((mn (l0_4.length : Int) 14) : Int).toNat).length < 17592186044416 then (some (x134000_1, x134001_2, a0_2, (y149 ++ (l0_3.take ((ji88) : Int).toNat)), (y156 ++ (l0_4.take ((mn (l0_4.length : Int) 14) : Int).toNat)))) else (none)) else (none)) else (none))) else (none)) else (none)) else (none)) = some (r1, r2, r3, r4, r5) := by first | (rw [hji88] at H; exact H) | (simp only [hji88] at H ⊢; exact H)
        have hji88_ : (if 14 < (l0_3.length : Int) then 14 else (l0_3.length : Int)) = ji88 := hji88
        by_cases c89 : 0 ≤ (ji88)
        rotate_left
        ·rw [if_neg c89] at H
         exact absurd H (by simp)
        rw [if_pos c89] at H
        have c89b0 := eq_true c89
        have c89b1 : decide (0 ≤ (ji88)) = true := decide_eq_true c89
        clear c89
        by_cases c90 : (ji88) ≤ (l0_3.length : Int)
        rotate_left
        ·rw [if_neg c90] at H
         exact absurd H (by simp)
        rw [if_pos c90] at H
        have c90b0 := eq_true c90
        have c90b1 : decide ((ji88) ≤ (l0_3.length : Int)) = true := decide_eq_true c90
        clear c90
        by_cases c91 : y149.length + (l0_3.take ((ji88) : Int).toNat).length < 17592186044416
        rotate_left
        ·rw [if_neg c91] at H
         exact absurd H (by simp)
        rw [if_pos c91] at H
        have LMc91 := Za.mk c91
        clear c91
        obtain ⟨y153, hy153⟩ : ∃ y_ : List Int, y_ = (y149 ++ (l0_3.take ((ji88) : Int).toNat)) := ⟨_, rfl⟩
        replace H : ((some (([] : List Int) : List Int)).bind fun y156 => (if 0 ≤ (mn (l0_4.length : Int) 14) then (if (mn (l0_4.length : Int) 14) ≤ (l0_4.length : Int) then (if y156.length + (l0_4.take ((mn (l0_4.length : Int) 14) : Int).toNat).length < 17592186044416 then (some (x134000_1, x134001_2, a0_2, y153, (y156 ++ (l0_4.take ((mn (l0_4.length : Int) 14) : Int).toNat)))) else (none)) else (none)) else (none))) = some (r1, r2, r3, r4, r5) := by first | (rw [hy153]; with_reducible exact H) | (have H2_ := (Option.bind_some _ _).symm.trans H; rw [hy153]; with_reducible exact H2_) | (have H2_ := (Option.bind_some _ _).symm.trans H; with_reducible exact H2_) | with_reducible exact H | (rw [hy153]; exact H) | exact H
        have Ny153 := Za.mk hy153
        clear hy153
        obtain ⟨y156, hy156⟩ : ∃ y_ : List Int, y_ = (([] : List Int)) := ⟨_, rfl⟩
        replace H : (if 0 ≤ (mn (l0_4.length : Int) 14) then (if (mn (l0_4.length : Int) 14) ≤ (l0_4.length : Int) then (if y156.length + (l0_4.take ((mn (l0_4.length : Int) 14) : Int).toNat).length < 17592186044416 then (some (x134000_1, x134001_2, a0_2, y153, (y156 ++ (l0_4.take ((mn (l0_4.length : Int) 14) : Int).toNat)))) else (none)) else (none)) else (none)) = some (r1, r2, r3, r4, r5) := by first | (rw [hy156]; with_reducible exact H) | (have H2_ := (Option.bind_some _ _).symm.trans H; rw [hy156]; with_reducible exact H2_) | (have H2_ := (Option.bind_some _ _).symm.trans H; with_reducible exact H2_) | with_reducible exact H | (rw [hy156]; exact H) | exact H
        have Ny156 := Za.mk hy156
        clear hy156
        obtain ⟨ji92, hji92⟩ : ∃ j_ : Int, (mn (l0_4.length : Int) 14) = j_ := ⟨_, rfl⟩
        replace H : (if 0 ≤ (ji92) then (if (ji92) ≤ (l0_4.length : Int) then (if y156.length + (l0_4.take ((ji92) : Int).toNat).length < 17592186044416 then (some (x134000_1, x134001_2, a0_2, y153, (y156 ++ (l0_4.take ((ji92) : Int).toNat)))) else (none)) else (none)) else (none)) = some (r1, r2, r3, r4, r5) := by first | (rw [hji92] at H; exact H) | (simp only [hji92] at H ⊢; exact H)
        have hji92_ : (if 14 < (l0_4.length : Int) then 14 else (l0_4.length : Int)) = ji92 := hji92
        by_cases c93 : 0 ≤ (ji92)
        rotate_left
        ·rw [if_neg c93] at H
         exact absurd H (by simp)
        rw [if_pos c93] at H
        have c93b0 := eq_true c93
        have c93b1 : decide (0 ≤ (ji92)) = true := decide_eq_true c93
        clear c93
        by_cases c94 : (ji92) ≤ (l0_4.length : Int)
        rotate_left
        ·rw [if_neg c94] at H
         exact absurd H (by simp)
        rw [if_pos c94] at H
        have c94b0 := eq_true c94
        have c94b1 : decide ((ji92) ≤ (l0_4.length : Int)) = true := decide_eq_true c94
        clear c94
        by_cases c95 : y156.length + (l0_4.take ((ji92) : Int).toNat).length < 17592186044416
        rotate_left
        ·rw [if_neg c95] at H
         exact absurd H (by simp)
        rw [if_pos c95] at H
        have LMc95 := Za.mk c95
        clear c95
        obtain ⟨y160, hy160⟩ : ∃ y_ : List Int, y_ = (y156 ++ (l0_4.take ((ji92) : Int).toNat)) := ⟨_, rfl⟩
        replace H : (some (x134000_1, x134001_2, a0_2, y153, y160)) = some (r1, r2, r3, r4, r5) := by first | (rw [hy160]; with_reducible exact H) | (have H2_ := (Option.bind_some _ _).symm.trans H; rw [hy160]; with_reducible exact H2_) | (have H2_ := (Option.bind_some _ _).symm.trans H; with_reducible exact H2_) | with_reducible exact H | (rw [hy160]; exact H) | exact H
        have Ny160 := Za.mk hy160
        clear hy160
        simp only [Option.some.injEq, Prod.mk.injEq] at H
        obtain ⟨rfl, rfl, rfl, rfl, rfl⟩ := H
        go_wp2_with (first | ((with_reducible refine Zax (N := 120) rfl ?_); refine Kd.Zc9 (Kd.int .i64) _ 3 ?hg (N := 120) ?hd (xs := ([] : List Int)) (inner := []) (ok := fun _ => True) (okp := fun _ => True) ?hr ?hp (fun _ hk => hk) trivial (Below.refl _ _) (Nat.le_refl _) (by simp) ?_; (case hd => rfl); (case hg => rfl); (case hr => first | (go_simp; done) | (go_simp; rfl)); (case hp => exact (Reps.none _ _)); intro v150 w96 ho97 hb hg_ hnew_; clear hg_ hnew_; (first | rw [← Ny149.out] at ho97 | (simp only [Int.reduceToNat] at ho97; rw [← Ny149.out] at ho97)); have n0_ := Za.mk (Kd.Zcw (by (with_reducible repeat (first | apply Kd.Zbj | apply Kd.Zbk | apply Kd.Zbr)); exact HO_134000.out) hb); have n1_ := Za.mk (Kd.Zby (by (with_reducible repeat (first | apply Kd.Zat | apply Kd.Zau | apply Kd.Zaz)); exact HO_134001.out) (Kd.Zb4 ho97) hb); have n2_ := Za.mk (Kd.Zbp ho97 (Zan (by repeat (first | (with_reducible first | exact HB.out | apply Zab | apply Zaa | apply Zad | refine Zac ?_ GE131.out | refine Zac ?_ GE132.out | refine Zac ?_ GE133.out) | exact HB.out)))); have n3_ := Za.mk (Zap (g := gb131) (o := .cells #[.slice A0_0 l0_0.length c0_0, .slice A0_1 l0_1.length c0_1, .int .i64 a0_2, .slice A0_3 l0_3.length c0_3, .slice A0_4 l0_4.length c0_4] 28 (0, 0)) (by (with_reducible repeat (first | refine Zag ?_ _ | refine Zai ?_ | refine Zae ?_ _)); exact BK131.out) hb); have n4_ := Za.mk (Zap (g := gb132) (o := .cells #[.slice none 0 0, .slice none 0 0, .int .i64 0, .slice none 0 0, .slice none 0 0] 28 (0, 0)) (by (with_reducible repeat (first | refine Zag ?_ _ | refine Zai ?_ | refine Zae ?_ _)); exact BK132.out) hb); have n5_ := Za.mk (Zap (g := gb133) (o := .cells #[u134000, u134001, .int .i64 a0_2, .slice A0_3 l0_3.length c0_3, .slice A0_4 l0_4.length c0_4] 28 (0, 0)) (by (with_reducible repeat (first | refine Zag ?_ _ | refine Zai ?_ | refine Zae ?_ _)); exact BK133.out) hb); have n6_ := Za.mk (Zaf (by repeat (first | (with_reducible first | exact HB.out | apply Zab | apply Zaa | apply Zad | refine Zac ?_ GE131.out | refine Zac ?_ GE132.out | refine Zac ?_ GE133.out) | exact HB.out)) hb); clear HO_134000; clear HO_134001; clear BK131; clear BK132; clear BK133; clear HB; have HO_134000 := n0_; have HO_134001 := n1_; have HO151 := n2_; have BK131 := n3_; have BK132 := n4_; have BK133 := n5_; have HB := n6_; clear n0_ n1_ n2_ n3_ n4_ n5_ n6_; clear hb ho97; have hnb98 := NB131_132.out; have hnc98 := NB132_131.out; have hnb99 := NB131_133.out; have hnc99 := NB133_131.out; obtain ⟨hcz100_0, hcz100_1, hcz100_2, hcz100_3, hcz100_4, hfz100_0, hfz100_1, hfz100_2, hfz100_3, hfz100_4⟩ := Zde BK131.out; obtain ⟨i0101, hi0101, _, hsz101, _⟩ := info_parts info3; obtain ⟨hcut101, hA101, hC101⟩ := Zdi (P := Try.prog) (Value.int .i64) 0 24 3 .i64 Try.underlying24 hi0101 hsz101 A0_3 c0_3 l0_3 (ji88) (of_decide_eq_true (by first | (with_reducible assumption) | assumption)) (of_decide_eq_true (by first | (with_reducible assumption) | assumption)) HC0_3.out; have HR152 := Za.mk (Kd.Zdy (h1 := fun _ => rfl) (hA101 _ (Kd.Zdq HR0_3.out))); have HC152 := Za.mk hC101; clear hA101 hC101 hi0101 hsz101) | ((with_reducible refine Zb7 (b := .append) (xs := #[.tmp 120, .tmp 129]) rfl ?_); at_builtin; refine Kd.Zc6 (Kd.int .i64) (w0 := w) w.heap.size rfl (.tmp 120) (.tmp 129) 24 3 (.int .i64 0) 8 rfl Try.underlying24 info3 rfl (by decide) (by omega) v150 y149 (l0_3.take ((ji88) : Int).toNat) _ _ _ (fun _ => True) (fun _ => False) rfl rfl ?aO ?aR (fun _ _ h => h) (fun _ h => h.elim) ?aF ?aB ?aS ?aL ?_; (case aR => first | (have q_ := (Kd.Zal HR152.out HB.out); rw [show (l0_3.take ((ji88) : Int).toNat).length = (ji88).toNat from (by rw [List.length_take]; have h_ : ((ji88) : Int) ≤ (l0_3.length : Int) := (by first | exact of_decide_eq_true (by first | (with_reducible assumption) | assumption) | (have h2_ := hji88_; split at h2_ <;> omega)); omega)] at q_; exact q_) | (rw [← show (l0_3.take ((ji88) : Int).toNat).length = (ji88).toNat from (by rw [List.length_take]; have h_ : ((ji88) : Int) ≤ (l0_3.length : Int) := (by first | exact of_decide_eq_true (by first | (with_reducible assumption) | assumption) | (have h2_ := hji88_; split at h2_ <;> omega)); omega)]; repeat (first | exact (Kd.Zal HR152.out HB.out) | (with_reducible refine Kd.C_alloc ?_ _) | (with_reducible refine Kd.Zaw ?_ _) | (with_reducible refine Kd.C_drew ?_))) | (repeat (first | exact (Kd.Zal HR152.out HB.out) | (with_reducible refine Kd.C_alloc ?_ _) | (with_reducible refine Kd.Zaw ?_ _) | (with_reducible refine Kd.C_drew ?_)))); (case aB => exact (by repeat (first | (with_reducible first | exact HB.out | apply Zab | apply Zaa | apply Zad | refine Zac ?_ GE131.out | refine Zac ?_ GE132.out | refine Zac ?_ GE133.out) | exact HB.out))); (case aF => exact (fun _ _ => trivial)); (case aO => exact (by (with_reducible repeat (first | apply Kd.Zat | apply Kd.Zau | apply Kd.Zaz)); exact HO151.out)); (case aS => exact (Zan (by repeat (first | (with_reducible first | exact HB.out | apply Zab | apply Zaa | apply Zad | refine Zac ?_ GE131.out | refine Zac ?_ GE132.out | refine Zac ?_ GE133.out) | exact HB.out)))); (case aL => have := LMc91.out; have hlx_ := (show (l0_3.take ((ji88) : Int).toNat).length = (ji88).toNat from (by rw [List.length_take]; have h_ : ((ji88) : Int) ≤ (l0_3.length : Int) := (by first | exact of_decide_eq_true (by first | (with_reducible assumption) | assumption) | (have h2_ := hji88_; split at h2_ <;> omega)); omega)); omega); intro v154 w102 ho hb hg hat; rw [← Ny153.out] at ho; have n0_ := Za.mk (Kd.Zfg (by (with_reducible repeat (first | apply Kd.Zbj | apply Kd.Zbk | apply Kd.Zbr)); exact HO_134000.out) (Kd.Zdk (by (with_reducible repeat (first | apply Kd.Zat | apply Kd.Zau | apply Kd.Zaz)); exact HO151.out)) (by decide) hg); have n1_ := Za.mk (Kd.Zey (ok := (fun _ => True)) (by (with_reducible repeat (first | apply Kd.Zat | apply Kd.Zau | apply Kd.Zaz)); exact HO_134001.out) hg hat); have n2_ := Za.mk (Zbl (g := gb131) (o := .cells #[.slice A0_0 l0_0.length c0_0, .slice A0_1 l0_1.length c0_1, .int .i64 a0_2, .slice A0_3 l0_3.length c0_3, .slice A0_4 l0_4.length c0_4] 28 (0, 0)) (by (with_reducible repeat (first | refine Zag ?_ _ | refine Zai ?_ | refine Zae ?_ _)); exact BK131.out) hg (Kd.R_ne HO151.out BK131.out (by decide))); have n3_ := Za.mk (Zbl (g := gb132) (o := .cells #[.slice none 0 0, .slice none 0 0, .int .i64 0, .slice none 0 0, .slice none 0 0] 28 (0, 0)) (by (with_reducible repeat (first | refine Zag ?_ _ | refine Zai ?_ | refine Zae ?_ _)); exact BK132.out) hg (Kd.R_ne HO151.out BK132.out (by decide))); have n4_ := Za.mk (Zbl (g := gb133) (o := .cells #[u134000, u134001, .int .i64 a0_2, .slice A0_3 l0_3.length c0_3, .slice A0_4 l0_4.length c0_4] 28 (0, 0)) (by (with_reducible repeat (first | refine Zag ?_ _ | refine Zai ?_ | refine Zae ?_ _)); exact BK133.out) hg (Kd.R_ne HO151.out BK133.out (by decide))); have n5_ := Za.mk (hb); have n6_ := Za.mk (ho); clear HO_134000; clear HO_134001; clear BK131; clear BK132; clear BK133; clear HB; clear HO151; have HO_134000 := n0_; have HO_134001 := n1_; have BK131 := n2_; have BK132 := n3_; have BK133 := n4_; have HB := n5_; have HO155 := n6_; clear n0_ n1_ n2_ n3_ n4_ n5_ n6_; clear ho hb hg hat; obtain ⟨Ao103, co103, eo103⟩ := Kd.Za9 HO155.out; subst eo103; have hnb104 := NB133_132.out; have hnc104 := NB132_133.out; obtain ⟨hcz105_0, hcz105_1, hcz105_2, hcz105_3, hcz105_4, hfz105_0, hfz105_1, hfz105_2, hfz105_3, hfz105_4⟩ := Zde BK133.out) | ((with_reducible refine Zax (N := 133) rfl ?_); refine Kd.Zc9 (Kd.int .i64) _ 3 ?hg (N := 133) ?hd (xs := ([] : List Int)) (inner := []) (ok := fun _ => True) (okp := fun _ => True) ?hr ?hp (fun _ hk => hk) trivial (Below.refl _ _) (Nat.le_refl _) (by simp) ?_; (case hd => rfl); (case hg => rfl); (case hr => first | (go_simp; done) | (go_simp; rfl)); (case hp => exact (Reps.none _ _)); intro v157 w106 ho107 hb hg_ hnew_; clear hg_ hnew_; (first | rw [← Ny156.out] at ho107 | (simp only [Int.reduceToNat] at ho107; rw [← Ny156.out] at ho107)); have n0_ := Za.mk (Kd.Zcw (by (with_reducible repeat (first | apply Kd.Zbj | apply Kd.Zbk | apply Kd.Zbr)); exact (Kd.Zcj (Kd.Zbv (p := ⟨gb133, 3, none⟩) (Kd.Zcm HO_134000.out BK133.out (by decide)) (fun _ hk => hk.2) (.slice Ao103 y153.length co103)) (fun _ h_ => h_.1))) hb); have n1_ := Za.mk (Kd.Zby (by (with_reducible repeat (first | apply Kd.Zat | apply Kd.Zau | apply Kd.Zaz)); exact (Kd.Za2 (Kd.Za1 (p := ⟨gb133, 3, none⟩) (Kd.Zbc HO_134001.out BK133.out (by decide)) (fun _ hk => hk.2) (.slice Ao103 y153.length co103)) (fun _ h_ => h_.1))) (Kd.Zb4 ho107) hb); have n2_ := Za.mk (Kd.Zby (by (with_reducible repeat (first | apply Kd.Zat | apply Kd.Zau | apply Kd.Zaz)); exact (Kd.Za2 (Kd.Za1 (p := ⟨gb133, 3, none⟩) (Kd.Zbc HO155.out BK133.out (by decide)) (fun _ hk => hk.2) (.slice Ao103 y153.length co103)) (fun _ h_ => h_.1))) (Kd.Zb4 ho107) hb); have n3_ := Za.mk (Kd.Zbp (Kd.Zc1 ho107 (Kd.R_lt (by (with_reducible repeat (first | apply Kd.Zat | apply Kd.Zau | apply Kd.Zaz)); exact (Kd.Za2 (Kd.Za1 (p := ⟨gb133, 3, none⟩) (Kd.Zbc HO155.out BK133.out (by decide)) (fun _ hk => hk.2) (.slice Ao103 y153.length co103)) (fun _ h_ => h_.1))))) (Zan (by repeat (first | (with_reducible first | exact HB.out | apply Zab | apply Zaa | apply Zad | refine Zac ?_ GE131.out | refine Zac ?_ GE132.out | refine Zac ?_ GE133.out) | exact HB.out)))); have n4_ := Za.mk (Zap (g := gb131) (o := .cells #[.slice A0_0 l0_0.length c0_0, .slice A0_1 l0_1.length c0_1, .int .i64 a0_2, .slice A0_3 l0_3.length c0_3, .slice A0_4 l0_4.length c0_4] 28 (0, 0)) (by (with_reducible repeat (first | refine Zag ?_ _ | refine Zai ?_ | refine Zae ?_ _)); refine Zav ?_ NB131_133.out _; (with_reducible repeat (first | refine Zag ?_ _ | refine Zai ?_ | refine Zae ?_ _)); exact BK131.out) hb); have n5_ := Za.mk (Zap (g := gb132) (o := .cells #[.slice none 0 0, .slice none 0 0, .int .i64 0, .slice none 0 0, .slice none 0 0] 28 (0, 0)) (by (with_reducible repeat (first | refine Zag ?_ _ | refine Zai ?_ | refine Zae ?_ _)); refine Zav ?_ NB132_133.out _; (with_reducible repeat (first | refine Zag ?_ _ | refine Zai ?_ | refine Zae ?_ _)); exact BK132.out) hb); have n6_ := Za.mk (Zap (g := gb133) (o := .cells #[u134000, u134001, .int .i64 a0_2, .slice Ao103 y153.length co103, .slice A0_4 l0_4.length c0_4] 28 (0, 0)) (by (with_reducible repeat (first | refine Zag ?_ _ | refine Zai ?_ | refine Zae ?_ _)); refine Zaq (cs := #[u134000, u134001, .int .i64 a0_2, .slice A0_3 l0_3.length c0_3, .slice A0_4 l0_4.length c0_4]) ?_ 3 _ rfl; (with_reducible repeat (first | refine Zag ?_ _ | refine Zai ?_ | refine Zae ?_ _)); exact BK133.out) hb); have n7_ := Za.mk (Zaf (by repeat (first | (with_reducible first | exact HB.out | apply Zab | apply Zaa | apply Zad | refine Zac ?_ GE131.out | refine Zac ?_ GE132.out | refine Zac ?_ GE133.out) | exact HB.out)) hb); clear HO_134000; clear HO_134001; clear HO155; clear BK131; clear BK132; clear BK133; clear HB; have HO_134000 := n0_; have HO_134001 := n1_; have HO155 := n2_; have HO158 := n3_; have BK131 := n4_; have BK132 := n5_; have BK133 := n6_; have HB := n7_; clear n0_ n1_ n2_ n3_ n4_ n5_ n6_ n7_; clear hb ho107; obtain ⟨hcz108_0, hcz108_1, hcz108_2, hcz108_3, hcz108_4, hfz108_0, hfz108_1, hfz108_2, hfz108_3, hfz108_4⟩ := Zde BK131.out; obtain ⟨i0109, hi0109, _, hsz109, _⟩ := info_parts info3; obtain ⟨hcut109, hA109, hC109⟩ := Zdi (P := Try.prog) (Value.int .i64) 0 24 3 .i64 Try.underlying24 hi0109 hsz109 A0_4 c0_4 l0_4 (ji92) (of_decide_eq_true (by first | (with_reducible assumption) | assumption)) (of_decide_eq_true (by first | (with_reducible assumption) | assumption)) HC0_4.out; have HR159 := Za.mk (Kd.Zdy (h1 := fun _ => rfl) (hA109 _ (Kd.Zdq HR0_4.out))); have HC159 := Za.mk hC109; clear hA109 hC109 hi0109 hsz109) | ((with_reducible refine Zb7 (b := .append) (xs := #[.tmp 133, .tmp 142]) rfl ?_); at_builtin; refine Kd.Zc6 (Kd.int .i64) (w0 := w) w.heap.size rfl (.tmp 133) (.tmp 142) 24 3 (.int .i64 0) 8 rfl Try.underlying24 info3 rfl (by decide) (by omega) v157 y156 (l0_4.take ((ji92) : Int).toNat) _ _ _ (fun k_ => some k_ ≠ (.slice Ao103 y153.length co103 : Value).ownBlock) (fun _ => False) rfl rfl ?aO ?aR (fun _ _ h => h) (fun _ h => h.elim) ?aF ?aB ?aS ?aL ?_; (case aR => first | (have q_ := (Kd.Zal HR159.out HB.out); rw [show (l0_4.take ((ji92) : Int).toNat).length = (ji92).toNat from (by rw [List.length_take]; have h_ : ((ji92) : Int) ≤ (l0_4.length : Int) := (by first | exact of_decide_eq_true (by first | (with_reducible assumption) | assumption) | (have h2_ := hji92_; split at h2_ <;> omega)); omega)] at q_; exact q_) | (rw [← show (l0_4.take ((ji92) : Int).toNat).length = (ji92).toNat from (by rw [List.length_take]; have h_ : ((ji92) : Int) ≤ (l0_4.length : Int) := (by first | exact of_decide_eq_true (by first | (with_reducible assumption) | assumption) | (have h2_ := hji92_; split at h2_ <;> omega)); omega)]; repeat (first | exact (Kd.Zal HR159.out HB.out) | (with_reducible refine Kd.C_alloc ?_ _) | (with_reducible refine Kd.Zaw ?_ _) | (with_reducible refine Kd.C_drew ?_))) | (repeat (first | exact (Kd.Zal HR159.out HB.out) | (with_reducible refine Kd.C_alloc ?_ _) | (with_reducible refine Kd.Zaw ?_ _) | (with_reducible refine Kd.C_drew ?_)))); (case aB => exact (by repeat (first | (with_reducible first | exact HB.out | apply Zab | apply Zaa | apply Zad | refine Zac ?_ GE131.out | refine Zac ?_ GE132.out | refine Zac ?_ GE133.out) | exact HB.out))); (case aF => exact (fun k_ hk => Kd.fresh' (Kd.R_lt (by (with_reducible repeat (first | apply Kd.Zat | apply Kd.Zau | apply Kd.Zaz)); exact HO155.out)) k_ hk)); (case aO => exact (by (with_reducible repeat (first | apply Kd.Zat | apply Kd.Zau | apply Kd.Zaz)); exact Kd.Za2 HO158.out (fun _ hk => hk.2))); (case aS => exact (Zan (by repeat (first | (with_reducible first | exact HB.out | apply Zab | apply Zaa | apply Zad | refine Zac ?_ GE131.out | refine Zac ?_ GE132.out | refine Zac ?_ GE133.out) | exact HB.out)))); (case aL => have := LMc95.out; have hlx_ := (show (l0_4.take ((ji92) : Int).toNat).length = (ji92).toNat from (by rw [List.length_take]; have h_ : ((ji92) : Int) ≤ (l0_4.length : Int) := (by first | exact of_decide_eq_true (by first | (with_reducible assumption) | assumption) | (have h2_ := hji92_; split at h2_ <;> omega)); omega)); omega); intro v161 w110 ho hb hg hat; rw [← Ny160.out] at ho; have n0_ := Za.mk (Kd.Zfg (by (with_reducible repeat (first | apply Kd.Zbj | apply Kd.Zbk | apply Kd.Zbr)); exact HO_134000.out) (Kd.Zdk (by (with_reducible repeat (first | apply Kd.Zat | apply Kd.Zau | apply Kd.Zaz)); exact HO158.out)) (by decide) hg); have n1_ := Za.mk (Kd.Zey (ok := (fun k_ => some k_ ≠ (.slice Ao103 y153.length co103 : Value).ownBlock)) (by (with_reducible repeat (first | apply Kd.Zat | apply Kd.Zau | apply Kd.Zaz)); exact Kd.Za2 HO_134001.out (fun _ hk => ⟨hk.1.2, hk.2⟩)) hg hat); have n3_ := Za.mk (Zbl (g := gb132) (o := .cells #[.slice none 0 0, .slice none 0 0, .int .i64 0, .slice none 0 0, .slice none 0 0] 28 (0, 0)) (by (with_reducible repeat (first | refine Zag ?_ _ | refine Zai ?_ | refine Zae ?_ _)); exact BK132.out) hg (Kd.R_ne HO158.out BK132.out (by decide))); have n4_ := Za.mk (Zbl (g := gb133) (o := .cells #[u134000, u134001, .int .i64 a0_2, .slice Ao103 y153.length co103, .slice A0_4 l0_4.length c0_4] 28 (0, 0)) (by (with_reducible repeat (first | refine Zag ?_ _ | refine Zai ?_ | refine Zae ?_ _)); exact BK133.out) hg (Kd.R_ne HO158.out BK133.out (by decide))); have n5_ := Za.mk (Kd.Zey (ok := (fun _ => True)) (by (with_reducible repeat (first | apply Kd.Zat | apply Kd.Zau | apply Kd.Zaz)); exact HO155.out) hg hat); have n6_ := Za.mk (hb); have n7_ := Za.mk (ho); clear HO_134000; clear HO_134001; clear BK131; clear BK132; clear BK133; clear HO155; clear HB; clear HO158; have HO_134000 := n0_; have HO_134001 := n1_; have BK132 := n3_; have BK133 := n4_; have HO155 := n5_; have HB := n6_; have HO162 := n7_; clear n0_ n1_ n3_ n4_ n5_ n6_ n7_; clear ho hb hg hat; obtain ⟨Ao111, co111, eo111⟩ := Kd.Za9 HO162.out; subst eo111; obtain ⟨hcz112_0, hcz112_1, hcz112_2, hcz112_3, hcz112_4, hfz112_0, hfz112_1, hfz112_2, hfz112_3, hfz112_4⟩ := Zde BK133.out; obtain ⟨Ao113, co113, eo113⟩ := Kd.Zdr HO_134000.out; subst eo113; obtain ⟨hcz114_0, hcz114_1, hcz114_2, hcz114_3, hcz114_4, hfz114_0, hfz114_1, hfz114_2, hfz114_3, hfz114_4⟩ := Zde BK132.out; obtain ⟨Ao115, co115, eo115⟩ := Kd.Za9 HO_134001.out; subst eo115))
        refine bodyPost_ret (results_cell_row rfl _ _ gb132 28 #[.slice Ao113 x134000_1.length co113, .slice Ao115 x134001_2.length co115, .int .i64 a0_2, .slice Ao103 y153.length co103, .slice Ao111 y160.length co111] (0, 0) _ rfl (by (with_reducible repeat (first | refine Zag ?_ _ | refine Zai ?_ | refine Zae ?_ _)); refine Zaq (cs := #[.slice Ao113 x134000_1.length co113, .slice Ao115 x134001_2.length co115, .int .i64 a0_2, .slice Ao103 y153.length co103, .slice none 0 0]) ?_ 4 _ rfl; (with_reducible repeat (first | refine Zag ?_ _ | refine Zai ?_ | refine Zae ?_ _)); refine Zaq (cs := #[.slice Ao113 x134000_1.length co113, .slice Ao115 x134001_2.length co115, .int .i64 a0_2, .slice none 0 0, .slice none 0 0]) ?_ 3 _ rfl; (with_reducible repeat (first | refine Zag ?_ _ | refine Zai ?_ | refine Zae ?_ _)); refine Zaq (cs := #[.slice Ao113 x134000_1.length co113, .slice Ao115 x134001_2.length co115, .int .i64 0, .slice none 0 0, .slice none 0 0]) ?_ 2 _ rfl; (with_reducible repeat (first | refine Zag ?_ _ | refine Zai ?_ | refine Zae ?_ _)); refine Zaq (cs := #[.slice Ao113 x134000_1.length co113, .slice none 0 0, .int .i64 0, .slice none 0 0, .slice none 0 0]) ?_ 1 _ rfl; (with_reducible repeat (first | refine Zag ?_ _ | refine Zai ?_ | refine Zae ?_ _)); refine Zaq (cs := #[.slice none 0 0, .slice none 0 0, .int .i64 0, .slice none 0 0, .slice none 0 0]) ?_ 0 _ rfl; (with_reducible repeat (first | refine Zag ?_ _ | refine Zai ?_ | refine Zae ?_ _)); refine Zav ?_ NB132_133.out _; (with_reducible repeat (first | refine Zag ?_ _ | refine Zai ?_ | refine Zae ?_ _)); exact BK132.out) Try.underlying28 rfl (by kernel_rfl)) rfl ?_
        exact ⟨_, _, _, _, by first | rfl | (simp [Zar, Zas] <;> rfl) | (simp only [← hji88, ← hji92]; first | rfl | (simp [Zar, Zas] <;> rfl)) | (simp [*, Zar, Zas] <;> rfl), by (with_reducible repeat (first | apply Kd.Zbj | apply Kd.Zbk | apply Kd.Zbr)); exact Kd.Zcj (Kd.Zbv (p := ⟨gb132, 4, none⟩) (Kd.Zbv (p := ⟨gb132, 3, none⟩) (Kd.Zbv (p := ⟨gb132, 2, none⟩) (Kd.Zbv (p := ⟨gb132, 1, none⟩) (Kd.Zbv (p := ⟨gb132, 0, none⟩) (Kd.Zbv (p := ⟨gb133, 4, none⟩) (Kd.Zcm (Kd.Zcm HO_134000.out BK133.out (by decide)) BK132.out (by decide)) (fun _ hk => hk.1.2) (.slice Ao111 y160.length co111)) (fun _ hk => hk.2) (.slice Ao113 x134000_1.length co113)) (fun _ hk => hk.2) (.slice Ao115 x134001_2.length co115)) (fun _ hk => hk.2) (.int .i64 a0_2)) (fun _ hk => hk.2) (.slice Ao103 y153.length co103)) (fun _ hk => hk.2) (.slice Ao111 y160.length co111)) (fun _ hk => trivial), by (with_reducible repeat (first | apply Kd.Zat | apply Kd.Zau | apply Kd.Zaz)); exact Kd.Za2 (Kd.Za1 (p := ⟨gb132, 4, none⟩) (Kd.Za1 (p := ⟨gb132, 3, none⟩) (Kd.Za1 (p := ⟨gb132, 2, none⟩) (Kd.Za1 (p := ⟨gb132, 1, none⟩) (Kd.Za1 (p := ⟨gb132, 0, none⟩) (Kd.Za1 (p := ⟨gb133, 4, none⟩) (Kd.Zbc (Kd.Zbc HO_134001.out BK133.out (by decide)) BK132.out (by decide)) (fun _ hk => hk.1.2) (.slice Ao111 y160.length co111)) (fun _ hk => hk.2) (.slice Ao113 x134000_1.length co113)) (fun _ hk => hk.2) (.slice Ao115 x134001_2.length co115)) (fun _ hk => hk.2) (.int .i64 a0_2)) (fun _ hk => hk.2) (.slice Ao103 y153.length co103)) (fun _ hk => hk.2) (.slice Ao111 y160.length co111)) (fun _ hk => ⟨hk.1.1.1, hk.1.1.2⟩), by (with_reducible repeat (first | apply Kd.Zat | apply Kd.Zau | apply Kd.Zaz)); exact Kd.Za2 (Kd.Za1 (p := ⟨gb132, 4, none⟩) (Kd.Za1 (p := ⟨gb132, 3, none⟩) (Kd.Za1 (p := ⟨gb132, 2, none⟩) (Kd.Za1 (p := ⟨gb132, 1, none⟩) (Kd.Za1 (p := ⟨gb132, 0, none⟩) (Kd.Za1 (p := ⟨gb133, 4, none⟩) (Kd.Zbc (Kd.Zbc HO155.out BK133.out (by decide)) BK132.out (by decide)) (fun _ hk => hk.1.2) (.slice Ao111 y160.length co111)) (fun _ hk => hk.2) (.slice Ao113 x134000_1.length co113)) (fun _ hk => hk.2) (.slice Ao115 x134001_2.length co115)) (fun _ hk => hk.2) (.int .i64 a0_2)) (fun _ hk => hk.2) (.slice Ao103 y153.length co103)) (fun _ hk => hk.2) (.slice Ao111 y160.length co111)) (fun _ hk => hk.1.1.2), by (with_reducible repeat (first | apply Kd.Zat | apply Kd.Zau | apply Kd.Zaz)); exact Kd.Za2 (Kd.Za1 (p := ⟨gb132, 4, none⟩) (Kd.Za1 (p := ⟨gb132, 3, none⟩) (Kd.Za1 (p := ⟨gb132, 2, none⟩) (Kd.Za1 (p := ⟨gb132, 1, none⟩) (Kd.Za1 (p := ⟨gb132, 0, none⟩) (Kd.Za1 (p := ⟨gb133, 4, none⟩) (Kd.Zbc (Kd.Zbc HO162.out BK133.out (by decide)) BK132.out (by decide)) (fun _ hk => hk.1.2) (.slice Ao111 y160.length co111)) (fun _ hk => hk.2) (.slice Ao113 x134000_1.length co113)) (fun _ hk => hk.2) (.slice Ao115 x134001_2.length co115)) (fun _ hk => hk.2) (.int .i64 a0_2)) (fun _ hk => hk.2) (.slice Ao103 y153.length co103)) (fun _ hk => hk.2) (.slice Ao111 y160.length co111)) (fun _ hk => hk.1.1), by repeat (first | (with_reducible first | exact HB.out | apply Zab | apply Zaa | apply Zad | refine Zac ?_ GE131.out | refine Zac ?_ GE132.out | refine Zac ?_ GE133.out) | exact HB.out)⟩
       subst c54
       have H1 : (if 0 ≤ x6_2 then (if x6_2 < (l0_1.length : Int) then (if 0 ≤ (mn (((Zah l0_1 x6_2).f1).length : Int) 14) then (if (mn (((Zah l0_1 x6_2).f1).length : Int) 14) ≤ (((Zah l0_1 x6_2).f1).length : Int) then (if 0 ≤ (mn (((Zah l0_1 x6_2).f2).length : Int) 14) then (if (mn (((Zah l0_1 x6_2).f2).length : Int) 14) ≤ (((Zah l0_1 x6_2).f2).length : Int) then ((bRows.f ((Zah l0_1 x6_2).f5)).bind fun t167 => ((Zb1.f kj45 ((Zah l0_1 x6_2).f0) (((Zah l0_1 x6_2).f1).take ((mn (((Zah l0_1 x6_2).f1).length : Int) 14) : Int).toNat) (((Zah l0_1 x6_2).f2).take ((mn (((Zah l0_1 x6_2).f2).length : Int) 14) : Int).toNat) ((Zah l0_1 x6_2).f3) ((Zah l0_1 x6_2).f4) t167 ((Zah l0_1 x6_2).f6)).bind fun bt170 => (if x134001_2.length < 1353245080339 then (Zak.l1 kj45 (wrap64 (x6_2 + 1)) l0_0 l0_1 a0_2 l0_3 l0_4 x134000_1 (x134001_2 ++ [(⟨bt170.1, bt170.2.1, bt170.2.2.1, bt170.2.2.2.1, bt170.2.2.2.2.1, bt170.2.2.2.2.2.1, bt170.2.2.2.2.2.2⟩ : S31)]) a0_2 l0_3 l0_4) else (none)))) else (none)) else (none)) else (none)) else (none)) else (none)) else (none)) = some (r1, r2, r3, r4, r5) := by rw [if_pos rfl] at H; exact H
       clear H
       have H := H1
       clear H1
       by_cases c55 : 0 ≤ x6_2
       rotate_left
       ·rw [if_neg c55] at H
        exact absurd H (by simp)
       rw [if_pos c55] at H
       have c55b0 : decide (0 ≤ x6_2) = true := decide_eq_true c55
       clear c55
       by_cases c56 : x6_2 < (l0_1.length : Int)
       rotate_left
       ·rw [if_neg c56] at H
        exact absurd H (by simp)
       rw [if_pos c56] at H
       have c56b0 : decide (x6_2 < (l0_1.length : Int)) = true := decide_eq_true c56
       clear c56
       obtain ⟨ji57, hji57⟩ : ∃ j_ : Int, (mn (((Zah l0_1 x6_2).f1).length : Int) 14) = j_ := ⟨_, rfl⟩
       replace H : (if 0 ≤ (ji57) then (if (ji57) ≤ (((Zah l0_1 x6_2).f1).length : Int) then (if 0 ≤ (mn (((Zah l0_1 x6_2).f2).length : Int) 14) then (if (mn (((Zah l0_1 x6_2).f2).length : Int) 14) ≤ (((Zah l0_1 x6_2).f2).length : Int) then ((bRows.f ((Zah l0_1 x6_2).f5)).bind fun t167 => ((Zb1.f kj45 ((Zah l0_1 x6_2).f0) (((Zah l0_1 x6_2).f1).take ((ji57) : Int).toNat) (((Zah l0_1 x6_2).f2).take ((mn (((Zah l0_1 x6_2).f2).length : Int) 14) : Int).toNat) ((Zah l0_1 x6_2).f3) ((Zah l0_1 x6_2).f4) t167 ((Zah l0_1 x6_2).f6)).bind fun bt170 => (if x134001_2.length < 1353245080339 then (Zak.l1 kj45 (wrap64 (x6_2 + 1)) l0_0 l0_1 a0_2 l0_3 l0_4 x134000_1 (x134001_2 ++ [(⟨bt170.1, bt170.2.1, bt170.2.2.1, bt170.2.2.2.1, bt170.2.2.2.2.1, bt170.2.2.2.2.2.1, bt170.2.2.2.2.2.2⟩ : S31)]) a0_2 l0_3 l0_4) else (none)))) else (none)) else (none)) else (none)) else (none)) = some (r1, r2, r3, r4, r5) := by first | (rw [hji57] at H; exact H) | (simp only [hji57] at H ⊢; exact H)
       have hji57_ : (if 14 < (((Zah l0_1 x6_2).f1).length : Int) then 14 else (((Zah l0_1 x6_2).f1).length : Int)) = ji57 := hji57
       by_cases c58 : 0 ≤ (ji57)
       rotate_left
       ·rw [if_neg c58] at H
        exact absurd H (by simp)
       rw [if_pos c58] at H
       have c58b0 := eq_true c58
       have c58b1 : decide (0 ≤ (ji57)) = true := decide_eq_true c58
       clear c58
       by_cases c59 : (ji57) ≤ (((Zah l0_1 x6_2).f1).length : Int)
       rotate_left
       ·rw [if_neg c59] at H
        exact absurd H (by simp)
       rw [if_pos c59] at H
       have c59b0 := eq_true c59
       have c59b1 : decide ((ji57) ≤ (((Zah l0_1 x6_2).f1).length : Int)) = true := decide_eq_true c59
       clear c59
       obtain ⟨ji60, hji60⟩ : ∃ j_ : Int, (mn (((Zah l0_1 x6_2).f2).length : Int) 14) = j_ := ⟨_, rfl⟩
       replace H : (if 0 ≤ (ji60) then (if (ji60) ≤ (((Zah l0_1 x6_2).f2).length : Int) then ((bRows.f ((Zah l0_1 x6_2).f5)).bind fun t167 => ((Zb1.f kj45 ((Zah l0_1 x6_2).f0) (((Zah l0_1 x6_2).f1).take ((ji57) : Int).toNat) (((Zah l0_1 x6_2).f2).take ((ji60) : Int).toNat) ((Zah l0_1 x6_2).f3) ((Zah l0_1 x6_2).f4) t167 ((Zah l0_1 x6_2).f6)).bind fun bt170 => (if x134001_2.length < 1353245080339 then (Zak.l1 kj45 (wrap64 (x6_2 + 1)) l0_0 l0_1 a0_2 l0_3 l0_4 x134000_1 (x134001_2 ++ [(⟨bt170.1, bt170.2.1, bt170.2.2.1, bt170.2.2.2.1, bt170.2.2.2.2.1, bt170.2.2.2.2.2.1, bt170.2.2.2.2.2.2⟩ : S31)]) a0_2 l0_3 l0_4) else (none)))) else (none)) else (none)) = some (r1, r2, r3, r4, r5) := by first | (rw [hji60] at H; exact H) | (simp only [hji60] at H ⊢; exact H)
       have hji60_ : (if 14 < (((Zah l0_1 x6_2).f2).length : Int) then 14 else (((Zah l0_1 x6_2).f2).length : Int)) = ji60 := hji60
       by_cases c61 : 0 ≤ (ji60)
       rotate_left
       ·rw [if_neg c61] at H
        exact absurd H (by simp)
       rw [if_pos c61] at H
       have c61b0 := eq_true c61
       have c61b1 : decide (0 ≤ (ji60)) = true := decide_eq_true c61
       clear c61
       by_cases c62 : (ji60) ≤ (((Zah l0_1 x6_2).f2).length : Int)
       rotate_left
       ·rw [if_neg c62] at H
        exact absurd H (by simp)
       rw [if_pos c62] at H
       have c62b0 := eq_true c62
       have c62b1 : decide ((ji60) ≤ (((Zah l0_1 x6_2).f2).length : Int)) = true := decide_eq_true c62
       clear c62
       replace H := Option.bind_eq_some_iff.mp H
       obtain ⟨t167, A630, H⟩ := H
       replace H : ((Zb1.f kj45 ((Zah l0_1 x6_2).f0) (((Zah l0_1 x6_2).f1).take ((ji57) : Int).toNat) (((Zah l0_1 x6_2).f2).take ((ji60) : Int).toNat) ((Zah l0_1 x6_2).f3) ((Zah l0_1 x6_2).f4) t167 ((Zah l0_1 x6_2).f6)).bind fun bt170 => (if x134001_2.length < 1353245080339 then (Zak.l1 kj45 (wrap64 (x6_2 + 1)) l0_0 l0_1 a0_2 l0_3 l0_4 x134000_1 (x134001_2 ++ [(⟨bt170.1, bt170.2.1, bt170.2.2.1, bt170.2.2.2.1, bt170.2.2.2.2.1, bt170.2.2.2.2.2.1, bt170.2.2.2.2.2.2⟩ : S31)]) a0_2 l0_3 l0_4) else (none))) = some (r1, r2, r3, r4, r5) := H
       have A63 := Za.mk A630
       clear A630
       replace H := Option.bind_eq_some_iff.mp H
       obtain ⟨⟨t170, t171, t174, t177, t178, t179, t182⟩, A640, H⟩ := H
       replace H : (if x134001_2.length < 1353245080339 then (Zak.l1 kj45 (wrap64 (x6_2 + 1)) l0_0 l0_1 a0_2 l0_3 l0_4 x134000_1 (x134001_2 ++ [(⟨t170, t171, t174, t177, t178, t179, t182⟩ : S31)]) a0_2 l0_3 l0_4) else (none)) = some (r1, r2, r3, r4, r5) := H
       have A64 := Za.mk A640
       clear A640
       by_cases c65 : x134001_2.length < 1353245080339
       rotate_left
       ·rw [if_neg c65] at H
        exact absurd H (by simp)
       rw [if_pos c65] at H
       have LMc65 := Za.mk c65
       clear c65
       obtain ⟨y183, hy183⟩ : ∃ y_ : List (S31), y_ = (x134001_2 ++ [(⟨t170, t171, t174, t177, t178, t179, t182⟩ : S31)]) := ⟨_, rfl⟩
       replace H : (Zak.l1 kj45 (wrap64 (x6_2 + 1)) l0_0 l0_1 a0_2 l0_3 l0_4 x134000_1 y183 a0_2 l0_3 l0_4) = some (r1, r2, r3, r4, r5) := by first | (rw [hy183]; with_reducible exact H) | (have H2_ := (Option.bind_some _ _).symm.trans H; rw [hy183]; with_reducible exact H2_) | (have H2_ := (Option.bind_some _ _).symm.trans H; with_reducible exact H2_) | with_reducible exact H | (rw [hy183]; exact H) | exact H
       have Ny183 := Za.mk hy183
       clear hy183
       have H' := Za.mk H
       clear H
       have hnb66 := NB131_132.out
       have hnc66 := NB132_131.out
       have hnb67 := NB131_133.out
       have hnc67 := NB133_131.out
       obtain ⟨hcz68_0, hcz68_1, hcz68_2, hcz68_3, hcz68_4, hfz68_0, hfz68_1, hfz68_2, hfz68_3, hfz68_4⟩ := Zde BK131.out
       have p163 : 0 ≤ (x6_2 : Int) := of_decide_eq_true (by first | (with_reducible assumption) | assumption)
       have q163 : x6_2 < (l0_1.length : Int) := of_decide_eq_true (by first | (with_reducible assumption) | assumption)
       obtain ⟨ad163, A163_1, c163_1, A163_2, c163_2, A163_5, c163_5, e163, hx163_0, hx163_1, hx163_2, hx163_3, hx163_4, hx163_5, hx163_6, hl163_1, hi163_1, hl163_2, hi163_2, hl163_5, hi163_5⟩ := Zeg HR0_1.out x6_2 p163 q163
       cases e163
       replace hx163_0 := (HB.out.cell (World.block_lt_of_cell? w _ hx163_0)).trans hx163_0
       replace hx163_1 := (HB.out.cell (World.block_lt_of_cell? w _ hx163_1)).trans hx163_1
       replace hx163_2 := (HB.out.cell (World.block_lt_of_cell? w _ hx163_2)).trans hx163_2
       replace hx163_3 := (HB.out.cell (World.block_lt_of_cell? w _ hx163_3)).trans hx163_3
       replace hx163_4 := (HB.out.cell (World.block_lt_of_cell? w _ hx163_4)).trans hx163_4
       replace hx163_5 := (HB.out.cell (World.block_lt_of_cell? w _ hx163_5)).trans hx163_5
       replace hx163_6 := (HB.out.cell (World.block_lt_of_cell? w _ hx163_6)).trans hx163_6
       have HR163_1 := Za.mk hi163_1
       have HC163_1 := Za.mk hl163_1
       clear hi163_1 hl163_1
       have HR163_2 := Za.mk hi163_2
       have HC163_2 := Za.mk hl163_2
       clear hi163_2 hl163_2
       have HR163_5 := Za.mk hi163_5
       have HC163_5 := Za.mk hl163_5
       clear hi163_5 hl163_5
       replace p163 := eq_true p163
       replace q163 := eq_true q163
       have WB164 := Za.mk (Below.refl w.heap.size w)
       go_upto_region 13 with (first | ((with_reducible refine Zax (N := 7) rfl ?_); refine Za7 ?hg (N := 7) ?hd (cs := #[.int .i64 0, .slice none 0 0, .slice none 0 0, .int .i64 0, .int .i64 0, .slice none 0 0, .int .i64 0]) (t := 31) ?hr ?_; (case hd => rfl); (case hg => rfl); (case hr => first | (go_simp; done) | (go_simp; rfl)); intro gb164 hg w69 hbox hb; have n0_ := Za.mk (Kd.Zcw (by (with_reducible repeat (first | apply Kd.Zbj | apply Kd.Zbk | apply Kd.Zbr)); exact HO_134000.out) hb); have n1_ := Za.mk (Kd.Zb6 (Kd.Zfb (by (with_reducible repeat (first | apply Kd.Zat | apply Kd.Zau | apply Kd.Zaz)); exact HO_134001.out) gb164 (Nat.le_of_eq hg.symm)) hb); have n2_ := Za.mk (Zap (g := gb131) (o := .cells #[.slice A0_0 l0_0.length c0_0, .slice (some ad163) l0_1.length c0_1, .int .i64 a0_2, .slice A0_3 l0_3.length c0_3, .slice A0_4 l0_4.length c0_4] 28 (0, 0)) (by (with_reducible repeat (first | refine Zag ?_ _ | refine Zai ?_ | refine Zae ?_ _)); exact BK131.out) hb); have n3_ := Za.mk (Zap (g := gb132) (o := .cells #[.slice none 0 0, .slice none 0 0, .int .i64 0, .slice none 0 0, .slice none 0 0] 28 (0, 0)) (by (with_reducible repeat (first | refine Zag ?_ _ | refine Zai ?_ | refine Zae ?_ _)); exact BK132.out) hb); have n4_ := Za.mk (Zap (g := gb133) (o := .cells #[u134000, u134001, .int .i64 a0_2, .slice A0_3 l0_3.length c0_3, .slice A0_4 l0_4.length c0_4] 28 (0, 0)) (by (with_reducible repeat (first | refine Zag ?_ _ | refine Zai ?_ | refine Zae ?_ _)); exact BK133.out) hb); have n5_ := Za.mk (Zaf (by repeat (first | (with_reducible first | exact HB.out | apply Zab | apply Zaa | apply Zad | refine Zac ?_ GE131.out | refine Zac ?_ GE132.out | refine Zac ?_ GE133.out) | exact HB.out)) hb); have n6_ := Za.mk (hbox); have n7_ := Za.mk ((by rw [hg]; exact (Zan (by repeat (first | (with_reducible first | exact HB.out | apply Zab | apply Zaa | apply Zad | refine Zac ?_ GE131.out | refine Zac ?_ GE132.out | refine Zac ?_ GE133.out) | exact HB.out))) : w.heap.size ≤ gb164)); have n8_ := Za.mk ((by rw [hg]; exact (Zan (by repeat (first | (with_reducible first | exact HB.out | apply Zab | apply Zaa | apply Zad | refine Zac ?_ GE131.out | refine Zac ?_ GE132.out | refine Zac ?_ GE133.out) | exact HB.out))) : w.heap.size ≤ gb164)); have n9_ := Za.mk ((by rw [hg]; exact Nat.ne_of_lt (Zbt (g := gb131) (o := .cells #[.slice A0_0 l0_0.length c0_0, .slice (some ad163) l0_1.length c0_1, .int .i64 a0_2, .slice A0_3 l0_3.length c0_3, .slice A0_4 l0_4.length c0_4] 28 (0, 0)) (by (with_reducible repeat (first | refine Zag ?_ _ | refine Zai ?_ | refine Zae ?_ _)); exact BK131.out)) : gb131 ≠ gb164)); have n10_ := Za.mk ((by rw [hg]; exact Nat.ne_of_gt (Zbt (g := gb131) (o := .cells #[.slice A0_0 l0_0.length c0_0, .slice (some ad163) l0_1.length c0_1, .int .i64 a0_2, .slice A0_3 l0_3.length c0_3, .slice A0_4 l0_4.length c0_4] 28 (0, 0)) (by (with_reducible repeat (first | refine Zag ?_ _ | refine Zai ?_ | refine Zae ?_ _)); exact BK131.out)) : gb164 ≠ gb131)); have n11_ := Za.mk ((by rw [hg]; exact Nat.ne_of_lt (Zbt (g := gb132) (o := .cells #[.slice none 0 0, .slice none 0 0, .int .i64 0, .slice none 0 0, .slice none 0 0] 28 (0, 0)) (by (with_reducible repeat (first | refine Zag ?_ _ | refine Zai ?_ | refine Zae ?_ _)); exact BK132.out)) : gb132 ≠ gb164)); have n12_ := Za.mk ((by rw [hg]; exact Nat.ne_of_gt (Zbt (g := gb132) (o := .cells #[.slice none 0 0, .slice none 0 0, .int .i64 0, .slice none 0 0, .slice none 0 0] 28 (0, 0)) (by (with_reducible repeat (first | refine Zag ?_ _ | refine Zai ?_ | refine Zae ?_ _)); exact BK132.out)) : gb164 ≠ gb132)); have n13_ := Za.mk ((by rw [hg]; exact Nat.ne_of_lt (Zbt (g := gb133) (o := .cells #[u134000, u134001, .int .i64 a0_2, .slice A0_3 l0_3.length c0_3, .slice A0_4 l0_4.length c0_4] 28 (0, 0)) (by (with_reducible repeat (first | refine Zag ?_ _ | refine Zai ?_ | refine Zae ?_ _)); exact BK133.out)) : gb133 ≠ gb164)); have n14_ := Za.mk ((by rw [hg]; exact Nat.ne_of_gt (Zbt (g := gb133) (o := .cells #[u134000, u134001, .int .i64 a0_2, .slice A0_3 l0_3.length c0_3, .slice A0_4 l0_4.length c0_4] 28 (0, 0)) (by (with_reducible repeat (first | refine Zag ?_ _ | refine Zai ?_ | refine Zae ?_ _)); exact BK133.out)) : gb164 ≠ gb133)); clear HO_134000; clear HO_134001; clear BK131; clear BK132; clear BK133; clear HB; have HO_134000 := n0_; have HO_134001 := n1_; have BK131 := n2_; have BK132 := n3_; have BK133 := n4_; have HB := n5_; have BK164 := n6_; have GW164 := n7_; have GE164 := n8_; have NB131_164 := n9_; have NB164_131 := n10_; have NB132_164 := n11_; have NB164_132 := n12_; have NB133_164 := n13_; have NB164_133 := n14_; clear n0_ n1_ n2_ n3_ n4_ n5_ n6_ n7_ n8_ n9_ n10_ n11_ n12_ n13_ n14_; clear hb hbox hg; have hnb70 := NB164_131.out; have hnc70 := NB131_164.out; have hnb71 := NB164_132.out; have hnc71 := NB132_164.out; have hnb72 := NB164_133.out; have hnc72 := NB133_164.out; obtain ⟨hcz73_0, hcz73_1, hcz73_2, hcz73_3, hcz73_4, hcz73_5, hcz73_6, hfz73_0, hfz73_1, hfz73_2, hfz73_3, hfz73_4, hfz73_5, hfz73_6⟩ := Zdl BK164.out; obtain ⟨i074, hi074, _, hsz74, _⟩ := info_parts info3; obtain ⟨hcut74, hA74, hC74⟩ := Zdi (P := Try.prog) (Value.int .i64) 0 24 3 .i64 Try.underlying24 hi074 hsz74 A163_1 c163_1 ((Zah l0_1 x6_2).f1) (ji57) (of_decide_eq_true (by first | (with_reducible assumption) | assumption)) (of_decide_eq_true (by first | (with_reducible assumption) | assumption)) HC163_1.out; have HR165 := Za.mk (Kd.Zdy (h1 := fun _ => rfl) (hA74 _ (Kd.Zdq HR163_1.out))); have HC165 := Za.mk hC74; clear hA74 hC74 hi074 hsz74; obtain ⟨i075, hi075, _, hsz75, _⟩ := info_parts info3; obtain ⟨hcut75, hA75, hC75⟩ := Zdi (P := Try.prog) (Value.int .i64) 0 24 3 .i64 Try.underlying24 hi075 hsz75 A163_2 c163_2 ((Zah l0_1 x6_2).f2) (ji60) (of_decide_eq_true (by first | (with_reducible assumption) | assumption)) (of_decide_eq_true (by first | (with_reducible assumption) | assumption)) HC163_2.out; have HR166 := Za.mk (Kd.Zdy (h1 := fun _ => rfl) (hA75 _ (Kd.Zdq HR163_2.out))); have HC166 := Za.mk hC75; clear hA75 hC75 hi075 hsz75))
       obtain ⟨wX, hX⟩ : ∃ x_ : World, x_ = (((((((((w69.setCell ⟨gb164, 0, none⟩ (.int .i64 ((Zah l0_1 x6_2).f0))).setCell ⟨gb164, 1, none⟩ (.slice A163_1 ((Zah l0_1 x6_2).f1).length c163_1)).setCell ⟨gb164, 2, none⟩ (.slice A163_2 ((Zah l0_1 x6_2).f2).length c163_2)).setCell ⟨gb164, 3, none⟩ (.int .i64 ((Zah l0_1 x6_2).f3))).setCell ⟨gb164, 4, none⟩ (.int .i64 ((Zah l0_1 x6_2).f4))).setCell ⟨gb164, 5, none⟩ (.slice A163_5 ((Zah l0_1 x6_2).f5).length c163_5)).setCell ⟨gb164, 6, none⟩ (.int .i64 ((Zah l0_1 x6_2).f6))).setCell ⟨gb164, 1, none⟩ (.slice A163_1 (((Zah l0_1 x6_2).f1).take ((ji57) : Int).toNat).length c163_1)).setCell ⟨gb164, 2, none⟩ (.slice A163_2 (((Zah l0_1 x6_2).f2).take ((ji60) : Int).toNat).length c163_2)) := ⟨_, rfl⟩
       have BX : Za (wX.heap[gb164]? = some (.cells #[.int .i64 ((Zah l0_1 x6_2).f0), .slice A163_1 (((Zah l0_1 x6_2).f1).take ((ji57) : Int).toNat).length c163_1, .slice A163_2 (((Zah l0_1 x6_2).f2).take ((ji60) : Int).toNat).length c163_2, .int .i64 ((Zah l0_1 x6_2).f3), .int .i64 ((Zah l0_1 x6_2).f4), .slice A163_5 ((Zah l0_1 x6_2).f5).length c163_5, .int .i64 ((Zah l0_1 x6_2).f6)] 31 (0, 0))) := ⟨by rw [hX]; (with_reducible repeat (first | refine Zag ?_ _ | refine Zai ?_ | refine Zae ?_ _)); refine Zaq (cs := #[.int .i64 ((Zah l0_1 x6_2).f0), .slice A163_1 (((Zah l0_1 x6_2).f1).take ((ji57) : Int).toNat).length c163_1, .slice A163_2 ((Zah l0_1 x6_2).f2).length c163_2, .int .i64 ((Zah l0_1 x6_2).f3), .int .i64 ((Zah l0_1 x6_2).f4), .slice A163_5 ((Zah l0_1 x6_2).f5).length c163_5, .int .i64 ((Zah l0_1 x6_2).f6)]) ?_ 2 _ rfl; (with_reducible repeat (first | refine Zag ?_ _ | refine Zai ?_ | refine Zae ?_ _)); refine Zaq (cs := #[.int .i64 ((Zah l0_1 x6_2).f0), .slice A163_1 ((Zah l0_1 x6_2).f1).length c163_1, .slice A163_2 ((Zah l0_1 x6_2).f2).length c163_2, .int .i64 ((Zah l0_1 x6_2).f3), .int .i64 ((Zah l0_1 x6_2).f4), .slice A163_5 ((Zah l0_1 x6_2).f5).length c163_5, .int .i64 ((Zah l0_1 x6_2).f6)]) ?_ 1 _ rfl; (with_reducible repeat (first | refine Zag ?_ _ | refine Zai ?_ | refine Zae ?_ _)); refine Zaq (cs := #[.int .i64 ((Zah l0_1 x6_2).f0), .slice A163_1 ((Zah l0_1 x6_2).f1).length c163_1, .slice A163_2 ((Zah l0_1 x6_2).f2).length c163_2, .int .i64 ((Zah l0_1 x6_2).f3), .int .i64 ((Zah l0_1 x6_2).f4), .slice A163_5 ((Zah l0_1 x6_2).f5).length c163_5, .int .i64 0]) ?_ 6 _ rfl; (with_reducible repeat (first | refine Zag ?_ _ | refine Zai ?_ | refine Zae ?_ _)); refine Zaq (cs := #[.int .i64 ((Zah l0_1 x6_2).f0), .slice A163_1 ((Zah l0_1 x6_2).f1).length c163_1, .slice A163_2 ((Zah l0_1 x6_2).f2).length c163_2, .int .i64 ((Zah l0_1 x6_2).f3), .int .i64 ((Zah l0_1 x6_2).f4), .slice none 0 0, .int .i64 0]) ?_ 5 _ rfl; (with_reducible repeat (first | refine Zag ?_ _ | refine Zai ?_ | refine Zae ?_ _)); refine Zaq (cs := #[.int .i64 ((Zah l0_1 x6_2).f0), .slice A163_1 ((Zah l0_1 x6_2).f1).length c163_1, .slice A163_2 ((Zah l0_1 x6_2).f2).length c163_2, .int .i64 ((Zah l0_1 x6_2).f3), .int .i64 0, .slice none 0 0, .int .i64 0]) ?_ 4 _ rfl; (with_reducible repeat (first | refine Zag ?_ _ | refine Zai ?_ | refine Zae ?_ _)); refine Zaq (cs := #[.int .i64 ((Zah l0_1 x6_2).f0), .slice A163_1 ((Zah l0_1 x6_2).f1).length c163_1, .slice A163_2 ((Zah l0_1 x6_2).f2).length c163_2, .int .i64 0, .int .i64 0, .slice none 0 0, .int .i64 0]) ?_ 3 _ rfl; (with_reducible repeat (first | refine Zag ?_ _ | refine Zai ?_ | refine Zae ?_ _)); refine Zaq (cs := #[.int .i64 ((Zah l0_1 x6_2).f0), .slice A163_1 ((Zah l0_1 x6_2).f1).length c163_1, .slice none 0 0, .int .i64 0, .int .i64 0, .slice none 0 0, .int .i64 0]) ?_ 2 _ rfl; (with_reducible repeat (first | refine Zag ?_ _ | refine Zai ?_ | refine Zae ?_ _)); refine Zaq (cs := #[.int .i64 ((Zah l0_1 x6_2).f0), .slice none 0 0, .slice none 0 0, .int .i64 0, .int .i64 0, .slice none 0 0, .int .i64 0]) ?_ 1 _ rfl; (with_reducible repeat (first | refine Zag ?_ _ | refine Zai ?_ | refine Zae ?_ _)); refine Zaq (cs := #[.int .i64 0, .slice none 0 0, .slice none 0 0, .int .i64 0, .int .i64 0, .slice none 0 0, .int .i64 0]) ?_ 0 _ rfl; (with_reducible repeat (first | refine Zag ?_ _ | refine Zai ?_ | refine Zae ?_ _)); exact BK164.out⟩
       have HBW : Za (Below w.heap.size w wX) := ⟨by rw [hX]; repeat (first | (with_reducible first | exact HB.out | apply Zab | apply Zaa | apply Zad | refine Zac ?_ GE131.out | refine Zac ?_ GE132.out | refine Zac ?_ GE133.out | refine Zac ?_ GE164.out) | exact HB.out)⟩
       have eL1 : (((Zah l0_1 x6_2).f1).take (ji57 : Int).toNat).length = (ji57 : Int).toNat := by (have h_ : (ji57 : Int) ≤ (((Zah l0_1 x6_2).f1).length : Int) := of_decide_eq_true (by first | (with_reducible assumption) | assumption)); rw [List.length_take]; omega
       have eL2 : (((Zah l0_1 x6_2).f2).take (ji60 : Int).toNat).length = (ji60 : Int).toNat := by (have h_ : (ji60 : Int) ≤ (((Zah l0_1 x6_2).f2).length : Int) := of_decide_eq_true (by first | (with_reducible assumption) | assumption)); rw [List.length_take]; omega
       have eT : (((((((((w69.setCell ⟨gb164, 0, none⟩ (.int .i64 ((Zah l0_1 x6_2).f0))).setCell ⟨gb164, 1, none⟩ (.slice A163_1 ((Zah l0_1 x6_2).f1).length c163_1)).setCell ⟨gb164, 2, none⟩ (.slice A163_2 ((Zah l0_1 x6_2).f2).length c163_2)).setCell ⟨gb164, 3, none⟩ (.int .i64 ((Zah l0_1 x6_2).f3))).setCell ⟨gb164, 4, none⟩ (.int .i64 ((Zah l0_1 x6_2).f4))).setCell ⟨gb164, 5, none⟩ (.slice A163_5 ((Zah l0_1 x6_2).f5).length c163_5)).setCell ⟨gb164, 6, none⟩ (.int .i64 ((Zah l0_1 x6_2).f6))).setCell ⟨gb164, 1, none⟩ (.slice A163_1 (ji57 : Int).toNat c163_1)).setCell ⟨gb164, 2, none⟩ (.slice A163_2 (ji60 : Int).toNat c163_2)) = wX := by rw [hX, eL1, eL2]
       rw [eT]
       clear eT eL1 eL2
       have HX := Za.mk hX
       clear hX
       go_upto_block 4 with (first | ((with_reducible refine Zax (N := 83) rfl ?_); refine Kd.S_lit (Kd.slice 3 (Kd.int .i64)) _ 24 ?hg (N := 83) ?hd (xs := ([] : List (List Int))) (inner := []) (ok := fun _ => True) (okp := fun _ => True) ?hr ?hp (fun _ hk => hk) trivial (Below.refl _ _) (Nat.le_refl _) (by simp) ?_; (case hd => rfl); (case hg => rfl); (case hr => first | (go_simp; done) | (go_simp; rfl)); (case hp => exact (Reps.none _ _)); intro vL wL hoL hb hg_ hnew_; clear hg_ hnew_; have HL := Za.mk (Kd.Zf8 (ok' := fun k_ => k_ < w.heap.size ∨ wX.heap.size ≤ k_) (Kd.S_N (Kd.S_bound hoL)) (fun k_ hk_ => .inr hk_.2.1)); have HBL := Za.mk hb; clear hb hoL))
       (try simp only [Act.put, List.setIfInBounds_toArray, List.set_cons_zero, List.set_cons_succ])
       go_cut [8] (fun v8 wc => ∃ vr : Value, vr = v8 ∧ Za (Kd.N (Kd.slice 3 (Kd.int .i64)) 24 wc wX.heap.size (fun k_ => k_ < w.heap.size ∨ wX.heap.size ≤ k_) vr t167) ∧ Za (Below wX.heap.size wX wc))
       case first =>
        obtain rfl : cutR (Zah l0_1 x6_2).f5 = t167 := Option.some.inj A63.out
        clear A63
        go_wp2
        go_loopg [8, 9] 21 (fun kq v8 v9 w' => ∃ (n : Nat) (x : Int), v9 = .int .i64 x ∧ Za (x = (n : Int)) ∧ Za (n + kq = 21) ∧ Za (n ≤ ((Zah l0_1 x6_2).f5).length ∧ n ≤ 20) ∧ Za (Kd.N (Kd.slice 3 (Kd.int .i64)) 24 w' wX.heap.size (fun k_ => k_ < w.heap.size ∨ wX.heap.size ≤ k_) v8 ((((Zah l0_1 x6_2).f5).take n).map fun r => r.take 14)) ∧ Za (Below wX.heap.size wX w'))
        case atStart => exact ⟨0, 0, rfl, ⟨rfl⟩, ⟨rfl⟩, ⟨Nat.zero_le _, Nat.zero_le _⟩, ⟨by (with_reducible repeat (first | apply Kd.N_alloc | apply Kd.N_drewN | apply Kd.Zfe)); exact HL.out⟩, ⟨by repeat (first | (with_reducible first | exact HBL.out | apply Zab | apply Zaa | apply Zad) | exact HBL.out)⟩⟩
        case round =>
         clear HL HBL
         obtain ⟨n, x, rfl, HE, HK, HN, HO8, HBL⟩ := hrel
         cases gk with
         | zero => exact absurd HK.out (by have := HN.out.2; omega)
         | succ kI =>
          have BXr := Za.mk (Zap (g := gb164) (o := .cells #[.int .i64 ((Zah l0_1 x6_2).f0), .slice A163_1 (((Zah l0_1 x6_2).f1).take ((ji57) : Int).toNat).length c163_1, .slice A163_2 (((Zah l0_1 x6_2).f2).take ((ji60) : Int).toNat).length c163_2, .int .i64 ((Zah l0_1 x6_2).f3), .int .i64 ((Zah l0_1 x6_2).f4), .slice A163_5 ((Zah l0_1 x6_2).f5).length c163_5, .int .i64 ((Zah l0_1 x6_2).f6)] 31 (0, 0)) BX.out HBL.out)
          have hczI_0 : wr.cell? ⟨gb164, 0, none⟩ = some (.int .i64 ((Zah l0_1 x6_2).f0)) := (Zaj BXr.out 0).trans rfl
          have hczI_1 : wr.cell? ⟨gb164, 1, none⟩ = some (.slice A163_1 (((Zah l0_1 x6_2).f1).take ((ji57) : Int).toNat).length c163_1) := (Zaj BXr.out 1).trans rfl
          have hczI_2 : wr.cell? ⟨gb164, 2, none⟩ = some (.slice A163_2 (((Zah l0_1 x6_2).f2).take ((ji60) : Int).toNat).length c163_2) := (Zaj BXr.out 2).trans rfl
          have hczI_3 : wr.cell? ⟨gb164, 3, none⟩ = some (.int .i64 ((Zah l0_1 x6_2).f3)) := (Zaj BXr.out 3).trans rfl
          have hczI_4 : wr.cell? ⟨gb164, 4, none⟩ = some (.int .i64 ((Zah l0_1 x6_2).f4)) := (Zaj BXr.out 4).trans rfl
          have hczI_5 : wr.cell? ⟨gb164, 5, none⟩ = some (.slice A163_5 ((Zah l0_1 x6_2).f5).length c163_5) := (Zaj BXr.out 5).trans rfl
          have hczI_6 : wr.cell? ⟨gb164, 6, none⟩ = some (.int .i64 ((Zah l0_1 x6_2).f6)) := (Zaj BXr.out 6).trans rfl
          have hfzI_0 := Zao BXr.out 0
          have hfzI_1 := Zao BXr.out 1
          have hfzI_2 := Zao BXr.out 2
          have hfzI_3 := Zao BXr.out 3
          have hfzI_4 := Zao BXr.out 4
          have hfzI_5 := Zao BXr.out 5
          have hfzI_6 := Zao BXr.out 6
          by_cases c1 : n < ((Zah l0_1 x6_2).f5).length
          rotate_left
          ·have d1 : decide (x < (((Zah l0_1 x6_2).f5).length : Int)) = false := decide_eq_false (by have := HE.out; omega)
           have d1p : ¬ (x < (((Zah l0_1 x6_2).f5).length : Int)) := by have := HE.out; omega
           have HOF : Za (Kd.N (Kd.slice 3 (Kd.int .i64)) 24 wr wX.heap.size (fun k_ => k_ < w.heap.size ∨ wX.heap.size ≤ k_) u8 (cutR (Zah l0_1 x6_2).f5)) := ⟨by have e_ : cutR (Zah l0_1 x6_2).f5 = (((Zah l0_1 x6_2).f5).take n).map fun r => r.take 14 := (by have h1_ := HN.out; unfold cutR; rw [List.take_of_length_le (by omega : ((Zah l0_1 x6_2).f5).length ≤ n), List.take_of_length_le (by omega : ((Zah l0_1 x6_2).f5).length ≤ 20)]); rw [e_]; exact HO8.out⟩
           clear c1
           go_wp2
           go_meet
           case rel => exact ⟨_, rfl, ⟨by (with_reducible repeat (first | apply Kd.N_alloc | apply Kd.N_drewN | apply Kd.Zfe)); exact HOF.out⟩, ⟨by repeat (first | (with_reducible first | exact HBL.out | apply Zab | apply Zaa | apply Zad) | exact HBL.out)⟩⟩
          have d1 : decide (x < (((Zah l0_1 x6_2).f5).length : Int)) = true := decide_eq_true (by have := HE.out; omega)
          by_cases c2 : n < 20
          rotate_left
          ·have d2 : decide (x < 20) = false := decide_eq_false (by have := HE.out; omega)
           have d2p : ¬ (x < 20) := by have := HE.out; omega
           have HOF : Za (Kd.N (Kd.slice 3 (Kd.int .i64)) 24 wr wX.heap.size (fun k_ => k_ < w.heap.size ∨ wX.heap.size ≤ k_) u8 (cutR (Zah l0_1 x6_2).f5)) := ⟨by have e_ : cutR (Zah l0_1 x6_2).f5 = (((Zah l0_1 x6_2).f5).take n).map fun r => r.take 14 := (by have h1_ := HN.out; unfold cutR; rw [show n = 20 by omega]); rw [e_]; exact HO8.out⟩
           clear c1 c2
           go_wp2
           go_meet
           case rel => exact ⟨_, rfl, ⟨by (with_reducible repeat (first | apply Kd.N_alloc | apply Kd.N_drewN | apply Kd.Zfe)); exact HOF.out⟩, ⟨by repeat (first | (with_reducible first | exact HBL.out | apply Zab | apply Zaa | apply Zad) | exact HBL.out)⟩⟩
          have d2 : decide (x < 20) = true := decide_eq_true (by have := HE.out; omega)
          obtain ⟨HK1, HN1, LMI, HEW, JI, JJ⟩ : Za (n + 1 + kI = 21) ∧ Za (n + 1 ≤ ((Zah l0_1 x6_2).f5).length ∧ n + 1 ≤ 20) ∧ Za (((((Zah l0_1 x6_2).f5).take n).map fun r => r.take 14).length < 5864062014805) ∧ Za (wrap64 (x + 1) = ((n + 1 : Nat) : Int)) ∧ Za ((0 : Int) ≤ x) ∧ Za (x < (((Zah l0_1 x6_2).f5).length : Int)) := ⟨⟨by have := HK.out; omega⟩, ⟨by omega, by omega⟩, ⟨by rw [List.length_map, List.length_take]; omega⟩, ⟨by rw [HE.out]; unfold wrap64; omega⟩, ⟨by have := HE.out; omega⟩, ⟨by have := HE.out; omega⟩⟩
          have RE : Za (((((Zah l0_1 x6_2).f5).take n).map fun r => r.take 14) ++ [(Zc5 ((Zah l0_1 x6_2).f5) x).take 14] = (((Zah l0_1 x6_2).f5).take (n + 1)).map fun r => r.take 14) := ⟨by rw [List.take_succ_eq_append_getElem c1, List.map_append, HE.out]; simp [Zc5, List.getD_eq_getElem?_getD, List.getElem?_eq_getElem c1]⟩
          clear c1 c2
          obtain ⟨adI, AI, cI, eI, hxI, hlI, hiI⟩ := at_L1 HR163_5.out x JI.out JJ.out
          cases eI
          have HBwr := Za.mk (Zaf HBW.out HBL.out)
          replace hxI := Za.mk hxI
          obtain ⟨jI, hjI⟩ : ∃ j_ : Int, (mn ((Zc5 ((Zah l0_1 x6_2).f5) x).length : Int) 14) = j_ := ⟨_, rfl⟩
          have hjI_ : (if 14 < ((Zc5 ((Zah l0_1 x6_2).f5) x).length : Int) then 14 else ((Zc5 ((Zah l0_1 x6_2).f5) x).length : Int)) = jI := hjI
          have hj0 : 0 ≤ jI := by rw [← hjI_]; split <;> omega
          have hj1 : jI ≤ ((Zc5 ((Zah l0_1 x6_2).f5) x).length : Int) := by rw [← hjI_]; split <;> omega
          have RJ : Za ((Zc5 ((Zah l0_1 x6_2).f5) x).take jI.toNat = (Zc5 ((Zah l0_1 x6_2).f5) x).take 14) := ⟨by rw [← hjI_]; split <;> (first | rfl | (rw [List.take_of_length_le (by omega), List.take_of_length_le (by omega)]))⟩
          have eLI := Za.mk (show ((Zc5 ((Zah l0_1 x6_2).f5) x).take jI.toNat).length = jI.toNat by rw [List.length_take]; omega)
          obtain ⟨i0I, hi0I, _, hszI, _⟩ := info_parts info3
          obtain ⟨hcutI, hAI, hCI⟩ := Zdi (P := Try.prog) (Value.int .i64) 0 24 3 .i64 Try.underlying24 hi0I hszI AI cI (Zc5 ((Zah l0_1 x6_2).f5) x) jI hj0 hj1 hlI
          have HIT := Za.mk (Kd.Zdy (h1 := fun _ => rfl) (hAI _ (Kd.Zdq hiI)))
          have HCI := Za.mk hCI
          clear hAI hCI hi0I hszI hiI
          have j0b : decide (0 ≤ jI) = true := decide_eq_true hj0
          have j1b : decide (jI ≤ ((Zc5 ((Zah l0_1 x6_2).f5) x).length : Int)) = true := decide_eq_true hj1
          replace hj0 := eq_true hj0
          replace hj1 := eq_true hj1
          have x0 : decide (0 ≤ x) = true := decide_eq_true JI.out
          have p0 := eq_true JI.out
          have q0 := eq_true JJ.out
          have FKI : ∀ W : World, Below w.heap.size w W → Kd.FK (Kd.slice 3 (Kd.int .i64)) W (fun k_ => (k_ < w.heap.size ∨ wX.heap.size ≤ k_) ∧ some k_ ≠ (u8 : Value).ownBlock) ((Zc5 ((Zah l0_1 x6_2).f5) x).take jI.toNat) [.slice AI ((Zc5 ((Zah l0_1 x6_2).f5) x).take jI.toNat).length cI] := fun W hW => Kd.FK_slice_mk HCI.out (Kd.Zf7 (Kd.F_below (Kd.C_F (Kd.heap_int .i64) HIT.out) hW) (fun k_ hk_ => ⟨.inl hk_, fun e_ => by have h1_ := Kd.N_base HO8.out k_ e_.symm; have h2_ := Zan HBW.out; omega⟩))
          have FKA := Za.mk FKI
          clear FKI
          try go_wp2_with (fail)
          clear hczI_0 hfzI_0
          clear hczI_1 hfzI_1
          clear hczI_2 hfzI_2
          clear hczI_3 hfzI_3
          clear hczI_4 hfzI_4
          clear hczI_5 hfzI_5
          clear hczI_6 hfzI_6
          have n0_ := Za.mk (Kd.Zfe HO8.out)
          have HO8d := n0_
          clear n0_
          have n0_ := Za.mk (Zai BXr.out)
          clear BXr
          have BXr := n0_
          clear n0_
          have n0_ := Za.mk (Zad HBL.out)
          clear HBL
          have HBL := n0_
          clear n0_
          have n0_ := Za.mk (Zad HBwr.out)
          clear HBwr
          have HBwr := n0_
          clear n0_
          refine Zfw (n := 17) (S := fun w' => w'.cell? ⟨gb164, 5, none⟩ = some (.slice (some adI) ((Zah l0_1 x6_2).f5).length c163_5) ∧ w'.cell? (adI.add (x : Int).toNat) = some (.slice AI (Zc5 ((Zah l0_1 x6_2).f5) x).length cI)) (ds := [15]) #[false, false, false, false, false, false, false, false, false, false, false, false, false, false, false, false, false] (by kernel_rfl) rfl rfl ⟨(Zaj BXr.out 5).trans rfl, (HBwr.out.cell (World.block_lt_of_cell? w _ hxI.out)).trans hxI.out⟩ (fun hHeld => ?_); refine Zds Zak.tab17 Zak.bits17 (fun HT_ HW_ => ?_)
          generalize wr.drew = wd at HO8d BXr HBL HBwr hHeld ⊢
          refine Zbx (i := 0) (N := some 95) (v := ?_) (a' := ?_) #[true, false, false, false, false, false, false, false, false, false, false, false, false, false, false, false, false] rfl rfl (Zbi HT_.out (by kernel_rfl)) (fun _ _ _ h => h) (Or.inl ⟨by rfl, ?_⟩) ?_ ?_
          rotate_left
          ·intro w'
           go_simp
           with_reducible rfl
          rotate_left
          ·simp only [Act.put, List.setIfInBounds_toArray, List.set_cons_zero, List.set_cons_succ, Zbb, Zbd]
           rfl
          refine Zbx (i := 1) (N := some 96) (v := ?_) (a' := ?_) #[true, true, false, false, false, false, false, false, false, false, false, false, false, false, false, false, false] rfl rfl (Zbi HT_.out (by kernel_rfl)) (fun _ _ _ h => h) (Or.inl ⟨by rfl, ?_⟩) ?_ ?_
          rotate_left
          ·intro w'
           go_simp
           with_reducible rfl
          rotate_left
          ·simp only [Act.put, List.setIfInBounds_toArray, List.set_cons_zero, List.set_cons_succ, Zbb, Zbd]
           rfl
          refine Zdj (i := 2) (N := some 97) (v := ?_) (a' := ?_) #[true, true, true, false, false, false, false, false, false, false, false, false, false, false, false, false, false] rfl rfl (Zb8 HT_.out HW_.out (by kernel_rfl)) (fun _ _ _ h => h) (Or.inl ⟨by rfl, ?_⟩) hHeld ?_ ?_
          rotate_left
          ·rintro w' ⟨s0, s1⟩
           go_simp
           with_reducible rfl
          rotate_left
          ·simp only [Act.put, List.setIfInBounds_toArray, List.set_cons_zero, List.set_cons_succ, Zbb, Zbd]
           rfl
          refine Zbx (i := 3) (N := some 98) (v := ?_) (a' := ?_) #[true, true, true, true, false, false, false, false, false, false, false, false, false, false, false, false, false] rfl rfl (Zbi HT_.out (by kernel_rfl)) (fun _ _ _ h => h) (Or.inl ⟨by rfl, ?_⟩) ?_ ?_
          rotate_left
          ·intro w'
           go_simp
           with_reducible rfl
          rotate_left
          ·simp only [Act.put, List.setIfInBounds_toArray, List.set_cons_zero, List.set_cons_succ, Zbb, Zbd]
           rfl
          refine Zbx (i := 4) (N := some 99) (v := ?_) (a' := ?_) #[true, true, true, true, true, false, false, false, false, false, false, false, false, false, false, false, false] rfl rfl (Zbi HT_.out (by kernel_rfl)) (fun _ _ _ h => h) (Or.inl ⟨by rfl, ?_⟩) ?_ ?_
          rotate_left
          ·intro w'
           go_simp
           with_reducible rfl
          rotate_left
          ·simp only [Act.put, List.setIfInBounds_toArray, List.set_cons_zero, List.set_cons_succ, Zbb, Zbd]
           rfl
          refine Zdj (i := 5) (N := some 100) (v := ?_) (a' := ?_) #[true, true, true, true, true, true, false, false, false, false, false, false, false, false, false, false, false] rfl rfl (Zb8 HT_.out HW_.out (by kernel_rfl)) (fun _ _ _ h => h) (Or.inl ⟨by rfl, ?_⟩) hHeld ?_ ?_
          rotate_left
          ·rintro w' ⟨s0, s1⟩
           go_simp
           with_reducible rfl
          rotate_left
          ·simp only [Act.put, List.setIfInBounds_toArray, List.set_cons_zero, List.set_cons_succ, Zbb, Zbd]
           rfl
          refine Zbx (i := 6) (N := some 101) (v := ?_) (a' := ?_) #[true, true, true, true, true, true, true, false, false, false, false, false, false, false, false, false, false] rfl rfl (Zbi HT_.out (by kernel_rfl)) (fun _ _ _ h => h) (Or.inl ⟨by rfl, ?_⟩) ?_ ?_
          rotate_left
          ·intro w'
           go_simp
           with_reducible rfl
          rotate_left
          ·simp only [Act.put, List.setIfInBounds_toArray, List.set_cons_zero, List.set_cons_succ, Zbb, Zbd]
           rfl
          refine Zdj (i := 7) (N := some 102) (v := ?_) (a' := ?_) #[true, true, true, true, true, true, true, true, false, false, false, false, false, false, false, false, false] rfl rfl (Zb8 HT_.out HW_.out (by kernel_rfl)) (fun _ _ _ h => h) (Or.inl ⟨by rfl, ?_⟩) hHeld ?_ ?_
          rotate_left
          ·rintro w' ⟨s0, s1⟩
           go_simp
           with_reducible rfl
          rotate_left
          ·simp only [Act.put, List.setIfInBounds_toArray, List.set_cons_zero, List.set_cons_succ, Zbb, Zbd]
           rfl
          refine Zbx (i := 8) (N := some 103) (v := ?_) (a' := ?_) #[true, true, true, true, true, true, true, true, true, false, false, false, false, false, false, false, false] rfl rfl (Zbi HT_.out (by kernel_rfl)) (fun _ _ _ h => h) (Or.inl ⟨by rfl, ?_⟩) ?_ ?_
          rotate_left
          ·intro w'
           go_simp
           with_reducible rfl
          rotate_left
          ·simp only [Act.put, List.setIfInBounds_toArray, List.set_cons_zero, List.set_cons_succ, Zbb, Zbd]
           rfl
          refine Zbx (i := 9) (N := some 104) (v := ?_) (a' := ?_) #[true, true, true, true, true, true, true, true, true, true, false, false, false, false, false, false, false] rfl rfl (Zbi HT_.out (by kernel_rfl)) (fun _ _ _ h => h) (Or.inl ⟨by rfl, ?_⟩) ?_ ?_
          rotate_left
          ·intro w'
           go_simp
           with_reducible rfl
          rotate_left
          ·simp only [Act.put, List.setIfInBounds_toArray, List.set_cons_zero, List.set_cons_succ, Zbb, Zbd]
           rfl
          refine Zdj (i := 10) (N := some 105) (v := ?_) (a' := ?_) #[true, true, true, true, true, true, true, true, true, true, true, false, false, false, false, false, false] rfl rfl (Zb8 HT_.out HW_.out (by kernel_rfl)) (fun _ _ _ h => h) (Or.inl ⟨by rfl, ?_⟩) hHeld ?_ ?_
          rotate_left
          ·rintro w' ⟨s0, s1⟩
           go_simp
           with_reducible rfl
          rotate_left
          ·simp only [Act.put, List.setIfInBounds_toArray, List.set_cons_zero, List.set_cons_succ, Zbb, Zbd]
           rfl
          refine Zbx (i := 11) (N := some 106) (v := ?_) (a' := ?_) #[true, true, true, true, true, true, true, true, true, true, true, true, false, false, false, false, false] rfl rfl (Zbi HT_.out (by kernel_rfl)) (fun _ _ _ h => h) (Or.inl ⟨by rfl, ?_⟩) ?_ ?_
          rotate_left
          ·intro w'
           go_simp
           with_reducible rfl
          rotate_left
          ·simp only [Act.put, List.setIfInBounds_toArray, List.set_cons_zero, List.set_cons_succ, Zbb, Zbd]
           rfl
          refine Zbx (i := 12) (N := some 107) (v := ?_) (a' := ?_) #[true, true, true, true, true, true, true, true, true, true, true, true, true, false, false, false, false] rfl rfl (Zbi HT_.out (by kernel_rfl)) (fun _ _ _ h => h) (Or.inl ⟨by rfl, ?_⟩) ?_ ?_
          rotate_left
          ·intro w'
           go_simp
           with_reducible rfl
          rotate_left
          ·simp only [Act.put, List.setIfInBounds_toArray, List.set_cons_zero, List.set_cons_succ, Zbb, Zbd]
           rfl
          refine Zbx (i := 13) (N := some 108) (v := ?_) (a' := ?_) #[true, true, true, true, true, true, true, true, true, true, true, true, true, true, false, false, false] rfl rfl (Zbi HT_.out (by kernel_rfl)) (fun _ _ _ h => h) (Or.inl ⟨by rfl, ?_⟩) ?_ ?_
          rotate_left
          ·intro w'
           go_simp
           with_reducible rfl
          rotate_left
          ·simp only [Act.put, List.setIfInBounds_toArray, List.set_cons_zero, List.set_cons_succ, Zbb, Zbd]
           rfl
          refine one_ (i := 14) (N := some 109) #[true, true, true, true, true, true, true, true, true, true, true, true, true, true, true, false, false] rfl rfl (Zck HT_.out (by kernel_rfl)) (by decide) (fun K hK => ?_)
          refine value_ (w1 := ?_) (v := ?_) (by rfl) rfl ?_ ?_
          rotate_left 2
          ·go_simp
           constructor
           ·rfl
           rfl
          refine hK.out _ _ ⟨(Zaj (Zae BXr.out _) 5).trans rfl, ((Zaf HBwr.out (Zab (Below.refl _ _) _)).cell (World.block_lt_of_cell? w _ hxI.out)).trans hxI.out⟩ (fun hHeld => ?_)
          clear hK K
          refine Zc4 (a' := ?_) ?_ ?_
          rotate_left
          ·show Act.put _ (some 109) _ = _
           simp only [Act.put, List.setIfInBounds_toArray, List.set_cons_zero, List.set_cons_succ, Zbb, Zbd]
           rfl
          refine last_ (i := 15) (N := some 110) #[true, true, true, true, true, true, true, true, true, true, true, true, true, true, true, true, false] rfl rfl (Zck HT_.out (by kernel_rfl)) (by decide) (fun K hK => ?_)
          refine Kd.N_append_step (Kd.slice 3 (Kd.int .i64)) (w0 := wX) wX.heap.size (by rfl) (.tmp 95) (.tmp 109) 29 24 (.slice none 0 0) 24 rfl Try.underlying29 info24 rfl (by decide) (by omega) u8 ((((Zah l0_1 x6_2).f5).take n).map fun r => r.take 14) ((Zc5 ((Zah l0_1 x6_2).f5) x).take jI.toNat) [.slice AI (jI : Int).toNat cI] (fun k_ => k_ < w.heap.size ∨ wX.heap.size ≤ k_) (fun k_ => (k_ < w.heap.size ∨ wX.heap.size ≤ k_) ∧ some k_ ≠ (u8 : Value).ownBlock) rfl rfl ?aP (fun _ hk => hk) (fun k_ hk => .inr (Nat.le_trans (Zan HBL.out) hk)) HO8d.out HBL.out (Zan HBL.out) (by have := LMI.out; omega) ?_
          (case aP => have hq_ := FKA.out _ HBwr.out; rw [eLI.out] at hq_; exact hq_)
          intro vN wN ho hb hg hat
          have HON := Za.mk ho
          have HBN := Za.mk hb
          clear ho hb hg hat
          refine hK.out _ _ ?_
          clear hK K
          refine Zc4 (a' := ?_) ?_ ?_
          rotate_left
          ·show Act.put _ (some 110) _ = _
           simp only [Act.put, List.setIfInBounds_toArray, List.set_cons_zero, List.set_cons_succ, Zbb, Zbd]
           rfl
          refine Zbx (i := 16) (N := some 8) (v := ?_) (a' := ?_) #[true, true, true, true, true, true, true, true, true, true, true, true, true, true, true, true, true] rfl rfl (Zbi HT_.out (by kernel_rfl)) (fun _ _ _ h => h) (Or.inl ⟨by rfl, ?_⟩) ?_ ?_
          rotate_left
          ·intro w'
           go_simp
           with_reducible rfl
          rotate_left
          ·simp only [Act.put, List.setIfInBounds_toArray, List.set_cons_zero, List.set_cons_succ, Zbb, Zbd]
           rfl
          refine done_ (Zek HT_.out (by kernel_rfl)) ?_
          try go_wp2
          go_roundg kI
          case measure => omega
          case rel => exact ⟨n + 1, _, rfl, HEW, HK1, HN1, ⟨by rw [← RE.out, ← RJ.out]; (with_reducible repeat (first | apply Kd.N_alloc | apply Kd.N_drewN | apply Kd.Zfe)); exact HON.out⟩, ⟨by repeat (first | (with_reducible first | exact HBN.out | apply Zab | apply Zaa | apply Zad) | exact HBN.out)⟩⟩
       case rest =>
        obtain ⟨v168, rfl, HN, HBL⟩ := hcut
        obtain ⟨w76, rfl⟩ : ∃ w_ : World, w_ = wc := ⟨_, rfl⟩
        have hX := HX.out
        clear HX BX HBW
        subst hX
        have hb := HBL.out
        have n0_ := Za.mk (Kd.Zcw (by (with_reducible repeat (first | apply Kd.Zbj | apply Kd.Zbk | apply Kd.Zbr)); exact (Kd.Zcj (Kd.Zbv (p := ⟨gb164, 2, none⟩) (Kd.Zbv (p := ⟨gb164, 1, none⟩) (Kd.Zbv (p := ⟨gb164, 6, none⟩) (Kd.Zbv (p := ⟨gb164, 5, none⟩) (Kd.Zbv (p := ⟨gb164, 4, none⟩) (Kd.Zbv (p := ⟨gb164, 3, none⟩) (Kd.Zbv (p := ⟨gb164, 2, none⟩) (Kd.Zbv (p := ⟨gb164, 1, none⟩) (Kd.Zbv (p := ⟨gb164, 0, none⟩) (Kd.Zcm HO_134000.out BK164.out (by decide)) (fun _ hk => hk.2) (.int .i64 ((Zah l0_1 x6_2).f0))) (fun _ hk => hk.2) (.slice A163_1 ((Zah l0_1 x6_2).f1).length c163_1)) (fun _ hk => hk.2) (.slice A163_2 ((Zah l0_1 x6_2).f2).length c163_2)) (fun _ hk => hk.2) (.int .i64 ((Zah l0_1 x6_2).f3))) (fun _ hk => hk.2) (.int .i64 ((Zah l0_1 x6_2).f4))) (fun _ hk => hk.2) (.slice A163_5 ((Zah l0_1 x6_2).f5).length c163_5)) (fun _ hk => hk.2) (.int .i64 ((Zah l0_1 x6_2).f6))) (fun _ hk => hk.2) (.slice A163_1 (((Zah l0_1 x6_2).f1).take ((ji57) : Int).toNat).length c163_1)) (fun _ hk => hk.2) (.slice A163_2 (((Zah l0_1 x6_2).f2).take ((ji60) : Int).toNat).length c163_2)) (fun _ h_ => h_.1))) hb)
        have n1_ := Za.mk (Kd.Zb6 (by (with_reducible repeat (first | apply Kd.Zat | apply Kd.Zau | apply Kd.Zaz)); exact (Kd.Za2 (Kd.Za1 (p := ⟨gb164, 2, none⟩) (Kd.Za1 (p := ⟨gb164, 1, none⟩) (Kd.Za1 (p := ⟨gb164, 6, none⟩) (Kd.Za1 (p := ⟨gb164, 5, none⟩) (Kd.Za1 (p := ⟨gb164, 4, none⟩) (Kd.Za1 (p := ⟨gb164, 3, none⟩) (Kd.Za1 (p := ⟨gb164, 2, none⟩) (Kd.Za1 (p := ⟨gb164, 1, none⟩) (Kd.Za1 (p := ⟨gb164, 0, none⟩) (Kd.Za2 HO_134001.out (fun k_ hk => (⟨hk, hk.2⟩ : _ ∧ k_ ≠ gb164))) (fun _ hk => hk.2) (.int .i64 ((Zah l0_1 x6_2).f0))) (fun _ hk => hk.2) (.slice A163_1 ((Zah l0_1 x6_2).f1).length c163_1)) (fun _ hk => hk.2) (.slice A163_2 ((Zah l0_1 x6_2).f2).length c163_2)) (fun _ hk => hk.2) (.int .i64 ((Zah l0_1 x6_2).f3))) (fun _ hk => hk.2) (.int .i64 ((Zah l0_1 x6_2).f4))) (fun _ hk => hk.2) (.slice A163_5 ((Zah l0_1 x6_2).f5).length c163_5)) (fun _ hk => hk.2) (.int .i64 ((Zah l0_1 x6_2).f6))) (fun _ hk => hk.2) (.slice A163_1 (((Zah l0_1 x6_2).f1).take ((ji57) : Int).toNat).length c163_1)) (fun _ hk => hk.2) (.slice A163_2 (((Zah l0_1 x6_2).f2).take ((ji60) : Int).toNat).length c163_2)) (fun _ h_ => h_.1))) hb)
        have n2_ : Za (Kd.V (Kd.slice 3 (Kd.int .i64)) 24 w76 w.heap.size (fun k_ => some k_ ≠ (u134000 : Value).ownBlock ∧ some k_ ≠ (u134001 : Value).ownBlock ∧ k_ ≠ gb131 ∧ k_ ≠ gb132 ∧ k_ ≠ gb133 ∧ k_ ≠ gb164) v168 t167) := ⟨Kd.Zdu (Kd.N_V HN.out) (fun k_ hk_ => hk_.elim (fun hk_ => ⟨fun e_ => Nat.not_le.2 hk_ (Kd.S_base HO_134000.out k_ e_.symm), fun e_ => Nat.not_le.2 hk_ (Kd.Zb4 HO_134001.out k_ e_.symm), fun e_ => Nat.not_le.2 hk_ (by rw [e_]; exact GW131.out), fun e_ => Nat.not_le.2 hk_ (by rw [e_]; exact GW132.out), fun e_ => Nat.not_le.2 hk_ (by rw [e_]; exact GW133.out), fun e_ => Nat.not_le.2 hk_ (by rw [e_]; exact GW164.out)⟩) (fun hk_ => ⟨(Kd.fresh' (Kd.S_lt (by (with_reducible repeat (first | apply Kd.Zbj | apply Kd.Zbk | apply Kd.Zbr)); exact (Kd.Zcj (Kd.Zbv (p := ⟨gb164, 2, none⟩) (Kd.Zbv (p := ⟨gb164, 1, none⟩) (Kd.Zbv (p := ⟨gb164, 6, none⟩) (Kd.Zbv (p := ⟨gb164, 5, none⟩) (Kd.Zbv (p := ⟨gb164, 4, none⟩) (Kd.Zbv (p := ⟨gb164, 3, none⟩) (Kd.Zbv (p := ⟨gb164, 2, none⟩) (Kd.Zbv (p := ⟨gb164, 1, none⟩) (Kd.Zbv (p := ⟨gb164, 0, none⟩) (Kd.Zcm HO_134000.out BK164.out (by decide)) (fun _ hk => hk.2) (.int .i64 ((Zah l0_1 x6_2).f0))) (fun _ hk => hk.2) (.slice A163_1 ((Zah l0_1 x6_2).f1).length c163_1)) (fun _ hk => hk.2) (.slice A163_2 ((Zah l0_1 x6_2).f2).length c163_2)) (fun _ hk => hk.2) (.int .i64 ((Zah l0_1 x6_2).f3))) (fun _ hk => hk.2) (.int .i64 ((Zah l0_1 x6_2).f4))) (fun _ hk => hk.2) (.slice A163_5 ((Zah l0_1 x6_2).f5).length c163_5)) (fun _ hk => hk.2) (.int .i64 ((Zah l0_1 x6_2).f6))) (fun _ hk => hk.2) (.slice A163_1 (((Zah l0_1 x6_2).f1).take ((ji57) : Int).toNat).length c163_1)) (fun _ hk => hk.2) (.slice A163_2 (((Zah l0_1 x6_2).f2).take ((ji60) : Int).toNat).length c163_2)) (fun _ h_ => h_.1)))) k_ hk_), (Kd.fresh' (Kd.R_lt (by (with_reducible repeat (first | apply Kd.Zat | apply Kd.Zau | apply Kd.Zaz)); exact (Kd.Za2 (Kd.Za1 (p := ⟨gb164, 2, none⟩) (Kd.Za1 (p := ⟨gb164, 1, none⟩) (Kd.Za1 (p := ⟨gb164, 6, none⟩) (Kd.Za1 (p := ⟨gb164, 5, none⟩) (Kd.Za1 (p := ⟨gb164, 4, none⟩) (Kd.Za1 (p := ⟨gb164, 3, none⟩) (Kd.Za1 (p := ⟨gb164, 2, none⟩) (Kd.Za1 (p := ⟨gb164, 1, none⟩) (Kd.Za1 (p := ⟨gb164, 0, none⟩) (Kd.Za2 HO_134001.out (fun k_ hk => (⟨hk, hk.2⟩ : _ ∧ k_ ≠ gb164))) (fun _ hk => hk.2) (.int .i64 ((Zah l0_1 x6_2).f0))) (fun _ hk => hk.2) (.slice A163_1 ((Zah l0_1 x6_2).f1).length c163_1)) (fun _ hk => hk.2) (.slice A163_2 ((Zah l0_1 x6_2).f2).length c163_2)) (fun _ hk => hk.2) (.int .i64 ((Zah l0_1 x6_2).f3))) (fun _ hk => hk.2) (.int .i64 ((Zah l0_1 x6_2).f4))) (fun _ hk => hk.2) (.slice A163_5 ((Zah l0_1 x6_2).f5).length c163_5)) (fun _ hk => hk.2) (.int .i64 ((Zah l0_1 x6_2).f6))) (fun _ hk => hk.2) (.slice A163_1 (((Zah l0_1 x6_2).f1).take ((ji57) : Int).toNat).length c163_1)) (fun _ hk => hk.2) (.slice A163_2 (((Zah l0_1 x6_2).f2).take ((ji60) : Int).toNat).length c163_2)) (fun _ h_ => h_.1)))) k_ hk_), (Kd.freshB (g := gb131) (o := .cells #[.slice A0_0 l0_0.length c0_0, .slice (some ad163) l0_1.length c0_1, .int .i64 a0_2, .slice A0_3 l0_3.length c0_3, .slice A0_4 l0_4.length c0_4] 28 (0, 0)) (by (with_reducible repeat (first | refine Zag ?_ _ | refine Zai ?_ | refine Zae ?_ _)); refine Zav ?_ NB131_164.out _; (with_reducible repeat (first | refine Zag ?_ _ | refine Zai ?_ | refine Zae ?_ _)); refine Zav ?_ NB131_164.out _; (with_reducible repeat (first | refine Zag ?_ _ | refine Zai ?_ | refine Zae ?_ _)); refine Zav ?_ NB131_164.out _; (with_reducible repeat (first | refine Zag ?_ _ | refine Zai ?_ | refine Zae ?_ _)); refine Zav ?_ NB131_164.out _; (with_reducible repeat (first | refine Zag ?_ _ | refine Zai ?_ | refine Zae ?_ _)); refine Zav ?_ NB131_164.out _; (with_reducible repeat (first | refine Zag ?_ _ | refine Zai ?_ | refine Zae ?_ _)); refine Zav ?_ NB131_164.out _; (with_reducible repeat (first | refine Zag ?_ _ | refine Zai ?_ | refine Zae ?_ _)); refine Zav ?_ NB131_164.out _; (with_reducible repeat (first | refine Zag ?_ _ | refine Zai ?_ | refine Zae ?_ _)); refine Zav ?_ NB131_164.out _; (with_reducible repeat (first | refine Zag ?_ _ | refine Zai ?_ | refine Zae ?_ _)); refine Zav ?_ NB131_164.out _; (with_reducible repeat (first | refine Zag ?_ _ | refine Zai ?_ | refine Zae ?_ _)); exact BK131.out) k_ hk_), (Kd.freshB (g := gb132) (o := .cells #[.slice none 0 0, .slice none 0 0, .int .i64 0, .slice none 0 0, .slice none 0 0] 28 (0, 0)) (by (with_reducible repeat (first | refine Zag ?_ _ | refine Zai ?_ | refine Zae ?_ _)); refine Zav ?_ NB132_164.out _; (with_reducible repeat (first | refine Zag ?_ _ | refine Zai ?_ | refine Zae ?_ _)); refine Zav ?_ NB132_164.out _; (with_reducible repeat (first | refine Zag ?_ _ | refine Zai ?_ | refine Zae ?_ _)); refine Zav ?_ NB132_164.out _; (with_reducible repeat (first | refine Zag ?_ _ | refine Zai ?_ | refine Zae ?_ _)); refine Zav ?_ NB132_164.out _; (with_reducible repeat (first | refine Zag ?_ _ | refine Zai ?_ | refine Zae ?_ _)); refine Zav ?_ NB132_164.out _; (with_reducible repeat (first | refine Zag ?_ _ | refine Zai ?_ | refine Zae ?_ _)); refine Zav ?_ NB132_164.out _; (with_reducible repeat (first | refine Zag ?_ _ | refine Zai ?_ | refine Zae ?_ _)); refine Zav ?_ NB132_164.out _; (with_reducible repeat (first | refine Zag ?_ _ | refine Zai ?_ | refine Zae ?_ _)); refine Zav ?_ NB132_164.out _; (with_reducible repeat (first | refine Zag ?_ _ | refine Zai ?_ | refine Zae ?_ _)); refine Zav ?_ NB132_164.out _; (with_reducible repeat (first | refine Zag ?_ _ | refine Zai ?_ | refine Zae ?_ _)); exact BK132.out) k_ hk_), (Kd.freshB (g := gb133) (o := .cells #[u134000, u134001, .int .i64 a0_2, .slice A0_3 l0_3.length c0_3, .slice A0_4 l0_4.length c0_4] 28 (0, 0)) (by (with_reducible repeat (first | refine Zag ?_ _ | refine Zai ?_ | refine Zae ?_ _)); refine Zav ?_ NB133_164.out _; (with_reducible repeat (first | refine Zag ?_ _ | refine Zai ?_ | refine Zae ?_ _)); refine Zav ?_ NB133_164.out _; (with_reducible repeat (first | refine Zag ?_ _ | refine Zai ?_ | refine Zae ?_ _)); refine Zav ?_ NB133_164.out _; (with_reducible repeat (first | refine Zag ?_ _ | refine Zai ?_ | refine Zae ?_ _)); refine Zav ?_ NB133_164.out _; (with_reducible repeat (first | refine Zag ?_ _ | refine Zai ?_ | refine Zae ?_ _)); refine Zav ?_ NB133_164.out _; (with_reducible repeat (first | refine Zag ?_ _ | refine Zai ?_ | refine Zae ?_ _)); refine Zav ?_ NB133_164.out _; (with_reducible repeat (first | refine Zag ?_ _ | refine Zai ?_ | refine Zae ?_ _)); refine Zav ?_ NB133_164.out _; (with_reducible repeat (first | refine Zag ?_ _ | refine Zai ?_ | refine Zae ?_ _)); refine Zav ?_ NB133_164.out _; (with_reducible repeat (first | refine Zag ?_ _ | refine Zai ?_ | refine Zae ?_ _)); refine Zav ?_ NB133_164.out _; (with_reducible repeat (first | refine Zag ?_ _ | refine Zai ?_ | refine Zae ?_ _)); exact BK133.out) k_ hk_), (Kd.freshB (g := gb164) (o := .cells #[.int .i64 ((Zah l0_1 x6_2).f0), .slice A163_1 (((Zah l0_1 x6_2).f1).take ((ji57) : Int).toNat).length c163_1, .slice A163_2 (((Zah l0_1 x6_2).f2).take ((ji60) : Int).toNat).length c163_2, .int .i64 ((Zah l0_1 x6_2).f3), .int .i64 ((Zah l0_1 x6_2).f4), .slice A163_5 ((Zah l0_1 x6_2).f5).length c163_5, .int .i64 ((Zah l0_1 x6_2).f6)] 31 (0, 0)) (by (with_reducible repeat (first | refine Zag ?_ _ | refine Zai ?_ | refine Zae ?_ _)); refine Zaq (cs := #[.int .i64 ((Zah l0_1 x6_2).f0), .slice A163_1 (((Zah l0_1 x6_2).f1).take ((ji57) : Int).toNat).length c163_1, .slice A163_2 ((Zah l0_1 x6_2).f2).length c163_2, .int .i64 ((Zah l0_1 x6_2).f3), .int .i64 ((Zah l0_1 x6_2).f4), .slice A163_5 ((Zah l0_1 x6_2).f5).length c163_5, .int .i64 ((Zah l0_1 x6_2).f6)]) ?_ 2 _ rfl; (with_reducible repeat (first | refine Zag ?_ _ | refine Zai ?_ | refine Zae ?_ _)); refine Zaq (cs := #[.int .i64 ((Zah l0_1 x6_2).f0), .slice A163_1 ((Zah l0_1 x6_2).f1).length c163_1, .slice A163_2 ((Zah l0_1 x6_2).f2).length c163_2, .int .i64 ((Zah l0_1 x6_2).f3), .int .i64 ((Zah l0_1 x6_2).f4), .slice A163_5 ((Zah l0_1 x6_2).f5).length c163_5, .int .i64 ((Zah l0_1 x6_2).f6)]) ?_ 1 _ rfl; (with_reducible repeat (first | refine Zag ?_ _ | refine Zai ?_ | refine Zae ?_ _)); refine Zaq (cs := #[.int .i64 ((Zah l0_1 x6_2).f0), .slice A163_1 ((Zah l0_1 x6_2).f1).length c163_1, .slice A163_2 ((Zah l0_1 x6_2).f2).length c163_2, .int .i64 ((Zah l0_1 x6_2).f3), .int .i64 ((Zah l0_1 x6_2).f4), .slice A163_5 ((Zah l0_1 x6_2).f5).length c163_5, .int .i64 0]) ?_ 6 _ rfl; (with_reducible repeat (first | refine Zag ?_ _ | refine Zai ?_ | refine Zae ?_ _)); refine Zaq (cs := #[.int .i64 ((Zah l0_1 x6_2).f0), .slice A163_1 ((Zah l0_1 x6_2).f1).length c163_1, .slice A163_2 ((Zah l0_1 x6_2).f2).length c163_2, .int .i64 ((Zah l0_1 x6_2).f3), .int .i64 ((Zah l0_1 x6_2).f4), .slice none 0 0, .int .i64 0]) ?_ 5 _ rfl; (with_reducible repeat (first | refine Zag ?_ _ | refine Zai ?_ | refine Zae ?_ _)); refine Zaq (cs := #[.int .i64 ((Zah l0_1 x6_2).f0), .slice A163_1 ((Zah l0_1 x6_2).f1).length c163_1, .slice A163_2 ((Zah l0_1 x6_2).f2).length c163_2, .int .i64 ((Zah l0_1 x6_2).f3), .int .i64 0, .slice none 0 0, .int .i64 0]) ?_ 4 _ rfl; (with_reducible repeat (first | refine Zag ?_ _ | refine Zai ?_ | refine Zae ?_ _)); refine Zaq (cs := #[.int .i64 ((Zah l0_1 x6_2).f0), .slice A163_1 ((Zah l0_1 x6_2).f1).length c163_1, .slice A163_2 ((Zah l0_1 x6_2).f2).length c163_2, .int .i64 0, .int .i64 0, .slice none 0 0, .int .i64 0]) ?_ 3 _ rfl; (with_reducible repeat (first | refine Zag ?_ _ | refine Zai ?_ | refine Zae ?_ _)); refine Zaq (cs := #[.int .i64 ((Zah l0_1 x6_2).f0), .slice A163_1 ((Zah l0_1 x6_2).f1).length c163_1, .slice none 0 0, .int .i64 0, .int .i64 0, .slice none 0 0, .int .i64 0]) ?_ 2 _ rfl; (with_reducible repeat (first | refine Zag ?_ _ | refine Zai ?_ | refine Zae ?_ _)); refine Zaq (cs := #[.int .i64 ((Zah l0_1 x6_2).f0), .slice none 0 0, .slice none 0 0, .int .i64 0, .int .i64 0, .slice none 0 0, .int .i64 0]) ?_ 1 _ rfl; (with_reducible repeat (first | refine Zag ?_ _ | refine Zai ?_ | refine Zae ?_ _)); refine Zaq (cs := #[.int .i64 0, .slice none 0 0, .slice none 0 0, .int .i64 0, .int .i64 0, .slice none 0 0, .int .i64 0]) ?_ 0 _ rfl; (with_reducible repeat (first | refine Zag ?_ _ | refine Zai ?_ | refine Zae ?_ _)); exact BK164.out) k_ hk_)⟩))⟩
        have n3_ := Za.mk (Zap (g := gb131) (o := .cells #[.slice A0_0 l0_0.length c0_0, .slice (some ad163) l0_1.length c0_1, .int .i64 a0_2, .slice A0_3 l0_3.length c0_3, .slice A0_4 l0_4.length c0_4] 28 (0, 0)) (by (with_reducible repeat (first | refine Zag ?_ _ | refine Zai ?_ | refine Zae ?_ _)); refine Zav ?_ NB131_164.out _; (with_reducible repeat (first | refine Zag ?_ _ | refine Zai ?_ | refine Zae ?_ _)); refine Zav ?_ NB131_164.out _; (with_reducible repeat (first | refine Zag ?_ _ | refine Zai ?_ | refine Zae ?_ _)); refine Zav ?_ NB131_164.out _; (with_reducible repeat (first | refine Zag ?_ _ | refine Zai ?_ | refine Zae ?_ _)); refine Zav ?_ NB131_164.out _; (with_reducible repeat (first | refine Zag ?_ _ | refine Zai ?_ | refine Zae ?_ _)); refine Zav ?_ NB131_164.out _; (with_reducible repeat (first | refine Zag ?_ _ | refine Zai ?_ | refine Zae ?_ _)); refine Zav ?_ NB131_164.out _; (with_reducible repeat (first | refine Zag ?_ _ | refine Zai ?_ | refine Zae ?_ _)); refine Zav ?_ NB131_164.out _; (with_reducible repeat (first | refine Zag ?_ _ | refine Zai ?_ | refine Zae ?_ _)); refine Zav ?_ NB131_164.out _; (with_reducible repeat (first | refine Zag ?_ _ | refine Zai ?_ | refine Zae ?_ _)); refine Zav ?_ NB131_164.out _; (with_reducible repeat (first | refine Zag ?_ _ | refine Zai ?_ | refine Zae ?_ _)); exact BK131.out) hb)
        have n4_ := Za.mk (Zap (g := gb132) (o := .cells #[.slice none 0 0, .slice none 0 0, .int .i64 0, .slice none 0 0, .slice none 0 0] 28 (0, 0)) (by (with_reducible repeat (first | refine Zag ?_ _ | refine Zai ?_ | refine Zae ?_ _)); refine Zav ?_ NB132_164.out _; (with_reducible repeat (first | refine Zag ?_ _ | refine Zai ?_ | refine Zae ?_ _)); refine Zav ?_ NB132_164.out _; (with_reducible repeat (first | refine Zag ?_ _ | refine Zai ?_ | refine Zae ?_ _)); refine Zav ?_ NB132_164.out _; (with_reducible repeat (first | refine Zag ?_ _ | refine Zai ?_ | refine Zae ?_ _)); refine Zav ?_ NB132_164.out _; (with_reducible repeat (first | refine Zag ?_ _ | refine Zai ?_ | refine Zae ?_ _)); refine Zav ?_ NB132_164.out _; (with_reducible repeat (first | refine Zag ?_ _ | refine Zai ?_ | refine Zae ?_ _)); refine Zav ?_ NB132_164.out _; (with_reducible repeat (first | refine Zag ?_ _ | refine Zai ?_ | refine Zae ?_ _)); refine Zav ?_ NB132_164.out _; (with_reducible repeat (first | refine Zag ?_ _ | refine Zai ?_ | refine Zae ?_ _)); refine Zav ?_ NB132_164.out _; (with_reducible repeat (first | refine Zag ?_ _ | refine Zai ?_ | refine Zae ?_ _)); refine Zav ?_ NB132_164.out _; (with_reducible repeat (first | refine Zag ?_ _ | refine Zai ?_ | refine Zae ?_ _)); exact BK132.out) hb)
        have n5_ := Za.mk (Zap (g := gb133) (o := .cells #[u134000, u134001, .int .i64 a0_2, .slice A0_3 l0_3.length c0_3, .slice A0_4 l0_4.length c0_4] 28 (0, 0)) (by (with_reducible repeat (first | refine Zag ?_ _ | refine Zai ?_ | refine Zae ?_ _)); refine Zav ?_ NB133_164.out _; (with_reducible repeat (first | refine Zag ?_ _ | refine Zai ?_ | refine Zae ?_ _)); refine Zav ?_ NB133_164.out _; (with_reducible repeat (first | refine Zag ?_ _ | refine Zai ?_ | refine Zae ?_ _)); refine Zav ?_ NB133_164.out _; (with_reducible repeat (first | refine Zag ?_ _ | refine Zai ?_ | refine Zae ?_ _)); refine Zav ?_ NB133_164.out _; (with_reducible repeat (first | refine Zag ?_ _ | refine Zai ?_ | refine Zae ?_ _)); refine Zav ?_ NB133_164.out _; (with_reducible repeat (first | refine Zag ?_ _ | refine Zai ?_ | refine Zae ?_ _)); refine Zav ?_ NB133_164.out _; (with_reducible repeat (first | refine Zag ?_ _ | refine Zai ?_ | refine Zae ?_ _)); refine Zav ?_ NB133_164.out _; (with_reducible repeat (first | refine Zag ?_ _ | refine Zai ?_ | refine Zae ?_ _)); refine Zav ?_ NB133_164.out _; (with_reducible repeat (first | refine Zag ?_ _ | refine Zai ?_ | refine Zae ?_ _)); refine Zav ?_ NB133_164.out _; (with_reducible repeat (first | refine Zag ?_ _ | refine Zai ?_ | refine Zae ?_ _)); exact BK133.out) hb)
        have n6_ := Za.mk (Zap (g := gb164) (o := .cells #[.int .i64 ((Zah l0_1 x6_2).f0), .slice A163_1 (((Zah l0_1 x6_2).f1).take ((ji57) : Int).toNat).length c163_1, .slice A163_2 (((Zah l0_1 x6_2).f2).take ((ji60) : Int).toNat).length c163_2, .int .i64 ((Zah l0_1 x6_2).f3), .int .i64 ((Zah l0_1 x6_2).f4), .slice A163_5 ((Zah l0_1 x6_2).f5).length c163_5, .int .i64 ((Zah l0_1 x6_2).f6)] 31 (0, 0)) (by (with_reducible repeat (first | refine Zag ?_ _ | refine Zai ?_ | refine Zae ?_ _)); refine Zaq (cs := #[.int .i64 ((Zah l0_1 x6_2).f0), .slice A163_1 (((Zah l0_1 x6_2).f1).take ((ji57) : Int).toNat).length c163_1, .slice A163_2 ((Zah l0_1 x6_2).f2).length c163_2, .int .i64 ((Zah l0_1 x6_2).f3), .int .i64 ((Zah l0_1 x6_2).f4), .slice A163_5 ((Zah l0_1 x6_2).f5).length c163_5, .int .i64 ((Zah l0_1 x6_2).f6)]) ?_ 2 _ rfl; (with_reducible repeat (first | refine Zag ?_ _ | refine Zai ?_ | refine Zae ?_ _)); refine Zaq (cs := #[.int .i64 ((Zah l0_1 x6_2).f0), .slice A163_1 ((Zah l0_1 x6_2).f1).length c163_1, .slice A163_2 ((Zah l0_1 x6_2).f2).length c163_2, .int .i64 ((Zah l0_1 x6_2).f3), .int .i64 ((Zah l0_1 x6_2).f4), .slice A163_5 ((Zah l0_1 x6_2).f5).length c163_5, .int .i64 ((Zah l0_1 x6_2).f6)]) ?_ 1 _ rfl; (with_reducible repeat (first | refine Zag ?_ _ | refine Zai ?_ | refine Zae ?_ _)); refine Zaq (cs := #[.int .i64 ((Zah l0_1 x6_2).f0), .slice A163_1 ((Zah l0_1 x6_2).f1).length c163_1, .slice A163_2 ((Zah l0_1 x6_2).f2).length c163_2, .int .i64 ((Zah l0_1 x6_2).f3), .int .i64 ((Zah l0_1 x6_2).f4), .slice A163_5 ((Zah l0_1 x6_2).f5).length c163_5, .int .i64 0]) ?_ 6 _ rfl; (with_reducible repeat (first | refine Zag ?_ _ | refine Zai ?_ | refine Zae ?_ _)); refine Zaq (cs := #[.int .i64 ((Zah l0_1 x6_2).f0), .slice A163_1 ((Zah l0_1 x6_2).f1).length c163_1, .slice A163_2 ((Zah l0_1 x6_2).f2).length c163_2, .int .i64 ((Zah l0_1 x6_2).f3), .int .i64 ((Zah l0_1 x6_2).f4), .slice none 0 0, .int .i64 0]) ?_ 5 _ rfl; (with_reducible repeat (first | refine Zag ?_ _ | refine Zai ?_ | refine Zae ?_ _)); refine Zaq (cs := #[.int .i64 ((Zah l0_1 x6_2).f0), .slice A163_1 ((Zah l0_1 x6_2).f1).length c163_1, .slice A163_2 ((Zah l0_1 x6_2).f2).length c163_2, .int .i64 ((Zah l0_1 x6_2).f3), .int .i64 0, .slice none 0 0, .int .i64 0]) ?_ 4 _ rfl; (with_reducible repeat (first | refine Zag ?_ _ | refine Zai ?_ | refine Zae ?_ _)); refine Zaq (cs := #[.int .i64 ((Zah l0_1 x6_2).f0), .slice A163_1 ((Zah l0_1 x6_2).f1).length c163_1, .slice A163_2 ((Zah l0_1 x6_2).f2).length c163_2, .int .i64 0, .int .i64 0, .slice none 0 0, .int .i64 0]) ?_ 3 _ rfl; (with_reducible repeat (first | refine Zag ?_ _ | refine Zai ?_ | refine Zae ?_ _)); refine Zaq (cs := #[.int .i64 ((Zah l0_1 x6_2).f0), .slice A163_1 ((Zah l0_1 x6_2).f1).length c163_1, .slice none 0 0, .int .i64 0, .int .i64 0, .slice none 0 0, .int .i64 0]) ?_ 2 _ rfl; (with_reducible repeat (first | refine Zag ?_ _ | refine Zai ?_ | refine Zae ?_ _)); refine Zaq (cs := #[.int .i64 ((Zah l0_1 x6_2).f0), .slice none 0 0, .slice none 0 0, .int .i64 0, .int .i64 0, .slice none 0 0, .int .i64 0]) ?_ 1 _ rfl; (with_reducible repeat (first | refine Zag ?_ _ | refine Zai ?_ | refine Zae ?_ _)); refine Zaq (cs := #[.int .i64 0, .slice none 0 0, .slice none 0 0, .int .i64 0, .int .i64 0, .slice none 0 0, .int .i64 0]) ?_ 0 _ rfl; (with_reducible repeat (first | refine Zag ?_ _ | refine Zai ?_ | refine Zae ?_ _)); exact BK164.out) hb)
        have n7_ := Za.mk (Zaf (by repeat (first | (with_reducible first | exact HB.out | apply Zab | apply Zaa | apply Zad | refine Zac ?_ GE131.out | refine Zac ?_ GE132.out | refine Zac ?_ GE133.out | refine Zac ?_ GE164.out) | exact HB.out)) hb)
        clear HO_134000
        clear HO_134001
        clear BK131
        clear BK132
        clear BK133
        clear BK164
        clear HB
        have HO_134000 := n0_
        have HO_134001 := n1_
        have HO169 := n2_
        have BK131 := n3_
        have BK132 := n4_
        have BK133 := n5_
        have BK164 := n6_
        have HB := n7_
        clear n0_ n1_ n2_ n3_ n4_ n5_ n6_ n7_
        (try clear hb)
        (try clear hb2)
        (try clear hk)
        (try clear hi)
        (try clear ho0)
        obtain ⟨Ao77, co77, eo77⟩ := Kd.V_slice HO169.out
        subst eo77
        obtain ⟨hcz78_0, hcz78_1, hcz78_2, hcz78_3, hcz78_4, hcz78_5, hcz78_6, hfz78_0, hfz78_1, hfz78_2, hfz78_3, hfz78_4, hfz78_5, hfz78_6⟩ := Zdl BK164.out
        try go_wp2_with (fail)
        have n0_ : Za (Kd.S k50 50 (w76.setCell ⟨gb164, 5, none⟩ (.slice Ao77 t167.length co77)) w.heap.size (fun _ => True) u134000 x134000_1) := ⟨by (with_reducible repeat (first | apply Kd.Zbj | apply Kd.Zbk | apply Kd.Zbr)); exact Kd.Zcj (Kd.Zbv (p := ⟨gb164, 5, none⟩) (Kd.Zcm HO_134000.out BK164.out (by decide)) (fun _ hk => hk.2) (.slice Ao77 t167.length co77)) (fun _ hk => trivial)⟩
        have n1_ : Za (Kd.R k31 31 (w76.setCell ⟨gb164, 5, none⟩ (.slice Ao77 t167.length co77)) w.heap.size (fun k_ => k_ ≠ gb164) u134001 x134001_2) := ⟨by (with_reducible repeat (first | apply Kd.Zat | apply Kd.Zau | apply Kd.Zaz)); exact Kd.Za2 (Kd.Za1 (p := ⟨gb164, 5, none⟩) (Kd.Za2 HO_134001.out (fun k_ hk => (⟨hk, hk.2⟩ : _ ∧ k_ ≠ gb164))) (fun _ hk => hk.2) (.slice Ao77 t167.length co77)) (fun _ hk => hk.1.2)⟩
        have n2_ : Za (Kd.V (Kd.slice 3 (Kd.int .i64)) 24 (w76.setCell ⟨gb164, 5, none⟩ (.slice Ao77 t167.length co77)) w.heap.size (fun k_ => some k_ ≠ (u134000 : Value).ownBlock ∧ some k_ ≠ (u134001 : Value).ownBlock ∧ k_ ≠ gb131 ∧ k_ ≠ gb132 ∧ k_ ≠ gb133 ∧ k_ ≠ gb164) (.slice Ao77 t167.length co77) t167) := ⟨by (with_reducible repeat (first | apply Kd.V_alloc | apply Kd.V_drewN | apply Kd.V_drew)); exact Kd.Zdu (Kd.V_far (p := ⟨gb164, 5, none⟩) (Kd.Zdu HO169.out (fun k_ hk => (⟨hk, hk.2.2.2.2.2⟩ : _ ∧ k_ ≠ gb164))) (fun _ hk => hk.2) (.slice Ao77 t167.length co77)) (fun _ hk => ⟨hk.1.1, ⟨hk.1.2.1, ⟨hk.1.2.2.1, ⟨hk.1.2.2.2.1, ⟨hk.1.2.2.2.2.1, hk.1.2.2.2.2.2⟩⟩⟩⟩⟩)⟩
        have n3_ : Za ((w76.setCell ⟨gb164, 5, none⟩ (.slice Ao77 t167.length co77)).heap[gb131]? = some (.cells #[.slice A0_0 l0_0.length c0_0, .slice (some ad163) l0_1.length c0_1, .int .i64 a0_2, .slice A0_3 l0_3.length c0_3, .slice A0_4 l0_4.length c0_4] 28 (0, 0))) := ⟨by (with_reducible repeat (first | refine Zag ?_ _ | refine Zai ?_ | refine Zae ?_ _)); refine Zav ?_ NB131_164.out _; (with_reducible repeat (first | refine Zag ?_ _ | refine Zai ?_ | refine Zae ?_ _)); exact BK131.out⟩
        have n4_ : Za ((w76.setCell ⟨gb164, 5, none⟩ (.slice Ao77 t167.length co77)).heap[gb132]? = some (.cells #[.slice none 0 0, .slice none 0 0, .int .i64 0, .slice none 0 0, .slice none 0 0] 28 (0, 0))) := ⟨by (with_reducible repeat (first | refine Zag ?_ _ | refine Zai ?_ | refine Zae ?_ _)); refine Zav ?_ NB132_164.out _; (with_reducible repeat (first | refine Zag ?_ _ | refine Zai ?_ | refine Zae ?_ _)); exact BK132.out⟩
        have n5_ : Za ((w76.setCell ⟨gb164, 5, none⟩ (.slice Ao77 t167.length co77)).heap[gb133]? = some (.cells #[u134000, u134001, .int .i64 a0_2, .slice A0_3 l0_3.length c0_3, .slice A0_4 l0_4.length c0_4] 28 (0, 0))) := ⟨by (with_reducible repeat (first | refine Zag ?_ _ | refine Zai ?_ | refine Zae ?_ _)); refine Zav ?_ NB133_164.out _; (with_reducible repeat (first | refine Zag ?_ _ | refine Zai ?_ | refine Zae ?_ _)); exact BK133.out⟩
        have n6_ : Za ((w76.setCell ⟨gb164, 5, none⟩ (.slice Ao77 t167.length co77)).heap[gb164]? = some (.cells #[.int .i64 ((Zah l0_1 x6_2).f0), .slice A163_1 (((Zah l0_1 x6_2).f1).take ((ji57) : Int).toNat).length c163_1, .slice A163_2 (((Zah l0_1 x6_2).f2).take ((ji60) : Int).toNat).length c163_2, .int .i64 ((Zah l0_1 x6_2).f3), .int .i64 ((Zah l0_1 x6_2).f4), .slice Ao77 t167.length co77, .int .i64 ((Zah l0_1 x6_2).f6)] 31 (0, 0))) := ⟨by (with_reducible repeat (first | refine Zag ?_ _ | refine Zai ?_ | refine Zae ?_ _)); refine Zaq (cs := #[.int .i64 ((Zah l0_1 x6_2).f0), .slice A163_1 (((Zah l0_1 x6_2).f1).take ((ji57) : Int).toNat).length c163_1, .slice A163_2 (((Zah l0_1 x6_2).f2).take ((ji60) : Int).toNat).length c163_2, .int .i64 ((Zah l0_1 x6_2).f3), .int .i64 ((Zah l0_1 x6_2).f4), .slice A163_5 ((Zah l0_1 x6_2).f5).length c163_5, .int .i64 ((Zah l0_1 x6_2).f6)]) ?_ 5 _ rfl; (with_reducible repeat (first | refine Zag ?_ _ | refine Zai ?_ | refine Zae ?_ _)); exact BK164.out⟩
        have n7_ : Za (Below w.heap.size w (w76.setCell ⟨gb164, 5, none⟩ (.slice Ao77 t167.length co77))) := ⟨by repeat (first | (with_reducible first | exact HB.out | apply Zab | apply Zaa | apply Zad | refine Zac ?_ GE131.out | refine Zac ?_ GE132.out | refine Zac ?_ GE133.out | refine Zac ?_ GE164.out) | exact HB.out)⟩
        (try clear HO_134000)
        (try clear HO_134001)
        (try clear HO169)
        (try clear BK131)
        (try clear BK132)
        (try clear BK133)
        (try clear BK164)
        (try clear HB)
        generalize (w76.setCell ⟨gb164, 5, none⟩ (.slice Ao77 t167.length co77)) = w79 at n0_ n1_ n2_ n3_ n4_ n5_ n6_ n7_ ⊢
        have HO_134000 := n0_
        have HO_134001 := n1_
        have HO169 := n2_
        have BK131 := n3_
        have BK132 := n4_
        have BK133 := n5_
        have BK164 := n6_
        have HB := n7_
        clear n0_ n1_ n2_ n3_ n4_ n5_ n6_ n7_
        have n0_ := Za.mk (Kd.Zbr HO_134000.out)
        have n1_ := Za.mk (Kd.Zaz HO_134001.out)
        have n2_ := Za.mk (Kd.V_drew HO169.out)
        have n3_ := Za.mk (Zai BK131.out)
        have n4_ := Za.mk (Zai BK132.out)
        have n5_ := Za.mk (Zai BK133.out)
        have n6_ := Za.mk (Zai BK164.out)
        have n7_ := Za.mk (Zad HB.out)
        clear HO_134000
        clear HO_134001
        clear HO169
        clear BK131
        clear BK132
        clear BK133
        clear BK164
        clear HB
        have HO_134000 := n0_
        have HO_134001 := n1_
        have HO169 := n2_
        have BK131 := n3_
        have BK132 := n4_
        have BK133 := n5_
        have BK164 := n6_
        have HB := n7_
        clear n0_ n1_ n2_ n3_ n4_ n5_ n6_ n7_
        refine Zfw (n := 8) (S := fun w' => w'.cell? ⟨gb133, 0, none⟩ = some (u134000) ∧ w'.cell? ⟨gb133, 1, none⟩ = some (u134001) ∧ w'.cell? ⟨gb133, 2, none⟩ = some (.int .i64 a0_2) ∧ w'.cell? ⟨gb133, 3, none⟩ = some (.slice A0_3 l0_3.length c0_3) ∧ w'.cell? ⟨gb133, 4, none⟩ = some (.slice A0_4 l0_4.length c0_4) ∧ w'.cell? ⟨gb164, 0, none⟩ = some (.int .i64 ((Zah l0_1 x6_2).f0)) ∧ w'.cell? ⟨gb164, 1, none⟩ = some (.slice A163_1 (((Zah l0_1 x6_2).f1).take ((ji57) : Int).toNat).length c163_1) ∧ w'.cell? ⟨gb164, 2, none⟩ = some (.slice A163_2 (((Zah l0_1 x6_2).f2).take ((ji60) : Int).toNat).length c163_2) ∧ w'.cell? ⟨gb164, 3, none⟩ = some (.int .i64 ((Zah l0_1 x6_2).f3)) ∧ w'.cell? ⟨gb164, 4, none⟩ = some (.int .i64 ((Zah l0_1 x6_2).f4)) ∧ w'.cell? ⟨gb164, 5, none⟩ = some (.slice Ao77 t167.length co77) ∧ w'.cell? ⟨gb164, 6, none⟩ = some (.int .i64 ((Zah l0_1 x6_2).f6))) (ds := [7]) #[false, false, false, false, false, false, false, false] (by kernel_rfl) rfl rfl ⟨(Zaj BK133.out 0).trans rfl, (Zaj BK133.out 1).trans rfl, (Zaj BK133.out 2).trans rfl, (Zaj BK133.out 3).trans rfl, (Zaj BK133.out 4).trans rfl, (Zaj BK164.out 0).trans rfl, (Zaj BK164.out 1).trans rfl, (Zaj BK164.out 2).trans rfl, (Zaj BK164.out 3).trans rfl, (Zaj BK164.out 4).trans rfl, (Zaj BK164.out 5).trans rfl, (Zaj BK164.out 6).trans rfl⟩ (fun hHeld => ?_); refine Zds Zak.tab19 Zak.bits19 (fun HT_ HW_ => ?_)
        generalize w79.drew = w80 at HO_134000 HO_134001 HO169 BK131 BK132 BK133 BK164 HB hHeld ⊢
        refine Zbx (i := 0) (N := some 113) (v := ?_) (a' := ?_) #[true, false, false, false, false, false, false, false] rfl rfl (Zbi HT_.out (by kernel_rfl)) (fun _ _ _ h => h) (Or.inl ⟨by rfl, ?_⟩) ?_ ?_
        rotate_left
        ·intro w'
         go_simp
         with_reducible rfl
        rotate_left
        ·simp only [Act.put, List.setIfInBounds_toArray, List.set_cons_zero, List.set_cons_succ, Zbb, Zbd]
         rfl
        refine Zdj (i := 1) (N := some 114) (v := ?_) (a' := ?_) #[true, true, false, false, false, false, false, false] rfl rfl (Zb8 HT_.out HW_.out (by kernel_rfl)) (fun _ _ _ h => h) (Or.inl ⟨by rfl, ?_⟩) hHeld ?_ ?_
        rotate_left
        ·rintro w' ⟨s0, s1, s2, s3, s4, s5, s6, s7, s8, s9, s10, s11⟩
         go_simp
         with_reducible rfl
        rotate_left
        ·simp only [Act.put, List.setIfInBounds_toArray, List.set_cons_zero, List.set_cons_succ, Zbb, Zbd]
         rfl
        refine Zdj (i := 2) (N := some 115) (v := ?_) (a' := ?_) #[true, true, true, false, false, false, false, false] rfl rfl (Zb8 HT_.out HW_.out (by kernel_rfl)) (fun _ _ _ h => h) (Or.inl ⟨by rfl, ?_⟩) hHeld ?_ ?_
        rotate_left
        ·rintro w' ⟨s0, s1, s2, s3, s4, s5, s6, s7, s8, s9, s10, s11⟩
         go_simp
         with_reducible rfl
        rotate_left
        ·simp only [Act.put, List.setIfInBounds_toArray, List.set_cons_zero, List.set_cons_succ, Zbb, Zbd]
         rfl
        refine one_ (i := 3) (N := some 116) #[true, true, true, true, false, false, false, false] rfl rfl (Zck HT_.out (by kernel_rfl)) (by decide) (fun K hK => ?_)
        refine Zd9 Try.func34 (by kernel_rfl) rfl #[.agg #[.int .i64 ((Zah l0_1 x6_2).f0), .slice A163_1 (((Zah l0_1 x6_2).f1).take ((ji57) : Int).toNat).length c163_1, .slice A163_2 (((Zah l0_1 x6_2).f2).take ((ji60) : Int).toNat).length c163_2, .int .i64 ((Zah l0_1 x6_2).f3), .int .i64 ((Zah l0_1 x6_2).f4), .slice Ao77 t167.length co77, .int .i64 ((Zah l0_1 x6_2).f6)]] (by rfl) rfl rfl (by (try simp only [List.map_toArray, List.map_cons, List.map_nil]); first | done | (rw [show (((Zah l0_1 x6_2).f1).take ((ji57) : Int).toNat).length = (ji57).toNat from (by rw [List.length_take]; have h_ : ((ji57) : Int) ≤ (((Zah l0_1 x6_2).f1).length : Int) := of_decide_eq_true (by first | (with_reducible assumption) | assumption); omega), show (((Zah l0_1 x6_2).f2).take ((ji60) : Int).toNat).length = (ji60).toNat from (by rw [List.length_take]; have h_ : ((ji60) : Int) ≤ (((Zah l0_1 x6_2).f2).length : Int) := of_decide_eq_true (by first | (with_reducible assumption) | assumption); omega)] <;> rfl) | (rw [show (((Zah l0_1 x6_2).f1).take ((ji57) : Int).toNat).length = (ji57).toNat from (by rw [List.length_take]; have h_ : ((ji57) : Int) ≤ (((Zah l0_1 x6_2).f1).length : Int) := of_decide_eq_true (by first | (with_reducible assumption) | assumption); omega)] <;> rfl) | (rw [show (((Zah l0_1 x6_2).f2).take ((ji60) : Int).toNat).length = (ji60).toNat from (by rw [List.length_take]; have h_ : ((ji60) : Int) ≤ (((Zah l0_1 x6_2).f2).length : Int) := of_decide_eq_true (by first | (with_reducible assumption) | assumption); omega)] <;> rfl) | (simp only [hji57, hji60]; rfl) | rfl | (simp only [List.length_drop, List.length_take]; rfl)) ?_
        with_reducible refine (Zb1.calls kj45 ((Zah l0_1 x6_2).f0) _ _ (((Zah l0_1 x6_2).f1).take ((ji57) : Int).toNat) _ _ (((Zah l0_1 x6_2).f2).take ((ji60) : Int).toNat) ((Zah l0_1 x6_2).f3) ((Zah l0_1 x6_2).f4) _ _ t167 ((Zah l0_1 x6_2).f6) t170 t171 t174 t177 t178 t179 t182 _ ?side1 ?side2 ?side3 ?side4 ?side5 ?side6 A64.out).mono ?_
        (case side1 => repeat (first | exact (Kd.Zal HR165.out HB.out) | (with_reducible refine Kd.C_alloc ?_ _) | (with_reducible refine Kd.Zaw ?_ _) | (with_reducible refine Kd.C_drew ?_)))
        (case side2 => exact HC165.out)
        (case side3 => repeat (first | exact (Kd.Zal HR166.out HB.out) | (with_reducible refine Kd.C_alloc ?_ _) | (with_reducible refine Kd.Zaw ?_ _) | (with_reducible refine Kd.C_drew ?_)))
        (case side4 => exact HC166.out)
        (case side5 => repeat (first | exact (Kd.Zep HO169.out).2.2 | (with_reducible refine Kd.C_alloc ?_ _) | (with_reducible refine Kd.Zaw ?_ _) | (with_reducible refine Kd.C_drew ?_)))
        (case side6 => exact (Kd.Zep HO169.out).2.1)
        rintro e w81 ⟨v172, v175, v180, rfl, ho0, ho1, ho2, hb⟩
        refine ⟨_, rfl, ?_⟩
        have n0_ := Za.mk (Kd.Zcw (by (with_reducible repeat (first | apply Kd.Zbj | apply Kd.Zbk | apply Kd.Zbr)); exact HO_134000.out) hb)
        have n1_ := Za.mk (Kd.Za2 (Kd.R_told (Kd.R_told (Kd.R_told (Kd.R_old (by (with_reducible repeat (first | apply Kd.Zat | apply Kd.Zau | apply Kd.Zaz)); exact HO_134001.out) hb) (Kd.Zb4 ho0)) (Kd.Zb4 ho1)) (Kd.S_base ho2)) (fun _ h_ => h_.1))
        have n2_ := Za.mk (Kd.Zdu (Kd.V_told (Kd.V_told (Kd.V_told (Kd.V_old (by (with_reducible repeat (first | apply Kd.V_alloc | apply Kd.V_drewN | apply Kd.V_drew)); exact HO169.out) hb) (Kd.Zb4 ho0)) (Kd.Zb4 ho1)) (Kd.S_base ho2)) (fun _ h_ => h_.1))
        have n3_ := Za.mk (Kd.Zbp ho0 (Zan (by repeat (first | (with_reducible first | exact HB.out | apply Zab | apply Zaa | apply Zad | refine Zac ?_ GE131.out | refine Zac ?_ GE132.out | refine Zac ?_ GE133.out | refine Zac ?_ GE164.out) | exact HB.out))))
        have n4_ := Za.mk (Kd.Zbp ho1 (Zan (by repeat (first | (with_reducible first | exact HB.out | apply Zab | apply Zaa | apply Zad | refine Zac ?_ GE131.out | refine Zac ?_ GE132.out | refine Zac ?_ GE133.out | refine Zac ?_ GE164.out) | exact HB.out))))
        have n5_ := Za.mk (Kd.Ze0 ho2 (Zan (by repeat (first | (with_reducible first | exact HB.out | apply Zab | apply Zaa | apply Zad | refine Zac ?_ GE131.out | refine Zac ?_ GE132.out | refine Zac ?_ GE133.out | refine Zac ?_ GE164.out) | exact HB.out))))
        have n6_ := Za.mk (Zap (g := gb131) (o := .cells #[.slice A0_0 l0_0.length c0_0, .slice (some ad163) l0_1.length c0_1, .int .i64 a0_2, .slice A0_3 l0_3.length c0_3, .slice A0_4 l0_4.length c0_4] 28 (0, 0)) (by (with_reducible repeat (first | refine Zag ?_ _ | refine Zai ?_ | refine Zae ?_ _)); exact BK131.out) hb)
        have n7_ := Za.mk (Zap (g := gb132) (o := .cells #[.slice none 0 0, .slice none 0 0, .int .i64 0, .slice none 0 0, .slice none 0 0] 28 (0, 0)) (by (with_reducible repeat (first | refine Zag ?_ _ | refine Zai ?_ | refine Zae ?_ _)); exact BK132.out) hb)
        have n8_ := Za.mk (Zap (g := gb133) (o := .cells #[u134000, u134001, .int .i64 a0_2, .slice A0_3 l0_3.length c0_3, .slice A0_4 l0_4.length c0_4] 28 (0, 0)) (by (with_reducible repeat (first | refine Zag ?_ _ | refine Zai ?_ | refine Zae ?_ _)); exact BK133.out) hb)
        have n9_ := Za.mk (Zap (g := gb164) (o := .cells #[.int .i64 ((Zah l0_1 x6_2).f0), .slice A163_1 (((Zah l0_1 x6_2).f1).take ((ji57) : Int).toNat).length c163_1, .slice A163_2 (((Zah l0_1 x6_2).f2).take ((ji60) : Int).toNat).length c163_2, .int .i64 ((Zah l0_1 x6_2).f3), .int .i64 ((Zah l0_1 x6_2).f4), .slice Ao77 t167.length co77, .int .i64 ((Zah l0_1 x6_2).f6)] 31 (0, 0)) (by (with_reducible repeat (first | refine Zag ?_ _ | refine Zai ?_ | refine Zae ?_ _)); exact BK164.out) hb)
        have n10_ := Za.mk (Zaf (by repeat (first | (with_reducible first | exact HB.out | apply Zab | apply Zaa | apply Zad | refine Zac ?_ GE131.out | refine Zac ?_ GE132.out | refine Zac ?_ GE133.out | refine Zac ?_ GE164.out) | exact HB.out)) hb)
        clear HO_134000
        clear HO_134001
        clear HO169
        clear BK131
        clear BK132
        clear BK133
        clear BK164
        clear HB
        have HO_134000 := n0_
        have HO_134001 := n1_
        have HO169 := n2_
        have HO173 := n3_
        have HO176 := n4_
        have HO181 := n5_
        have BK131 := n6_
        have BK132 := n7_
        have BK133 := n8_
        have BK164 := n9_
        have HB := n10_
        clear n0_ n1_ n2_ n3_ n4_ n5_ n6_ n7_ n8_ n9_ n10_
        (try clear hb)
        (try clear hb2)
        (try clear hk)
        (try clear hi)
        (try clear ho0)
        (try clear ho1)
        (try clear ho2)
        obtain ⟨Ao83, co83, eo83⟩ := Kd.Za9 HO173.out
        (first | subst eo83 | (injection eo83 with f1_ f2_ f3_; have f4_ := f1_.symm; have f5_ := f3_.symm; clear f1_ f2_ f3_; subst f4_; subst f5_))
        obtain ⟨Ao84, co84, eo84⟩ := Kd.Za9 HO176.out
        (first | subst eo84 | (injection eo84 with f1_ f2_ f3_; have f4_ := f1_.symm; have f5_ := f3_.symm; clear f1_ f2_ f3_; subst f4_; subst f5_))
        obtain ⟨Ao85, co85, eo85⟩ := Kd.Zdr HO181.out
        (first | subst eo85 | (injection eo85 with f1_ f2_ f3_; have f4_ := f1_.symm; have f5_ := f3_.symm; clear f1_ f2_ f3_; subst f4_; subst f5_))
        refine hK.out _ _ ⟨(Zaj BK133.out 0).trans rfl, (Zaj BK133.out 1).trans rfl, (Zaj BK133.out 2).trans rfl, (Zaj BK133.out 3).trans rfl, (Zaj BK133.out 4).trans rfl, (Zaj BK164.out 0).trans rfl, (Zaj BK164.out 1).trans rfl, (Zaj BK164.out 2).trans rfl, (Zaj BK164.out 3).trans rfl, (Zaj BK164.out 4).trans rfl, (Zaj BK164.out 5).trans rfl, (Zaj BK164.out 6).trans rfl⟩ (fun hHeld => ?_)
        clear hK K
        refine Zc4 (a' := ?_) ?_ ?_
        rotate_left
        ·show Act.put _ (some 116) _ = _
         simp only [Act.put, List.setIfInBounds_toArray, List.set_cons_zero, List.set_cons_succ, Zbb, Zbd]
         rfl
        refine one_ (i := 4) (N := some 117) #[true, true, true, true, true, false, false, false] rfl rfl (Zck HT_.out (by kernel_rfl)) (by decide) (fun K hK => ?_)
        refine value_ (w1 := ?_) (v := ?_) (by rfl) rfl ?_ ?_
        rotate_left 2
        ·go_simp
         constructor
         ·rfl
         rfl
        refine hK.out _ _ ⟨(Zaj (Zae BK133.out _) 0).trans rfl, (Zaj (Zae BK133.out _) 1).trans rfl, (Zaj (Zae BK133.out _) 2).trans rfl, (Zaj (Zae BK133.out _) 3).trans rfl, (Zaj (Zae BK133.out _) 4).trans rfl, (Zaj (Zae BK164.out _) 0).trans rfl, (Zaj (Zae BK164.out _) 1).trans rfl, (Zaj (Zae BK164.out _) 2).trans rfl, (Zaj (Zae BK164.out _) 3).trans rfl, (Zaj (Zae BK164.out _) 4).trans rfl, (Zaj (Zae BK164.out _) 5).trans rfl, (Zaj (Zae BK164.out _) 6).trans rfl⟩ (fun hHeld => ?_)
        clear hK K
        refine Zc4 (a' := ?_) ?_ ?_
        rotate_left
        ·show Act.put _ (some 117) _ = _
         simp only [Act.put, List.setIfInBounds_toArray, List.set_cons_zero, List.set_cons_succ, Zbb, Zbd]
         rfl
        refine one_ (i := 5) (N := some 118) #[true, true, true, true, true, true, false, false] rfl rfl (Zck HT_.out (by kernel_rfl)) (by decide) (fun K hK => ?_)
        refine Kd.Zd0 k31 (w0 := w) w.heap.size (by rfl) (.tmp 114) (.tmp 117) 23 31 (.agg #[(.int .i64 0), (.slice none 0 0), (.slice none 0 0), (.int .i64 0), (.int .i64 0), (.slice none 0 0), (.int .i64 0)]) 104 rfl Try.underlying23 info31 rfl (by decide) (by omega) u134001 x134001_2 (⟨t170, t171, t174, t177, t178, t179, t182⟩ : S31) [.int .i64 t170, .slice Ao83 t171.length co83, .slice Ao84 t174.length co84, .int .i64 t177, .int .i64 t178, .slice Ao85 t179.length co85, .int .i64 t182] (fun k_ => k_ ≠ gb164) (fun k_ => ((fun k_ => k_ ≠ gb164)) k_ ∧ some k_ ≠ (u134001 : Value).ownBlock) rfl rfl ?aP (fun _ hk => hk) ?aF ?aO ?aB ?aS ?aL ?_
        (case aP => exact k31_mkM _ _ _ (⟨t170, t171, t174, t177, t178, t179, t182⟩ : S31) (Kd.Za2 (Kd.Zbc (Kd.Zc2 (HO173.out) (Kd.Zdk HO_134001.out) (by decide)) BK164.out (by decide)) (fun k_ hk => ⟨hk.2, hk.1.2⟩)) (Kd.Za2 (Kd.Zbc (Kd.Zc2 (HO176.out) (Kd.Zdk HO_134001.out) (by decide)) BK164.out (by decide)) (fun k_ hk => ⟨hk.2, hk.1.2⟩)) (Kd.Za2 (Kd.Zbc (Kd.Zc2 ((Kd.S_R HO181.out)) (Kd.Zdk HO_134001.out) (by decide)) BK164.out (by decide)) (fun k_ hk => ⟨hk.2, hk.1.2⟩)))
        (case aB => exact (by repeat (first | (with_reducible first | exact HB.out | apply Zab | apply Zaa | apply Zad | refine Zac ?_ GE131.out | refine Zac ?_ GE132.out | refine Zac ?_ GE133.out | refine Zac ?_ GE164.out) | exact HB.out)))
        (case aF => exact (fun k_ hk => Kd.freshB (g := gb164) (o := .cells #[.int .i64 ((Zah l0_1 x6_2).f0), .slice A163_1 (((Zah l0_1 x6_2).f1).take ((ji57) : Int).toNat).length c163_1, .slice A163_2 (((Zah l0_1 x6_2).f2).take ((ji60) : Int).toNat).length c163_2, .int .i64 ((Zah l0_1 x6_2).f3), .int .i64 ((Zah l0_1 x6_2).f4), .slice Ao77 t167.length co77, .int .i64 ((Zah l0_1 x6_2).f6)] 31 (0, 0)) (by (with_reducible repeat (first | refine Zag ?_ _ | refine Zai ?_ | refine Zae ?_ _)); exact BK164.out) k_ hk))
        (case aO => exact (by (with_reducible repeat (first | apply Kd.Zat | apply Kd.Zau | apply Kd.Zaz)); exact Kd.Za2 HO_134001.out (fun _ hk => hk.1.1.1)))
        (case aS => exact (Zan (by repeat (first | (with_reducible first | exact HB.out | apply Zab | apply Zaa | apply Zad | refine Zac ?_ GE131.out | refine Zac ?_ GE132.out | refine Zac ?_ GE133.out | refine Zac ?_ GE164.out) | exact HB.out))))
        (case aL => have := LMc65.out; omega)
        intro v184 w82 ho hb hg hat
        rw [← Ny183.out] at ho
        have n0_ := Za.mk (Kd.Zfg (by (with_reducible repeat (first | apply Kd.Zbj | apply Kd.Zbk | apply Kd.Zbr)); exact HO_134000.out) (Kd.Zdk (by (with_reducible repeat (first | apply Kd.Zat | apply Kd.Zau | apply Kd.Zaz)); exact HO_134001.out)) (by decide) hg)
        have n1_ := Za.mk (Zbl (g := gb131) (o := .cells #[.slice A0_0 l0_0.length c0_0, .slice (some ad163) l0_1.length c0_1, .int .i64 a0_2, .slice A0_3 l0_3.length c0_3, .slice A0_4 l0_4.length c0_4] 28 (0, 0)) (by (with_reducible repeat (first | refine Zag ?_ _ | refine Zai ?_ | refine Zae ?_ _)); exact BK131.out) hg (Kd.R_ne HO_134001.out BK131.out (by decide)))
        have n2_ := Za.mk (Zbl (g := gb132) (o := .cells #[.slice none 0 0, .slice none 0 0, .int .i64 0, .slice none 0 0, .slice none 0 0] 28 (0, 0)) (by (with_reducible repeat (first | refine Zag ?_ _ | refine Zai ?_ | refine Zae ?_ _)); exact BK132.out) hg (Kd.R_ne HO_134001.out BK132.out (by decide)))
        have n3_ := Za.mk (Zbl (g := gb133) (o := .cells #[u134000, u134001, .int .i64 a0_2, .slice A0_3 l0_3.length c0_3, .slice A0_4 l0_4.length c0_4] 28 (0, 0)) (by (with_reducible repeat (first | refine Zag ?_ _ | refine Zai ?_ | refine Zae ?_ _)); exact BK133.out) hg (Kd.R_ne HO_134001.out BK133.out (by decide)))
        have n4_ := Za.mk (Zbl (g := gb164) (o := .cells #[.int .i64 ((Zah l0_1 x6_2).f0), .slice A163_1 (((Zah l0_1 x6_2).f1).take ((ji57) : Int).toNat).length c163_1, .slice A163_2 (((Zah l0_1 x6_2).f2).take ((ji60) : Int).toNat).length c163_2, .int .i64 ((Zah l0_1 x6_2).f3), .int .i64 ((Zah l0_1 x6_2).f4), .slice Ao77 t167.length co77, .int .i64 ((Zah l0_1 x6_2).f6)] 31 (0, 0)) (by (with_reducible repeat (first | refine Zag ?_ _ | refine Zai ?_ | refine Zae ?_ _)); exact BK164.out) hg (Kd.R_away HO_134001.out (fun _ hk => hk.1.1.1)))
        have n5_ := Za.mk (Kd.V_afterv (ok := (fun k_ => some k_ ≠ (u134000 : Value).ownBlock ∧ some k_ ≠ (.slice Ao83 t171.length co83 : Value).ownBlock ∧ some k_ ≠ (.slice Ao84 t174.length co84 : Value).ownBlock ∧ some k_ ≠ (.slice Ao85 t179.length co85 : Value).ownBlock ∧ k_ ≠ gb131 ∧ k_ ≠ gb132 ∧ k_ ≠ gb133 ∧ k_ ≠ gb164)) (by (with_reducible repeat (first | apply Kd.V_alloc | apply Kd.V_drewN | apply Kd.V_drew)); exact Kd.Zdu HO169.out (fun _ hk => ⟨⟨hk.1.1.1.1, ⟨hk.1.1.2, ⟨hk.1.2, ⟨hk.2, ⟨hk.1.1.1.2.2.1, ⟨hk.1.1.1.2.2.2.1, ⟨hk.1.1.1.2.2.2.2.1, hk.1.1.1.2.2.2.2.2⟩⟩⟩⟩⟩⟩⟩, hk.1.1.1.2.1⟩)) hg hat)
        have n6_ := Za.mk (hb)
        have n7_ := Za.mk (ho)
        clear HO_134000
        clear BK131
        clear BK132
        clear BK133
        clear BK164
        clear HO169
        clear HB
        clear HO_134001
        clear HO173
        clear HO176
        clear HO181
        have HO_134000 := n0_
        have BK131 := n1_
        have BK132 := n2_
        have BK133 := n3_
        have BK164 := n4_
        have HO169 := n5_
        have HB := n6_
        have HO185 := n7_
        clear n0_ n1_ n2_ n3_ n4_ n5_ n6_ n7_
        clear ho hb hg hat
        obtain ⟨Ao86, co86, eo86⟩ := Kd.Za9 HO185.out
        (first | subst eo86 | (injection eo86 with f1_ f2_ f3_; have f4_ := f1_.symm; have f5_ := f3_.symm; clear f1_ f2_ f3_; subst f4_; subst f5_))
        refine hK.out _ _ ⟨(Zaj BK133.out 0).trans rfl, (Zaj BK133.out 1).trans rfl, (Zaj BK133.out 2).trans rfl, (Zaj BK133.out 3).trans rfl, (Zaj BK133.out 4).trans rfl, (Zaj BK164.out 0).trans rfl, (Zaj BK164.out 1).trans rfl, (Zaj BK164.out 2).trans rfl, (Zaj BK164.out 3).trans rfl, (Zaj BK164.out 4).trans rfl, (Zaj BK164.out 5).trans rfl, (Zaj BK164.out 6).trans rfl⟩ (fun hHeld => ?_)
        clear hK K
        refine Zc4 (a' := ?_) ?_ ?_
        rotate_left
        ·show Act.put _ (some 118) _ = _
         simp only [Act.put, List.setIfInBounds_toArray, List.set_cons_zero, List.set_cons_succ, Zbb, Zbd]
         rfl
        refine Zbx (i := 6) (N := some 119) (v := ?_) (a' := ?_) #[true, true, true, true, true, true, true, false] rfl rfl (Zbi HT_.out (by kernel_rfl)) (fun _ _ _ h => h) (Or.inl ⟨by rfl, ?_⟩) ?_ ?_
        rotate_left
        ·intro w'
         go_simp
         with_reducible rfl
        rotate_left
        ·simp only [Act.put, List.setIfInBounds_toArray, List.set_cons_zero, List.set_cons_succ, Zbb, Zbd]
         rfl
        refine last_ (i := 7) (N := none) #[true, true, true, true, true, true, true, true] rfl rfl (Zck HT_.out (by kernel_rfl)) (by decide) (fun K hK => ?_)
        have hs87 : w82.cell? ⟨gb133, 1, none⟩ = some (u134001) := (Zaj BK133.out 1).trans rfl
        have hfs87 := Zao BK133.out 1
        have hns87_0 := NB131_133.out
        have hns87_1 := NB132_133.out
        have hns87_3 := NB164_133.out
        have hms87_0 := NB133_131.out
        have hms87_1 := NB133_132.out
        have hms87_3 := NB133_164.out
        refine skip_ (w1 := ?_) (by rfl) rfl ?_ ?_
        rotate_left
        ·go_simp
         rfl
        refine hK.out _ _ ?_
        clear hK K
        refine done_ (Zek HT_.out (by kernel_rfl)) ?_
        try go_wp2
        go_roundg kj45
        case measure => have := HJ1.out; have := HK2.out; have := HJ45.out; omega
        case rel => exact ⟨(wrap64 (x6_2 + 1)), (y183), (.slice Ao86 y183.length co86), (by first | rfl | (simp; done) | (simp [*]; done)), H', ⟨by have := HJ1.out; have := HK2.out; have := HJ45.out; omega⟩, ⟨by (with_reducible repeat (first | apply Kd.Zbj | apply Kd.Zbk | apply Kd.Zbr)); exact Kd.Zcj (Kd.Zbv (p := ⟨gb133, 1, none⟩) (Kd.Zcm HO_134000.out BK133.out (by decide)) (fun _ hk => hk.2) (.slice Ao86 y183.length co86)) (fun _ hk => trivial)⟩, ⟨by (with_reducible repeat (first | apply Kd.Zat | apply Kd.Zau | apply Kd.Zaz)); exact Kd.Za2 (Kd.Za1 (p := ⟨gb133, 1, none⟩) (Kd.Zbc HO185.out BK133.out (by decide)) (fun _ hk => hk.2) (.slice Ao86 y183.length co86)) (fun _ hk => trivial)⟩, ⟨by (with_reducible repeat (first | refine Zag ?_ _ | refine Zai ?_ | refine Zae ?_ _)); refine Zav ?_ NB131_133.out _; (with_reducible repeat (first | refine Zag ?_ _ | refine Zai ?_ | refine Zae ?_ _)); exact BK131.out⟩, ⟨by (with_reducible repeat (first | refine Zag ?_ _ | refine Zai ?_ | refine Zae ?_ _)); refine Zav ?_ NB132_133.out _; (with_reducible repeat (first | refine Zag ?_ _ | refine Zai ?_ | refine Zae ?_ _)); exact BK132.out⟩, ⟨by (with_reducible repeat (first | refine Zag ?_ _ | refine Zai ?_ | refine Zae ?_ _)); refine Zaq (cs := #[u134000, u134001, .int .i64 a0_2, .slice A0_3 l0_3.length c0_3, .slice A0_4 l0_4.length c0_4]) ?_ 1 _ rfl; (with_reducible repeat (first | refine Zag ?_ _ | refine Zai ?_ | refine Zae ?_ _)); exact BK133.out⟩, ⟨by repeat (first | (with_reducible first | exact HB.out | apply Zab | apply Zaa | apply Zad | refine Zac ?_ GE131.out | refine Zac ?_ GE132.out | refine Zac ?_ GE133.out | refine Zac ?_ GE164.out) | exact HB.out)⟩⟩
end Go.Proofs.Ytkgjaklnbgdmiaa.P
/- A model no larger than a statement can hold, in plain words. -/
namespace Go.Proofs.Ytkgjaklnbgdmiaa.P
open Go.RowKit Go.Proofs.YtkgjaklnbgdmiaaW.PrintWords Go.Proofs.YtkgjaklnbgdmiaaW.PrintLast Go.Proofs.YtkgjaklnbgdmiaaW.PrintMore
set_option linter.unusedVariables false
set_option linter.unusedSimpArgs false
theorem Zfq (a : Nat) (b : Int) (c : Nat) (h : b = c) : mn (a : Int) b = ((min a c : Nat) : Int) := by
  subst h
  unfold mn
  split <;> omega
theorem Zfr {α : Type} (l : List α) (b : Int) (c : Nat) (h : b = c) : l.take (mn (l.length : Int) b).toNat = l.take c := by
  rw [Zfq _ _ _ h, Int.toNat_natCast]
  by_cases q : l.length ≤ c
  rotate_left
  · rw [Nat.min_eq_right (by omega)]
  rw [Nat.min_eq_left q, List.take_length, List.take_of_length_le q]
theorem Zei (l : List (List Int)) (hl : l.length ≤ 1000000) (hr : ∀ r ∈ l, r.length ≤ 1000000) : ∀ (d n : Nat) (acc : List (List Int)), n + d = l.length → acc.length ≤ n → Ev (fun k => Za8.l0 k l acc (n : Int)) (acc ++ l.drop n)
  | 0, n, acc, h, ha => by
    obtain rfl : n = l.length := by omega
    rw [List.drop_length, List.append_nil]
    exact Ev.step (G := fun _ => some acc) (fun k => by rw [Za8.l0, if_neg (by omega)]) (Ev.const rfl)
  | d + 1, n, acc, h, ha => by
    have hn : n < l.length := by omega
    have hw : wrap64 ((n : Int) + 1) = ((n + 1 : Nat) : Int) := w1 (by omega)
    have hrd : Zc5 l (n : Int) = l[n] := by simp [Zc5, List.getD_eq_getElem?_getD, List.getElem?_eq_getElem hn]
    have hq := hr _ (List.getElem_mem hn)
    have ih := Zei l hl hr d (n + 1) (acc ++ [l[n]]) (by omega) (by simp; omega)
    rw [List.append_assoc, List.singleton_append, ← List.drop_eq_getElem_cons hn] at ih
    refine Ev.step (fun k => by rw [Za8.l0, if_pos (by omega), hrd]) (Ev.bind (a := ([] : List Int)) (Ev.const rfl) ?_)
    rw [hw, List.nil_append]
    refine Ev.Zba (Int.natCast_nonneg n) ?_
    refine Ev.Zba ?_ ?_
    · show 0 + l[n].length < _
      omega
    refine Ev.Zba ?_ ih
    omega
theorem ref_nums4 (l : List (List Int)) (hl : l.length ≤ 1000000) (hr : ∀ r ∈ l, r.length ≤ 1000000) : Ev (fun k => Za8.f k l) l := Zei l hl hr l.length 0 [] (by omega) (by simp)
theorem ref_own4 (a0 : Int) (l1 l2 : List Int) (a3 a4 : Int) (l5 : List (List Int)) (a6 : Int) (h1 : l1.length ≤ 1000000) (h2 : l2.length ≤ 1000000) (hl : l5.length ≤ 1000000) (hr : ∀ r ∈ l5, r.length ≤ 1000000) : Ev (fun k => Zb1.f k a0 l1 l2 a3 a4 l5 a6) (a0, l1, l2, a3, a4, l5, a6) := by
  unfold Zb1.f
  refine Ev.bind (a := ([] : List Int)) (Ev.const rfl) (Ev.Zba (by simp; omega) (Ev.bind (a := ([] : List Int)) (Ev.const rfl) (Ev.Zba (by simp; omega) (Ev.bind (ref_nums4 l5 hl hr) (Ev.const ?_)))))
  simp
def bV1 (v : S50) : S50 := ⟨v.f0.extract 0 (min v.f0.size 20), v.f1.take 12⟩
def bC1 (c : S31) : S31 := ⟨c.f0, c.f1.take 14, c.f2.take 14, c.f3, c.f4, cutR c.f5, c.f6⟩
def bV (l : List S50) : List S50 := (l.take 10).map bV1
def bC (l : List S31) : List S31 := (l.take 16).map bC1
theorem cutR_len (l : List (List Int)) : (cutR l).length ≤ 20 := by
  unfold cutR
  rw [List.length_map, List.length_take]
  omega
theorem cutR_row (l : List (List Int)) : ∀ r ∈ cutR l, r.length ≤ 14 := by
  intro r hr
  unfold cutR at hr
  obtain ⟨x, _, rfl⟩ := List.mem_map.1 hr
  rw [List.length_take]
  omega
section
variable (vars : List S50) (cons : List S31) (gk : Int) (gv gc : List Int) (V : List S50)
theorem bound_end (x : Int) (acc : List S31) : Ev (fun k => Zak.j3 k x false vars cons gk gv gc V acc gk gv gc) (V, acc, gk, gv.take 14, gc.take 14) := by
  have e1 := Zfr gv 14 14 rfl
  have e2 := Zfr gc 14 14 rfl
  have m1 := Zfq gv.length 14 14 rfl
  have m2 := Zfq gc.length 14 14 rfl
  refine Ev.step (fun k => by rw [Zak.j3, if_neg (by simp)]) ?_
  rw [e1, e2]
  refine Ev.bind (a := ([] : List Int)) (Ev.const rfl) (Ev.Zba (by omega) (Ev.Zba (by omega) (Ev.Zba (by simp [List.length_take]; omega) ?_)))
  refine Ev.bind (a := ([] : List Int)) (Ev.const rfl) (Ev.Zba (by omega) (Ev.Zba (by omega) (Ev.Zba (by simp [List.length_take]; omega) (Ev.const rfl))))
theorem bound_l1 : ∀ (d n : Nat) (acc : List S31), n + d = min 16 cons.length → acc.length ≤ n → Ev (fun k => Zak.l1 k (n : Int) vars cons gk gv gc V acc gk gv gc) (V, acc ++ ((cons.take 16).drop n).map bC1, gk, gv.take 14, gc.take 14)
  | 0, n, acc, h, ha => by
    have e : (cons.take 16).drop n = [] := List.drop_eq_nil_of_le (by rw [List.length_take]; omega)
    rw [e, List.map_nil, List.append_nil]
    by_cases q : n < cons.length
    rotate_left
    · exact Ev.step (fun k => by rw [Zak.l1, if_neg (by omega)]) (bound_end vars cons gk gv gc V _ _)
    have d1 : decide ((n : Int) < 16) = false := decide_eq_false (by omega)
    exact Ev.step (fun k => by rw [Zak.l1, if_pos (by omega), d1]) (bound_end vars cons gk gv gc V _ _)
  | d + 1, n, acc, h, ha => by
    have hn : n < cons.length := by omega
    have h16 : n < 16 := by omega
    have d1 : decide ((n : Int) < 16) = true := decide_eq_true (by omega)
    have hw : wrap64 ((n : Int) + 1) = ((n + 1 : Nat) : Int) := w1 (by omega)
    have hrd : Zah cons (n : Int) = cons[n] := by simp [Zah, List.getD_eq_getElem?_getD, List.getElem?_eq_getElem hn]
    have ih := bound_l1 d (n + 1) (acc ++ [bC1 cons[n]]) (by omega) (by simp; omega)
    have hd : (cons.take 16).drop n = cons[n] :: (cons.take 16).drop (n + 1) := by
      rw [List.drop_eq_getElem_cons (by rw [List.length_take]; omega), List.getElem_take]
    rw [hd, List.map_cons]
    rw [List.append_assoc, List.singleton_append] at ih
    have m1 := Zfq cons[n].f1.length 14 14 rfl
    have m2 := Zfq cons[n].f2.length 14 14 rfl
    refine Ev.step (fun k => by rw [Zak.l1, if_pos (by omega), d1]) (Ev.step (fun k => by rw [Zak.j3, if_pos rfl, hrd]) ?_)
    rw [Zfr cons[n].f1 14 14 rfl, Zfr cons[n].f2 14 14 rfl]
    refine Ev.Zba (by omega) (Ev.Zba (by omega) (Ev.Zba (by omega) (Ev.Zba (by omega) (Ev.Zba (by omega) (Ev.Zba (by omega) ?_)))))
    refine Ev.bind (a := cutR cons[n].f5) (Ev.const rfl) (Ev.bind (ref_own4 _ _ _ _ _ _ _ (by rw [List.length_take]; omega) (by rw [List.length_take]; omega) (by have := cutR_len cons[n].f5; omega) (fun r hr => by have := cutR_row _ r hr; omega)) (Ev.Zba (by omega) ?_))
    rw [hw]
    exact ih
theorem bound_j1 : Ev (fun k => Zak.j1 k vars cons gk gv gc V gk gv gc) (V, bC cons, gk, gv.take 14, gc.take 14) :=
  Ev.step (fun k => by rw [Zak.j1]; rfl) (bound_l1 vars cons gk gv gc V (min 16 cons.length) 0 [] (by omega) (by simp))
end
theorem bound_l0 (vars : List S50) (cons : List S31) (gk : Int) (gv gc : List Int) : ∀ (d n : Nat) (acc : List S50), n + d = min 10 vars.length → acc.length ≤ n → Ev (fun k => Zak.l0 k (n : Int) vars cons gk gv gc acc gk gv gc) (acc ++ ((vars.take 10).drop n).map bV1, bC cons, gk, gv.take 14, gc.take 14)
  | 0, n, acc, h, ha => by
    have e : (vars.take 10).drop n = [] := List.drop_eq_nil_of_le (by rw [List.length_take]; omega)
    rw [e, List.map_nil, List.append_nil]
    by_cases q : n < vars.length
    rotate_left
    · exact Ev.step (fun k => by rw [Zak.l0, if_neg (by omega)]) (bound_j1 vars cons gk gv gc _)
    exact Ev.step (fun k => by rw [Zak.l0, if_pos (by omega), if_neg (by omega)]) (bound_j1 vars cons gk gv gc _)
  | d + 1, n, acc, h, ha => by
    have hn : n < vars.length := by omega
    have hw : wrap64 ((n : Int) + 1) = ((n + 1 : Nat) : Int) := w1 (by omega)
    have hrd : Za4 vars (n : Int) = vars[n] := by simp [Za4, List.getD_eq_getElem?_getD, List.getElem?_eq_getElem hn]
    have ih := bound_l0 vars cons gk gv gc d (n + 1) (acc ++ [bV1 vars[n]]) (by omega) (by simp; omega)
    have hd : (vars.take 10).drop n = vars[n] :: (vars.take 10).drop (n + 1) := by
      rw [List.drop_eq_getElem_cons (by rw [List.length_take]; omega), List.getElem_take]
    rw [hd, List.map_cons]
    rw [List.append_assoc, List.singleton_append] at ih
    have m1 := Zfq vars[n].f0.size 20 20 rfl
    have m2 := Zfq vars[n].f1.length 12 12 rfl
    refine Ev.step (fun k => by rw [Zak.l0, if_pos (by omega), if_pos (by omega), hrd]) ?_
    rw [Zfr vars[n].f1 12 12 rfl]
    refine Ev.Zba (by omega) (Ev.Zba (by omega) (Ev.Zba (by omega) ?_))
    refine Ev.bind (a := ([] : List S48)) (Ev.const rfl) (Ev.Zba (by omega) (Ev.Zba (by omega) (Ev.bind (a := vars[n].f1.take 12) (Ev.const rfl) (Ev.Zba (by simp [List.length_take]; omega) (Ev.Zba (by omega) ?_)))))
    rw [hw, m1, Int.toNat_natCast, List.nil_append]
    exact ih
theorem bound_ev (vars : List S50) (cons : List S31) (gk : Int) (gv gc : List Int) : Ev (fun k => Zak.f k vars cons gk gv gc) (bV vars, bC cons, gk, gv.take 14, gc.take 14) := bound_l0 vars cons gk gv gc (min 10 vars.length) 0 [] (by omega) (by simp)
end Go.Proofs.Ytkgjaklnbgdmiaa.P
/- What comes in, within its bounds: what Bound makes of it is small. -/
namespace Go.Proofs.Ytkgjaklnbgdmiaa.P
open Go.RowKit Go.Proofs.YtkgjaklnbgdmiaaW.PrintWords Go.Proofs.YtkgjaklnbgdmiaaW.PrintLast Go.Proofs.YtkgjaklnbgdmiaaW.PrintMore
set_option linter.unusedVariables false
set_option linter.unusedSimpArgs false
def VarOk (v : S50) : Prop := ByteArray.size v.f0 ≤ maxLen ∧ (List.length v.f1 * 16 ≤ 140737488351232 ∧ ∀ y2_ ∈ v.f1, ((Lit.int .i64 (y2_).f0).wf = true ∧ (Lit.int .i64 (y2_).f1).wf = true))
def ConOk (c : S31) : Prop := (Lit.int .i64 c.f0).wf = true ∧ (List.length c.f1 * 8 ≤ 140737488351232 ∧ ∀ y2_ ∈ c.f1, (Lit.int .i64 y2_).wf = true) ∧ (List.length c.f2 * 8 ≤ 140737488351232 ∧ ∀ y2_ ∈ c.f2, (Lit.int .i64 y2_).wf = true) ∧ (Lit.int .i64 c.f3).wf = true ∧ (Lit.int .i64 c.f4).wf = true ∧ (List.length c.f5 * 24 ≤ 140737488351232 ∧ ∀ y2_ ∈ c.f5, (List.length y2_ * 8 ≤ 140737488351232 ∧ ∀ y3_ ∈ y2_, (Lit.int .i64 y3_).wf = true)) ∧ (Lit.int .i64 c.f6).wf = true
theorem bV_mem {vars : List S50} {v : S50} (h : v ∈ bV vars) : ∃ x ∈ vars, v = bV1 x := by
  obtain ⟨x, hx, e⟩ := List.mem_map.1 h
  exact ⟨x, List.mem_of_mem_take hx, e.symm⟩
theorem bC_mem {cons : List S31} {c : S31} (h : c ∈ bC cons) : ∃ x ∈ cons, c = bC1 x := by
  obtain ⟨x, hx, e⟩ := List.mem_map.1 h
  exact ⟨x, List.mem_of_mem_take hx, e.symm⟩
theorem bC_length (cons : List S31) : (bC cons).length ≤ 16 := by
  unfold bC
  rw [List.length_map, List.length_take]
  omega
theorem bV_dom {vars : List S50} : ∀ v ∈ bV vars, v.f1.length ≤ 12 := by
  intro v h
  obtain ⟨x, _, rfl⟩ := bV_mem h
  show (x.f1.take 12).length ≤ 12
  rw [List.length_take]
  omega
theorem bC_small {cons : List S31} : ∀ c ∈ bC cons, c.f1.length ≤ 14 ∧ c.f2.length ≤ 14 ∧ c.f5.length ≤ 20 ∧ ∀ r ∈ c.f5, r.length ≤ 14 := by
  intro c h
  obtain ⟨x, _, rfl⟩ := bC_mem h
  exact ⟨by show (x.f1.take 14).length ≤ 14; rw [List.length_take]; omega, by show (x.f2.take 14).length ≤ 14; rw [List.length_take]; omega, cutR_len x.f5, cutR_row x.f5⟩
theorem okC_bC {cons : List S31} (h : ∀ c ∈ cons, ConOk c) : ∀ c ∈ bC cons, okC c := by
  intro c hc
  obtain ⟨s1, s2, _, _⟩ := bC_small c hc
  obtain ⟨x, hx, rfl⟩ := bC_mem hc
  obtain ⟨_, _, ⟨_, h2⟩, _, h4, _, _⟩ := h x hx
  exact ⟨by omega, by omega, fun y hy => (wf64 (h2 y (List.mem_of_mem_take hy))).1, (wf64 h4).1⟩
theorem bV_dom6 {vars : List S50} : ∀ v ∈ bV vars, v.f1.length ≤ 1000000 := fun v h => by have := bV_dom v h; omega
theorem take14 (l : List Int) : (l.take 14).length ≤ 1000000 := by rw [List.length_take]; omega
theorem take14w {l : List Int} (h : ∀ y ∈ l, (Lit.int .i64 y).wf = true) : ∀ c ∈ l.take 14, -9223372036854775808 ≤ c := fun y hy => (wf64 (h y (List.mem_of_mem_take hy))).1
end Go.Proofs.Ytkgjaklnbgdmiaa.P
