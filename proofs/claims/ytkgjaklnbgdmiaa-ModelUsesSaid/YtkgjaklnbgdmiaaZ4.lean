/- Proved: what each function of the program that the statements of this seat reach comes to, for whatever memory and arguments it is called with (on condition that its plain text tells a result). -/
import Derived.Test.YtkgjaklnbgdmiaaZ1
import Derived.Test.YtkgjaklnbgdmiaaZ3
/- secateurlaw04.fixed: its calls, each by its contract. -/
namespace Go.Proofs.Ytkgjaklnbgdmiaa.P
open Go.RowKit Go.Proofs.YtkgjaklnbgdmiaaW.PrintWords Go.Proofs.YtkgjaklnbgdmiaaW.PrintLast Go.Proofs.YtkgjaklnbgdmiaaW.PrintMore
set_option linter.unusedVariables false
set_option linter.unusedSimpArgs false
def Zbg.T7 : Bool × List (List Nat × List Nat) := (true, [([], []), ([0], [0]), ([1], [1]), ([2], [2]), ([3, 2], [2, 3]), ([2, 4], [2, 4]), ([5, 2], [5]), ([6], [6]), ([7, 6], [6, 7]), ([6, 8], [6, 8]), ([9, 6], [9]), ([10], [10]), ([11, 10], [10, 11]), ([10, 12], [10, 12]), ([13, 10], [13]), ([14], [14]), ([15, 14], [14, 15]), ([14, 16], [14, 16]), ([17, 14], [17]), ([18, 18], [18]), ([18, 19], [18, 19]), ([20, 19], [20]), ([21, 21], [21]), ([22, 21], [21, 22]), ([21, 23], [21, 23]), ([24, 22], [24]), ([25], [25]), ([26, 25], [25, 26]), ([27, 25], [25, 27]), ([28, 25], [25, 28]), ([29, 25, 25], [25, 29]), ([25], [25]), ([30, 31, 30, 25], [25, 30, 31]), ([25, 32], [25, 32]), ([33, 32], [33]), ([34], [34]), ([34], [34]), ([36, 34, 34], [34, 36]), ([35, 37, 37, 34], [34, 35, 37]), ([34, 38], [34, 38]), ([39, 38], [39]), ([40], [40]), ([40], [40]), ([41, 42, 40, 40], [40, 41, 42]), ([43, 40], [40, 43]), ([40, 44], [40, 44]), ([45, 43], [45]), ([46], [46]), ([47, 46, 46], [46, 47]), ([48, 46], [46, 48]), ([49, 46], [46, 49]), ([46, 50], [46, 50]), ([51, 48, 0, 1, 2, 3, 4, 5, 6, 7, 8, 9, 10, 11, 12, 13, 14, 15, 16, 17, 18, 19, 20, 21, 22, 23, 24, 25, 26, 27, 28, 29, 30, 31, 32, 33, 34, 35, 36, 37, 38, 39, 40, 41, 42, 43, 44, 45, 46, 47, 48, 49, 50, 51], [51])])
def Zbg.B7 : List Nat := [0, 1, 3, 7, 15, 31, 63, 127, 255, 511, 1023, 2047, 4095, 8191, 16383, 32767, 65535, 131071, 262143, 524287, 1048575, 2097151, 4194303, 8388607, 16777215, 33554431, 67108863, 134217727, 268435455, 536870911, 1073741823, 67108863, 4294967295, 8589934591, 17179869183, 34359738367, 34359738367, 103079215103, 274877906943, 549755813887, 1099511627775, 2199023255551, 2199023255551, 8796093022207, 17592186044415, 35184372088831, 70368744177663, 140737488355327, 281474976710655, 562949953421311, 1125899906842623, 2251799813685247, 4503599627370495]
theorem Zbg.tab7 : rtab .any (opsOf Try.f13 7) = Zbg.T7 := by kernel_rfl
theorem Zbg.bits7 : waitsOk Zbg.T7.2 Zbg.B7 = true := by kernel_rfl
set_option maxHeartbeats 8000000 in
set_option maxRecDepth 1000000 in
theorem fixed04_go (k : Nat) (v1 : List S50) (n1 : List S31) (g1 : Int) (p1 q1 : List Int) (v2 : List S50) (n2 : List S31) (g2 : Int) (p2 q2 : List Int) (v3 : List S50) (n3 : List S31) (g3 : Int) (p3 q3 : List Int) (v4 : List S50) (n4 : List S31) (g4 : Int) (p4 q4 : List Int) (v5 : List S50) (n5 : List S31) (g5 : Int) (p5 q5 : List Int) (v6 : List S50) (n6 : List S31) (g6 : Int) (p6 q6 : List Int) (t476 : List Int) (t483 : List S50) (t486 : List S31) (t489 : Int) (t490 t493 : List Int) (t498 : List (List S48)) (w : World)
    (a1 : Zbq.f 0 ([0] : List Int) ([2] : List Int) 0 5 ([] : List (List Int)) 0 = some (v1, n1, g1, p1, q1))
    (e1 : Zbn.f k v1 n1 g1 p1 q1 = some 0)
    (a2 : Zbq.f 0 ([0] : List Int) ([0] : List Int) 0 0 ([] : List (List Int)) 0 = some (v2, n2, g2, p2, q2))
    (e2 : Zbn.f k v2 n2 g2 p2 q2 = some 44)
    (a3 : Zbq.f 5 ([0] : List Int) ([1] : List Int) 0 0 ([] : List (List Int)) 0 = some (v3, n3, g3, p3, q3))
    (e3 : Zbn.f k v3 n3 g3 p3 q3 = some 44)
    (a4 : Zbq.f 1 ([1] : List Int) ([] : List Int) 0 0 ([] : List (List Int)) 0 = some (v4, n4, g4, p4, q4))
    (e4 : Zbn.f k v4 n4 g4 p4 q4 = some 43)
    (a5 : Zbq.f 0 ([0] : List Int) ([4398046511104] : List Int) 0 1 ([] : List (List Int)) 0 = some (v5, n5, g5, p5, q5))
    (e5 : Zbn.f k v5 n5 g5 p5 q5 = some 45)
    (a6 : Zbq.f 4 ([2, 1] : List Int) ([] : List Int) 0 0 ([] : List (List Int)) 0 = some (v6, n6, g6, p6, q6))
    (a17 : Zcf.f (⟨#[120, 95, 49]⟩ : ByteArray) = some true)
    (a19 : Zcf.f (⟨#[49, 120]⟩ : ByteArray) = some false)
    (c21 : 0 < n6.length)
    (a22 : Zcp.f (Zah n6 0).f0 (Zah n6 0).f1 (Zah n6 0).f2 (Zah n6 0).f3 (Zah n6 0).f4 (Zah n6 0).f5 (Zah n6 0).f6 = some t476)
    (a23 : Zbs.f k t476 [0, 1, 2] = some true)
    (a25 : Za5.f k v6 n6 g6 p6 q6 = some (t483, t486, t489, t490, t493))
    (a26 : Zdc.f k v6 n6 g6 p6 q6 t483 t486 t489 t490 t493 = some true)
    (a28 : Zdc.f k v6 n6 g6 p6 q6 [] [] 0 [] [] = some false)
    (a30 : Zb3.f k v6 n6 g6 p6 q6 = some t498) :
    Calls Try.prog 13 #[] w fun e w' => e = .returned (.bool ((t498.length : Int) == 1)) ∧ Below w.heap.size w w' := by
  have A1 := Za.mk a1; clear a1; have E1 := Za.mk e1; clear e1; have A2 := Za.mk a2; clear a2; have E2 := Za.mk e2; clear e2; have A3 := Za.mk a3; clear a3; have E3 := Za.mk e3; clear e3; have A4 := Za.mk a4; clear a4; have E4 := Za.mk e4; clear e4; have A5 := Za.mk a5; clear a5; have E5 := Za.mk e5; clear e5; have A6 := Za.mk a6; clear a6; have A17 := Za.mk a17; clear a17; have A19 := Za.mk a19; clear a19; have A22 := Za.mk a22; clear a22; have A23 := Za.mk a23; clear a23; have A25 := Za.mk a25; clear a25; have A26 := Za.mk a26; clear a26; have A28 := Za.mk a28; clear a28; have A30 := Za.mk a30; clear a30
  have HB := Za.mk (Below.refl w.heap.size w)
  go_enter Try.func13, Try.ntmps13
  go_wp2_with (first | ((with_reducible refine Zax (N := 7) rfl ?_); refine Kd.Zc9 (Kd.int .i64) _ 3 ?hg (N := 7) ?hd (xs := ([0] : List Int)) (inner := [.int .i64 0]) (ok := fun _ => True) (okp := fun _ => True) ?hr ?hp (fun _ hk => hk) trivial (Below.refl _ _) (Nat.le_refl _) (by simp) ?_; (case hd => rfl); (case hg => rfl); (case hr => first | (go_simp; done) | (go_simp; rfl)); (case hp => exact (Reps.one (show Kd.M (Kd.int .i64) _ _ _ 0 [.int .i64 0] from rfl) (Reps.none _ _))); intro u7 x7 ho hb hg_ hnew_; clear hg_ hnew_; have HB1 := Za.mk (Zaf (mvB HB.out) hb); clear HB; have HB := HB1; clear HB1; obtain ⟨Y7, y7, ey_⟩ := Kd.Za9 ho; subst ey_; have L7 := Za.mk ho; clear ho hb) | ((with_reducible refine Zax (N := 8) rfl ?_); refine Kd.Zc9 (Kd.int .i64) _ 3 ?hg (N := 8) ?hd (xs := ([2] : List Int)) (inner := [.int .i64 2]) (ok := fun _ => True) (okp := fun _ => True) ?hr ?hp (fun _ hk => hk) trivial (Below.refl _ _) (Nat.le_refl _) (by simp) ?_; (case hd => rfl); (case hg => rfl); (case hr => first | (go_simp; done) | (go_simp; rfl)); (case hp => exact (Reps.one (show Kd.M (Kd.int .i64) _ _ _ 2 [.int .i64 2] from rfl) (Reps.none _ _))); intro u8 x8 ho hb hg_ hnew_; clear hg_ hnew_; have HB1 := Za.mk (Zaf (mvB HB.out) hb); clear HB; have HB := HB1; clear HB1; have L7_ := Za.mk (Kd.Zb6 (mvR L7.out) hb); clear L7; have L7 := L7_; clear L7_; obtain ⟨Y8, y8, ey_⟩ := Kd.Za9 ho; subst ey_; have L8 := Za.mk ho; clear ho hb) | ((with_reducible refine Zay (f := 37) rfl ?_); refine Zbu (some 10) rfl rfl Try.func37 (by kernel_rfl) rfl #[.agg #[.int .i64 0, .slice Y7 1 y7, .slice Y8 1 y8, .int .i64 0, .int .i64 5, .slice none 0 0, .int .i64 0]] rfl (by (try simp only [List.map_toArray, List.map_cons, List.map_nil]); first | done | rfl) ?_; (refine (Zbq.calls 0 (fun k_ => some k_ = (.slice Y7 1 y7 : Value).ownBlock) _ _ ([0] : List Int) (fun k_ => some k_ = (.slice Y8 1 y8 : Value).ownBlock) _ _ ([2] : List Int) 0 5 (fun k_ => False) _ _ ([] : List (List Int)) 0 v1 n1 g1 p1 q1 _ ?side1 ?side2 ?side3 A1.out).mono ?_); (case side1 => exact Kd.R_V (Kd.Zdd rfl (mvR L7.out))); (case side2 => exact Kd.R_V (Kd.Zdd rfl (mvR L8.out))); (case side3 => exact Kd.Ze _ _ _ _ _); rintro e z1 ⟨r0, r1, r3, r4, rfl, ho0, ho1, ho2, ho3, hb⟩; refine ⟨_, rfl, ?_⟩; have HB1 := Za.mk (Zaf (mvB HB.out) hb); clear HB; have HB := HB1; clear HB1; clear L7 L8; obtain ⟨M10, m10, em_⟩ := Kd.Zc3 ho0; subst em_; have K10 := Za.mk (Kd.Zcl ho0); clear ho0; obtain ⟨M11, m11, em_⟩ := Kd.Zc3 ho1; subst em_; have K11 := Za.mk (Kd.Zcl ho1); clear ho1; obtain ⟨M12, m12, em_⟩ := Kd.Za9 ho2; subst em_; have K12 := Za.mk (Kd.Za0 ho2); clear ho2; obtain ⟨M13, m13, em_⟩ := Kd.Za9 ho3; subst em_; have K13 := Za.mk (Kd.Za0 ho3); clear ho3; clear hb) | ((with_reducible refine Zay (f := 30) rfl ?_); refine Zbu (some 11) rfl rfl Try.func30 (by kernel_rfl) rfl #[.agg #[.slice M10 v1.length m10, .slice M11 n1.length m11, .int .i64 g1, .slice M12 p1.length m12, .slice M13 q1.length m13]] rfl (by (try simp only [List.map_toArray, List.map_cons, List.map_nil]); first | done | rfl) ?_; (with_reducible refine (Zbn.calls k _ _ v1 _ _ n1 g1 _ _ p1 _ _ q1 _ _ ?side1 ?side2 ?side3 ?side4 ?side5 ?side6 ?side7 ?side8 E1.out).mono ?_); (case side1 => exact Kd.Zal K10.out.2.2 (mvB (Below.refl z1.heap.size z1))); (case side2 => exact K10.out.2.1); (case side3 => exact Kd.Zal K11.out.2.2 (mvB (Below.refl z1.heap.size z1))); (case side4 => exact K11.out.2.1); (case side5 => exact Kd.Zal K12.out.2.2 (mvB (Below.refl z1.heap.size z1))); (case side6 => exact K12.out.2.1); (case side7 => exact Kd.Zal K13.out.2.2 (mvB (Below.refl z1.heap.size z1))); (case side8 => exact K13.out.2.1); rintro e x_ ⟨rfl, hb⟩; refine ⟨_, rfl, ?_⟩; have HB1 := Za.mk (Zaf (mvB HB.out) hb); clear HB; have HB := HB1; clear HB1; clear hb K10 K11 K12 K13) | ((with_reducible refine Zax (N := 12) rfl ?_); refine Kd.Zc9 (Kd.int .i64) _ 3 ?hg (N := 12) ?hd (xs := ([0] : List Int)) (inner := [.int .i64 0]) (ok := fun _ => True) (okp := fun _ => True) ?hr ?hp (fun _ hk => hk) trivial (Below.refl _ _) (Nat.le_refl _) (by simp) ?_; (case hd => rfl); (case hg => rfl); (case hr => first | (go_simp; done) | (go_simp; rfl)); (case hp => exact (Reps.one (show Kd.M (Kd.int .i64) _ _ _ 0 [.int .i64 0] from rfl) (Reps.none _ _))); intro u12 x12 ho hb hg_ hnew_; clear hg_ hnew_; have HB1 := Za.mk (Zaf (mvB HB.out) hb); clear HB; have HB := HB1; clear HB1; obtain ⟨Y12, y12, ey_⟩ := Kd.Za9 ho; subst ey_; have L12 := Za.mk ho; clear ho hb) | ((with_reducible refine Zax (N := 13) rfl ?_); refine Kd.Zc9 (Kd.int .i64) _ 3 ?hg (N := 13) ?hd (xs := ([0] : List Int)) (inner := [.int .i64 0]) (ok := fun _ => True) (okp := fun _ => True) ?hr ?hp (fun _ hk => hk) trivial (Below.refl _ _) (Nat.le_refl _) (by simp) ?_; (case hd => rfl); (case hg => rfl); (case hr => first | (go_simp; done) | (go_simp; rfl)); (case hp => exact (Reps.one (show Kd.M (Kd.int .i64) _ _ _ 0 [.int .i64 0] from rfl) (Reps.none _ _))); intro u13 x13 ho hb hg_ hnew_; clear hg_ hnew_; have HB1 := Za.mk (Zaf (mvB HB.out) hb); clear HB; have HB := HB1; clear HB1; have L12_ := Za.mk (Kd.Zb6 (mvR L12.out) hb); clear L12; have L12 := L12_; clear L12_; obtain ⟨Y13, y13, ey_⟩ := Kd.Za9 ho; subst ey_; have L13 := Za.mk ho; clear ho hb) | ((with_reducible refine Zay (f := 37) rfl ?_); refine Zbu (some 15) rfl rfl Try.func37 (by kernel_rfl) rfl #[.agg #[.int .i64 0, .slice Y12 1 y12, .slice Y13 1 y13, .int .i64 0, .int .i64 0, .slice none 0 0, .int .i64 0]] rfl (by (try simp only [List.map_toArray, List.map_cons, List.map_nil]); first | done | rfl) ?_; (refine (Zbq.calls 0 (fun k_ => some k_ = (.slice Y12 1 y12 : Value).ownBlock) _ _ ([0] : List Int) (fun k_ => some k_ = (.slice Y13 1 y13 : Value).ownBlock) _ _ ([0] : List Int) 0 0 (fun k_ => False) _ _ ([] : List (List Int)) 0 v2 n2 g2 p2 q2 _ ?side1 ?side2 ?side3 A2.out).mono ?_); (case side1 => exact Kd.R_V (Kd.Zdd rfl (mvR L12.out))); (case side2 => exact Kd.R_V (Kd.Zdd rfl (mvR L13.out))); (case side3 => exact Kd.Ze _ _ _ _ _); rintro e z2 ⟨r0, r1, r3, r4, rfl, ho0, ho1, ho2, ho3, hb⟩; refine ⟨_, rfl, ?_⟩; have HB1 := Za.mk (Zaf (mvB HB.out) hb); clear HB; have HB := HB1; clear HB1; clear L12 L13; obtain ⟨M20, m20, em_⟩ := Kd.Zc3 ho0; subst em_; have K20 := Za.mk (Kd.Zcl ho0); clear ho0; obtain ⟨M21, m21, em_⟩ := Kd.Zc3 ho1; subst em_; have K21 := Za.mk (Kd.Zcl ho1); clear ho1; obtain ⟨M22, m22, em_⟩ := Kd.Za9 ho2; subst em_; have K22 := Za.mk (Kd.Za0 ho2); clear ho2; obtain ⟨M23, m23, em_⟩ := Kd.Za9 ho3; subst em_; have K23 := Za.mk (Kd.Za0 ho3); clear ho3; clear hb) | ((with_reducible refine Zay (f := 30) rfl ?_); refine Zbu (some 16) rfl rfl Try.func30 (by kernel_rfl) rfl #[.agg #[.slice M20 v2.length m20, .slice M21 n2.length m21, .int .i64 g2, .slice M22 p2.length m22, .slice M23 q2.length m23]] rfl (by (try simp only [List.map_toArray, List.map_cons, List.map_nil]); first | done | rfl) ?_; (with_reducible refine (Zbn.calls k _ _ v2 _ _ n2 g2 _ _ p2 _ _ q2 _ _ ?side1 ?side2 ?side3 ?side4 ?side5 ?side6 ?side7 ?side8 E2.out).mono ?_); (case side1 => exact Kd.Zal K20.out.2.2 (mvB (Below.refl z2.heap.size z2))); (case side2 => exact K20.out.2.1); (case side3 => exact Kd.Zal K21.out.2.2 (mvB (Below.refl z2.heap.size z2))); (case side4 => exact K21.out.2.1); (case side5 => exact Kd.Zal K22.out.2.2 (mvB (Below.refl z2.heap.size z2))); (case side6 => exact K22.out.2.1); (case side7 => exact Kd.Zal K23.out.2.2 (mvB (Below.refl z2.heap.size z2))); (case side8 => exact K23.out.2.1); rintro e x_ ⟨rfl, hb⟩; refine ⟨_, rfl, ?_⟩; have HB1 := Za.mk (Zaf (mvB HB.out) hb); clear HB; have HB := HB1; clear HB1; clear hb K20 K21 K22 K23) | ((with_reducible refine Zax (N := 17) rfl ?_); refine Kd.Zc9 (Kd.int .i64) _ 3 ?hg (N := 17) ?hd (xs := ([0] : List Int)) (inner := [.int .i64 0]) (ok := fun _ => True) (okp := fun _ => True) ?hr ?hp (fun _ hk => hk) trivial (Below.refl _ _) (Nat.le_refl _) (by simp) ?_; (case hd => rfl); (case hg => rfl); (case hr => first | (go_simp; done) | (go_simp; rfl)); (case hp => exact (Reps.one (show Kd.M (Kd.int .i64) _ _ _ 0 [.int .i64 0] from rfl) (Reps.none _ _))); intro u17 x17 ho hb hg_ hnew_; clear hg_ hnew_; have HB1 := Za.mk (Zaf (mvB HB.out) hb); clear HB; have HB := HB1; clear HB1; obtain ⟨Y17, y17, ey_⟩ := Kd.Za9 ho; subst ey_; have L17 := Za.mk ho; clear ho hb) | ((with_reducible refine Zax (N := 18) rfl ?_); refine Kd.Zc9 (Kd.int .i64) _ 3 ?hg (N := 18) ?hd (xs := ([1] : List Int)) (inner := [.int .i64 1]) (ok := fun _ => True) (okp := fun _ => True) ?hr ?hp (fun _ hk => hk) trivial (Below.refl _ _) (Nat.le_refl _) (by simp) ?_; (case hd => rfl); (case hg => rfl); (case hr => first | (go_simp; done) | (go_simp; rfl)); (case hp => exact (Reps.one (show Kd.M (Kd.int .i64) _ _ _ 1 [.int .i64 1] from rfl) (Reps.none _ _))); intro u18 x18 ho hb hg_ hnew_; clear hg_ hnew_; have HB1 := Za.mk (Zaf (mvB HB.out) hb); clear HB; have HB := HB1; clear HB1; have L17_ := Za.mk (Kd.Zb6 (mvR L17.out) hb); clear L17; have L17 := L17_; clear L17_; obtain ⟨Y18, y18, ey_⟩ := Kd.Za9 ho; subst ey_; have L18 := Za.mk ho; clear ho hb) | ((with_reducible refine Zay (f := 37) rfl ?_); refine Zbu (some 20) rfl rfl Try.func37 (by kernel_rfl) rfl #[.agg #[.int .i64 5, .slice Y17 1 y17, .slice Y18 1 y18, .int .i64 0, .int .i64 0, .slice none 0 0, .int .i64 0]] rfl (by (try simp only [List.map_toArray, List.map_cons, List.map_nil]); first | done | rfl) ?_; (refine (Zbq.calls 5 (fun k_ => some k_ = (.slice Y17 1 y17 : Value).ownBlock) _ _ ([0] : List Int) (fun k_ => some k_ = (.slice Y18 1 y18 : Value).ownBlock) _ _ ([1] : List Int) 0 0 (fun k_ => False) _ _ ([] : List (List Int)) 0 v3 n3 g3 p3 q3 _ ?side1 ?side2 ?side3 A3.out).mono ?_); (case side1 => exact Kd.R_V (Kd.Zdd rfl (mvR L17.out))); (case side2 => exact Kd.R_V (Kd.Zdd rfl (mvR L18.out))); (case side3 => exact Kd.Ze _ _ _ _ _); rintro e z3 ⟨r0, r1, r3, r4, rfl, ho0, ho1, ho2, ho3, hb⟩; refine ⟨_, rfl, ?_⟩; have HB1 := Za.mk (Zaf (mvB HB.out) hb); clear HB; have HB := HB1; clear HB1; clear L17 L18; obtain ⟨M30, m30, em_⟩ := Kd.Zc3 ho0; subst em_; have K30 := Za.mk (Kd.Zcl ho0); clear ho0; obtain ⟨M31, m31, em_⟩ := Kd.Zc3 ho1; subst em_; have K31 := Za.mk (Kd.Zcl ho1); clear ho1; obtain ⟨M32, m32, em_⟩ := Kd.Za9 ho2; subst em_; have K32 := Za.mk (Kd.Za0 ho2); clear ho2; obtain ⟨M33, m33, em_⟩ := Kd.Za9 ho3; subst em_; have K33 := Za.mk (Kd.Za0 ho3); clear ho3; clear hb) | ((with_reducible refine Zay (f := 30) rfl ?_); refine Zbu (some 21) rfl rfl Try.func30 (by kernel_rfl) rfl #[.agg #[.slice M30 v3.length m30, .slice M31 n3.length m31, .int .i64 g3, .slice M32 p3.length m32, .slice M33 q3.length m33]] rfl (by (try simp only [List.map_toArray, List.map_cons, List.map_nil]); first | done | rfl) ?_; (with_reducible refine (Zbn.calls k _ _ v3 _ _ n3 g3 _ _ p3 _ _ q3 _ _ ?side1 ?side2 ?side3 ?side4 ?side5 ?side6 ?side7 ?side8 E3.out).mono ?_); (case side1 => exact Kd.Zal K30.out.2.2 (mvB (Below.refl z3.heap.size z3))); (case side2 => exact K30.out.2.1); (case side3 => exact Kd.Zal K31.out.2.2 (mvB (Below.refl z3.heap.size z3))); (case side4 => exact K31.out.2.1); (case side5 => exact Kd.Zal K32.out.2.2 (mvB (Below.refl z3.heap.size z3))); (case side6 => exact K32.out.2.1); (case side7 => exact Kd.Zal K33.out.2.2 (mvB (Below.refl z3.heap.size z3))); (case side8 => exact K33.out.2.1); rintro e x_ ⟨rfl, hb⟩; refine ⟨_, rfl, ?_⟩; have HB1 := Za.mk (Zaf (mvB HB.out) hb); clear HB; have HB := HB1; clear HB1; clear hb K30 K31 K32 K33) | ((with_reducible refine Zax (N := 22) rfl ?_); refine Kd.Zc9 (Kd.int .i64) _ 3 ?hg (N := 22) ?hd (xs := ([1] : List Int)) (inner := [.int .i64 1]) (ok := fun _ => True) (okp := fun _ => True) ?hr ?hp (fun _ hk => hk) trivial (Below.refl _ _) (Nat.le_refl _) (by simp) ?_; (case hd => rfl); (case hg => rfl); (case hr => first | (go_simp; done) | (go_simp; rfl)); (case hp => exact (Reps.one (show Kd.M (Kd.int .i64) _ _ _ 1 [.int .i64 1] from rfl) (Reps.none _ _))); intro u22 x22 ho hb hg_ hnew_; clear hg_ hnew_; have HB1 := Za.mk (Zaf (mvB HB.out) hb); clear HB; have HB := HB1; clear HB1; obtain ⟨Y22, y22, ey_⟩ := Kd.Za9 ho; subst ey_; have L22 := Za.mk ho; clear ho hb) | ((with_reducible refine Zay (f := 37) rfl ?_); refine Zbu (some 24) rfl rfl Try.func37 (by kernel_rfl) rfl #[.agg #[.int .i64 1, .slice Y22 1 y22, .slice none 0 0, .int .i64 0, .int .i64 0, .slice none 0 0, .int .i64 0]] rfl (by (try simp only [List.map_toArray, List.map_cons, List.map_nil]); first | done | rfl) ?_; (refine (Zbq.calls 1 (fun k_ => some k_ = (.slice Y22 1 y22 : Value).ownBlock) _ _ ([1] : List Int) (fun k_ => False) _ _ ([] : List Int) 0 0 (fun k_ => False) _ _ ([] : List (List Int)) 0 v4 n4 g4 p4 q4 _ ?side1 ?side2 ?side3 A4.out).mono ?_); (case side1 => exact Kd.R_V (Kd.Zdd rfl (mvR L22.out))); (case side2 => exact Kd.Ze _ _ _ _ _); (case side3 => exact Kd.Ze _ _ _ _ _); rintro e z4 ⟨r0, r1, r3, r4, rfl, ho0, ho1, ho2, ho3, hb⟩; refine ⟨_, rfl, ?_⟩; have HB1 := Za.mk (Zaf (mvB HB.out) hb); clear HB; have HB := HB1; clear HB1; clear L22; obtain ⟨M40, m40, em_⟩ := Kd.Zc3 ho0; subst em_; have K40 := Za.mk (Kd.Zcl ho0); clear ho0; obtain ⟨M41, m41, em_⟩ := Kd.Zc3 ho1; subst em_; have K41 := Za.mk (Kd.Zcl ho1); clear ho1; obtain ⟨M42, m42, em_⟩ := Kd.Za9 ho2; subst em_; have K42 := Za.mk (Kd.Za0 ho2); clear ho2; obtain ⟨M43, m43, em_⟩ := Kd.Za9 ho3; subst em_; have K43 := Za.mk (Kd.Za0 ho3); clear ho3; clear hb) | ((with_reducible refine Zay (f := 30) rfl ?_); refine Zbu (some 25) rfl rfl Try.func30 (by kernel_rfl) rfl #[.agg #[.slice M40 v4.length m40, .slice M41 n4.length m41, .int .i64 g4, .slice M42 p4.length m42, .slice M43 q4.length m43]] rfl (by (try simp only [List.map_toArray, List.map_cons, List.map_nil]); first | done | rfl) ?_; (with_reducible refine (Zbn.calls k _ _ v4 _ _ n4 g4 _ _ p4 _ _ q4 _ _ ?side1 ?side2 ?side3 ?side4 ?side5 ?side6 ?side7 ?side8 E4.out).mono ?_); (case side1 => exact Kd.Zal K40.out.2.2 (mvB (Below.refl z4.heap.size z4))); (case side2 => exact K40.out.2.1); (case side3 => exact Kd.Zal K41.out.2.2 (mvB (Below.refl z4.heap.size z4))); (case side4 => exact K41.out.2.1); (case side5 => exact Kd.Zal K42.out.2.2 (mvB (Below.refl z4.heap.size z4))); (case side6 => exact K42.out.2.1); (case side7 => exact Kd.Zal K43.out.2.2 (mvB (Below.refl z4.heap.size z4))); (case side8 => exact K43.out.2.1); rintro e x_ ⟨rfl, hb⟩; refine ⟨_, rfl, ?_⟩; have HB1 := Za.mk (Zaf (mvB HB.out) hb); clear HB; have HB := HB1; clear HB1; clear hb K40 K41 K42 K43) | ((with_reducible refine Zax (N := 26) rfl ?_); refine Kd.Zc9 (Kd.int .i64) _ 3 ?hg (N := 26) ?hd (xs := ([0] : List Int)) (inner := [.int .i64 0]) (ok := fun _ => True) (okp := fun _ => True) ?hr ?hp (fun _ hk => hk) trivial (Below.refl _ _) (Nat.le_refl _) (by simp) ?_; (case hd => rfl); (case hg => rfl); (case hr => first | (go_simp; done) | (go_simp; rfl)); (case hp => exact (Reps.one (show Kd.M (Kd.int .i64) _ _ _ 0 [.int .i64 0] from rfl) (Reps.none _ _))); intro u26 x26 ho hb hg_ hnew_; clear hg_ hnew_; have HB1 := Za.mk (Zaf (mvB HB.out) hb); clear HB; have HB := HB1; clear HB1; obtain ⟨Y26, y26, ey_⟩ := Kd.Za9 ho; subst ey_; have L26 := Za.mk ho; clear ho hb) | ((with_reducible refine Zax (N := 27) rfl ?_); refine Kd.Zc9 (Kd.int .i64) _ 3 ?hg (N := 27) ?hd (xs := ([4398046511104] : List Int)) (inner := [.int .i64 4398046511104]) (ok := fun _ => True) (okp := fun _ => True) ?hr ?hp (fun _ hk => hk) trivial (Below.refl _ _) (Nat.le_refl _) (by simp) ?_; (case hd => rfl); (case hg => rfl); (case hr => first | (go_simp; done) | (go_simp; rfl)); (case hp => exact (Reps.one (show Kd.M (Kd.int .i64) _ _ _ 4398046511104 [.int .i64 4398046511104] from rfl) (Reps.none _ _))); intro u27 x27 ho hb hg_ hnew_; clear hg_ hnew_; have HB1 := Za.mk (Zaf (mvB HB.out) hb); clear HB; have HB := HB1; clear HB1; have L26_ := Za.mk (Kd.Zb6 (mvR L26.out) hb); clear L26; have L26 := L26_; clear L26_; obtain ⟨Y27, y27, ey_⟩ := Kd.Za9 ho; subst ey_; have L27 := Za.mk ho; clear ho hb) | ((with_reducible refine Zay (f := 37) rfl ?_); refine Zbu (some 29) rfl rfl Try.func37 (by kernel_rfl) rfl #[.agg #[.int .i64 0, .slice Y26 1 y26, .slice Y27 1 y27, .int .i64 0, .int .i64 1, .slice none 0 0, .int .i64 0]] rfl (by (try simp only [List.map_toArray, List.map_cons, List.map_nil]); first | done | rfl) ?_; (refine (Zbq.calls 0 (fun k_ => some k_ = (.slice Y26 1 y26 : Value).ownBlock) _ _ ([0] : List Int) (fun k_ => some k_ = (.slice Y27 1 y27 : Value).ownBlock) _ _ ([4398046511104] : List Int) 0 1 (fun k_ => False) _ _ ([] : List (List Int)) 0 v5 n5 g5 p5 q5 _ ?side1 ?side2 ?side3 A5.out).mono ?_); (case side1 => exact Kd.R_V (Kd.Zdd rfl (mvR L26.out))); (case side2 => exact Kd.R_V (Kd.Zdd rfl (mvR L27.out))); (case side3 => exact Kd.Ze _ _ _ _ _); rintro e z5 ⟨r0, r1, r3, r4, rfl, ho0, ho1, ho2, ho3, hb⟩; refine ⟨_, rfl, ?_⟩; have HB1 := Za.mk (Zaf (mvB HB.out) hb); clear HB; have HB := HB1; clear HB1; clear L26 L27; obtain ⟨M50, m50, em_⟩ := Kd.Zc3 ho0; subst em_; have K50 := Za.mk (Kd.Zcl ho0); clear ho0; obtain ⟨M51, m51, em_⟩ := Kd.Zc3 ho1; subst em_; have K51 := Za.mk (Kd.Zcl ho1); clear ho1; obtain ⟨M52, m52, em_⟩ := Kd.Za9 ho2; subst em_; have K52 := Za.mk (Kd.Za0 ho2); clear ho2; obtain ⟨M53, m53, em_⟩ := Kd.Za9 ho3; subst em_; have K53 := Za.mk (Kd.Za0 ho3); clear ho3; clear hb) | ((with_reducible refine Zay (f := 30) rfl ?_); refine Zbu (some 30) rfl rfl Try.func30 (by kernel_rfl) rfl #[.agg #[.slice M50 v5.length m50, .slice M51 n5.length m51, .int .i64 g5, .slice M52 p5.length m52, .slice M53 q5.length m53]] rfl (by (try simp only [List.map_toArray, List.map_cons, List.map_nil]); first | done | rfl) ?_; (with_reducible refine (Zbn.calls k _ _ v5 _ _ n5 g5 _ _ p5 _ _ q5 _ _ ?side1 ?side2 ?side3 ?side4 ?side5 ?side6 ?side7 ?side8 E5.out).mono ?_); (case side1 => exact Kd.Zal K50.out.2.2 (mvB (Below.refl z5.heap.size z5))); (case side2 => exact K50.out.2.1); (case side3 => exact Kd.Zal K51.out.2.2 (mvB (Below.refl z5.heap.size z5))); (case side4 => exact K51.out.2.1); (case side5 => exact Kd.Zal K52.out.2.2 (mvB (Below.refl z5.heap.size z5))); (case side6 => exact K52.out.2.1); (case side7 => exact Kd.Zal K53.out.2.2 (mvB (Below.refl z5.heap.size z5))); (case side8 => exact K53.out.2.1); rintro e x_ ⟨rfl, hb⟩; refine ⟨_, rfl, ?_⟩; have HB1 := Za.mk (Zaf (mvB HB.out) hb); clear HB; have HB := HB1; clear HB1; clear hb K50 K51 K52 K53) | ((with_reducible refine Zax (N := 31) rfl ?_); refine Kd.Zc9 (Kd.int .i64) _ 3 ?hg (N := 31) ?hd (xs := ([2, 1] : List Int)) (inner := [.int .i64 2, .int .i64 1]) (ok := fun _ => True) (okp := fun _ => True) ?hr ?hp (fun _ hk => hk) trivial (Below.refl _ _) (Nat.le_refl _) (by simp) ?_; (case hd => rfl); (case hg => rfl); (case hr => first | (go_simp; done) | (go_simp; rfl)); (case hp => exact (Reps.one (show Kd.M (Kd.int .i64) _ _ _ 2 [.int .i64 2] from rfl) (Reps.one (show Kd.M (Kd.int .i64) _ _ _ 1 [.int .i64 1] from rfl) (Reps.none _ _)))); intro u31 x31 ho hb hg_ hnew_; clear hg_ hnew_; have HB1 := Za.mk (Zaf (mvB HB.out) hb); clear HB; have HB := HB1; clear HB1; obtain ⟨Y31, y31, ey_⟩ := Kd.Za9 ho; subst ey_; have L31 := Za.mk ho; clear ho hb) | ((with_reducible refine Zay (f := 37) rfl ?_); refine Zbu (some 33) rfl rfl Try.func37 (by kernel_rfl) rfl #[.agg #[.int .i64 4, .slice Y31 2 y31, .slice none 0 0, .int .i64 0, .int .i64 0, .slice none 0 0, .int .i64 0]] rfl (by (try simp only [List.map_toArray, List.map_cons, List.map_nil]); first | done | rfl) ?_; (refine (Zbq.calls 4 (fun k_ => some k_ = (.slice Y31 2 y31 : Value).ownBlock) _ _ ([2, 1] : List Int) (fun k_ => False) _ _ ([] : List Int) 0 0 (fun k_ => False) _ _ ([] : List (List Int)) 0 v6 n6 g6 p6 q6 _ ?side1 ?side2 ?side3 A6.out).mono ?_); (case side1 => exact Kd.R_V (Kd.Zdd rfl (mvR L31.out))); (case side2 => exact Kd.Ze _ _ _ _ _); (case side3 => exact Kd.Ze _ _ _ _ _); rintro e z6 ⟨r0, r1, r3, r4, rfl, ho0, ho1, ho2, ho3, hb⟩; refine ⟨_, rfl, ?_⟩; have HB1 := Za.mk (Zaf (mvB HB.out) hb); clear HB; have HB := HB1; clear HB1; clear L31; obtain ⟨M60, m60, em_⟩ := Kd.Zc3 ho0; subst em_; have K60 := Za.mk (Kd.Zcl ho0); clear ho0; obtain ⟨M61, m61, em_⟩ := Kd.Zc3 ho1; subst em_; have K61 := Za.mk (Kd.Zcl ho1); clear ho1; obtain ⟨M62, m62, em_⟩ := Kd.Za9 ho2; subst em_; have K62 := Za.mk (Kd.Za0 ho2); clear ho2; obtain ⟨M63, m63, em_⟩ := Kd.Za9 ho3; subst em_; have K63 := Za.mk (Kd.Za0 ho3); clear ho3; clear hb) | ((with_reducible refine Zax (N := 6) rfl ?_); refine Za7 ?hg (N := 6) ?hd (cs := #[.slice none 0 0, .slice none 0 0, .int .i64 0, .slice none 0 0, .slice none 0 0]) (t := 28) ?hr ?_; (case hd => rfl); (case hg => rfl); (case hr => first | (go_simp; done) | (go_simp; rfl)); intro gm hgm wx hbox hb; have BX := Za.mk hbox; have hz0 : wx.cell? ⟨gm, 0, none⟩ = some (.slice none 0 0) := (Zaj hbox 0).trans rfl; have hf0 := Zao hbox 0; have hz1 : wx.cell? ⟨gm, 1, none⟩ = some (.slice none 0 0) := (Zaj hbox 1).trans rfl; have hf1 := Zao hbox 1; have hz2 : wx.cell? ⟨gm, 2, none⟩ = some (.int .i64 0) := (Zaj hbox 2).trans rfl; have hf2 := Zao hbox 2; have hz3 : wx.cell? ⟨gm, 3, none⟩ = some (.slice none 0 0) := (Zaj hbox 3).trans rfl; have hf3 := Zao hbox 3; have hz4 : wx.cell? ⟨gm, 4, none⟩ = some (.slice none 0 0) := (Zaj hbox 4).trans rfl; have hf4 := Zao hbox 4; have HG : Za (z6.heap.size ≤ gm) := ⟨by rw [hgm]; exact (mvB (Below.refl z6.heap.size z6)).size⟩; have BX6 := Za.mk (Zaf (mvB (Below.refl z6.heap.size z6)) hb); clear hbox hb hgm))
  have BZ := Za.mk (show Below z6.heap.size z6 (((((wx.setCell ⟨gm, 0, none⟩ (.slice M60 v6.length m60)).setCell ⟨gm, 1, none⟩ (.slice M61 n6.length m61)).setCell ⟨gm, 2, none⟩ (.int .i64 g6)).setCell ⟨gm, 3, none⟩ (.slice M62 p6.length m62)).setCell ⟨gm, 4, none⟩ (.slice M63 q6.length m63)) from (Zac (Zac (Zac (Zac (Zac BX6.out HG.out) HG.out) HG.out) HG.out) HG.out))
  have BK := Za.mk (show ((((((wx.setCell ⟨gm, 0, none⟩ (.slice M60 v6.length m60)).setCell ⟨gm, 1, none⟩ (.slice M61 n6.length m61)).setCell ⟨gm, 2, none⟩ (.int .i64 g6)).setCell ⟨gm, 3, none⟩ (.slice M62 p6.length m62)).setCell ⟨gm, 4, none⟩ (.slice M63 q6.length m63))).heap[gm]? = some (.cells #[.slice M60 v6.length m60, .slice M61 n6.length m61, .int .i64 g6, .slice M62 p6.length m62, .slice M63 q6.length m63] 28 (0, 0)) from (Zaq (cs' := #[.slice M60 v6.length m60, .slice M61 n6.length m61, .int .i64 g6, .slice M62 p6.length m62, .slice M63 q6.length m63]) (Zaq (cs' := #[.slice M60 v6.length m60, .slice M61 n6.length m61, .int .i64 g6, .slice M62 p6.length m62, .slice none 0 0]) (Zaq (cs' := #[.slice M60 v6.length m60, .slice M61 n6.length m61, .int .i64 g6, .slice none 0 0, .slice none 0 0]) (Zaq (cs' := #[.slice M60 v6.length m60, .slice M61 n6.length m61, .int .i64 0, .slice none 0 0, .slice none 0 0]) (Zaq (cs' := #[.slice M60 v6.length m60, .slice none 0 0, .int .i64 0, .slice none 0 0, .slice none 0 0]) BX.out 0 (.slice M60 v6.length m60) rfl) 1 (.slice M61 n6.length m61) rfl) 2 (.int .i64 g6) rfl) 3 (.slice M62 p6.length m62) rfl) 4 (.slice M63 q6.length m63) rfl))
  have HBz := Za.mk (show Below w.heap.size w (((((wx.setCell ⟨gm, 0, none⟩ (.slice M60 v6.length m60)).setCell ⟨gm, 1, none⟩ (.slice M61 n6.length m61)).setCell ⟨gm, 2, none⟩ (.int .i64 g6)).setCell ⟨gm, 3, none⟩ (.slice M62 p6.length m62)).setCell ⟨gm, 4, none⟩ (.slice M63 q6.length m63)) from Zaf HB.out BZ.out)
  clear BX BX6 HG HB
  generalize (((((wx.setCell ⟨gm, 0, none⟩ (.slice M60 v6.length m60)).setCell ⟨gm, 1, none⟩ (.slice M61 n6.length m61)).setCell ⟨gm, 2, none⟩ (.int .i64 g6)).setCell ⟨gm, 3, none⟩ (.slice M62 p6.length m62)).setCell ⟨gm, 4, none⟩ (.slice M63 q6.length m63)) = wz at BZ BK HBz ⊢
  have Q0 := Za.mk (Kd.Zal K60.out.2.2 BZ.out)
  have Q1 := Za.mk (Kd.Zal K61.out.2.2 BZ.out)
  have Q2 := Za.mk (Kd.Zal K62.out.2.2 BZ.out)
  have Q3 := Za.mk (Kd.Zal K63.out.2.2 BZ.out)
  have p475 : (0 : Int) ≤ (0 : Int) := (by omega)
  have q475 : (0 : Int) < (n6.length : Int) := by omega
  obtain ⟨ad475, S1, s1, S2, s2, S5, s5, e475, hx0, hx1, hx2, hx3, hx4, hx5, hx6, hl1, hi1, hl2, hi2, hl5, hi5⟩ := Zeg Q1.out 0 p475 q475
  subst e475
  (try rw [show ((0 : Int)).toNat = 0 from rfl] at hx0)
  (try rw [show 0 * 7 = 0 from rfl] at hx0)
  (try rw [Addr.add_zero'] at hx0)
  (try rw [show ((0 : Int)).toNat = 0 from rfl] at hx1)
  (try rw [show 0 * 7 = 0 from rfl] at hx1)
  (try rw [Addr.add_zero'] at hx1)
  (try rw [show ((0 : Int)).toNat = 0 from rfl] at hx2)
  (try rw [show 0 * 7 = 0 from rfl] at hx2)
  (try rw [Addr.add_zero'] at hx2)
  (try rw [show ((0 : Int)).toNat = 0 from rfl] at hx3)
  (try rw [show 0 * 7 = 0 from rfl] at hx3)
  (try rw [Addr.add_zero'] at hx3)
  (try rw [show ((0 : Int)).toNat = 0 from rfl] at hx4)
  (try rw [show 0 * 7 = 0 from rfl] at hx4)
  (try rw [Addr.add_zero'] at hx4)
  (try rw [show ((0 : Int)).toNat = 0 from rfl] at hx5)
  (try rw [show 0 * 7 = 0 from rfl] at hx5)
  (try rw [Addr.add_zero'] at hx5)
  (try rw [show ((0 : Int)).toNat = 0 from rfl] at hx6)
  (try rw [show 0 * 7 = 0 from rfl] at hx6)
  (try rw [Addr.add_zero'] at hx6)
  have qi475 : (0 < n6.length) = True := eq_true c21
  have qd475 : decide (0 < n6.length) = true := decide_eq_true c21
  have qe475 : decide (0 < (n6.length : Int)) = true := decide_eq_true q475
  replace p475 := eq_true p475
  replace q475 := eq_true q475
  clear c21
  have HI1 := Za.mk hi1; have HL1 := Za.mk hl1; clear hi1 hl1
  have HI2 := Za.mk hi2; have HL2 := Za.mk hl2; clear hi2 hl2
  have HI5 := Za.mk hi5; have HL5 := Za.mk hl5; clear hi5 hl5
  have HSA : Za (∀ w' : World, Below wz.heap.size wz w' → w'.cell? ⟨gm, 0, none⟩ = some (.slice M60 v6.length m60) ∧ w'.cell? ⟨gm, 1, none⟩ = some (.slice (some ad475) n6.length m61) ∧ w'.cell? ⟨gm, 2, none⟩ = some (.int .i64 g6) ∧ w'.cell? ⟨gm, 3, none⟩ = some (.slice M62 p6.length m62) ∧ w'.cell? ⟨gm, 4, none⟩ = some (.slice M63 q6.length m63) ∧ w'.cell? ad475 = some (.int .i64 (Zah n6 0).f0) ∧ w'.cell? ⟨ad475.block, ad475.off + 1, none⟩ = some (.slice S1 (Zah n6 0).f1.length s1) ∧ w'.cell? ⟨ad475.block, ad475.off + 2, none⟩ = some (.slice S2 (Zah n6 0).f2.length s2) ∧ w'.cell? ⟨ad475.block, ad475.off + 3, none⟩ = some (.int .i64 (Zah n6 0).f3) ∧ w'.cell? ⟨ad475.block, ad475.off + 4, none⟩ = some (.int .i64 (Zah n6 0).f4) ∧ w'.cell? ⟨ad475.block, ad475.off + 5, none⟩ = some (.slice S5 (Zah n6 0).f5.length s5) ∧ w'.cell? ⟨ad475.block, ad475.off + 6, none⟩ = some (.int .i64 (Zah n6 0).f6)) := ⟨fun w' hW => ⟨cellE hW ((Zaj BK.out 0).trans rfl), cellE hW ((Zaj BK.out 1).trans rfl), cellE hW ((Zaj BK.out 2).trans rfl), cellE hW ((Zaj BK.out 3).trans rfl), cellE hW ((Zaj BK.out 4).trans rfl), cellE hW hx0, cellE hW hx1, cellE hW hx2, cellE hW hx3, cellE hW hx4, cellE hW hx5, cellE hW hx6⟩⟩
  have BW := Za.mk (Below.refl wz.heap.size wz)
  clear hx0 hx1 hx2 hx3 hx4 hx5 hx6
  refine Zfw (n := 53) (S := fun w' => w'.cell? ⟨gm, 0, none⟩ = some (.slice M60 v6.length m60) ∧ w'.cell? ⟨gm, 1, none⟩ = some (.slice (some ad475) n6.length m61) ∧ w'.cell? ⟨gm, 2, none⟩ = some (.int .i64 g6) ∧ w'.cell? ⟨gm, 3, none⟩ = some (.slice M62 p6.length m62) ∧ w'.cell? ⟨gm, 4, none⟩ = some (.slice M63 q6.length m63) ∧ w'.cell? ad475 = some (.int .i64 (Zah n6 0).f0) ∧ w'.cell? ⟨ad475.block, ad475.off + 1, none⟩ = some (.slice S1 (Zah n6 0).f1.length s1) ∧ w'.cell? ⟨ad475.block, ad475.off + 2, none⟩ = some (.slice S2 (Zah n6 0).f2.length s2) ∧ w'.cell? ⟨ad475.block, ad475.off + 3, none⟩ = some (.int .i64 (Zah n6 0).f3) ∧ w'.cell? ⟨ad475.block, ad475.off + 4, none⟩ = some (.int .i64 (Zah n6 0).f4) ∧ w'.cell? ⟨ad475.block, ad475.off + 5, none⟩ = some (.slice S5 (Zah n6 0).f5.length s5) ∧ w'.cell? ⟨ad475.block, ad475.off + 6, none⟩ = some (.int .i64 (Zah n6 0).f6)) (ds := []) #[false, false, false, false, false, false, false, false, false, false, false, false, false, false, false, false, false, false, false, false, false, false, false, false, false, false, false, false, false, false, false, false, false, false, false, false, false, false, false, false, false, false, false, false, false, false, false, false, false, false, false, false, false] (by kernel_rfl) rfl rfl (HSA.out _ (mvB BW.out)) (fun hHeld => ?_); refine Zds Zbg.tab7 Zbg.bits7 (fun HT_ HW_ => ?_)
  refine Zbx (i := 0) (N := some 34) (v := ?_) (a' := ?_) #[true, false, false, false, false, false, false, false, false, false, false, false, false, false, false, false, false, false, false, false, false, false, false, false, false, false, false, false, false, false, false, false, false, false, false, false, false, false, false, false, false, false, false, false, false, false, false, false, false, false, false, false, false] rfl rfl (Zbi HT_.out (by kernel_rfl)) (fun _ _ _ h => h) (Or.inl ⟨by rfl, ?_⟩) ?_ ?_
  rotate_left
  ·intro w'
   go_simp
   with_reducible rfl
  rotate_left
  ·simp only [Act.put, List.setIfInBounds_toArray, List.set_cons_zero, List.set_cons_succ, Zbb, Zbd]
   rfl
  refine Zbx (i := 1) (N := some 35) (v := ?_) (a' := ?_) #[true, true, false, false, false, false, false, false, false, false, false, false, false, false, false, false, false, false, false, false, false, false, false, false, false, false, false, false, false, false, false, false, false, false, false, false, false, false, false, false, false, false, false, false, false, false, false, false, false, false, false, false, false] rfl rfl (Zbi HT_.out (by kernel_rfl)) (fun _ _ _ h => h) (Or.inl ⟨by rfl, ?_⟩) ?_ ?_
  rotate_left
  ·intro w'
   go_simp
   with_reducible rfl
  rotate_left
  ·simp only [Act.put, List.setIfInBounds_toArray, List.set_cons_zero, List.set_cons_succ, Zbb, Zbd]
   rfl
  refine Zbx (i := 2) (N := some 36) (v := ?_) (a' := ?_) #[true, true, true, false, false, false, false, false, false, false, false, false, false, false, false, false, false, false, false, false, false, false, false, false, false, false, false, false, false, false, false, false, false, false, false, false, false, false, false, false, false, false, false, false, false, false, false, false, false, false, false, false, false] rfl rfl (Zbi HT_.out (by kernel_rfl)) (fun _ _ _ h => h) (Or.inl ⟨by rfl, ?_⟩) ?_ ?_
  rotate_left
  ·intro w'
   go_simp
   with_reducible rfl
  rotate_left
  ·simp only [Act.put, List.setIfInBounds_toArray, List.set_cons_zero, List.set_cons_succ, Zbb, Zbd]
   rfl
  refine Zbx (i := 3) (N := some 37) (v := ?_) (a' := ?_) #[true, true, true, true, false, false, false, false, false, false, false, false, false, false, false, false, false, false, false, false, false, false, false, false, false, false, false, false, false, false, false, false, false, false, false, false, false, false, false, false, false, false, false, false, false, false, false, false, false, false, false, false, false] rfl rfl (Zbi HT_.out (by kernel_rfl)) (fun _ _ _ h => h) (Or.inl ⟨by rfl, ?_⟩) ?_ ?_
  rotate_left
  ·intro w'
   go_simp
   with_reducible rfl
  rotate_left
  ·simp only [Act.put, List.setIfInBounds_toArray, List.set_cons_zero, List.set_cons_succ, Zbb, Zbd]
   rfl
  refine Zbx (i := 4) (N := some 38) (v := ?_) (a' := ?_) #[true, true, true, true, true, false, false, false, false, false, false, false, false, false, false, false, false, false, false, false, false, false, false, false, false, false, false, false, false, false, false, false, false, false, false, false, false, false, false, false, false, false, false, false, false, false, false, false, false, false, false, false, false] rfl rfl (Zbi HT_.out (by kernel_rfl)) (fun _ _ _ h => h) (Or.inl ⟨by rfl, ?_⟩) ?_ ?_
  rotate_left
  ·intro w'
   go_simp
   with_reducible rfl
  rotate_left
  ·simp only [Act.put, List.setIfInBounds_toArray, List.set_cons_zero, List.set_cons_succ, Zbb, Zbd]
   rfl
  refine Zbx (i := 5) (N := some 39) (v := ?_) (a' := ?_) #[true, true, true, true, true, true, false, false, false, false, false, false, false, false, false, false, false, false, false, false, false, false, false, false, false, false, false, false, false, false, false, false, false, false, false, false, false, false, false, false, false, false, false, false, false, false, false, false, false, false, false, false, false] rfl rfl (Zbi HT_.out (by kernel_rfl)) (fun _ _ _ h => h) (Or.inl ⟨by rfl, ?_⟩) ?_ ?_
  rotate_left
  ·intro w'
   go_simp
   with_reducible rfl
  rotate_left
  ·simp only [Act.put, List.setIfInBounds_toArray, List.set_cons_zero, List.set_cons_succ, Zbb, Zbd]
   rfl
  refine Zbx (i := 6) (N := some 40) (v := ?_) (a' := ?_) #[true, true, true, true, true, true, true, false, false, false, false, false, false, false, false, false, false, false, false, false, false, false, false, false, false, false, false, false, false, false, false, false, false, false, false, false, false, false, false, false, false, false, false, false, false, false, false, false, false, false, false, false, false] rfl rfl (Zbi HT_.out (by kernel_rfl)) (fun _ _ _ h => h) (Or.inl ⟨by rfl, ?_⟩) ?_ ?_
  rotate_left
  ·intro w'
   go_simp
   with_reducible rfl
  rotate_left
  ·simp only [Act.put, List.setIfInBounds_toArray, List.set_cons_zero, List.set_cons_succ, Zbb, Zbd]
   rfl
  refine Zbx (i := 7) (N := some 41) (v := ?_) (a' := ?_) #[true, true, true, true, true, true, true, true, false, false, false, false, false, false, false, false, false, false, false, false, false, false, false, false, false, false, false, false, false, false, false, false, false, false, false, false, false, false, false, false, false, false, false, false, false, false, false, false, false, false, false, false, false] rfl rfl (Zbi HT_.out (by kernel_rfl)) (fun _ _ _ h => h) (Or.inl ⟨by rfl, ?_⟩) ?_ ?_
  rotate_left
  ·intro w'
   go_simp
   with_reducible rfl
  rotate_left
  ·simp only [Act.put, List.setIfInBounds_toArray, List.set_cons_zero, List.set_cons_succ, Zbb, Zbd]
   rfl
  refine Zbx (i := 8) (N := some 42) (v := ?_) (a' := ?_) #[true, true, true, true, true, true, true, true, true, false, false, false, false, false, false, false, false, false, false, false, false, false, false, false, false, false, false, false, false, false, false, false, false, false, false, false, false, false, false, false, false, false, false, false, false, false, false, false, false, false, false, false, false] rfl rfl (Zbi HT_.out (by kernel_rfl)) (fun _ _ _ h => h) (Or.inl ⟨by rfl, ?_⟩) ?_ ?_
  rotate_left
  ·intro w'
   go_simp
   with_reducible rfl
  rotate_left
  ·simp only [Act.put, List.setIfInBounds_toArray, List.set_cons_zero, List.set_cons_succ, Zbb, Zbd]
   rfl
  refine Zbx (i := 9) (N := some 43) (v := ?_) (a' := ?_) #[true, true, true, true, true, true, true, true, true, true, false, false, false, false, false, false, false, false, false, false, false, false, false, false, false, false, false, false, false, false, false, false, false, false, false, false, false, false, false, false, false, false, false, false, false, false, false, false, false, false, false, false, false] rfl rfl (Zbi HT_.out (by kernel_rfl)) (fun _ _ _ h => h) (Or.inl ⟨by rfl, ?_⟩) ?_ ?_
  rotate_left
  ·intro w'
   go_simp
   with_reducible rfl
  rotate_left
  ·simp only [Act.put, List.setIfInBounds_toArray, List.set_cons_zero, List.set_cons_succ, Zbb, Zbd]
   rfl
  refine Zbx (i := 10) (N := some 44) (v := ?_) (a' := ?_) #[true, true, true, true, true, true, true, true, true, true, true, false, false, false, false, false, false, false, false, false, false, false, false, false, false, false, false, false, false, false, false, false, false, false, false, false, false, false, false, false, false, false, false, false, false, false, false, false, false, false, false, false, false] rfl rfl (Zbi HT_.out (by kernel_rfl)) (fun _ _ _ h => h) (Or.inl ⟨by rfl, ?_⟩) ?_ ?_
  rotate_left
  ·intro w'
   go_simp
   with_reducible rfl
  rotate_left
  ·simp only [Act.put, List.setIfInBounds_toArray, List.set_cons_zero, List.set_cons_succ, Zbb, Zbd]
   rfl
  refine Zbx (i := 11) (N := some 45) (v := ?_) (a' := ?_) #[true, true, true, true, true, true, true, true, true, true, true, true, false, false, false, false, false, false, false, false, false, false, false, false, false, false, false, false, false, false, false, false, false, false, false, false, false, false, false, false, false, false, false, false, false, false, false, false, false, false, false, false, false] rfl rfl (Zbi HT_.out (by kernel_rfl)) (fun _ _ _ h => h) (Or.inl ⟨by rfl, ?_⟩) ?_ ?_
  rotate_left
  ·intro w'
   go_simp
   with_reducible rfl
  rotate_left
  ·simp only [Act.put, List.setIfInBounds_toArray, List.set_cons_zero, List.set_cons_succ, Zbb, Zbd]
   rfl
  refine Zbx (i := 12) (N := some 46) (v := ?_) (a' := ?_) #[true, true, true, true, true, true, true, true, true, true, true, true, true, false, false, false, false, false, false, false, false, false, false, false, false, false, false, false, false, false, false, false, false, false, false, false, false, false, false, false, false, false, false, false, false, false, false, false, false, false, false, false, false] rfl rfl (Zbi HT_.out (by kernel_rfl)) (fun _ _ _ h => h) (Or.inl ⟨by rfl, ?_⟩) ?_ ?_
  rotate_left
  ·intro w'
   go_simp
   with_reducible rfl
  rotate_left
  ·simp only [Act.put, List.setIfInBounds_toArray, List.set_cons_zero, List.set_cons_succ, Zbb, Zbd]
   rfl
  refine Zbx (i := 13) (N := some 47) (v := ?_) (a' := ?_) #[true, true, true, true, true, true, true, true, true, true, true, true, true, true, false, false, false, false, false, false, false, false, false, false, false, false, false, false, false, false, false, false, false, false, false, false, false, false, false, false, false, false, false, false, false, false, false, false, false, false, false, false, false] rfl rfl (Zbi HT_.out (by kernel_rfl)) (fun _ _ _ h => h) (Or.inl ⟨by rfl, ?_⟩) ?_ ?_
  rotate_left
  ·intro w'
   go_simp
   with_reducible rfl
  rotate_left
  ·simp only [Act.put, List.setIfInBounds_toArray, List.set_cons_zero, List.set_cons_succ, Zbb, Zbd]
   rfl
  refine Zbx (i := 14) (N := some 48) (v := ?_) (a' := ?_) #[true, true, true, true, true, true, true, true, true, true, true, true, true, true, true, false, false, false, false, false, false, false, false, false, false, false, false, false, false, false, false, false, false, false, false, false, false, false, false, false, false, false, false, false, false, false, false, false, false, false, false, false, false] rfl rfl (Zbi HT_.out (by kernel_rfl)) (fun _ _ _ h => h) (Or.inl ⟨by rfl, ?_⟩) ?_ ?_
  rotate_left
  ·intro w'
   go_simp
   with_reducible rfl
  rotate_left
  ·simp only [Act.put, List.setIfInBounds_toArray, List.set_cons_zero, List.set_cons_succ, Zbb, Zbd]
   rfl
  refine Zbx (i := 15) (N := some 49) (v := ?_) (a' := ?_) #[true, true, true, true, true, true, true, true, true, true, true, true, true, true, true, true, false, false, false, false, false, false, false, false, false, false, false, false, false, false, false, false, false, false, false, false, false, false, false, false, false, false, false, false, false, false, false, false, false, false, false, false, false] rfl rfl (Zbi HT_.out (by kernel_rfl)) (fun _ _ _ h => h) (Or.inl ⟨by rfl, ?_⟩) ?_ ?_
  rotate_left
  ·intro w'
   go_simp
   with_reducible rfl
  rotate_left
  ·simp only [Act.put, List.setIfInBounds_toArray, List.set_cons_zero, List.set_cons_succ, Zbb, Zbd]
   rfl
  refine Zbx (i := 16) (N := some 50) (v := ?_) (a' := ?_) #[true, true, true, true, true, true, true, true, true, true, true, true, true, true, true, true, true, false, false, false, false, false, false, false, false, false, false, false, false, false, false, false, false, false, false, false, false, false, false, false, false, false, false, false, false, false, false, false, false, false, false, false, false] rfl rfl (Zbi HT_.out (by kernel_rfl)) (fun _ _ _ h => h) (Or.inl ⟨by rfl, ?_⟩) ?_ ?_
  rotate_left
  ·intro w'
   go_simp
   with_reducible rfl
  rotate_left
  ·simp only [Act.put, List.setIfInBounds_toArray, List.set_cons_zero, List.set_cons_succ, Zbb, Zbd]
   rfl
  refine Zbx (i := 17) (N := some 51) (v := ?_) (a' := ?_) #[true, true, true, true, true, true, true, true, true, true, true, true, true, true, true, true, true, true, false, false, false, false, false, false, false, false, false, false, false, false, false, false, false, false, false, false, false, false, false, false, false, false, false, false, false, false, false, false, false, false, false, false, false] rfl rfl (Zbi HT_.out (by kernel_rfl)) (fun _ _ _ h => h) (Or.inl ⟨by rfl, ?_⟩) ?_ ?_
  rotate_left
  ·intro w'
   go_simp
   with_reducible rfl
  rotate_left
  ·simp only [Act.put, List.setIfInBounds_toArray, List.set_cons_zero, List.set_cons_succ, Zbb, Zbd]
   rfl
  refine Zbx (i := 18) (N := some 52) (v := ?_) (a' := ?_) #[true, true, true, true, true, true, true, true, true, true, true, true, true, true, true, true, true, true, true, false, false, false, false, false, false, false, false, false, false, false, false, false, false, false, false, false, false, false, false, false, false, false, false, false, false, false, false, false, false, false, false, false, false] rfl rfl (Zbi HT_.out (by kernel_rfl)) (fun _ _ _ h => h) (Or.inl ⟨by rfl, ?_⟩) ?_ ?_
  rotate_left
  ·intro w'
   go_simp
   with_reducible rfl
  rotate_left
  ·simp only [Act.put, List.setIfInBounds_toArray, List.set_cons_zero, List.set_cons_succ, Zbb, Zbd]
   rfl
  refine one_ (i := 19) (N := some 53) #[true, true, true, true, true, true, true, true, true, true, true, true, true, true, true, true, true, true, true, true, false, false, false, false, false, false, false, false, false, false, false, false, false, false, false, false, false, false, false, false, false, false, false, false, false, false, false, false, false, false, false, false, false] rfl rfl (Zck HT_.out (by kernel_rfl)) (by decide) (fun K hK => ?_)
  refine Zd9 Try.func21 (by kernel_rfl) rfl #[.string (⟨#[120, 95, 49]⟩ : ByteArray)] (by rfl) rfl rfl (by (try simp only [List.map_toArray, List.map_cons, List.map_nil]); first | done | rfl) ?_
  with_reducible refine (Zcf.calls (⟨#[120, 95, 49]⟩ : ByteArray) true _ A17.out).mono ?_
  rintro e x_ ⟨rfl, hb⟩
  have BW1 := Za.mk (Zaf (mvB BW.out) hb)
  clear BW
  have BW := BW1
  clear BW1
  clear hb
  refine ⟨_, rfl, ?_⟩
  refine hK.out _ _ (HSA.out _ (mvB BW.out)) (fun hHeld => ?_)
  clear hK K
  refine Zc4 (a' := ?_) ?_ ?_
  rotate_left
  · show Act.put _ (some 53) _ = _
    simp only [Act.put, List.setIfInBounds_toArray, List.set_cons_zero, List.set_cons_succ, Zbb, Zbd]
    rfl
  refine Zbx (i := 20) (N := some 54) (v := ?_) (a' := ?_) #[true, true, true, true, true, true, true, true, true, true, true, true, true, true, true, true, true, true, true, true, true, false, false, false, false, false, false, false, false, false, false, false, false, false, false, false, false, false, false, false, false, false, false, false, false, false, false, false, false, false, false, false, false] rfl rfl (Zbi HT_.out (by kernel_rfl)) (fun _ _ _ h => h) (Or.inl ⟨by rfl, ?_⟩) ?_ ?_
  rotate_left
  ·intro w'
   go_simp
   with_reducible rfl
  rotate_left
  ·simp only [Act.put, List.setIfInBounds_toArray, List.set_cons_zero, List.set_cons_succ, Zbb, Zbd]
   rfl
  refine Zbx (i := 21) (N := some 55) (v := ?_) (a' := ?_) #[true, true, true, true, true, true, true, true, true, true, true, true, true, true, true, true, true, true, true, true, true, true, false, false, false, false, false, false, false, false, false, false, false, false, false, false, false, false, false, false, false, false, false, false, false, false, false, false, false, false, false, false, false] rfl rfl (Zbi HT_.out (by kernel_rfl)) (fun _ _ _ h => h) (Or.inl ⟨by rfl, ?_⟩) ?_ ?_
  rotate_left
  ·intro w'
   go_simp
   with_reducible rfl
  rotate_left
  ·simp only [Act.put, List.setIfInBounds_toArray, List.set_cons_zero, List.set_cons_succ, Zbb, Zbd]
   rfl
  refine one_ (i := 22) (N := some 56) #[true, true, true, true, true, true, true, true, true, true, true, true, true, true, true, true, true, true, true, true, true, true, true, false, false, false, false, false, false, false, false, false, false, false, false, false, false, false, false, false, false, false, false, false, false, false, false, false, false, false, false, false, false] rfl rfl (Zck HT_.out (by kernel_rfl)) (by decide) (fun K hK => ?_)
  refine Zd9 Try.func21 (by kernel_rfl) rfl #[.string (⟨#[49, 120]⟩ : ByteArray)] (by rfl) rfl rfl (by (try simp only [List.map_toArray, List.map_cons, List.map_nil]); first | done | rfl) ?_
  with_reducible refine (Zcf.calls (⟨#[49, 120]⟩ : ByteArray) false _ A19.out).mono ?_
  rintro e x_ ⟨rfl, hb⟩
  have BW1 := Za.mk (Zaf (mvB BW.out) hb)
  clear BW
  have BW := BW1
  clear BW1
  clear hb
  refine ⟨_, rfl, ?_⟩
  refine hK.out _ _ (HSA.out _ (mvB BW.out)) (fun hHeld => ?_)
  clear hK K
  refine Zc4 (a' := ?_) ?_ ?_
  rotate_left
  · show Act.put _ (some 56) _ = _
    simp only [Act.put, List.setIfInBounds_toArray, List.set_cons_zero, List.set_cons_succ, Zbb, Zbd]
    rfl
  refine Zbx (i := 23) (N := some 57) (v := ?_) (a' := ?_) #[true, true, true, true, true, true, true, true, true, true, true, true, true, true, true, true, true, true, true, true, true, true, true, true, false, false, false, false, false, false, false, false, false, false, false, false, false, false, false, false, false, false, false, false, false, false, false, false, false, false, false, false, false] rfl rfl (Zbi HT_.out (by kernel_rfl)) (fun _ _ _ h => h) (Or.inl ⟨by rfl, ?_⟩) ?_ ?_
  rotate_left
  ·intro w'
   go_simp
   with_reducible rfl
  rotate_left
  ·simp only [Act.put, List.setIfInBounds_toArray, List.set_cons_zero, List.set_cons_succ, Zbb, Zbd]
   rfl
  refine Zbx (i := 24) (N := some 58) (v := ?_) (a' := ?_) #[true, true, true, true, true, true, true, true, true, true, true, true, true, true, true, true, true, true, true, true, true, true, true, true, true, false, false, false, false, false, false, false, false, false, false, false, false, false, false, false, false, false, false, false, false, false, false, false, false, false, false, false, false] rfl rfl (Zbi HT_.out (by kernel_rfl)) (fun _ _ _ h => h) (Or.inl ⟨by rfl, ?_⟩) ?_ ?_
  rotate_left
  ·intro w'
   go_simp
   with_reducible rfl
  rotate_left
  ·simp only [Act.put, List.setIfInBounds_toArray, List.set_cons_zero, List.set_cons_succ, Zbb, Zbd]
   rfl
  refine Zbx (i := 25) (N := some 59) (v := ?_) (a' := ?_) #[true, true, true, true, true, true, true, true, true, true, true, true, true, true, true, true, true, true, true, true, true, true, true, true, true, true, false, false, false, false, false, false, false, false, false, false, false, false, false, false, false, false, false, false, false, false, false, false, false, false, false, false, false] rfl rfl (Zbi HT_.out (by kernel_rfl)) (fun _ _ _ h => h) (Or.inl ⟨by rfl, ?_⟩) ?_ ?_
  rotate_left
  ·intro w'
   go_simp
   with_reducible rfl
  rotate_left
  ·simp only [Act.put, List.setIfInBounds_toArray, List.set_cons_zero, List.set_cons_succ, Zbb, Zbd]
   rfl
  refine Zbx (i := 26) (N := some 60) (v := ?_) (a' := ?_) #[true, true, true, true, true, true, true, true, true, true, true, true, true, true, true, true, true, true, true, true, true, true, true, true, true, true, true, false, false, false, false, false, false, false, false, false, false, false, false, false, false, false, false, false, false, false, false, false, false, false, false, false, false] rfl rfl (Zbi HT_.out (by kernel_rfl)) (fun _ _ _ h => h) (Or.inl ⟨by rfl, ?_⟩) ?_ ?_
  rotate_left
  ·intro w'
   go_simp
   with_reducible rfl
  rotate_left
  ·simp only [Act.put, List.setIfInBounds_toArray, List.set_cons_zero, List.set_cons_succ, Zbb, Zbd]
   rfl
  refine Zdj (i := 27) (N := some 61) (v := ?_) (a' := ?_) #[true, true, true, true, true, true, true, true, true, true, true, true, true, true, true, true, true, true, true, true, true, true, true, true, true, true, true, true, false, false, false, false, false, false, false, false, false, false, false, false, false, false, false, false, false, false, false, false, false, false, false, false, false] rfl rfl (Zb8 HT_.out HW_.out (by kernel_rfl)) (fun _ _ _ h => h) (Or.inl ⟨by rfl, ?_⟩) hHeld ?_ ?_
  rotate_left
  ·rintro w' ⟨s0, s1, s2, s3, s4, s5, s6, s7, s8, s9, s10, s11⟩
   go_simp
   with_reducible rfl
  rotate_left
  ·simp only [Act.put, List.setIfInBounds_toArray, List.set_cons_zero, List.set_cons_succ, Zbb, Zbd]
   rfl
  refine Zbx (i := 28) (N := some 62) (v := ?_) (a' := ?_) #[true, true, true, true, true, true, true, true, true, true, true, true, true, true, true, true, true, true, true, true, true, true, true, true, true, true, true, true, true, false, false, false, false, false, false, false, false, false, false, false, false, false, false, false, false, false, false, false, false, false, false, false, false] rfl rfl (Zbi HT_.out (by kernel_rfl)) (fun _ _ _ h => h) (Or.inl ⟨by rfl, ?_⟩) ?_ ?_
  rotate_left
  ·intro w'
   go_simp
   with_reducible rfl
  rotate_left
  ·simp only [Act.put, List.setIfInBounds_toArray, List.set_cons_zero, List.set_cons_succ, Zbb, Zbd]
   rfl
  refine Zdj (i := 29) (N := some 63) (v := ?_) (a' := ?_) #[true, true, true, true, true, true, true, true, true, true, true, true, true, true, true, true, true, true, true, true, true, true, true, true, true, true, true, true, true, true, false, false, false, false, false, false, false, false, false, false, false, false, false, false, false, false, false, false, false, false, false, false, false] rfl rfl (Zb8 HT_.out HW_.out (by kernel_rfl)) (fun _ _ _ h => h) (Or.inl ⟨by rfl, ?_⟩) hHeld ?_ ?_
  rotate_left
  ·rintro w' ⟨s0, s1, s2, s3, s4, s5, s6, s7, s8, s9, s10, s11⟩
   go_simp
   with_reducible rfl
  rotate_left
  ·simp only [Act.put, List.setIfInBounds_toArray, List.set_cons_zero, List.set_cons_succ, Zbb, Zbd]
   rfl
  refine join_ (σ := Value × Value) 21 #[true, true, true, true, true, true, true, true, true, true, true, true, true, true, true, true, true, true, true, true, true, true, true, true, true, true, true, true, true, true, true, true, false, false, false, false, false, false, false, false, false, false, false, false, false, false, false, false, false, false, false, false, false] (fun s_ => [(64, s_.1), (65, s_.2)]) (fun s_ w' => (Below wz.heap.size wz w') ∧ (∃ A c, s_.1 = .slice A t476.length c ∧ t476.length ≤ c ∧ Kd.C (Kd.int .i64) w' A t476.length t476) ∧ (∃ A c, s_.2 = .slice A ([0, 1, 2] : List Int).length c ∧ ([0, 1, 2] : List Int).length ≤ c ∧ Kd.C (Kd.int .i64) w' A ([0, 1, 2] : List Int).length [0, 1, 2])) ?_ ?_
  rotate_left
  · intro hCont
    refine two_ (i := 30) (j := 31) (Ni := some 64) (Nj := some 65) #[true, true, true, true, true, true, true, true, true, true, true, true, true, true, true, true, true, true, true, true, true, true, true, true, true, true, true, true, true, true, true, false, false, false, false, false, false, false, false, false, false, false, false, false, false, false, false, false, false, false, false, false, false] #[true, true, true, true, true, true, true, true, true, true, true, true, true, true, true, true, true, true, true, true, true, true, true, true, true, true, true, true, true, true, false, true, false, false, false, false, false, false, false, false, false, false, false, false, false, false, false, false, false, false, false, false, false] rfl rfl rfl rfl (two_of HT_.out (by kernel_rfl)) (by decide) (by decide) (fun K hK => ?_) (fun K hK => ?_)
    · skip
      refine Zd9 Try.func17 (by kernel_rfl) rfl #[.agg #[.int .i64 (Zah n6 0).f0, .slice S1 (Zah n6 0).f1.length s1, .slice S2 (Zah n6 0).f2.length s2, .int .i64 (Zah n6 0).f3, .int .i64 (Zah n6 0).f4, .slice S5 (Zah n6 0).f5.length s5, .int .i64 (Zah n6 0).f6]] (by rfl) rfl rfl (by (try simp only [List.map_toArray, List.map_cons, List.map_nil]); first | done | rfl) ?_
      with_reducible refine (Zcp.calls (Zah n6 0).f0 _ _ (Zah n6 0).f1 _ _ (Zah n6 0).f2 (Zah n6 0).f3 (Zah n6 0).f4 _ _ (Zah n6 0).f5 (Zah n6 0).f6 t476 _ ?side1 ?side2 ?side3 ?side4 ?side5 ?side6 A22.out).mono ?_
      (case side1 => exact Kd.Zal HI1.out (mvB BW.out))
      (case side2 => exact HL1.out)
      (case side3 => exact Kd.Zal HI2.out (mvB BW.out))
      (case side4 => exact HL2.out)
      (case side5 => exact Kd.Zal HI5.out (mvB BW.out))
      (case side6 => exact HL5.out)
      rintro e x1_ ⟨v477, rfl, ho0, hb⟩
      have BW1 := Za.mk (Zaf (mvB BW.out) hb)
      clear BW
      have BW := BW1
      clear BW1
      refine ⟨_, rfl, ?_⟩
      obtain ⟨U1, u1, eu_⟩ := Kd.Za9 ho0
      subst eu_
      have RU := Za.mk (Kd.Za0 ho0)
      clear ho0 hb
      refine hK.out _ _ (HSA.out _ (mvB BW.out)) (fun hHeld => ?_)
      clear hK K
      refine Zc4 (a' := ?_) ?_ ?_
      rotate_left
      · show Act.put _ (some 64) _ = _
        simp only [Act.put, List.setIfInBounds_toArray, List.set_cons_zero, List.set_cons_succ, Zbb, Zbd]
        rfl
      refine one_ (i := 31) (N := some 65) #[true, true, true, true, true, true, true, true, true, true, true, true, true, true, true, true, true, true, true, true, true, true, true, true, true, true, true, true, true, true, true, true, false, false, false, false, false, false, false, false, false, false, false, false, false, false, false, false, false, false, false, false, false] rfl rfl (Zck HT_.out (by kernel_rfl)) (by decide) (fun K hK => ?_)
      refine Kd.Zez (Kd.int .i64) _ 3 ?hg (N := 65) ?hd (xs := ([0, 1, 2] : List Int)) (inner := [.int .i64 0, .int .i64 1, .int .i64 2]) (ok := fun _ => True) (okp := fun _ => True) ?hr ?hp (fun _ hk => hk) trivial (Below.refl _ _) (Nat.le_refl _) (by simp) ?_; (case hd => rfl); (case hg => rfl); (case hr => first | (go_simp; done) | (go_simp; rfl)); (case hp => exact (Reps.one (show Kd.M (Kd.int .i64) _ _ _ 0 [.int .i64 0] from rfl) (Reps.one (show Kd.M (Kd.int .i64) _ _ _ 1 [.int .i64 1] from rfl) (Reps.one (show Kd.M (Kd.int .i64) _ _ _ 2 [.int .i64 2] from rfl) (Reps.none _ _)))))
      intro v480 x2_ ho1 hb hg_ hnew_
      clear hg_ hnew_
      have BW1 := Za.mk (Zaf (mvB BW.out) hb)
      clear BW
      have BW := BW1
      clear BW1
      obtain ⟨U2, u2, eu_⟩ := Kd.Za9 ho1
      subst eu_
      have RL := Za.mk (Kd.Za0 ho1)
      have RU2 := Za.mk (Kd.Zal RU.out.2.2 (Zaf (mvB (Below.refl x1_.heap.size x1_)) hb))
      clear ho1 hb
      refine hK.out _ _ (HSA.out _ (mvB BW.out)) (fun hHeld => ?_)
      clear hK K
      refine Zc4 (a' := ?_) ?_ ?_
      rotate_left
      · show Act.put _ (some 65) _ = _
        simp only [Act.put, List.setIfInBounds_toArray, List.set_cons_zero, List.set_cons_succ, Zbb, Zbd]
        rfl
      exact Zc4 (by simp only [putAll, Act.put, List.setIfInBounds_toArray, List.set_cons_zero, List.set_cons_succ]) (hCont (_, _) _ ⟨mvB BW.out, ⟨_, _, rfl, RU.out.2.1, Kd.Zal RU2.out (mvB (Below.refl x2_.heap.size x2_))⟩, ⟨_, _, rfl, RL.out.2.1, Kd.Zal RL.out.2.2 (mvB (Below.refl x2_.heap.size x2_))⟩⟩)
    skip
    refine Kd.Zez (Kd.int .i64) _ 3 ?hg (N := 65) ?hd (xs := ([0, 1, 2] : List Int)) (inner := [.int .i64 0, .int .i64 1, .int .i64 2]) (ok := fun _ => True) (okp := fun _ => True) ?hr ?hp (fun _ hk => hk) trivial (Below.refl _ _) (Nat.le_refl _) (by simp) ?_; (case hd => rfl); (case hg => rfl); (case hr => first | (go_simp; done) | (go_simp; rfl)); (case hp => exact (Reps.one (show Kd.M (Kd.int .i64) _ _ _ 0 [.int .i64 0] from rfl) (Reps.one (show Kd.M (Kd.int .i64) _ _ _ 1 [.int .i64 1] from rfl) (Reps.one (show Kd.M (Kd.int .i64) _ _ _ 2 [.int .i64 2] from rfl) (Reps.none _ _)))))
    intro v480 x2_ ho1 hb hg_ hnew_
    clear hg_ hnew_
    have BW1 := Za.mk (Zaf (mvB BW.out) hb)
    clear BW
    have BW := BW1
    clear BW1
    obtain ⟨U2, u2, eu_⟩ := Kd.Za9 ho1
    subst eu_
    have RL := Za.mk (Kd.Za0 ho1)
    clear ho1 hb
    refine hK.out _ _ (HSA.out _ (mvB BW.out)) (fun hHeld => ?_)
    clear hK K
    refine Zc4 (a' := ?_) ?_ ?_
    rotate_left
    · show Act.put _ (some 65) _ = _
      simp only [Act.put, List.setIfInBounds_toArray, List.set_cons_zero, List.set_cons_succ, Zbb, Zbd]
      rfl
    refine one_ (i := 30) (N := some 64) #[true, true, true, true, true, true, true, true, true, true, true, true, true, true, true, true, true, true, true, true, true, true, true, true, true, true, true, true, true, true, true, true, false, false, false, false, false, false, false, false, false, false, false, false, false, false, false, false, false, false, false, false, false] rfl rfl (Zck HT_.out (by kernel_rfl)) (by decide) (fun K hK => ?_)
    refine Zd9 Try.func17 (by kernel_rfl) rfl #[.agg #[.int .i64 (Zah n6 0).f0, .slice S1 (Zah n6 0).f1.length s1, .slice S2 (Zah n6 0).f2.length s2, .int .i64 (Zah n6 0).f3, .int .i64 (Zah n6 0).f4, .slice S5 (Zah n6 0).f5.length s5, .int .i64 (Zah n6 0).f6]] (by rfl) rfl rfl (by (try simp only [List.map_toArray, List.map_cons, List.map_nil]); first | done | rfl) ?_
    with_reducible refine (Zcp.calls (Zah n6 0).f0 _ _ (Zah n6 0).f1 _ _ (Zah n6 0).f2 (Zah n6 0).f3 (Zah n6 0).f4 _ _ (Zah n6 0).f5 (Zah n6 0).f6 t476 _ ?side1 ?side2 ?side3 ?side4 ?side5 ?side6 A22.out).mono ?_
    (case side1 => exact Kd.Zal HI1.out (mvB BW.out))
    (case side2 => exact HL1.out)
    (case side3 => exact Kd.Zal HI2.out (mvB BW.out))
    (case side4 => exact HL2.out)
    (case side5 => exact Kd.Zal HI5.out (mvB BW.out))
    (case side6 => exact HL5.out)
    rintro e x1_ ⟨v477, rfl, ho0, hb⟩
    have BW1 := Za.mk (Zaf (mvB BW.out) hb)
    clear BW
    have BW := BW1
    clear BW1
    refine ⟨_, rfl, ?_⟩
    obtain ⟨U1, u1, eu_⟩ := Kd.Za9 ho0
    subst eu_
    have RU := Za.mk (Kd.Za0 ho0)
    have RL2 := Za.mk (Kd.Zal RL.out.2.2 (Zaf (mvB (Below.refl x2_.heap.size x2_)) hb))
    clear ho0 hb
    refine hK.out _ _ (HSA.out _ (mvB BW.out)) (fun hHeld => ?_)
    clear hK K
    refine Zc4 (a' := ?_) ?_ ?_
    rotate_left
    · show Act.put _ (some 64) _ = _
      simp only [Act.put, List.setIfInBounds_toArray, List.set_cons_zero, List.set_cons_succ, Zbb, Zbd]
      rfl
    exact Zc4 (by simp only [putAll, Act.put, List.setIfInBounds_toArray, List.set_cons_zero, List.set_cons_succ]) (hCont (_, _) _ ⟨mvB BW.out, ⟨_, _, rfl, RU.out.2.1, Kd.Zal RU.out.2.2 (mvB (Below.refl x1_.heap.size x1_))⟩, ⟨_, _, rfl, RL.out.2.1, Kd.Zal RL2.out (mvB (Below.refl x1_.heap.size x1_))⟩⟩)
  rintro ⟨v477, v480⟩ wj ⟨hbj, ⟨U1, u1, eu1, hlu, hcu⟩, ⟨U2, u2, eu2, hll, hcl⟩⟩
  dsimp only at eu1 eu2
  subst eu1 eu2
  clear BW
  have BW := Za.mk hbj
  have RU := Za.mk hcu
  have RL := Za.mk hcl
  clear hbj hcu hcl hHeld
  have hHeld := HSA.out wj BW.out
  refine Zc4 (a' := ?_) ?_ ?_
  rotate_left
  · simp only [putAll, Act.put, List.setIfInBounds_toArray, List.set_cons_zero, List.set_cons_succ]
    rfl
  refine one_ (i := 32) (N := some 66) #[true, true, true, true, true, true, true, true, true, true, true, true, true, true, true, true, true, true, true, true, true, true, true, true, true, true, true, true, true, true, true, true, true, false, false, false, false, false, false, false, false, false, false, false, false, false, false, false, false, false, false, false, false] rfl rfl (Zck HT_.out (by kernel_rfl)) (by decide) (fun K hK => ?_)
  refine Zd9 Try.func16 (by kernel_rfl) rfl #[.slice U1 t476.length u1, .slice U2 ([0, 1, 2] : List Int).length u2] (by rfl) rfl rfl (by (try simp only [List.map_toArray, List.map_cons, List.map_nil]); first | done | rfl) ?_
  with_reducible refine (Zbs.calls k _ _ t476 _ _ [0, 1, 2] true _ ?side1 ?side2 ?side3 ?side4 A23.out).mono ?_
  (case side1 => exact Kd.Zal RU.out (mvB (Below.refl wj.heap.size wj)))
  (case side2 => exact hlu)
  (case side3 => exact Kd.Zal RL.out (mvB (Below.refl wj.heap.size wj)))
  (case side4 => exact hll)
  rintro e x_ ⟨rfl, ⟨nd, rfl⟩⟩
  refine ⟨_, rfl, ?_⟩
  refine hK.out _ _ (HSA.out _ (mvB BW.out)) (fun hHeld => ?_)
  clear hK K
  refine Zc4 (a' := ?_) ?_ ?_
  rotate_left
  · show Act.put _ (some 66) _ = _
    simp only [Act.put, List.setIfInBounds_toArray, List.set_cons_zero, List.set_cons_succ, Zbb, Zbd]
    rfl
  refine Zbx (i := 33) (N := some 67) (v := ?_) (a' := ?_) #[true, true, true, true, true, true, true, true, true, true, true, true, true, true, true, true, true, true, true, true, true, true, true, true, true, true, true, true, true, true, true, true, true, true, false, false, false, false, false, false, false, false, false, false, false, false, false, false, false, false, false, false, false] rfl rfl (Zbi HT_.out (by kernel_rfl)) (fun _ _ _ h => h) (Or.inl ⟨by rfl, ?_⟩) ?_ ?_
  rotate_left
  ·intro w'
   go_simp
   with_reducible rfl
  rotate_left
  ·simp only [Act.put, List.setIfInBounds_toArray, List.set_cons_zero, List.set_cons_succ, Zbb, Zbd]
   rfl
  refine Zbx (i := 34) (N := some 68) (v := ?_) (a' := ?_) #[true, true, true, true, true, true, true, true, true, true, true, true, true, true, true, true, true, true, true, true, true, true, true, true, true, true, true, true, true, true, true, true, true, true, true, false, false, false, false, false, false, false, false, false, false, false, false, false, false, false, false, false, false] rfl rfl (Zbi HT_.out (by kernel_rfl)) (fun _ _ _ h => h) (Or.inl ⟨by rfl, ?_⟩) ?_ ?_
  rotate_left
  ·intro w'
   go_simp
   with_reducible rfl
  rotate_left
  ·simp only [Act.put, List.setIfInBounds_toArray, List.set_cons_zero, List.set_cons_succ, Zbb, Zbd]
   rfl
  refine Zdj (i := 35) (N := some 69) (v := ?_) (a' := ?_) #[true, true, true, true, true, true, true, true, true, true, true, true, true, true, true, true, true, true, true, true, true, true, true, true, true, true, true, true, true, true, true, true, true, true, true, true, false, false, false, false, false, false, false, false, false, false, false, false, false, false, false, false, false] rfl rfl (Zb8 HT_.out HW_.out (by kernel_rfl)) (fun _ _ _ h => h) (Or.inl ⟨by rfl, ?_⟩) hHeld ?_ ?_
  rotate_left
  ·rintro w' ⟨s0, s1, s2, s3, s4, s5, s6, s7, s8, s9, s10, s11⟩
   go_simp
   with_reducible rfl
  rotate_left
  ·simp only [Act.put, List.setIfInBounds_toArray, List.set_cons_zero, List.set_cons_succ, Zbb, Zbd]
   rfl
  refine Zdj (i := 36) (N := some 70) (v := ?_) (a' := ?_) #[true, true, true, true, true, true, true, true, true, true, true, true, true, true, true, true, true, true, true, true, true, true, true, true, true, true, true, true, true, true, true, true, true, true, true, true, true, false, false, false, false, false, false, false, false, false, false, false, false, false, false, false, false] rfl rfl (Zb8 HT_.out HW_.out (by kernel_rfl)) (fun _ _ _ h => h) (Or.inl ⟨by rfl, ?_⟩) hHeld ?_ ?_
  rotate_left
  ·rintro w' ⟨s0, s1, s2, s3, s4, s5, s6, s7, s8, s9, s10, s11⟩
   go_simp
   with_reducible rfl
  rotate_left
  ·simp only [Act.put, List.setIfInBounds_toArray, List.set_cons_zero, List.set_cons_succ, Zbb, Zbd]
   rfl
  refine one_ (i := 37) (N := some 71) #[true, true, true, true, true, true, true, true, true, true, true, true, true, true, true, true, true, true, true, true, true, true, true, true, true, true, true, true, true, true, true, true, true, true, true, true, true, true, false, false, false, false, false, false, false, false, false, false, false, false, false, false, false] rfl rfl (Zck HT_.out (by kernel_rfl)) (by decide) (fun K hK => ?_)
  refine Zd9 Try.func24 (by kernel_rfl) rfl #[.agg #[.slice M60 v6.length m60, .slice (some ad475) n6.length m61, .int .i64 g6, .slice M62 p6.length m62, .slice M63 q6.length m63]] (by rfl) rfl rfl (by (try simp only [List.map_toArray, List.map_cons, List.map_nil]); first | done | rfl) ?_
  with_reducible refine (Za5.calls k _ _ v6 _ _ n6 g6 _ _ p6 _ _ q6 t483 t486 t489 t490 t493 _ ?side1 ?side2 ?side3 ?side4 ?side5 ?side6 ?side7 ?side8 A25.out).mono ?_
  (case side1 => exact Kd.Zal Q0.out (mvB BW.out))
  (case side2 => exact K60.out.2.1)
  (case side3 => exact Kd.Zal Q1.out (mvB BW.out))
  (case side4 => exact K61.out.2.1)
  (case side5 => exact Kd.Zal Q2.out (mvB BW.out))
  (case side6 => exact K62.out.2.1)
  (case side7 => exact Kd.Zal Q3.out (mvB BW.out))
  (case side8 => exact K63.out.2.1)
  rintro e xc ⟨r0, r1, r3, r4, rfl, ho0, ho1, ho2, ho3, hb⟩
  have BW1 := Za.mk (Zaf (mvB BW.out) hb)
  clear BW
  have BW := BW1
  clear BW1
  refine ⟨_, rfl, ?_⟩
  have ho0_ := (by first | exact Kd.S_N ho0 | exact Kd.R_N ho0 | exact ho0 : Kd.N _ _ _ _ _ _ _)
  obtain ⟨D0, d0, ed_⟩ := Kd.Zc3 ho0_
  subst ed_
  have KD0 := Za.mk (Kd.Zcl ho0_)
  clear ho0 ho0_
  have ho1_ := (by first | exact Kd.S_N ho1 | exact Kd.R_N ho1 | exact ho1 : Kd.N _ _ _ _ _ _ _)
  obtain ⟨D1, d1, ed_⟩ := Kd.Zc3 ho1_
  subst ed_
  have KD1 := Za.mk (Kd.Zcl ho1_)
  clear ho1 ho1_
  have ho2_ := (by first | exact Kd.S_N ho2 | exact Kd.R_N ho2 | exact ho2 : Kd.N _ _ _ _ _ _ _)
  obtain ⟨D2, d2, ed_⟩ := Kd.Zc3 ho2_
  subst ed_
  have KD2 := Za.mk (Kd.Zcl ho2_)
  clear ho2 ho2_
  have ho3_ := (by first | exact Kd.S_N ho3 | exact Kd.R_N ho3 | exact ho3 : Kd.N _ _ _ _ _ _ _)
  obtain ⟨D3, d3, ed_⟩ := Kd.Zc3 ho3_
  subst ed_
  have KD3 := Za.mk (Kd.Zcl ho3_)
  clear ho3 ho3_
  clear hb
  refine hK.out _ _ (HSA.out _ (mvB BW.out)) (fun hHeld => ?_)
  clear hK K
  refine Zc4 (a' := ?_) ?_ ?_
  rotate_left
  · show Act.put _ (some 71) _ = _
    simp only [Act.put, List.setIfInBounds_toArray, List.set_cons_zero, List.set_cons_succ, Zbb, Zbd]
    rfl
  refine one_ (i := 38) (N := some 72) #[true, true, true, true, true, true, true, true, true, true, true, true, true, true, true, true, true, true, true, true, true, true, true, true, true, true, true, true, true, true, true, true, true, true, true, true, true, true, true, false, false, false, false, false, false, false, false, false, false, false, false, false, false] rfl rfl (Zck HT_.out (by kernel_rfl)) (by decide) (fun K hK => ?_)
  refine Zd9 Try.func27 (by kernel_rfl) rfl #[.agg #[.slice M60 v6.length m60, .slice (some ad475) n6.length m61, .int .i64 g6, .slice M62 p6.length m62, .slice M63 q6.length m63], .agg #[.slice D0 t483.length d0, .slice D1 t486.length d1, .int .i64 t489, .slice D2 t490.length d2, .slice D3 t493.length d3]] (by rfl) rfl rfl (by (try simp only [List.map_toArray, List.map_cons, List.map_nil]); first | done | rfl) ?_
  with_reducible refine (Zdc.calls k _ _ v6 _ _ n6 g6 _ _ p6 _ _ q6 _ _ t483 _ _ t486 t489 _ _ t490 _ _ t493 true _ ?side1 ?side2 ?side3 ?side4 ?side5 ?side6 ?side7 ?side8 ?side9 ?side10 ?side11 ?side12 ?side13 ?side14 ?side15 ?side16 A26.out).mono ?_
  (case side1 => exact Kd.Zal Q0.out (mvB BW.out))
  (case side2 => exact K60.out.2.1)
  (case side3 => exact Kd.Zal Q1.out (mvB BW.out))
  (case side4 => exact K61.out.2.1)
  (case side5 => exact Kd.Zal Q2.out (mvB BW.out))
  (case side6 => exact K62.out.2.1)
  (case side7 => exact Kd.Zal Q3.out (mvB BW.out))
  (case side8 => exact K63.out.2.1)
  (case side9 => exact Kd.Zal KD0.out.2.2 (mvB (Below.refl xc.heap.size xc)))
  (case side10 => exact KD0.out.2.1)
  (case side11 => exact Kd.Zal KD1.out.2.2 (mvB (Below.refl xc.heap.size xc)))
  (case side12 => exact KD1.out.2.1)
  (case side13 => exact Kd.Zal KD2.out.2.2 (mvB (Below.refl xc.heap.size xc)))
  (case side14 => exact KD2.out.2.1)
  (case side15 => exact Kd.Zal KD3.out.2.2 (mvB (Below.refl xc.heap.size xc)))
  (case side16 => exact KD3.out.2.1)
  rintro e x_ ⟨rfl, hb⟩
  have BW1 := Za.mk (Zaf (mvB BW.out) hb)
  clear BW
  have BW := BW1
  clear BW1
  clear hb
  refine ⟨_, rfl, ?_⟩
  refine hK.out _ _ (HSA.out _ (mvB BW.out)) (fun hHeld => ?_)
  clear hK K
  refine Zc4 (a' := ?_) ?_ ?_
  rotate_left
  · show Act.put _ (some 72) _ = _
    simp only [Act.put, List.setIfInBounds_toArray, List.set_cons_zero, List.set_cons_succ, Zbb, Zbd]
    rfl
  refine Zbx (i := 39) (N := some 73) (v := ?_) (a' := ?_) #[true, true, true, true, true, true, true, true, true, true, true, true, true, true, true, true, true, true, true, true, true, true, true, true, true, true, true, true, true, true, true, true, true, true, true, true, true, true, true, true, false, false, false, false, false, false, false, false, false, false, false, false, false] rfl rfl (Zbi HT_.out (by kernel_rfl)) (fun _ _ _ h => h) (Or.inl ⟨by rfl, ?_⟩) ?_ ?_
  rotate_left
  ·intro w'
   go_simp
   with_reducible rfl
  rotate_left
  ·simp only [Act.put, List.setIfInBounds_toArray, List.set_cons_zero, List.set_cons_succ, Zbb, Zbd]
   rfl
  refine Zbx (i := 40) (N := some 74) (v := ?_) (a' := ?_) #[true, true, true, true, true, true, true, true, true, true, true, true, true, true, true, true, true, true, true, true, true, true, true, true, true, true, true, true, true, true, true, true, true, true, true, true, true, true, true, true, true, false, false, false, false, false, false, false, false, false, false, false, false] rfl rfl (Zbi HT_.out (by kernel_rfl)) (fun _ _ _ h => h) (Or.inl ⟨by rfl, ?_⟩) ?_ ?_
  rotate_left
  ·intro w'
   go_simp
   with_reducible rfl
  rotate_left
  ·simp only [Act.put, List.setIfInBounds_toArray, List.set_cons_zero, List.set_cons_succ, Zbb, Zbd]
   rfl
  refine Zbx (i := 42) (N := some 76) (v := ?_) (a' := ?_) #[true, true, true, true, true, true, true, true, true, true, true, true, true, true, true, true, true, true, true, true, true, true, true, true, true, true, true, true, true, true, true, true, true, true, true, true, true, true, true, true, true, false, true, false, false, false, false, false, false, false, false, false, false] rfl rfl (Zbi HT_.out (by kernel_rfl)) (fun _ _ _ h => h) (Or.inl ⟨by rfl, ?_⟩) ?_ ?_
  rotate_left
  ·intro w'
   go_simp
   with_reducible rfl
  rotate_left
  ·simp only [Act.put, List.setIfInBounds_toArray, List.set_cons_zero, List.set_cons_succ, Zbb, Zbd]
   rfl
  refine Zdj (i := 41) (N := some 75) (v := ?_) (a' := ?_) #[true, true, true, true, true, true, true, true, true, true, true, true, true, true, true, true, true, true, true, true, true, true, true, true, true, true, true, true, true, true, true, true, true, true, true, true, true, true, true, true, true, true, true, false, false, false, false, false, false, false, false, false, false] rfl rfl (Zb8 HT_.out HW_.out (by kernel_rfl)) (fun _ _ _ h => h) (Or.inl ⟨by rfl, ?_⟩) hHeld ?_ ?_
  rotate_left
  ·rintro w' ⟨s0, s1, s2, s3, s4, s5, s6, s7, s8, s9, s10, s11⟩
   go_simp
   with_reducible rfl
  rotate_left
  ·simp only [Act.put, List.setIfInBounds_toArray, List.set_cons_zero, List.set_cons_succ, Zbb, Zbd]
   rfl
  refine one_ (i := 43) (N := some 77) #[true, true, true, true, true, true, true, true, true, true, true, true, true, true, true, true, true, true, true, true, true, true, true, true, true, true, true, true, true, true, true, true, true, true, true, true, true, true, true, true, true, true, true, true, false, false, false, false, false, false, false, false, false] rfl rfl (Zck HT_.out (by kernel_rfl)) (by decide) (fun K hK => ?_)
  refine Zd9 Try.func27 (by kernel_rfl) rfl #[.agg #[.slice M60 v6.length m60, .slice (some ad475) n6.length m61, .int .i64 g6, .slice M62 p6.length m62, .slice M63 q6.length m63], .agg #[.slice none 0 0, .slice none 0 0, .int .i64 0, .slice none 0 0, .slice none 0 0]] (by rfl) rfl rfl (by (try simp only [List.map_toArray, List.map_cons, List.map_nil]); first | done | rfl) ?_
  refine (Zdc.calls k _ _ v6 _ _ n6 g6 _ _ p6 _ _ q6 none 0 [] none 0 [] 0 none 0 [] none 0 [] false _ ?side1 ?side2 ?side3 ?side4 ?side5 ?side6 ?side7 ?side8 ?side9 ?side10 ?side11 ?side12 ?side13 ?side14 ?side15 ?side16 A28.out).mono ?_
  (case side1 => exact Kd.Zal Q0.out (mvB BW.out))
  (case side2 => exact K60.out.2.1)
  (case side3 => exact Kd.Zal Q1.out (mvB BW.out))
  (case side4 => exact K61.out.2.1)
  (case side5 => exact Kd.Zal Q2.out (mvB BW.out))
  (case side6 => exact K62.out.2.1)
  (case side7 => exact Kd.Zal Q3.out (mvB BW.out))
  (case side8 => exact K63.out.2.1)
  (case side9 => exact Kd.C_nil _ _)
  (case side10 => exact Nat.le_refl _)
  (case side11 => exact Kd.C_nil _ _)
  (case side12 => exact Nat.le_refl _)
  (case side13 => exact Kd.C_nil _ _)
  (case side14 => exact Nat.le_refl _)
  (case side15 => exact Kd.C_nil _ _)
  (case side16 => exact Nat.le_refl _)
  rintro e x_ ⟨rfl, hb⟩
  have BW1 := Za.mk (Zaf (mvB BW.out) hb)
  clear BW
  have BW := BW1
  clear BW1
  clear hb
  refine ⟨_, rfl, ?_⟩
  refine hK.out _ _ (HSA.out _ (mvB BW.out)) (fun hHeld => ?_)
  clear hK K
  refine Zc4 (a' := ?_) ?_ ?_
  rotate_left
  · show Act.put _ (some 77) _ = _
    simp only [Act.put, List.setIfInBounds_toArray, List.set_cons_zero, List.set_cons_succ, Zbb, Zbd]
    rfl
  refine Zbx (i := 44) (N := some 78) (v := ?_) (a' := ?_) #[true, true, true, true, true, true, true, true, true, true, true, true, true, true, true, true, true, true, true, true, true, true, true, true, true, true, true, true, true, true, true, true, true, true, true, true, true, true, true, true, true, true, true, true, true, false, false, false, false, false, false, false, false] rfl rfl (Zbi HT_.out (by kernel_rfl)) (fun _ _ _ h => h) (Or.inl ⟨by rfl, ?_⟩) ?_ ?_
  rotate_left
  ·intro w'
   go_simp
   with_reducible rfl
  rotate_left
  ·simp only [Act.put, List.setIfInBounds_toArray, List.set_cons_zero, List.set_cons_succ, Zbb, Zbd]
   rfl
  refine Zbx (i := 45) (N := some 79) (v := ?_) (a' := ?_) #[true, true, true, true, true, true, true, true, true, true, true, true, true, true, true, true, true, true, true, true, true, true, true, true, true, true, true, true, true, true, true, true, true, true, true, true, true, true, true, true, true, true, true, true, true, true, false, false, false, false, false, false, false] rfl rfl (Zbi HT_.out (by kernel_rfl)) (fun _ _ _ h => h) (Or.inl ⟨by rfl, ?_⟩) ?_ ?_
  rotate_left
  ·intro w'
   go_simp
   with_reducible rfl
  rotate_left
  ·simp only [Act.put, List.setIfInBounds_toArray, List.set_cons_zero, List.set_cons_succ, Zbb, Zbd]
   rfl
  refine Zbx (i := 46) (N := some 80) (v := ?_) (a' := ?_) #[true, true, true, true, true, true, true, true, true, true, true, true, true, true, true, true, true, true, true, true, true, true, true, true, true, true, true, true, true, true, true, true, true, true, true, true, true, true, true, true, true, true, true, true, true, true, true, false, false, false, false, false, false] rfl rfl (Zbi HT_.out (by kernel_rfl)) (fun _ _ _ h => h) (Or.inl ⟨by rfl, ?_⟩) ?_ ?_
  rotate_left
  ·intro w'
   go_simp
   with_reducible rfl
  rotate_left
  ·simp only [Act.put, List.setIfInBounds_toArray, List.set_cons_zero, List.set_cons_succ, Zbb, Zbd]
   rfl
  refine Zdj (i := 47) (N := some 81) (v := ?_) (a' := ?_) #[true, true, true, true, true, true, true, true, true, true, true, true, true, true, true, true, true, true, true, true, true, true, true, true, true, true, true, true, true, true, true, true, true, true, true, true, true, true, true, true, true, true, true, true, true, true, true, true, false, false, false, false, false] rfl rfl (Zb8 HT_.out HW_.out (by kernel_rfl)) (fun _ _ _ h => h) (Or.inl ⟨by rfl, ?_⟩) hHeld ?_ ?_
  rotate_left
  ·rintro w' ⟨s0, s1, s2, s3, s4, s5, s6, s7, s8, s9, s10, s11⟩
   go_simp
   with_reducible rfl
  rotate_left
  ·simp only [Act.put, List.setIfInBounds_toArray, List.set_cons_zero, List.set_cons_succ, Zbb, Zbd]
   rfl
  refine one_ (i := 48) (N := some 82) #[true, true, true, true, true, true, true, true, true, true, true, true, true, true, true, true, true, true, true, true, true, true, true, true, true, true, true, true, true, true, true, true, true, true, true, true, true, true, true, true, true, true, true, true, true, true, true, true, true, false, false, false, false] rfl rfl (Zck HT_.out (by kernel_rfl)) (by decide) (fun K hK => ?_)
  refine Zd9 Try.func25 (by kernel_rfl) rfl #[.agg #[.slice M60 v6.length m60, .slice (some ad475) n6.length m61, .int .i64 g6, .slice M62 p6.length m62, .slice M63 q6.length m63]] (by rfl) rfl rfl (by (try simp only [List.map_toArray, List.map_cons, List.map_nil]); first | done | rfl) ?_
  with_reducible refine (Zb3.calls k _ _ v6 _ _ n6 g6 _ _ p6 _ _ q6 t498 _ ?side1 ?side2 ?side3 ?side4 ?side5 ?side6 ?side7 ?side8 A30.out).mono ?_
  (case side1 => exact Kd.Zal Q0.out (mvB BW.out))
  (case side2 => exact K60.out.2.1)
  (case side3 => exact Kd.Zal Q1.out (mvB BW.out))
  (case side4 => exact K61.out.2.1)
  (case side5 => exact Kd.Zal Q2.out (mvB BW.out))
  (case side6 => exact K62.out.2.1)
  (case side7 => exact Kd.Zal Q3.out (mvB BW.out))
  (case side8 => exact K63.out.2.1)
  rintro e x_ ⟨v499, rfl, ho0, hb⟩
  have BW1 := Za.mk (Zaf (mvB BW.out) hb)
  clear BW
  have BW := BW1
  clear BW1
  obtain ⟨T1, t1, et_⟩ := Kd.Zdr ho0
  subst et_
  clear ho0 hb
  refine ⟨_, rfl, ?_⟩
  refine hK.out _ _ (HSA.out _ (mvB BW.out)) (fun hHeld => ?_)
  clear hK K
  refine Zc4 (a' := ?_) ?_ ?_
  rotate_left
  · show Act.put _ (some 82) _ = _
    simp only [Act.put, List.setIfInBounds_toArray, List.set_cons_zero, List.set_cons_succ, Zbb, Zbd]
    rfl
  refine Zbx (i := 49) (N := some 83) (v := ?_) (a' := ?_) #[true, true, true, true, true, true, true, true, true, true, true, true, true, true, true, true, true, true, true, true, true, true, true, true, true, true, true, true, true, true, true, true, true, true, true, true, true, true, true, true, true, true, true, true, true, true, true, true, true, true, false, false, false] rfl rfl (Zbi HT_.out (by kernel_rfl)) (fun _ _ _ h => h) (Or.inl ⟨by rfl, ?_⟩) ?_ ?_
  rotate_left
  ·intro w'
   go_simp
   with_reducible rfl
  rotate_left
  ·simp only [Act.put, List.setIfInBounds_toArray, List.set_cons_zero, List.set_cons_succ, Zbb, Zbd]
   rfl
  refine Zbx (i := 50) (N := some 84) (v := ?_) (a' := ?_) #[true, true, true, true, true, true, true, true, true, true, true, true, true, true, true, true, true, true, true, true, true, true, true, true, true, true, true, true, true, true, true, true, true, true, true, true, true, true, true, true, true, true, true, true, true, true, true, true, true, true, true, false, false] rfl rfl (Zbi HT_.out (by kernel_rfl)) (fun _ _ _ h => h) (Or.inl ⟨by rfl, ?_⟩) ?_ ?_
  rotate_left
  ·intro w'
   go_simp
   with_reducible rfl
  rotate_left
  ·simp only [Act.put, List.setIfInBounds_toArray, List.set_cons_zero, List.set_cons_succ, Zbb, Zbd]
   rfl
  refine Zbx (i := 51) (N := some 85) (v := ?_) (a' := ?_) #[true, true, true, true, true, true, true, true, true, true, true, true, true, true, true, true, true, true, true, true, true, true, true, true, true, true, true, true, true, true, true, true, true, true, true, true, true, true, true, true, true, true, true, true, true, true, true, true, true, true, true, true, false] rfl rfl (Zbi HT_.out (by kernel_rfl)) (fun _ _ _ h => h) (Or.inl ⟨by rfl, ?_⟩) ?_ ?_
  rotate_left
  ·intro w'
   go_simp
   with_reducible rfl
  rotate_left
  ·simp only [Act.put, List.setIfInBounds_toArray, List.set_cons_zero, List.set_cons_succ, Zbb, Zbd]
   rfl
  refine Zbx (i := 52) (N := some 0) (v := ?_) (a' := ?_) #[true, true, true, true, true, true, true, true, true, true, true, true, true, true, true, true, true, true, true, true, true, true, true, true, true, true, true, true, true, true, true, true, true, true, true, true, true, true, true, true, true, true, true, true, true, true, true, true, true, true, true, true, true] rfl rfl (Zbi HT_.out (by kernel_rfl)) (fun _ _ _ h => h) (Or.inl ⟨by rfl, ?_⟩) ?_ ?_
  rotate_left
  ·intro w'
   go_simp
   with_reducible rfl
  rotate_left
  ·simp only [Act.put, List.setIfInBounds_toArray, List.set_cons_zero, List.set_cons_succ, Zbb, Zbd]
   rfl
  refine done_ (Zek HT_.out (by kernel_rfl)) ?_
  try go_wp2
  go_ret
  exact ⟨by first | rfl | (simp; done), Zaf HBz.out (mvB BW.out)⟩
def vx04 : List S50 := [⟨(⟨#[120]⟩ : ByteArray), [⟨0, 3⟩]⟩]
def cx04 (kd : Int) (l1 l2 : List Int) (op rhs : Int) : List S31 := [⟨kd, l1, l2, op, rhs, [], 0⟩]
set_option maxRecDepth 100000 in
theorem fx04_1 : Zbn.f 40 vx04 (cx04 0 [0] [2] 0 5) 0 [] [] = some 0 := by decide +kernel
set_option maxRecDepth 100000 in
theorem fx04_2 : Zbn.f 40 vx04 (cx04 0 [0] [0] 0 0) 0 [] [] = some 44 := by decide +kernel
set_option maxRecDepth 100000 in
theorem fx04_3 : Zbn.f 40 vx04 (cx04 5 [0] [1] 0 0) 0 [] [] = some 44 := by decide +kernel
set_option maxRecDepth 100000 in
theorem fx04_4 : Zbn.f 40 vx04 (cx04 1 [1] [] 0 0) 0 [] [] = some 43 := by decide +kernel
set_option maxRecDepth 100000 in
theorem fx04_5 : Zbn.f 40 vx04 (cx04 0 [0] [4398046511104] 0 1) 0 [] [] = some 45 := by decide +kernel
set_option maxRecDepth 100000 in
theorem fx04_6 : Zcf.f (⟨#[120, 95, 49]⟩ : ByteArray) = some true := by decide +kernel
set_option maxRecDepth 100000 in
theorem fx04_7 : Zcf.f (⟨#[49, 120]⟩ : ByteArray) = some false := by decide +kernel
set_option maxRecDepth 100000 in
theorem fx04_8 : Zcp.f 4 [2, 1] [] 0 0 [] 0 = some [0, 1, 2] := by decide +kernel
set_option maxRecDepth 100000 in
theorem fx04_9 : Zbs.f 40 [0, 1, 2] [0, 1, 2] = some true := by decide +kernel
set_option maxRecDepth 100000 in
theorem fx04_10 : Za5.f 40 vx04 (cx04 4 [2, 1] [] 0 0) 0 [] [] = some (vx04, cx04 4 [2, 1] [] 0 0, 0, [], []) := by kernel_rfl
set_option maxRecDepth 100000 in
theorem fx04_11 : Zdc.f 40 vx04 (cx04 4 [2, 1] [] 0 0) 0 [] [] vx04 (cx04 4 [2, 1] [] 0 0) 0 [] [] = some true := by decide +kernel
set_option maxRecDepth 100000 in
theorem fx04_12 : Zdc.f 40 vx04 (cx04 4 [2, 1] [] 0 0) 0 [] [] [] [] 0 [] [] = some false := by decide +kernel
set_option maxRecDepth 100000 in
theorem fx04_13 : Zb3.f 40 vx04 (cx04 4 [2, 1] [] 0 0) 0 [] [] = some [[⟨0, 3⟩]] := by kernel_rfl
def Zbg.f (_ : Nat) : Option Bool := some true
theorem Zbg.calls (k : Nat) (r : Bool) (w : World) (h : Zbg.f k = some r) : Calls Try.prog 13 #[] w fun e w' => e = .returned (.bool r) ∧ Below w.heap.size w w' := by
  obtain rfl := Option.some.inj h
  exact fixed04_go 40 vx04 (cx04 0 [0] [2] 0 5) 0 [] [] vx04 (cx04 0 [0] [0] 0 0) 0 [] [] vx04 (cx04 5 [0] [1] 0 0) 0 [] [] vx04 (cx04 1 [1] [] 0 0) 0 [] [] vx04 (cx04 0 [0] [4398046511104] 0 1) 0 [] [] vx04 (cx04 4 [2, 1] [] 0 0) 0 [] [] [0, 1, 2] vx04 (cx04 4 [2, 1] [] 0 0) 0 [] [] [[⟨0, 3⟩]] w
    rfl fx04_1 rfl fx04_2 rfl fx04_3 rfl fx04_4 rfl fx04_5 rfl fx04_6 fx04_7 (by decide) fx04_8 fx04_9 fx04_10 fx04_11 fx04_12 fx04_13
end Go.Proofs.Ytkgjaklnbgdmiaa.P
