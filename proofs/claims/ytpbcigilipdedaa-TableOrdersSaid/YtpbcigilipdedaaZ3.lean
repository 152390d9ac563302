/- Proved: what each function of the program that the statements of this seat reach comes to, for whatever memory and arguments it is called with (on condition that its plain text tells a result). -/
import Derived.Test.YtpbcigilipdedaaZ1
import Derived.Test.YtpbcigilipdedaaZ2
namespace Go.Proofs.Ytpbcigilipdedaa.P
open Go.RowKit Go.Proofs.YtpbcigilipdedaaW.PrintWords Go.Proofs.YtpbcigilipdedaaW.PrintLast Go.Proofs.YtpbcigilipdedaaW.PrintMore
attribute [local go_sem] Zcg Zci Zcr Zcs Zb7 Zb8 Zch Zcj
set_option linter.unusedVariables false
set_option linter.unusedSimpArgs false
def Zbd.f (k : Nat) (a0_0 : Int) (l0_1 : List Int) (l0_2 : List Int) (a0_3 : Int) (a0_4 : Int) (l0_5 : List (List Int)) (a0_6 : Int) : Option (Int × List Int × List Int × Int × Int × (List (List Int)) × Int) := (some (([] : List Int) : List Int)).bind fun y116 => (if y116.length + l0_1.length < 17592186044416 then ((some (([] : List Int) : List Int)).bind fun y122 => (if y122.length + l0_2.length < 17592186044416 then ((Za9.f k l0_5).bind fun t128 => (some (a0_0, (y116 ++ l0_1), (y122 ++ l0_2), a0_3, a0_4, t128, a0_6))) else (none))) else (none))
set_option maxHeartbeats 8000000 in
set_option maxRecDepth 100000 in
theorem Zbd.calls (k : Nat) (a0_0 : Int) (A0_1 : Option Addr) (c0_1 : Nat) (l0_1 : List Int) (A0_2 : Option Addr) (c0_2 : Nat) (l0_2 : List Int) (a0_3 : Int) (a0_4 : Int) (A0_5 : Option Addr) (c0_5 : Nat) (l0_5 : List (List Int)) (a0_6 : Int) (r1 : Int) (r2 : List Int) (r3 : List Int) (r4 : Int) (r5 : Int) (r6 : List (List Int)) (r7 : Int) (w : World) (hr0_1 : Kd.C (Kd.int .i64) w A0_1 l0_1.length l0_1) (hc0_1 : l0_1.length ≤ c0_1) (hr0_2 : Kd.C (Kd.int .i64) w A0_2 l0_2.length l0_2) (hc0_2 : l0_2.length ≤ c0_2) (hr0_5 : Kd.C (Kd.slice 3 (Kd.int .i64)) w A0_5 l0_5.length l0_5) (hc0_5 : l0_5.length ≤ c0_5) (h : Zbd.f k a0_0 l0_1 l0_2 a0_3 a0_4 l0_5 a0_6 = some (r1, r2, r3, r4, r5, r6, r7)) :
  Calls Try.prog 26 #[.agg #[.int .i64 a0_0, .slice A0_1 l0_1.length c0_1, .slice A0_2 l0_2.length c0_2, .int .i64 a0_3, .int .i64 a0_4, .slice A0_5 l0_5.length c0_5, .int .i64 a0_6]] w fun e w' => ∃ v1_ v2_ v5_ : Value, e = .returned (.agg #[.int .i64 r1, v1_, v2_, .int .i64 r4, .int .i64 r5, v5_, .int .i64 r7]) ∧ Kd.R (Kd.int .i64) 3 w' w.heap.size (fun k_ => some k_ ≠ (v2_ : Value).ownBlock) v1_ r2 ∧ Kd.R (Kd.int .i64) 3 w' w.heap.size (fun k_ => some k_ ≠ (v1_ : Value).ownBlock) v2_ r3 ∧ Kd.S (Kd.slice 3 (Kd.int .i64)) 23 w' w.heap.size (fun k_ => some k_ ≠ (v1_ : Value).ownBlock ∧ some k_ ≠ (v2_ : Value).ownBlock) v5_ r6 ∧ Below w.heap.size w w' := by
 have hu25 := Try.underlying25
 have HR0_1 := Za.mk hr0_1
 have HC0_1 := Za.mk hc0_1
 clear hr0_1 hc0_1
 have HR0_2 := Za.mk hr0_2
 have HC0_2 := Za.mk hc0_2
 clear hr0_2 hc0_2
 have HR0_5 := Za.mk hr0_5
 have HC0_5 := Za.mk hc0_5
 clear hr0_5 hc0_5
 have HB := Za.mk (Below.refl w.heap.size w)
 have H : ((some (([] : List Int) : List Int)).bind fun y116 => (if y116.length + l0_1.length < 17592186044416 then ((some (([] : List Int) : List Int)).bind fun y122 => (if y122.length + l0_2.length < 17592186044416 then ((Za9.f k l0_5).bind fun t128 => (some (a0_0, (y116 ++ l0_1), (y122 ++ l0_2), a0_3, a0_4, t128, a0_6))) else (none))) else (none))) = some (r1, r2, r3, r4, r5, r6, r7) := h
 clear h
 obtain ⟨y116, hy116⟩ : ∃ y_ : List Int, y_ = (([] : List Int)) := ⟨_, rfl⟩
 replace H : (if y116.length + l0_1.length < 17592186044416 then ((some (([] : List Int) : List Int)).bind fun y122 => (if y122.length + l0_2.length < 17592186044416 then ((Za9.f k l0_5).bind fun t128 => (some (a0_0, (y116 ++ l0_1), (y122 ++ l0_2), a0_3, a0_4, t128, a0_6))) else (none))) else (none)) = some (r1, r2, r3, r4, r5, r6, r7) := by first | (rw [hy116]; with_reducible exact H) | (have H2_ := (Option.bind_some _ _).symm.trans H; rw [hy116]; with_reducible exact H2_) | (have H2_ := (Option.bind_some _ _).symm.trans H; with_reducible exact H2_) | with_reducible exact H | (rw [hy116]; exact H) | exact H
 have Ny116 := Za.mk hy116
 clear hy116
 by_cases c2 : y116.length + l0_1.length < 17592186044416
 rotate_left
 ·rw [if_neg c2] at H
  exact absurd H (by simp)
 rw [if_pos c2] at H
 have LMc2 := Za.mk c2
 clear c2
 obtain ⟨y119, hy119⟩ : ∃ y_ : List Int, y_ = (y116 ++ l0_1) := ⟨_, rfl⟩
 replace H : ((some (([] : List Int) : List Int)).bind fun y122 => (if y122.length + l0_2.length < 17592186044416 then ((Za9.f k l0_5).bind fun t128 => (some (a0_0, y119, (y122 ++ l0_2), a0_3, a0_4, t128, a0_6))) else (none))) = some (r1, r2, r3, r4, r5, r6, r7) := by first | (rw [hy119]; with_reducible exact H) | (have H2_ := (Option.bind_some _ _).symm.trans H; rw [hy119]; with_reducible exact H2_) | (have H2_ := (Option.bind_some _ _).symm.trans H; with_reducible exact H2_) | with_reducible exact H | (rw [hy119]; exact H) | exact H
 have Ny119 := Za.mk hy119
 clear hy119
 obtain ⟨y122, hy122⟩ : ∃ y_ : List Int, y_ = (([] : List Int)) := ⟨_, rfl⟩
 replace H : (if y122.length + l0_2.length < 17592186044416 then ((Za9.f k l0_5).bind fun t128 => (some (a0_0, y119, (y122 ++ l0_2), a0_3, a0_4, t128, a0_6))) else (none)) = some (r1, r2, r3, r4, r5, r6, r7) := by first | (rw [hy122]; with_reducible exact H) | (have H2_ := (Option.bind_some _ _).symm.trans H; rw [hy122]; with_reducible exact H2_) | (have H2_ := (Option.bind_some _ _).symm.trans H; with_reducible exact H2_) | with_reducible exact H | (rw [hy122]; exact H) | exact H
 have Ny122 := Za.mk hy122
 clear hy122
 by_cases c3 : y122.length + l0_2.length < 17592186044416
 rotate_left
 ·rw [if_neg c3] at H
  exact absurd H (by simp)
 rw [if_pos c3] at H
 have LMc3 := Za.mk c3
 clear c3
 obtain ⟨y125, hy125⟩ : ∃ y_ : List Int, y_ = (y122 ++ l0_2) := ⟨_, rfl⟩
 replace H : ((Za9.f k l0_5).bind fun t128 => (some (a0_0, y119, y125, a0_3, a0_4, t128, a0_6))) = some (r1, r2, r3, r4, r5, r6, r7) := by first | (rw [hy125]; with_reducible exact H) | (have H2_ := (Option.bind_some _ _).symm.trans H; rw [hy125]; with_reducible exact H2_) | (have H2_ := (Option.bind_some _ _).symm.trans H; with_reducible exact H2_) | with_reducible exact H | (rw [hy125]; exact H) | exact H
 have Ny125 := Za.mk hy125
 clear hy125
 replace H := Option.bind_eq_some_iff.mp H
 obtain ⟨t128, A40, H⟩ := H
 replace H : (some (a0_0, y119, y125, a0_3, a0_4, t128, a0_6)) = some (r1, r2, r3, r4, r5, r6, r7) := H
 have A4 := Za.mk A40
 clear A40
 simp only [Option.some.injEq, Prod.mk.injEq] at H
 obtain ⟨rfl, rfl, rfl, rfl, rfl, rfl, rfl⟩ := H
 go_enter Try.func26, Try.ntmps26
 go_wp2_with (first | ((with_reducible refine Zbv (N := 1) rfl ?_); refine Zb4 ?hg (N := 1) ?hd (cs := #[.int .i64 a0_0, .slice A0_1 l0_1.length c0_1, .slice A0_2 l0_2.length c0_2, .int .i64 a0_3, .int .i64 a0_4, .slice A0_5 l0_5.length c0_5, .int .i64 a0_6]) (t := 25) ?hr ?_; (case hd => rfl); (case hg => rfl); (case hr => first | (go_simp; done) | (go_simp; rfl)); intro gb114 hg w5 hbox hb; have n0_ := Za.mk (Zan (by repeat (first | (with_reducible first | exact HB.out | apply Zac | apply Zaa | apply Zab) | exact HB.out)) hb); have n1_ := Za.mk (hbox); have n3_ := Za.mk ((by rw [hg]; exact (Zam (by repeat (first | (with_reducible first | exact HB.out | apply Zac | apply Zaa | apply Zab) | exact HB.out))) : w.heap.size ≤ gb114)); clear HB; have HB := n0_; have BK114 := n1_; have GE114 := n3_; clear n0_ n1_ n3_; clear hb hbox hg) | ((with_reducible refine Zbv (N := 2) rfl ?_); refine Zb4 ?hg (N := 2) ?hd (cs := #[.int .i64 0, .slice none 0 0, .slice none 0 0, .int .i64 0, .int .i64 0, .slice none 0 0, .int .i64 0]) (t := 25) ?hr ?_; (case hd => rfl); (case hg => rfl); (case hr => first | (go_simp; done) | (go_simp; rfl)); intro gb115 hg w6 hbox hb; have n0_ := Za.mk (Za6 (g := gb114) (o := .cells #[.int .i64 a0_0, .slice A0_1 l0_1.length c0_1, .slice A0_2 l0_2.length c0_2, .int .i64 a0_3, .int .i64 a0_4, .slice A0_5 l0_5.length c0_5, .int .i64 a0_6] 25 (0, 0)) (by (with_reducible repeat (first | refine Zah ?_ _ | refine Zaj ?_ | refine Zaf ?_ _)); exact BK114.out) hb); have n1_ := Za.mk (Zan (by repeat (first | (with_reducible first | exact HB.out | apply Zac | apply Zaa | apply Zab | refine Zag ?_ GE114.out) | exact HB.out)) hb); have n2_ := Za.mk (hbox); have n4_ := Za.mk ((by rw [hg]; exact (Zam (by repeat (first | (with_reducible first | exact HB.out | apply Zac | apply Zaa | apply Zab | refine Zag ?_ GE114.out) | exact HB.out))) : w.heap.size ≤ gb115)); have n5_ := Za.mk ((by rw [hg]; exact Nat.ne_of_lt (Zcq (g := gb114) (o := .cells #[.int .i64 a0_0, .slice A0_1 l0_1.length c0_1, .slice A0_2 l0_2.length c0_2, .int .i64 a0_3, .int .i64 a0_4, .slice A0_5 l0_5.length c0_5, .int .i64 a0_6] 25 (0, 0)) (by (with_reducible repeat (first | refine Zah ?_ _ | refine Zaj ?_ | refine Zaf ?_ _)); exact BK114.out)) : gb114 ≠ gb115)); have n6_ := Za.mk ((by rw [hg]; exact Nat.ne_of_gt (Zcq (g := gb114) (o := .cells #[.int .i64 a0_0, .slice A0_1 l0_1.length c0_1, .slice A0_2 l0_2.length c0_2, .int .i64 a0_3, .int .i64 a0_4, .slice A0_5 l0_5.length c0_5, .int .i64 a0_6] 25 (0, 0)) (by (with_reducible repeat (first | refine Zah ?_ _ | refine Zaj ?_ | refine Zaf ?_ _)); exact BK114.out)) : gb115 ≠ gb114)); clear BK114; clear HB; have BK114 := n0_; have HB := n1_; have BK115 := n2_; have GE115 := n4_; have NB114_115 := n5_; have NB115_114 := n6_; clear n0_ n1_ n2_ n4_ n5_ n6_; clear hb hbox hg) | ((with_reducible refine Zbv (N := 3) rfl ?_); refine Kd.Zdt (Kd.int .i64) _ 3 ?hg (N := 3) ?hd (xs := ([] : List Int)) (inner := []) (ok := fun _ => True) (okp := fun _ => True) ?hr ?hp (fun _ hk => hk) trivial (Below.refl _ _) (Nat.le_refl _) (by simp) ?_; (case hd => rfl); (case hg => rfl); (case hr => first | (go_simp; done) | (go_simp; rfl)); (case hp => exact (Reps.none _ _)); intro v117 w7 ho8 hb hg_ hnew_; clear hg_ hnew_; (first | rw [← Ny116.out] at ho8 | (simp only [Int.reduceToNat] at ho8; rw [← Ny116.out] at ho8)); have n0_ := Za.mk (Kd.Zbz ho8 (Zam (by repeat (first | (with_reducible first | exact HB.out | apply Zac | apply Zaa | apply Zab | refine Zag ?_ GE114.out | refine Zag ?_ GE115.out) | exact HB.out)))); have n1_ := Za.mk (Za6 (g := gb114) (o := .cells #[.int .i64 a0_0, .slice A0_1 l0_1.length c0_1, .slice A0_2 l0_2.length c0_2, .int .i64 a0_3, .int .i64 a0_4, .slice A0_5 l0_5.length c0_5, .int .i64 a0_6] 25 (0, 0)) (by (with_reducible repeat (first | refine Zah ?_ _ | refine Zaj ?_ | refine Zaf ?_ _)); exact BK114.out) hb); have n2_ := Za.mk (Za6 (g := gb115) (o := .cells #[.int .i64 0, .slice none 0 0, .slice none 0 0, .int .i64 0, .int .i64 0, .slice none 0 0, .int .i64 0] 25 (0, 0)) (by (with_reducible repeat (first | refine Zah ?_ _ | refine Zaj ?_ | refine Zaf ?_ _)); exact BK115.out) hb); have n3_ := Za.mk (Zan (by repeat (first | (with_reducible first | exact HB.out | apply Zac | apply Zaa | apply Zab | refine Zag ?_ GE114.out | refine Zag ?_ GE115.out) | exact HB.out)) hb); clear BK114; clear BK115; clear HB; have HO118 := n0_; have BK114 := n1_; have BK115 := n2_; have HB := n3_; clear n0_ n1_ n2_ n3_; clear hb ho8; have hnb9 := NB114_115.out; have hnc9 := NB115_114.out; obtain ⟨hcz10_0, hcz10_1, hcz10_2, hcz10_3, hcz10_4, hcz10_5, hcz10_6, hfz10_0, hfz10_1, hfz10_2, hfz10_3, hfz10_4, hfz10_5, hfz10_6⟩ := Zce BK114.out) | ((with_reducible refine Zbg (b := .append) (xs := #[.tmp 3, .tmp 5]) rfl ?_); at_builtin; refine Kd.Zcm (Kd.int .i64) (w0 := w) w.heap.size rfl (.tmp 3) (.tmp 5) 23 3 (.int .i64 0) 8 rfl Try.underlying23 info3 rfl (by decide) (by omega) v117 y116 l0_1 _ _ _ (fun _ => True) (fun _ => False) rfl rfl ?aO ?aR (fun _ _ h => h) (fun _ h => h.elim) ?aF ?aB ?aS ?aL ?_; (case aR => repeat (first | exact (Kd.Zaw HR0_1.out HB.out) | (with_reducible refine Kd.C_alloc ?_ _) | (with_reducible refine Kd.Za0 ?_ _) | (with_reducible refine Kd.C_drew ?_))); (case aB => exact (by repeat (first | (with_reducible first | exact HB.out | apply Zac | apply Zaa | apply Zab | refine Zag ?_ GE114.out | refine Zag ?_ GE115.out) | exact HB.out))); (case aF => exact (fun _ _ => trivial)); (case aO => exact (by (with_reducible repeat (first | apply Kd.R_alloc | apply Kd.Zbh | apply Kd.Zbl)); exact HO118.out)); (case aS => exact (Zam (by repeat (first | (with_reducible first | exact HB.out | apply Zac | apply Zaa | apply Zab | refine Zag ?_ GE114.out | refine Zag ?_ GE115.out) | exact HB.out)))); (case aL => have := LMc2.out; omega); intro v120 w11 ho hb hg hat; rw [← Ny119.out] at ho; have n0_ := Za.mk (Zcp (g := gb114) (o := .cells #[.int .i64 a0_0, .slice A0_1 l0_1.length c0_1, .slice A0_2 l0_2.length c0_2, .int .i64 a0_3, .int .i64 a0_4, .slice A0_5 l0_5.length c0_5, .int .i64 a0_6] 25 (0, 0)) (by (with_reducible repeat (first | refine Zah ?_ _ | refine Zaj ?_ | refine Zaf ?_ _)); exact BK114.out) hg (Kd.R_ne HO118.out BK114.out (by decide))); have n1_ := Za.mk (Zcp (g := gb115) (o := .cells #[.int .i64 0, .slice none 0 0, .slice none 0 0, .int .i64 0, .int .i64 0, .slice none 0 0, .int .i64 0] 25 (0, 0)) (by (with_reducible repeat (first | refine Zah ?_ _ | refine Zaj ?_ | refine Zaf ?_ _)); exact BK115.out) hg (Kd.R_ne HO118.out BK115.out (by decide))); have n2_ := Za.mk (hb); have n3_ := Za.mk (ho); clear BK114; clear BK115; clear HB; clear HO118; have BK114 := n0_; have BK115 := n1_; have HB := n2_; have HO121 := n3_; clear n0_ n1_ n2_ n3_; clear ho hb hg hat; obtain ⟨Ao12, co12, eo12⟩ := Kd.Zbw HO121.out; subst eo12; obtain ⟨hcz13_0, hcz13_1, hcz13_2, hcz13_3, hcz13_4, hcz13_5, hcz13_6, hfz13_0, hfz13_1, hfz13_2, hfz13_3, hfz13_4, hfz13_5, hfz13_6⟩ := Zce BK114.out) | ((with_reducible refine Zbv (N := 8) rfl ?_); refine Kd.Zdt (Kd.int .i64) _ 3 ?hg (N := 8) ?hd (xs := ([] : List Int)) (inner := []) (ok := fun _ => True) (okp := fun _ => True) ?hr ?hp (fun _ hk => hk) trivial (Below.refl _ _) (Nat.le_refl _) (by simp) ?_; (case hd => rfl); (case hg => rfl); (case hr => first | (go_simp; done) | (go_simp; rfl)); (case hp => exact (Reps.none _ _)); intro v123 w14 ho15 hb hg_ hnew_; clear hg_ hnew_; (first | rw [← Ny122.out] at ho15 | (simp only [Int.reduceToNat] at ho15; rw [← Ny122.out] at ho15)); have n0_ := Za.mk (Kd.Zdo (by (with_reducible repeat (first | apply Kd.R_alloc | apply Kd.Zbh | apply Kd.Zbl)); exact (fatR1 (Kd.Zc HO121.out BK114.out (by decide)))) (Kd.Zdn ho15) hb); have n1_ := Za.mk (Kd.Zbz (Kd.Zej ho15 (Kd.R_lt (by (with_reducible repeat (first | apply Kd.R_alloc | apply Kd.Zbh | apply Kd.Zbl)); exact (fatR1 (Kd.Zc HO121.out BK114.out (by decide)))))) (Zam (by repeat (first | (with_reducible first | exact HB.out | apply Zac | apply Zaa | apply Zab | refine Zag ?_ GE114.out | refine Zag ?_ GE115.out) | exact HB.out)))); have n2_ := Za.mk (Za6 (g := gb114) (o := .cells #[.int .i64 a0_0, .slice Ao12 y119.length co12, .slice A0_2 l0_2.length c0_2, .int .i64 a0_3, .int .i64 a0_4, .slice A0_5 l0_5.length c0_5, .int .i64 a0_6] 25 (0, 0)) (by (with_reducible repeat (first | refine Zah ?_ _ | refine Zaj ?_ | refine Zaf ?_ _)); refine Zbr (cs := #[.int .i64 a0_0, .slice A0_1 l0_1.length c0_1, .slice A0_2 l0_2.length c0_2, .int .i64 a0_3, .int .i64 a0_4, .slice A0_5 l0_5.length c0_5, .int .i64 a0_6]) ?_ 1 _ rfl; (with_reducible repeat (first | refine Zah ?_ _ | refine Zaj ?_ | refine Zaf ?_ _)); exact BK114.out) hb); have n3_ := Za.mk (Za6 (g := gb115) (o := .cells #[.int .i64 0, .slice none 0 0, .slice none 0 0, .int .i64 0, .int .i64 0, .slice none 0 0, .int .i64 0] 25 (0, 0)) (by (with_reducible repeat (first | refine Zah ?_ _ | refine Zaj ?_ | refine Zaf ?_ _)); refine Zbs ?_ NB115_114.out _; (with_reducible repeat (first | refine Zah ?_ _ | refine Zaj ?_ | refine Zaf ?_ _)); exact BK115.out) hb); have n4_ := Za.mk (Zan (by repeat (first | (with_reducible first | exact HB.out | apply Zac | apply Zaa | apply Zab | refine Zag ?_ GE114.out | refine Zag ?_ GE115.out) | exact HB.out)) hb); clear HO121; clear BK114; clear BK115; clear HB; have HO121 := n0_; have HO124 := n1_; have BK114 := n2_; have BK115 := n3_; have HB := n4_; clear n0_ n1_ n2_ n3_ n4_; clear hb ho15; obtain ⟨hcz16_0, hcz16_1, hcz16_2, hcz16_3, hcz16_4, hcz16_5, hcz16_6, hfz16_0, hfz16_1, hfz16_2, hfz16_3, hfz16_4, hfz16_5, hfz16_6⟩ := Zce BK114.out) | ((with_reducible refine Zbg (b := .append) (xs := #[.tmp 8, .tmp 10]) rfl ?_); at_builtin; refine Kd.Zcm (Kd.int .i64) (w0 := w) w.heap.size rfl (.tmp 8) (.tmp 10) 23 3 (.int .i64 0) 8 rfl Try.underlying23 info3 rfl (by decide) (by omega) v123 y122 l0_2 _ _ _ (fun k_ => some k_ ≠ (.slice Ao12 y119.length co12 : Value).ownBlock) (fun _ => False) rfl rfl ?aO ?aR (fun _ _ h => h) (fun _ h => h.elim) ?aF ?aB ?aS ?aL ?_; (case aR => repeat (first | exact (Kd.Zaw HR0_2.out HB.out) | (with_reducible refine Kd.C_alloc ?_ _) | (with_reducible refine Kd.Za0 ?_ _) | (with_reducible refine Kd.C_drew ?_))); (case aB => exact (by repeat (first | (with_reducible first | exact HB.out | apply Zac | apply Zaa | apply Zab | refine Zag ?_ GE114.out | refine Zag ?_ GE115.out) | exact HB.out))); (case aF => exact (fun k_ hk => Kd.fresh' (Kd.R_lt (by (with_reducible repeat (first | apply Kd.R_alloc | apply Kd.Zbh | apply Kd.Zbl)); exact HO121.out)) k_ hk)); (case aO => exact (by (with_reducible repeat (first | apply Kd.R_alloc | apply Kd.Zbh | apply Kd.Zbl)); exact Kd.Zbm HO124.out (fun _ hk => hk.2))); (case aS => exact (Zam (by repeat (first | (with_reducible first | exact HB.out | apply Zac | apply Zaa | apply Zab | refine Zag ?_ GE114.out | refine Zag ?_ GE115.out) | exact HB.out)))); (case aL => have := LMc3.out; omega); intro v126 w17 ho hb hg hat; rw [← Ny125.out] at ho; have n0_ := Za.mk (Zcp (g := gb114) (o := .cells #[.int .i64 a0_0, .slice Ao12 y119.length co12, .slice A0_2 l0_2.length c0_2, .int .i64 a0_3, .int .i64 a0_4, .slice A0_5 l0_5.length c0_5, .int .i64 a0_6] 25 (0, 0)) (by (with_reducible repeat (first | refine Zah ?_ _ | refine Zaj ?_ | refine Zaf ?_ _)); exact BK114.out) hg (Kd.R_ne HO124.out BK114.out (by decide))); have n1_ := Za.mk (Zcp (g := gb115) (o := .cells #[.int .i64 0, .slice none 0 0, .slice none 0 0, .int .i64 0, .int .i64 0, .slice none 0 0, .int .i64 0] 25 (0, 0)) (by (with_reducible repeat (first | refine Zah ?_ _ | refine Zaj ?_ | refine Zaf ?_ _)); exact BK115.out) hg (Kd.R_ne HO124.out BK115.out (by decide))); have n2_ := Za.mk (Kd.Zcv (ok := (fun _ => True)) (by (with_reducible repeat (first | apply Kd.R_alloc | apply Kd.Zbh | apply Kd.Zbl)); exact HO121.out) hg hat); have n3_ := Za.mk (hb); have n4_ := Za.mk (ho); clear BK114; clear BK115; clear HO121; clear HB; clear HO124; have BK114 := n0_; have BK115 := n1_; have HO121 := n2_; have HB := n3_; have HO127 := n4_; clear n0_ n1_ n2_ n3_ n4_; clear ho hb hg hat; obtain ⟨Ao18, co18, eo18⟩ := Kd.Zbw HO127.out; subst eo18; obtain ⟨hcz19_0, hcz19_1, hcz19_2, hcz19_3, hcz19_4, hcz19_5, hcz19_6, hfz19_0, hfz19_1, hfz19_2, hfz19_3, hfz19_4, hfz19_5, hfz19_6⟩ := Zce BK114.out) | ((with_reducible refine Za2 (f := 17) rfl ?_); refine Zb0 (some 15) rfl rfl Try.func17 (by kernel_rfl) rfl #[.slice A0_5 l0_5.length c0_5] rfl (by (try simp only [List.map_toArray, List.map_cons, List.map_nil]); first | done | rfl | (simp only [List.length_drop, List.length_take]; rfl)) ?_; (refine withB (m := w.heap.size) (w0 := w) (by repeat (first | (with_reducible first | exact HB.out | apply Zac | apply Zaa | apply Zab | refine Zag ?_ GE114.out | refine Zag ?_ GE115.out) | exact HB.out)) ?_); intro hL_; (with_reducible refine (Za9.calls k _ _ l0_5 t128 _ ?side1 ?side2 A4.out).mono ?_); (case side1 => exact Kd.Zaw HR0_5.out hL_); (case side2 => exact HC0_5.out); rintro e w20 ⟨v129, rfl, ho0, hb⟩; refine ⟨_, rfl, ?_⟩; have n0_ := Za.mk (Kd.Zb3 (by (with_reducible repeat (first | apply Kd.R_alloc | apply Kd.Zbh | apply Kd.Zbl)); exact (fatR1 (Kd.Zc HO121.out BK114.out (by decide)))) hb); have n1_ := Za.mk (Kd.Zb3 (by (with_reducible repeat (first | apply Kd.R_alloc | apply Kd.Zbh | apply Kd.Zbl)); exact (fatR1 (Kd.Zc HO127.out BK114.out (by decide)))) hb); have n2_ := Za.mk (Kd.Zd5 (Kd.S_new' (Kd.S_new' ho0 (Kd.R_lt (by (with_reducible repeat (first | apply Kd.R_alloc | apply Kd.Zbh | apply Kd.Zbl)); exact (fatR1 (Kd.Zc HO121.out BK114.out (by decide)))))) (Kd.R_lt (by (with_reducible repeat (first | apply Kd.R_alloc | apply Kd.Zbh | apply Kd.Zbl)); exact (fatR1 (Kd.Zc HO127.out BK114.out (by decide)))))) (Zam hL_)); have n3_ := Za.mk (Za6 (g := gb114) (o := .cells #[.int .i64 a0_0, .slice Ao12 y119.length co12, .slice Ao18 y125.length co18, .int .i64 a0_3, .int .i64 a0_4, .slice A0_5 l0_5.length c0_5, .int .i64 a0_6] 25 (0, 0)) (by (with_reducible repeat (first | refine Zah ?_ _ | refine Zaj ?_ | refine Zaf ?_ _)); refine Zbr (cs := #[.int .i64 a0_0, .slice Ao12 y119.length co12, .slice A0_2 l0_2.length c0_2, .int .i64 a0_3, .int .i64 a0_4, .slice A0_5 l0_5.length c0_5, .int .i64 a0_6]) ?_ 2 _ rfl; (with_reducible repeat (first | refine Zah ?_ _ | refine Zaj ?_ | refine Zaf ?_ _)); exact BK114.out) hb); have n4_ := Za.mk (Za6 (g := gb115) (o := .cells #[.int .i64 0, .slice none 0 0, .slice none 0 0, .int .i64 0, .int .i64 0, .slice none 0 0, .int .i64 0] 25 (0, 0)) (by (with_reducible repeat (first | refine Zah ?_ _ | refine Zaj ?_ | refine Zaf ?_ _)); refine Zbs ?_ NB115_114.out _; (with_reducible repeat (first | refine Zah ?_ _ | refine Zaj ?_ | refine Zaf ?_ _)); exact BK115.out) hb); have n5_ := Za.mk (Zan hL_ hb); clear HO121; clear HO127; clear BK114; clear BK115; clear HB; have HO121 := n0_; have HO127 := n1_; have HO130 := n2_; have BK114 := n3_; have BK115 := n4_; have HB := n5_; clear n0_ n1_ n2_ n3_ n4_ n5_; (try clear hb); (try clear hb2); (try clear hk); (try clear hi); (try clear ho0); obtain ⟨Ao21, co21, eo21⟩ := Kd.Zen HO130.out; subst eo21; obtain ⟨hcz22_0, hcz22_1, hcz22_2, hcz22_3, hcz22_4, hcz22_5, hcz22_6, hfz22_0, hfz22_1, hfz22_2, hfz22_3, hfz22_4, hfz22_5, hfz22_6⟩ := Zce BK114.out; obtain ⟨hcz23_0, hcz23_1, hcz23_2, hcz23_3, hcz23_4, hcz23_5, hcz23_6, hfz23_0, hfz23_1, hfz23_2, hfz23_3, hfz23_4, hfz23_5, hfz23_6⟩ := Zce BK115.out))
 refine bodyPost_ret (results_cell_row rfl _ _ gb115 25 #[.int .i64 a0_0, .slice Ao12 y119.length co12, .slice Ao18 y125.length co18, .int .i64 a0_3, .int .i64 a0_4, .slice Ao21 t128.length co21, .int .i64 a0_6] (0, 0) _ rfl (by (with_reducible repeat (first | refine Zah ?_ _ | refine Zaj ?_ | refine Zaf ?_ _)); refine Zbr (cs := #[.int .i64 a0_0, .slice Ao12 y119.length co12, .slice Ao18 y125.length co18, .int .i64 a0_3, .int .i64 a0_4, .slice Ao21 t128.length co21, .int .i64 0]) ?_ 6 _ rfl; (with_reducible repeat (first | refine Zah ?_ _ | refine Zaj ?_ | refine Zaf ?_ _)); refine Zbr (cs := #[.int .i64 a0_0, .slice Ao12 y119.length co12, .slice Ao18 y125.length co18, .int .i64 a0_3, .int .i64 a0_4, .slice none 0 0, .int .i64 0]) ?_ 5 _ rfl; (with_reducible repeat (first | refine Zah ?_ _ | refine Zaj ?_ | refine Zaf ?_ _)); refine Zbr (cs := #[.int .i64 a0_0, .slice Ao12 y119.length co12, .slice Ao18 y125.length co18, .int .i64 a0_3, .int .i64 0, .slice none 0 0, .int .i64 0]) ?_ 4 _ rfl; (with_reducible repeat (first | refine Zah ?_ _ | refine Zaj ?_ | refine Zaf ?_ _)); refine Zbr (cs := #[.int .i64 a0_0, .slice Ao12 y119.length co12, .slice Ao18 y125.length co18, .int .i64 0, .int .i64 0, .slice none 0 0, .int .i64 0]) ?_ 3 _ rfl; (with_reducible repeat (first | refine Zah ?_ _ | refine Zaj ?_ | refine Zaf ?_ _)); refine Zbr (cs := #[.int .i64 a0_0, .slice Ao12 y119.length co12, .slice none 0 0, .int .i64 0, .int .i64 0, .slice none 0 0, .int .i64 0]) ?_ 2 _ rfl; (with_reducible repeat (first | refine Zah ?_ _ | refine Zaj ?_ | refine Zaf ?_ _)); refine Zbr (cs := #[.int .i64 a0_0, .slice none 0 0, .slice none 0 0, .int .i64 0, .int .i64 0, .slice none 0 0, .int .i64 0]) ?_ 1 _ rfl; (with_reducible repeat (first | refine Zah ?_ _ | refine Zaj ?_ | refine Zaf ?_ _)); refine Zbr (cs := #[.int .i64 0, .slice none 0 0, .slice none 0 0, .int .i64 0, .int .i64 0, .slice none 0 0, .int .i64 0]) ?_ 0 _ rfl; (with_reducible repeat (first | refine Zah ?_ _ | refine Zaj ?_ | refine Zaf ?_ _)); refine Zbs ?_ NB115_114.out _; (with_reducible repeat (first | refine Zah ?_ _ | refine Zaj ?_ | refine Zaf ?_ _)); exact BK115.out) Try.underlying25 rfl (by kernel_rfl)) rfl ?_
 exact ⟨_, _, _, by first | rfl | (simp [Zaq, Zar] <;> rfl) | (simp [*, Zaq, Zar] <;> rfl), by (with_reducible repeat (first | apply Kd.R_alloc | apply Kd.Zbh | apply Kd.Zbl)); exact Kd.Zbm (Kd.Zbx (p := ⟨gb115, 6, none⟩) (Kd.Zbx (p := ⟨gb115, 5, none⟩) (Kd.Zbx (p := ⟨gb115, 4, none⟩) (Kd.Zbx (p := ⟨gb115, 3, none⟩) (Kd.Zbx (p := ⟨gb115, 2, none⟩) (Kd.Zbx (p := ⟨gb115, 1, none⟩) (Kd.Zbx (p := ⟨gb115, 0, none⟩) (Kd.Zbx (p := ⟨gb114, 5, none⟩) (Kd.Zc (Kd.Zc HO121.out BK114.out (by decide)) BK115.out (by decide)) (fun _ hk => hk.1.2) (.slice Ao21 t128.length co21)) (fun _ hk => hk.2) (.int .i64 a0_0)) (fun _ hk => hk.2) (.slice Ao12 y119.length co12)) (fun _ hk => hk.2) (.slice Ao18 y125.length co18)) (fun _ hk => hk.2) (.int .i64 a0_3)) (fun _ hk => hk.2) (.int .i64 a0_4)) (fun _ hk => hk.2) (.slice Ao21 t128.length co21)) (fun _ hk => hk.2) (.int .i64 a0_6)) (fun _ hk => hk.1.1.2), by (with_reducible repeat (first | apply Kd.R_alloc | apply Kd.Zbh | apply Kd.Zbl)); exact Kd.Zbm (Kd.Zbx (p := ⟨gb115, 6, none⟩) (Kd.Zbx (p := ⟨gb115, 5, none⟩) (Kd.Zbx (p := ⟨gb115, 4, none⟩) (Kd.Zbx (p := ⟨gb115, 3, none⟩) (Kd.Zbx (p := ⟨gb115, 2, none⟩) (Kd.Zbx (p := ⟨gb115, 1, none⟩) (Kd.Zbx (p := ⟨gb115, 0, none⟩) (Kd.Zbx (p := ⟨gb114, 5, none⟩) (Kd.Zc (Kd.Zc HO127.out BK114.out (by decide)) BK115.out (by decide)) (fun _ hk => hk.1.2) (.slice Ao21 t128.length co21)) (fun _ hk => hk.2) (.int .i64 a0_0)) (fun _ hk => hk.2) (.slice Ao12 y119.length co12)) (fun _ hk => hk.2) (.slice Ao18 y125.length co18)) (fun _ hk => hk.2) (.int .i64 a0_3)) (fun _ hk => hk.2) (.int .i64 a0_4)) (fun _ hk => hk.2) (.slice Ao21 t128.length co21)) (fun _ hk => hk.2) (.int .i64 a0_6)) (fun _ hk => hk.1.1), by (with_reducible repeat (first | apply Kd.S_alloc | apply Kd.S_drewN | apply Kd.Zb6)); exact Kd.Zck (Kd.Zb2 (p := ⟨gb115, 6, none⟩) (Kd.Zb2 (p := ⟨gb115, 5, none⟩) (Kd.Zb2 (p := ⟨gb115, 4, none⟩) (Kd.Zb2 (p := ⟨gb115, 3, none⟩) (Kd.Zb2 (p := ⟨gb115, 2, none⟩) (Kd.Zb2 (p := ⟨gb115, 1, none⟩) (Kd.Zb2 (p := ⟨gb115, 0, none⟩) (Kd.Zb2 (p := ⟨gb114, 5, none⟩) (Kd.Zcx (Kd.Zcx HO130.out BK114.out (by decide)) BK115.out (by decide)) (fun _ hk => hk.1.2) (.slice Ao21 t128.length co21)) (fun _ hk => hk.2) (.int .i64 a0_0)) (fun _ hk => hk.2) (.slice Ao12 y119.length co12)) (fun _ hk => hk.2) (.slice Ao18 y125.length co18)) (fun _ hk => hk.2) (.int .i64 a0_3)) (fun _ hk => hk.2) (.int .i64 a0_4)) (fun _ hk => hk.2) (.slice Ao21 t128.length co21)) (fun _ hk => hk.2) (.int .i64 a0_6)) (fun _ hk => ⟨hk.1.1.1.2, hk.1.1.2⟩), by repeat (first | (with_reducible first | exact HB.out | apply Zac | apply Zaa | apply Zab | refine Zag ?_ GE114.out | refine Zag ?_ GE115.out) | exact HB.out)⟩
def Zca.f (k : Nat) (a0_0 : Int) (l0_1 : List Int) (l0_2 : List Int) (a0_3 : Int) (a0_4 : Int) (l0_5 : List (List Int)) (a0_6 : Int) : Option (List Int) := (some (([] : List Int) : List Int)).bind fun y201 => (if y201.length + l0_1.length < 17592186044416 then ((some (y201 ++ l0_1 : List Int)).bind fun y204 => (if a0_0 = 4 then (if y204.length < 17592186044416 then ((Zai.f k (y204 ++ [a0_6])).bind fun t210 => (some t210)) else (none)) else ((Zai.f k y204).bind fun t213 => (some t213)))) else (none))
set_option maxHeartbeats 8000000 in
set_option maxRecDepth 100000 in
theorem Zca.calls (k : Nat) (a0_0 : Int) (A0_1 : Option Addr) (c0_1 : Nat) (l0_1 : List Int) (A0_2 : Option Addr) (c0_2 : Nat) (l0_2 : List Int) (a0_3 : Int) (a0_4 : Int) (A0_5 : Option Addr) (c0_5 : Nat) (l0_5 : List (List Int)) (a0_6 : Int) (r : List Int) (w : World) (hr0_1 : Kd.C (Kd.int .i64) w A0_1 l0_1.length l0_1) (hc0_1 : l0_1.length ≤ c0_1) (hr0_2 : Kd.C (Kd.int .i64) w A0_2 l0_2.length l0_2) (hc0_2 : l0_2.length ≤ c0_2) (hr0_5 : Kd.C (Kd.slice 3 (Kd.int .i64)) w A0_5 l0_5.length l0_5) (hc0_5 : l0_5.length ≤ c0_5) (h : Zca.f k a0_0 l0_1 l0_2 a0_3 a0_4 l0_5 a0_6 = some r) :
  Calls Try.prog 60 #[.agg #[.int .i64 a0_0, .slice A0_1 l0_1.length c0_1, .slice A0_2 l0_2.length c0_2, .int .i64 a0_3, .int .i64 a0_4, .slice A0_5 l0_5.length c0_5, .int .i64 a0_6]] w fun e w' => ∃ v0_ : Value, e = .returned (v0_) ∧ Kd.R (Kd.int .i64) 3 w' w.heap.size (fun _ => True) v0_ r ∧ Below w.heap.size w w' := by
 have hu25 := Try.underlying25
 have HR0_1 := Za.mk hr0_1
 have HC0_1 := Za.mk hc0_1
 clear hr0_1 hc0_1
 have HR0_2 := Za.mk hr0_2
 have HC0_2 := Za.mk hc0_2
 clear hr0_2 hc0_2
 have HR0_5 := Za.mk hr0_5
 have HC0_5 := Za.mk hc0_5
 clear hr0_5 hc0_5
 have HB := Za.mk (Below.refl w.heap.size w)
 have H : ((some (([] : List Int) : List Int)).bind fun y201 => (if y201.length + l0_1.length < 17592186044416 then ((some (y201 ++ l0_1 : List Int)).bind fun y204 => (if a0_0 = 4 then (if y204.length < 17592186044416 then ((Zai.f k (y204 ++ [a0_6])).bind fun t210 => (some t210)) else (none)) else ((Zai.f k y204).bind fun t213 => (some t213)))) else (none))) = some r := h
 clear h
 obtain ⟨y201, hy201⟩ : ∃ y_ : List Int, y_ = (([] : List Int)) := ⟨_, rfl⟩
 replace H : (if y201.length + l0_1.length < 17592186044416 then ((some (y201 ++ l0_1 : List Int)).bind fun y204 => (if a0_0 = 4 then (if y204.length < 17592186044416 then ((Zai.f k (y204 ++ [a0_6])).bind fun t210 => (some t210)) else (none)) else ((Zai.f k y204).bind fun t213 => (some t213)))) else (none)) = some r := by first | (rw [hy201]; with_reducible exact H) | (have H2_ := (Option.bind_some _ _).symm.trans H; rw [hy201]; with_reducible exact H2_) | (have H2_ := (Option.bind_some _ _).symm.trans H; with_reducible exact H2_) | with_reducible exact H | (rw [hy201]; exact H) | exact H
 have Ny201 := Za.mk hy201
 clear hy201
 by_cases c2 : y201.length + l0_1.length < 17592186044416
 rotate_left
 ·rw [if_neg c2] at H
  exact absurd H (by simp)
 rw [if_pos c2] at H
 have LMc2 := Za.mk c2
 clear c2
 obtain ⟨y204, hy204⟩ : ∃ y_ : List Int, y_ = (y201 ++ l0_1) := ⟨_, rfl⟩
 replace H : (if a0_0 = 4 then (if y204.length < 17592186044416 then ((Zai.f k (y204 ++ [a0_6])).bind fun t210 => (some t210)) else (none)) else ((Zai.f k y204).bind fun t213 => (some t213))) = some r := by first | (rw [hy204]; with_reducible exact H) | (have H2_ := (Option.bind_some _ _).symm.trans H; rw [hy204]; with_reducible exact H2_) | (have H2_ := (Option.bind_some _ _).symm.trans H; with_reducible exact H2_) | with_reducible exact H | (rw [hy204]; exact H) | exact H
 have Ny204 := Za.mk hy204
 clear hy204
 by_cases c3 : a0_0 = 4
 rotate_left
 ·rw [if_neg c3] at H
  have c3b0 : (a0_0 == 4) = false := beq_eq_false_iff_ne.mpr c3
  have c3b1 : (a0_0 != 4) = true := bne_iff_ne.mpr c3
  replace H := Option.bind_eq_some_iff.mp H
  obtain ⟨t213, A150, H⟩ := H
  replace H : (some t213) = some r := H
  have A15 := Za.mk A150
  clear A150
  obtain rfl := Option.some.inj H
  go_enter Try.func60, Try.ntmps60
  go_wp2_with (first | ((with_reducible refine Zbv (N := 1) rfl ?_); refine Zb4 ?hg (N := 1) ?hd (cs := #[.int .i64 a0_0, .slice A0_1 l0_1.length c0_1, .slice A0_2 l0_2.length c0_2, .int .i64 a0_3, .int .i64 a0_4, .slice A0_5 l0_5.length c0_5, .int .i64 a0_6]) (t := 25) ?hr ?_; (case hd => rfl); (case hg => rfl); (case hr => first | (go_simp; done) | (go_simp; rfl)); intro gb200 hg w16 hbox hb; have n0_ := Za.mk (Zan (by repeat (first | (with_reducible first | exact HB.out | apply Zac | apply Zaa | apply Zab) | exact HB.out)) hb); have n1_ := Za.mk (hbox); have n3_ := Za.mk ((by rw [hg]; exact (Zam (by repeat (first | (with_reducible first | exact HB.out | apply Zac | apply Zaa | apply Zab) | exact HB.out))) : w.heap.size ≤ gb200)); clear HB; have HB := n0_; have BK200 := n1_; have GE200 := n3_; clear n0_ n1_ n3_; clear hb hbox hg) | ((with_reducible refine Zbv (N := 4) rfl ?_); refine Kd.Zdt (Kd.int .i64) _ 3 ?hg (N := 4) ?hd (xs := ([] : List Int)) (inner := []) (ok := fun _ => True) (okp := fun _ => True) ?hr ?hp (fun _ hk => hk) trivial (Below.refl _ _) (Nat.le_refl _) (by simp) ?_; (case hd => rfl); (case hg => rfl); (case hr => first | (go_simp; done) | (go_simp; rfl)); (case hp => exact (Reps.none _ _)); intro v202 w17 ho18 hb hg_ hnew_; clear hg_ hnew_; (first | rw [← Ny201.out] at ho18 | (simp only [Int.reduceToNat] at ho18; rw [← Ny201.out] at ho18)); have n0_ := Za.mk (Kd.Zbz ho18 (Zam (by repeat (first | (with_reducible first | exact HB.out | apply Zac | apply Zaa | apply Zab | refine Zag ?_ GE200.out) | exact HB.out)))); have n1_ := Za.mk (Za6 (g := gb200) (o := .cells #[.int .i64 a0_0, .slice A0_1 l0_1.length c0_1, .slice A0_2 l0_2.length c0_2, .int .i64 a0_3, .int .i64 a0_4, .slice A0_5 l0_5.length c0_5, .int .i64 a0_6] 25 (0, 0)) (mvK BK200.out) hb); have n2_ := Za.mk (Zan (by repeat (first | (with_reducible first | exact HB.out | apply Zac | apply Zaa | apply Zab | refine Zag ?_ GE200.out) | exact HB.out)) hb); clear BK200; clear HB; have HO203 := n0_; have BK200 := n1_; have HB := n2_; clear n0_ n1_ n2_; clear hb ho18; obtain ⟨hcz19_0, hcz19_1, hcz19_2, hcz19_3, hcz19_4, hcz19_5, hcz19_6, hfz19_0, hfz19_1, hfz19_2, hfz19_3, hfz19_4, hfz19_5, hfz19_6⟩ := Zce BK200.out) | ((with_reducible refine Zbg (b := .append) (xs := #[.tmp 4, .tmp 6]) rfl ?_); at_builtin; refine Kd.Zcm (Kd.int .i64) (w0 := w) w.heap.size rfl (.tmp 4) (.tmp 6) 23 3 (.int .i64 0) 8 rfl Try.underlying23 info3 rfl (by decide) (by omega) v202 y201 l0_1 _ _ _ (fun _ => True) (fun _ => False) rfl rfl ?aO ?aR (fun _ _ h => h) (fun _ h => h.elim) ?aF ?aB ?aS ?aL ?_; (case aR => repeat (first | exact (Kd.Zaw HR0_1.out HB.out) | (with_reducible refine Kd.C_alloc ?_ _) | (with_reducible refine Kd.Za0 ?_ _) | (with_reducible refine Kd.C_drew ?_))); (case aB => exact (by repeat (first | (with_reducible first | exact HB.out | apply Zac | apply Zaa | apply Zab | refine Zag ?_ GE200.out) | exact HB.out))); (case aF => exact (fun _ _ => trivial)); (case aO => exact (mvR HO203.out)); (case aS => exact (Zam (by repeat (first | (with_reducible first | exact HB.out | apply Zac | apply Zaa | apply Zab | refine Zag ?_ GE200.out) | exact HB.out)))); (case aL => have := LMc2.out; omega); intro v205 w20 ho hb hg hat; rw [← Ny204.out] at ho; have n0_ := Za.mk (Zcp (g := gb200) (o := .cells #[.int .i64 a0_0, .slice A0_1 l0_1.length c0_1, .slice A0_2 l0_2.length c0_2, .int .i64 a0_3, .int .i64 a0_4, .slice A0_5 l0_5.length c0_5, .int .i64 a0_6] 25 (0, 0)) (mvK BK200.out) hg (Kd.R_ne HO203.out BK200.out (by decide))); have n1_ := Za.mk (hb); have n2_ := Za.mk (ho); clear BK200; clear HB; clear HO203; have BK200 := n0_; have HB := n1_; have HO206 := n2_; clear n0_ n1_ n2_; clear ho hb hg hat; obtain ⟨hcz21_0, hcz21_1, hcz21_2, hcz21_3, hcz21_4, hcz21_5, hcz21_6, hfz21_0, hfz21_1, hfz21_2, hfz21_3, hfz21_4, hfz21_5, hfz21_6⟩ := Zce BK200.out; obtain ⟨Ao22, co22, eo22⟩ := Kd.Zbw HO206.out; subst eo22) | ((with_reducible refine Za2 (f := 38) rfl ?_); refine Zb0 (some 17) rfl rfl Try.func38 (by kernel_rfl) rfl #[.slice Ao22 y204.length co22] rfl (by (try simp only [List.map_toArray, List.map_cons, List.map_nil]); first | done | rfl | (simp only [List.length_drop, List.length_take]; rfl)) ?_; (refine withB (m := w.heap.size) (w0 := w) (by repeat (first | (with_reducible first | exact HB.out | apply Zac | apply Zaa | apply Zab | refine Zag ?_ GE200.out) | exact HB.out)) ?_); intro hL_; (with_reducible refine (Zai.calls k _ _ y204 t213 _ ?side1 ?side2 A15.out).mono ?_); (case side1 => repeat (first | exact (Kd.Za3 HO206.out).2.2 | (with_reducible refine Kd.C_alloc ?_ _) | (with_reducible refine Kd.Za0 ?_ _) | (with_reducible refine Kd.C_drew ?_))); (case side2 => exact (Kd.Za3 HO206.out).2.1); rintro e w23 ⟨v214, rfl, ho0, hb⟩; refine ⟨_, rfl, ?_⟩; have n1_ := Za.mk (Kd.Zbz (Kd.Zej ho0 (Kd.R_lt (mvR HO206.out))) (Zam hL_)); have n3_ := Za.mk (Zan hL_ hb); clear HO206; clear BK200; clear HB; have HO215 := n1_; have HB := n3_; clear n1_ n3_; (try clear hb); (try clear hb2); (try clear hk); (try clear hi); (try clear ho0)))
  go_ret
  exact ⟨_, by first | rfl | (simp [Zaq, Zar] <;> rfl) | (simp [*, Zaq, Zar] <;> rfl), by (with_reducible repeat (first | apply Kd.R_alloc | apply Kd.Zbh | apply Kd.Zbl)); exact Kd.Zbm HO215.out (fun _ hk => trivial), by repeat (first | (with_reducible first | exact HB.out | apply Zac | apply Zaa | apply Zab | refine Zag ?_ GE200.out) | exact HB.out)⟩
 rw [if_pos c3] at H
 have c3b0 : (a0_0 == 4) = true := beq_iff_eq.mpr c3
 have c3b1 : (a0_0 != 4) = false := bne_eq_false_iff_eq.mpr c3
 clear c3
 by_cases c4 : y204.length < 17592186044416
 rotate_left
 ·rw [if_neg c4] at H
  exact absurd H (by simp)
 rw [if_pos c4] at H
 have LMc4 := Za.mk c4
 clear c4
 obtain ⟨y207, hy207⟩ : ∃ y_ : List Int, y_ = (y204 ++ [a0_6]) := ⟨_, rfl⟩
 replace H : ((Zai.f k y207).bind fun t210 => (some t210)) = some r := by first | (rw [hy207]; with_reducible exact H) | (have H2_ := (Option.bind_some _ _).symm.trans H; rw [hy207]; with_reducible exact H2_) | (have H2_ := (Option.bind_some _ _).symm.trans H; with_reducible exact H2_) | with_reducible exact H | (rw [hy207]; exact H) | exact H
 have Ny207 := Za.mk hy207
 clear hy207
 replace H := Option.bind_eq_some_iff.mp H
 obtain ⟨t210, A50, H⟩ := H
 replace H : (some t210) = some r := H
 have A5 := Za.mk A50
 clear A50
 obtain rfl := Option.some.inj H
 go_enter Try.func60, Try.ntmps60
 go_wp2_with (first | ((with_reducible refine Zbv (N := 1) rfl ?_); refine Zb4 ?hg (N := 1) ?hd (cs := #[.int .i64 a0_0, .slice A0_1 l0_1.length c0_1, .slice A0_2 l0_2.length c0_2, .int .i64 a0_3, .int .i64 a0_4, .slice A0_5 l0_5.length c0_5, .int .i64 a0_6]) (t := 25) ?hr ?_; (case hd => rfl); (case hg => rfl); (case hr => first | (go_simp; done) | (go_simp; rfl)); intro gb200 hg w6 hbox hb; have n0_ := Za.mk (Zan (by repeat (first | (with_reducible first | exact HB.out | apply Zac | apply Zaa | apply Zab) | exact HB.out)) hb); have n1_ := Za.mk (hbox); have n3_ := Za.mk ((by rw [hg]; exact (Zam (by repeat (first | (with_reducible first | exact HB.out | apply Zac | apply Zaa | apply Zab) | exact HB.out))) : w.heap.size ≤ gb200)); clear HB; have HB := n0_; have BK200 := n1_; have GE200 := n3_; clear n0_ n1_ n3_; clear hb hbox hg) | ((with_reducible refine Zbv (N := 4) rfl ?_); refine Kd.Zdt (Kd.int .i64) _ 3 ?hg (N := 4) ?hd (xs := ([] : List Int)) (inner := []) (ok := fun _ => True) (okp := fun _ => True) ?hr ?hp (fun _ hk => hk) trivial (Below.refl _ _) (Nat.le_refl _) (by simp) ?_; (case hd => rfl); (case hg => rfl); (case hr => first | (go_simp; done) | (go_simp; rfl)); (case hp => exact (Reps.none _ _)); intro v202 w7 ho8 hb hg_ hnew_; clear hg_ hnew_; (first | rw [← Ny201.out] at ho8 | (simp only [Int.reduceToNat] at ho8; rw [← Ny201.out] at ho8)); have n0_ := Za.mk (Kd.Zbz ho8 (Zam (by repeat (first | (with_reducible first | exact HB.out | apply Zac | apply Zaa | apply Zab | refine Zag ?_ GE200.out) | exact HB.out)))); have n1_ := Za.mk (Za6 (g := gb200) (o := .cells #[.int .i64 a0_0, .slice A0_1 l0_1.length c0_1, .slice A0_2 l0_2.length c0_2, .int .i64 a0_3, .int .i64 a0_4, .slice A0_5 l0_5.length c0_5, .int .i64 a0_6] 25 (0, 0)) (mvK BK200.out) hb); have n2_ := Za.mk (Zan (by repeat (first | (with_reducible first | exact HB.out | apply Zac | apply Zaa | apply Zab | refine Zag ?_ GE200.out) | exact HB.out)) hb); clear BK200; clear HB; have HO203 := n0_; have BK200 := n1_; have HB := n2_; clear n0_ n1_ n2_; clear hb ho8; obtain ⟨hcz9_0, hcz9_1, hcz9_2, hcz9_3, hcz9_4, hcz9_5, hcz9_6, hfz9_0, hfz9_1, hfz9_2, hfz9_3, hfz9_4, hfz9_5, hfz9_6⟩ := Zce BK200.out) | ((with_reducible refine Zbg (b := .append) (xs := #[.tmp 4, .tmp 6]) rfl ?_); at_builtin; refine Kd.Zcm (Kd.int .i64) (w0 := w) w.heap.size rfl (.tmp 4) (.tmp 6) 23 3 (.int .i64 0) 8 rfl Try.underlying23 info3 rfl (by decide) (by omega) v202 y201 l0_1 _ _ _ (fun _ => True) (fun _ => False) rfl rfl ?aO ?aR (fun _ _ h => h) (fun _ h => h.elim) ?aF ?aB ?aS ?aL ?_; (case aR => repeat (first | exact (Kd.Zaw HR0_1.out HB.out) | (with_reducible refine Kd.C_alloc ?_ _) | (with_reducible refine Kd.Za0 ?_ _) | (with_reducible refine Kd.C_drew ?_))); (case aB => exact (by repeat (first | (with_reducible first | exact HB.out | apply Zac | apply Zaa | apply Zab | refine Zag ?_ GE200.out) | exact HB.out))); (case aF => exact (fun _ _ => trivial)); (case aO => exact (mvR HO203.out)); (case aS => exact (Zam (by repeat (first | (with_reducible first | exact HB.out | apply Zac | apply Zaa | apply Zab | refine Zag ?_ GE200.out) | exact HB.out)))); (case aL => have := LMc2.out; omega); intro v205 w10 ho hb hg hat; rw [← Ny204.out] at ho; have n0_ := Za.mk (Zcp (g := gb200) (o := .cells #[.int .i64 a0_0, .slice A0_1 l0_1.length c0_1, .slice A0_2 l0_2.length c0_2, .int .i64 a0_3, .int .i64 a0_4, .slice A0_5 l0_5.length c0_5, .int .i64 a0_6] 25 (0, 0)) (mvK BK200.out) hg (Kd.R_ne HO203.out BK200.out (by decide))); have n1_ := Za.mk (hb); have n2_ := Za.mk (ho); clear BK200; clear HB; clear HO203; have BK200 := n0_; have HB := n1_; have HO206 := n2_; clear n0_ n1_ n2_; clear ho hb hg hat; obtain ⟨hcz11_0, hcz11_1, hcz11_2, hcz11_3, hcz11_4, hcz11_5, hcz11_6, hfz11_0, hfz11_1, hfz11_2, hfz11_3, hfz11_4, hfz11_5, hfz11_6⟩ := Zce BK200.out) | ((with_reducible refine Zbg (b := .append) (xs := #[.tmp 11, .tmp 14]) rfl ?_); at_builtin; refine Kd.Zb9 (Kd.int .i64) (w0 := w) w.heap.size rfl (.tmp 11) (.tmp 14) 23 3 (.int .i64 0) 8 rfl Try.underlying23 info3 rfl (by decide) (by omega) v205 y204 a0_6 [.int .i64 a0_6] (fun _ => True) (fun _ => False) rfl rfl ?aP (fun _ hk => hk.elim) ?aF ?aO ?aB ?aS ?aL ?_; (case aP => exact rfl); (case aB => exact (by repeat (first | (with_reducible first | exact HB.out | apply Zac | apply Zaa | apply Zab | refine Zag ?_ GE200.out) | exact HB.out))); (case aF => exact (fun _ _ => trivial)); (case aO => exact (mvR HO206.out)); (case aS => exact (Zam (by repeat (first | (with_reducible first | exact HB.out | apply Zac | apply Zaa | apply Zab | refine Zag ?_ GE200.out) | exact HB.out)))); (case aL => have := LMc4.out; omega); intro v208 w12 ho hb hg hat; rw [← Ny207.out] at ho; have n1_ := Za.mk (hb); have n2_ := Za.mk (ho); clear BK200; clear HB; clear HO206; have HB := n1_; have HO209 := n2_; clear n1_ n2_; clear ho hb hg hat; obtain ⟨Ao13, co13, eo13⟩ := Kd.Zbw HO209.out; subst eo13) | ((with_reducible refine Za2 (f := 38) rfl ?_); refine Zb0 (some 17) rfl rfl Try.func38 (by kernel_rfl) rfl #[.slice Ao13 y207.length co13] rfl (by (try simp only [List.map_toArray, List.map_cons, List.map_nil]); first | done | rfl | (simp only [List.length_drop, List.length_take]; rfl)) ?_; (refine withB (m := w.heap.size) (w0 := w) (by repeat (first | (with_reducible first | exact HB.out | apply Zac | apply Zaa | apply Zab | refine Zag ?_ GE200.out) | exact HB.out)) ?_); intro hL_; (with_reducible refine (Zai.calls k _ _ y207 t210 _ ?side1 ?side2 A5.out).mono ?_); (case side1 => repeat (first | exact (Kd.Za3 HO209.out).2.2 | (with_reducible refine Kd.C_alloc ?_ _) | (with_reducible refine Kd.Za0 ?_ _) | (with_reducible refine Kd.C_drew ?_))); (case side2 => exact (Kd.Za3 HO209.out).2.1); rintro e w14 ⟨v211, rfl, ho0, hb⟩; refine ⟨_, rfl, ?_⟩; have n1_ := Za.mk (Kd.Zbz (Kd.Zej ho0 (Kd.R_lt (mvR HO209.out))) (Zam hL_)); have n3_ := Za.mk (Zan hL_ hb); clear HO209; clear HB; have HO212 := n1_; have HB := n3_; clear n1_ n3_; (try clear hb); (try clear hb2); (try clear hk); (try clear hi); (try clear ho0)))
 go_ret
 exact ⟨_, by first | rfl | (simp [Zaq, Zar] <;> rfl) | (simp [*, Zaq, Zar] <;> rfl), by (with_reducible repeat (first | apply Kd.R_alloc | apply Kd.Zbh | apply Kd.Zbl)); exact Kd.Zbm HO212.out (fun _ hk => trivial), by repeat (first | (with_reducible first | exact HB.out | apply Zac | apply Zaa | apply Zab | refine Zag ?_ GE200.out) | exact HB.out)⟩
mutual
def Za1.l0 : Nat → List Int → Int → Option (Bool)
 | 0, _, _ => none
 | k + 1, x0, x3 => if x3 < (x0.length : Int) then (Za1.l1 k x0 x3 0) else (some true)
def Za1.l1 : Nat → List Int → Int → Int → Option (Bool)
 | 0, _, _, _ => none
 | k + 1, x0, x3, x4 => if x4 < x3 then (if 0 ≤ x3 then (if x3 < (x0.length : Int) then (if 0 ≤ x4 then (if x4 < (x0.length : Int) then (if (rd x0 x3) = (rd x0 x4) then (some false) else (Za1.l1 k x0 x3 (wrap64 (x4 + 1)))) else (none)) else (none)) else (none)) else (none)) else (Za1.l0 k x0 (wrap64 (x3 + 1)))
end
def Za1.f (k : Nat) (l0 : List Int) : Option (Bool) := Za1.l0 k l0 0
set_option maxHeartbeats 8000000 in
set_option maxRecDepth 100000 in
theorem Za1.calls (k : Nat) (A0 : Option Addr) (c0 : Nat) (l0 : List Int) (r : Bool) (w : World) (hr0 : Kd.C (Kd.int .i64) w A0 l0.length l0) (hc0 : l0.length ≤ c0) (h : Za1.f k l0 = some r) :
  Calls Try.prog 86 #[.slice A0 l0.length c0] w fun e w' => e = .returned (.bool r) ∧ Zb w w' := by
 have HR0 := Za.mk hr0
 have HC0 := Za.mk hc0
 clear hr0 hc0
 have H : (Za1.l0 k l0 0) = some r := h
 clear h
 have H' := Za.mk H
 clear H
 go_enter Try.func86, Try.ntmps86
 go_wp2
 repeat (go_quiet (fail); try go_wp2)
 go_loopg [3] k (fun kq v3 w' => ∃ (x3_1 : Int), v3 = .int .i64 x3_1 ∧ Za (Za1.l0 kq l0 x3_1 = some r) ∧ Za (kq ≤ k) ∧ Zb w w')
 case atStart => exact ⟨(0), (by first | rfl | (simp; done) | (simp [*]; done)), H', ⟨Nat.le_refl _⟩, by repeat (first | exact Zb.refl _ | apply Zb.step)⟩
 case round =>
  clear H'
  obtain ⟨x3_1, rfl, HA, HK1, ⟨m1, rfl⟩⟩ := hrel
  cases gk with
  | zero => exact absurd HA.out (by simp [Za1.l0])
  | succ k1 =>
   have H := HA.out
   clear HA
   simp only [Za1.l0] at H
   by_cases c2 : x3_1 < (l0.length : Int)
   rotate_left
   ·rw [if_neg c2] at H
    have c2b0 : decide (x3_1 < (l0.length : Int)) = false := decide_eq_false c2
    clear c2
    obtain rfl := Option.some.inj H
    go_wp2
    repeat (go_quiet (fail); try go_wp2)
    go_ret
    exact ⟨by first | rfl | (simp; done) | (simp [*]; done), by repeat (first | exact Zb.refl _ | apply Zb.step)⟩
   rw [if_pos c2] at H
   have c2b0 : decide (x3_1 < (l0.length : Int)) = true := decide_eq_true c2
   clear c2
   have H' := Za.mk H
   clear H
   go_wp2
   repeat (go_quiet (fail); try go_wp2)
   go_loopg [4] k1 (fun kq v4 w' => ∃ (x4_2 : Int), v4 = .int .i64 x4_2 ∧ Za (Za1.l1 kq l0 x3_1 x4_2 = some r) ∧ Za (kq ≤ k1) ∧ Zb w w')
   case atStart => exact ⟨(0), (by first | rfl | (simp; done) | (simp [*]; done)), H', ⟨Nat.le_refl _⟩, by repeat (first | exact Zb.refl _ | apply Zb.step)⟩
   case round =>
    clear H'
    try clear c2
    try clear c2b0
    try clear p2
    obtain ⟨x4_2, rfl, HA, HK2, ⟨m2, rfl⟩⟩ := hrel
    cases gk with
    | zero => exact absurd HA.out (by simp [Za1.l1])
    | succ k2 =>
     have H := HA.out
     clear HA
     simp only [Za1.l1] at H
     by_cases c3 : x4_2 < x3_1
     rotate_left
     ·rw [if_neg c3] at H
      have c3b0 : decide (x4_2 < x3_1) = false := decide_eq_false c3
      clear c3
      have H' := Za.mk H
      clear H
      go_wp2
      repeat (go_quiet (fail); try go_wp2)
      go_roundg k2
      case measure => have := HK1.out; have := HK2.out; omega
      case rel => exact ⟨(wrap64 (x3_1 + 1)), (by first | rfl | (simp; done) | (simp [*]; done)), H', ⟨by have := HK1.out; have := HK2.out; omega⟩, by repeat (first | exact Zb.refl _ | apply Zb.step)⟩
     rw [if_pos c3] at H
     have c3b0 : decide (x4_2 < x3_1) = true := decide_eq_true c3
     clear c3
     by_cases c4 : 0 ≤ x3_1
     rotate_left
     ·rw [if_neg c4] at H
      exact absurd H (by simp)
     rw [if_pos c4] at H
     have c4b0 : decide (0 ≤ x3_1) = true := decide_eq_true c4
     clear c4
     by_cases c5 : x3_1 < (l0.length : Int)
     rotate_left
     ·rw [if_neg c5] at H
      exact absurd H (by simp)
     rw [if_pos c5] at H
     have c5b0 : decide (x3_1 < (l0.length : Int)) = true := decide_eq_true c5
     clear c5
     by_cases c6 : 0 ≤ x4_2
     rotate_left
     ·rw [if_neg c6] at H
      exact absurd H (by simp)
     rw [if_pos c6] at H
     have c6b0 : decide (0 ≤ x4_2) = true := decide_eq_true c6
     clear c6
     by_cases c7 : x4_2 < (l0.length : Int)
     rotate_left
     ·rw [if_neg c7] at H
      exact absurd H (by simp)
     rw [if_pos c7] at H
     have c7b0 : decide (x4_2 < (l0.length : Int)) = true := decide_eq_true c7
     clear c7
     by_cases c8 : (rd l0 x3_1) = (rd l0 x4_2)
     ·rw [if_pos c8] at H
      have c8b0 : ((rd l0 x3_1) == (rd l0 x4_2)) = true := beq_iff_eq.mpr c8
      have c8b1 : ((rd l0 x3_1) != (rd l0 x4_2)) = false := bne_eq_false_iff_eq.mpr c8
      clear c8
      obtain rfl := Option.some.inj H
      have p216 : 0 ≤ (x3_1 : Int) := of_decide_eq_true (by first | (with_reducible assumption) | assumption)
      have q216 : x3_1 < (l0.length : Int) := of_decide_eq_true (by first | (with_reducible assumption) | assumption)
      obtain ⟨ad216, e216, hx216_0⟩ := Kd.Zby HR0.out x3_1 p216 q216
      cases e216
      replace p216 := eq_true p216
      replace q216 := eq_true q216
      have p217 : 0 ≤ (x4_2 : Int) := of_decide_eq_true (by first | (with_reducible assumption) | assumption)
      have q217 : x4_2 < (l0.length : Int) := of_decide_eq_true (by first | (with_reducible assumption) | assumption)
      obtain ⟨ad217, e217, hx217_0⟩ := Kd.Zby HR0.out x4_2 p217 q217
      obtain rfl : ad216 = ad217 := (by injection e217)
      replace p217 := eq_true p217
      replace q217 := eq_true q217
      go_wp2
      repeat (go_quiet (fail); try go_wp2)
      go_ret
      exact ⟨by first | rfl | (simp; done) | (simp [*]; done), by repeat (first | exact Zb.refl _ | apply Zb.step)⟩
     rw [if_neg c8] at H
     have c8b0 : ((rd l0 x3_1) == (rd l0 x4_2)) = false := beq_eq_false_iff_ne.mpr c8
     have c8b1 : ((rd l0 x3_1) != (rd l0 x4_2)) = true := bne_iff_ne.mpr c8
     have H' := Za.mk H
     clear H
     have p216 : 0 ≤ (x3_1 : Int) := of_decide_eq_true (by first | (with_reducible assumption) | assumption)
     have q216 : x3_1 < (l0.length : Int) := of_decide_eq_true (by first | (with_reducible assumption) | assumption)
     obtain ⟨ad216, e216, hx216_0⟩ := Kd.Zby HR0.out x3_1 p216 q216
     cases e216
     replace p216 := eq_true p216
     replace q216 := eq_true q216
     have p217 : 0 ≤ (x4_2 : Int) := of_decide_eq_true (by first | (with_reducible assumption) | assumption)
     have q217 : x4_2 < (l0.length : Int) := of_decide_eq_true (by first | (with_reducible assumption) | assumption)
     obtain ⟨ad217, e217, hx217_0⟩ := Kd.Zby HR0.out x4_2 p217 q217
     obtain rfl : ad216 = ad217 := (by injection e217)
     replace p217 := eq_true p217
     replace q217 := eq_true q217
     go_wp2
     repeat (go_quiet (fail); try go_wp2)
     go_roundg k2
     case measure => have := HK1.out; have := HK2.out; omega
     case rel => exact ⟨(wrap64 (x4_2 + 1)), (by first | rfl | (simp; done) | (simp [*]; done)), H', ⟨by have := HK1.out; have := HK2.out; omega⟩, by repeat (first | exact Zb.refl _ | apply Zb.step)⟩
mutual
def Zay.l0 : Nat → Int → Int → List Int → List Int → Int → Int → List (List Int) → Int → Option (Bool)
 | 0, _, _, _, _, _, _, _, _ => none
 | k + 1, x3, x222000, x222001, x222002, x222003, x222004, x222005, x222006 => if x3 < (x222005.length : Int) then (if 0 ≤ x3 then (if ((Zbt x222005 x3).length : Int) = (x222001.length : Int) then (Zay.l1 k x3 0 x222000 x222001 x222002 x222003 x222004 x222005 x222006) else (some false)) else (none)) else (some (decide ((x222005.length : Int) ≤ 1024)))
def Zay.l1 : Nat → Int → Int → Int → List Int → List Int → Int → Int → List (List Int) → Int → Option (Bool)
 | 0, _, _, _, _, _, _, _, _, _ => none
 | k + 1, x3, x4, x222000, x222001, x222002, x222003, x222004, x222005, x222006 => if 0 ≤ x3 then (if x3 < (x222005.length : Int) then (if x4 < ((Zbt x222005 x3).length : Int) then (if 0 ≤ x4 then ((Zbq.f (rd (Zbt x222005 x3) x4)).bind fun t226 => (if t226 = true then (Zay.l1 k x3 (wrap64 (x4 + 1)) x222000 x222001 x222002 x222003 x222004 x222005 x222006) else (some false))) else (none)) else (Zay.l0 k (wrap64 (x3 + 1)) x222000 x222001 x222002 x222003 x222004 x222005 x222006)) else (none)) else (none)
end
def Zay.f (k : Nat) (a0_0 : Int) (l0_1 : List Int) (l0_2 : List Int) (a0_3 : Int) (a0_4 : Int) (l0_5 : List (List Int)) (a0_6 : Int) : Option (Bool) := Zay.l0 k 0 a0_0 l0_1 l0_2 a0_3 a0_4 l0_5 a0_6
set_option maxHeartbeats 8000000 in
set_option maxRecDepth 100000 in
theorem Zay.calls (k : Nat) (a0_0 : Int) (A0_1 : Option Addr) (c0_1 : Nat) (l0_1 : List Int) (A0_2 : Option Addr) (c0_2 : Nat) (l0_2 : List Int) (a0_3 : Int) (a0_4 : Int) (A0_5 : Option Addr) (c0_5 : Nat) (l0_5 : List (List Int)) (a0_6 : Int) (r : Bool) (w : World) (hr0_1 : Kd.C (Kd.int .i64) w A0_1 l0_1.length l0_1) (hc0_1 : l0_1.length ≤ c0_1) (hr0_2 : Kd.C (Kd.int .i64) w A0_2 l0_2.length l0_2) (hc0_2 : l0_2.length ≤ c0_2) (hr0_5 : Kd.C (Kd.slice 3 (Kd.int .i64)) w A0_5 l0_5.length l0_5) (hc0_5 : l0_5.length ≤ c0_5) (h : Zay.f k a0_0 l0_1 l0_2 a0_3 a0_4 l0_5 a0_6 = some r) :
  Calls Try.prog 88 #[.agg #[.int .i64 a0_0, .slice A0_1 l0_1.length c0_1, .slice A0_2 l0_2.length c0_2, .int .i64 a0_3, .int .i64 a0_4, .slice A0_5 l0_5.length c0_5, .int .i64 a0_6]] w fun e w' => e = .returned (.bool r) ∧ Below w.heap.size w w' := by
 have hu25 := Try.underlying25
 have HR0_1 := Za.mk hr0_1
 have HC0_1 := Za.mk hc0_1
 clear hr0_1 hc0_1
 have HR0_2 := Za.mk hr0_2
 have HC0_2 := Za.mk hc0_2
 clear hr0_2 hc0_2
 have HR0_5 := Za.mk hr0_5
 have HC0_5 := Za.mk hc0_5
 clear hr0_5 hc0_5
 have HB := Za.mk (Below.refl w.heap.size w)
 have H : (Zay.l0 k 0 a0_0 l0_1 l0_2 a0_3 a0_4 l0_5 a0_6) = some r := h
 clear h
 have H' := Za.mk H
 clear H
 go_enter Try.func88, Try.ntmps88
 go_wp2_with (first | ((with_reducible refine Zbv (N := 1) rfl ?_); refine Zb4 ?hg (N := 1) ?hd (cs := #[.int .i64 a0_0, .slice A0_1 l0_1.length c0_1, .slice A0_2 l0_2.length c0_2, .int .i64 a0_3, .int .i64 a0_4, .slice A0_5 l0_5.length c0_5, .int .i64 a0_6]) (t := 25) ?hr ?_; (case hd => rfl); (case hg => rfl); (case hr => first | (go_simp; done) | (go_simp; rfl)); intro gb221 hg w2 hbox hb; have n0_ := Za.mk (Zan (by repeat (first | (with_reducible first | exact HB.out | apply Zac | apply Zaa | apply Zab) | exact HB.out)) hb); have n1_ := Za.mk (hbox); have n3_ := Za.mk ((by rw [hg]; exact (Zam (by repeat (first | (with_reducible first | exact HB.out | apply Zac | apply Zaa | apply Zab) | exact HB.out))) : w.heap.size ≤ gb221)); clear HB; have HB := n0_; have BK221 := n1_; have GE221 := n3_; clear n0_ n1_ n3_; clear hb hbox hg))
 repeat (go_quiet (first | ((with_reducible refine Zbv (N := 1) rfl ?_); refine Zb4 ?hg (N := 1) ?hd (cs := #[.int .i64 a0_0, .slice A0_1 l0_1.length c0_1, .slice A0_2 l0_2.length c0_2, .int .i64 a0_3, .int .i64 a0_4, .slice A0_5 l0_5.length c0_5, .int .i64 a0_6]) (t := 25) ?hr ?_; (case hd => rfl); (case hg => rfl); (case hr => first | (go_simp; done) | (go_simp; rfl)); intro gb221 hg w2 hbox hb; have n0_ := Za.mk (Zan (by repeat (first | (with_reducible first | exact HB.out | apply Zac | apply Zaa | apply Zab) | exact HB.out)) hb); have n1_ := Za.mk (hbox); have n3_ := Za.mk ((by rw [hg]; exact (Zam (by repeat (first | (with_reducible first | exact HB.out | apply Zac | apply Zaa | apply Zab) | exact HB.out))) : w.heap.size ≤ gb221)); clear HB; have HB := n0_; have BK221 := n1_; have GE221 := n3_; clear n0_ n1_ n3_; clear hb hbox hg)); try go_wp2_with (first | ((with_reducible refine Zbv (N := 1) rfl ?_); refine Zb4 ?hg (N := 1) ?hd (cs := #[.int .i64 a0_0, .slice A0_1 l0_1.length c0_1, .slice A0_2 l0_2.length c0_2, .int .i64 a0_3, .int .i64 a0_4, .slice A0_5 l0_5.length c0_5, .int .i64 a0_6]) (t := 25) ?hr ?_; (case hd => rfl); (case hg => rfl); (case hr => first | (go_simp; done) | (go_simp; rfl)); intro gb221 hg w2 hbox hb; have n0_ := Za.mk (Zan (by repeat (first | (with_reducible first | exact HB.out | apply Zac | apply Zaa | apply Zab) | exact HB.out)) hb); have n1_ := Za.mk (hbox); have n3_ := Za.mk ((by rw [hg]; exact (Zam (by repeat (first | (with_reducible first | exact HB.out | apply Zac | apply Zaa | apply Zab) | exact HB.out))) : w.heap.size ≤ gb221)); clear HB; have HB := n0_; have BK221 := n1_; have GE221 := n3_; clear n0_ n1_ n3_; clear hb hbox hg)))
 go_loopg [3] k (fun kq v3 w' => ∃ (x3_1 : Int), v3 = .int .i64 x3_1 ∧ Za (Zay.l0 kq x3_1 a0_0 l0_1 l0_2 a0_3 a0_4 l0_5 a0_6 = some r) ∧ Za (kq ≤ k) ∧ Za (w'.heap[gb221]? = some (.cells #[.int .i64 a0_0, (.slice A0_1 l0_1.length c0_1), (.slice A0_2 l0_2.length c0_2), .int .i64 a0_3, .int .i64 a0_4, (.slice A0_5 l0_5.length c0_5), .int .i64 a0_6] 25 (0, 0))) ∧ Za (Below w.heap.size w w'))
 case atStart => exact ⟨(0), (by first | rfl | (simp; done) | (simp [*]; done)), H', ⟨Nat.le_refl _⟩, ⟨by (with_reducible repeat (first | refine Zah ?_ _ | refine Zaj ?_ | refine Zaf ?_ _)); exact BK221.out⟩, ⟨by repeat (first | (with_reducible first | exact HB.out | apply Zac | apply Zaa | apply Zab | refine Zag ?_ GE221.out) | exact HB.out)⟩⟩
 case round =>
  clear H'
  try clear p2
  obtain ⟨x3_1, rfl, HA, HK1, BK221, HB⟩ := hrel
  cases gk with
  | zero => exact absurd HA.out (by simp [Zay.l0])
  | succ k1 =>
   have H := HA.out
   clear HA
   simp only [Zay.l0] at H
   by_cases c3 : x3_1 < (l0_5.length : Int)
   rotate_left
   ·rw [if_neg c3] at H
    have c3b0 : decide (x3_1 < (l0_5.length : Int)) = false := decide_eq_false c3
    clear c3
    obtain rfl := Option.some.inj H
    obtain ⟨hcz17_0, hcz17_1, hcz17_2, hcz17_3, hcz17_4, hcz17_5, hcz17_6, hfz17_0, hfz17_1, hfz17_2, hfz17_3, hfz17_4, hfz17_5, hfz17_6⟩ := Zce BK221.out
    go_wp2
    repeat (go_quiet (fail); try go_wp2)
    go_ret
    exact ⟨by first | rfl | (simp [Zaq, Zar] <;> rfl) | (simp [*, Zaq, Zar] <;> rfl), by repeat (first | (with_reducible first | exact HB.out | apply Zac | apply Zaa | apply Zab | refine Zag ?_ GE221.out) | exact HB.out)⟩
   rw [if_pos c3] at H
   have c3b0 : decide (x3_1 < (l0_5.length : Int)) = true := decide_eq_true c3
   clear c3
   by_cases c4 : 0 ≤ x3_1
   rotate_left
   ·rw [if_neg c4] at H
    exact absurd H (by simp)
   rw [if_pos c4] at H
   have c4b0 : decide (0 ≤ x3_1) = true := decide_eq_true c4
   clear c4
   by_cases c5 : ((Zbt l0_5 x3_1).length : Int) = (l0_1.length : Int)
   rotate_left
   ·rw [if_neg c5] at H
    have c5b0 : (((Zbt l0_5 x3_1).length : Int) == (l0_1.length : Int)) = false := beq_eq_false_iff_ne.mpr c5
    have c5b1 : (((Zbt l0_5 x3_1).length : Int) != (l0_1.length : Int)) = true := bne_iff_ne.mpr c5
    have c5b2 : ((Zbt l0_5 x3_1).length == l0_1.length) = false := by first | simpa using c5 | (simp at c5 ⊢; omega)
    obtain rfl := Option.some.inj H
    obtain ⟨hcz16_0, hcz16_1, hcz16_2, hcz16_3, hcz16_4, hcz16_5, hcz16_6, hfz16_0, hfz16_1, hfz16_2, hfz16_3, hfz16_4, hfz16_5, hfz16_6⟩ := Zce BK221.out
    have p222 : 0 ≤ (x3_1 : Int) := of_decide_eq_true (by first | (with_reducible assumption) | assumption)
    have q222 : x3_1 < (l0_5.length : Int) := of_decide_eq_true (by first | (with_reducible assumption) | assumption)
    obtain ⟨ad222, A222_0, c222_0, e222, hx222_0, hl222_0, hi222_0⟩ := Zd2 HR0_5.out x3_1 p222 q222
    cases e222
    replace hx222_0 := (HB.out.cell (World.block_lt_of_cell? w _ hx222_0)).trans hx222_0
    have HR222_0 := Za.mk hi222_0
    have HC222_0 := Za.mk hl222_0
    clear hi222_0 hl222_0
    replace p222 := eq_true p222
    replace q222 := eq_true q222
    go_wp2
    repeat (go_quiet (fail); try go_wp2)
    go_ret
    exact ⟨by first | rfl | (simp [Zaq, Zar] <;> rfl) | (simp [*, Zaq, Zar] <;> rfl), by repeat (first | (with_reducible first | exact HB.out | apply Zac | apply Zaa | apply Zab | refine Zag ?_ GE221.out) | exact HB.out)⟩
   rw [if_pos c5] at H
   have c5b0 : (((Zbt l0_5 x3_1).length : Int) == (l0_1.length : Int)) = true := beq_iff_eq.mpr c5
   have c5b1 : (((Zbt l0_5 x3_1).length : Int) != (l0_1.length : Int)) = false := bne_eq_false_iff_eq.mpr c5
   have c5b2 : ((Zbt l0_5 x3_1).length == l0_1.length) = true := by first | simpa using c5 | (simp at c5 ⊢; omega)
   clear c5
   have H' := Za.mk H
   clear H
   obtain ⟨hcz6_0, hcz6_1, hcz6_2, hcz6_3, hcz6_4, hcz6_5, hcz6_6, hfz6_0, hfz6_1, hfz6_2, hfz6_3, hfz6_4, hfz6_5, hfz6_6⟩ := Zce BK221.out
   have p222 : 0 ≤ (x3_1 : Int) := of_decide_eq_true (by first | (with_reducible assumption) | assumption)
   have q222 : x3_1 < (l0_5.length : Int) := of_decide_eq_true (by first | (with_reducible assumption) | assumption)
   obtain ⟨ad222, A222_0, c222_0, e222, hx222_0, hl222_0, hi222_0⟩ := Zd2 HR0_5.out x3_1 p222 q222
   cases e222
   replace hx222_0 := (HB.out.cell (World.block_lt_of_cell? w _ hx222_0)).trans hx222_0
   have HR222_0 := Za.mk hi222_0
   have HC222_0 := Za.mk hl222_0
   clear hi222_0 hl222_0
   replace p222 := eq_true p222
   replace q222 := eq_true q222
   go_wp2
   repeat (go_quiet (fail); try go_wp2)
   go_loopg [4] k1 (fun kq v4 w' => ∃ (x4_2 : Int), v4 = .int .i64 x4_2 ∧ Za (Zay.l1 kq x3_1 x4_2 a0_0 l0_1 l0_2 a0_3 a0_4 l0_5 a0_6 = some r) ∧ Za (kq ≤ k1) ∧ Za (w'.heap[gb221]? = some (.cells #[.int .i64 a0_0, (.slice A0_1 l0_1.length c0_1), (.slice A0_2 l0_2.length c0_2), .int .i64 a0_3, .int .i64 a0_4, (.slice (some ad222) l0_5.length c0_5), .int .i64 a0_6] 25 (0, 0))) ∧ Za (Below w.heap.size w w'))
   case atStart => exact ⟨(0), (by first | rfl | (simp; done) | (simp [*]; done)), H', ⟨Nat.le_refl _⟩, ⟨by (with_reducible repeat (first | refine Zah ?_ _ | refine Zaj ?_ | refine Zaf ?_ _)); exact BK221.out⟩, ⟨by repeat (first | (with_reducible first | exact HB.out | apply Zac | apply Zaa | apply Zab | refine Zag ?_ GE221.out) | exact HB.out)⟩⟩
   case round =>
    clear H'
    try clear c2
    try clear p2
    try clear q2
    try clear hx2
    try clear c3
    try clear c3b0
    try clear c4
    try clear c4b0
    try clear c5
    try clear c5b0
    try clear c5b1
    try clear c5b2
    try clear hcz6_0
    try clear hcz6_1
    try clear hcz6_2
    try clear hcz6_3
    try clear hcz6_4
    try clear hcz6_5
    try clear hcz6_6
    try clear hfz6_0
    try clear hfz6_1
    try clear hfz6_2
    try clear hfz6_3
    try clear hfz6_4
    try clear hfz6_5
    try clear hfz6_6
    try clear hx222_0
    try clear p2
    try clear p222
    try clear q222
    obtain ⟨x4_2, rfl, HA, HK2, BK221, HB⟩ := hrel
    cases gk with
    | zero => exact absurd HA.out (by simp [Zay.l1])
    | succ k2 =>
     have H := HA.out
     clear HA
     simp only [Zay.l1] at H
     by_cases c7 : 0 ≤ x3_1
     rotate_left
     ·rw [if_neg c7] at H
      exact absurd H (by simp)
     rw [if_pos c7] at H
     have c7b0 : decide (0 ≤ x3_1) = true := decide_eq_true c7
     clear c7
     by_cases c8 : x3_1 < (l0_5.length : Int)
     rotate_left
     ·rw [if_neg c8] at H
      exact absurd H (by simp)
     rw [if_pos c8] at H
     have c8b0 : decide (x3_1 < (l0_5.length : Int)) = true := decide_eq_true c8
     clear c8
     by_cases c9 : x4_2 < ((Zbt l0_5 x3_1).length : Int)
     rotate_left
     ·rw [if_neg c9] at H
      have c9b0 : decide (x4_2 < ((Zbt l0_5 x3_1).length : Int)) = false := decide_eq_false c9
      clear c9
      have H' := Za.mk H
      clear H
      obtain ⟨hcz15_0, hcz15_1, hcz15_2, hcz15_3, hcz15_4, hcz15_5, hcz15_6, hfz15_0, hfz15_1, hfz15_2, hfz15_3, hfz15_4, hfz15_5, hfz15_6⟩ := Zce BK221.out
      have p223 : 0 ≤ (x3_1 : Int) := of_decide_eq_true (by first | (with_reducible assumption) | assumption)
      have q223 : x3_1 < (l0_5.length : Int) := of_decide_eq_true (by first | (with_reducible assumption) | assumption)
      obtain ⟨ad223, A223_0, c223_0, e223, hx223_0, hl223_0, hi223_0⟩ := Zd2 HR0_5.out x3_1 p223 q223
      obtain rfl : ad222 = ad223 := (by injection e223)
      replace hx223_0 := (HB.out.cell (World.block_lt_of_cell? w _ hx223_0)).trans hx223_0
      have HR223_0 := Za.mk hi223_0
      have HC223_0 := Za.mk hl223_0
      clear hi223_0 hl223_0
      replace p223 := eq_true p223
      replace q223 := eq_true q223
      go_wp2
      repeat (go_quiet (fail); try go_wp2)
      go_roundg k2
      case measure => have := HK1.out; have := HK2.out; omega
      case rel => exact ⟨(wrap64 (x3_1 + 1)), (by first | rfl | (simp; done) | (simp [*]; done)), H', ⟨by have := HK1.out; have := HK2.out; omega⟩, ⟨by (with_reducible repeat (first | refine Zah ?_ _ | refine Zaj ?_ | refine Zaf ?_ _)); exact BK221.out⟩, ⟨by repeat (first | (with_reducible first | exact HB.out | apply Zac | apply Zaa | apply Zab | refine Zag ?_ GE221.out) | exact HB.out)⟩⟩
     rw [if_pos c9] at H
     have c9b0 : decide (x4_2 < ((Zbt l0_5 x3_1).length : Int)) = true := decide_eq_true c9
     clear c9
     by_cases c10 : 0 ≤ x4_2
     rotate_left
     ·rw [if_neg c10] at H
      exact absurd H (by simp)
     rw [if_pos c10] at H
     have c10b0 : decide (0 ≤ x4_2) = true := decide_eq_true c10
     clear c10
     replace H := Option.bind_eq_some_iff.mp H
     obtain ⟨t226, A110, H⟩ := H
     replace H : (if t226 = true then (Zay.l1 k2 x3_1 (wrap64 (x4_2 + 1)) a0_0 l0_1 l0_2 a0_3 a0_4 l0_5 a0_6) else (some false)) = some r := H
     have A11 := Za.mk A110
     clear A110
     by_cases c12 : t226 = true
     rotate_left
     ·replace c12 := Bool.eq_false_iff.mpr c12
      subst c12
      have H1 : (some false) = some r := by rw [if_neg (show ¬ (false = true) by decide)] at H; exact H
      clear H
      have H := H1
      clear H1
      obtain rfl := Option.some.inj H
      obtain ⟨hcz14_0, hcz14_1, hcz14_2, hcz14_3, hcz14_4, hcz14_5, hcz14_6, hfz14_0, hfz14_1, hfz14_2, hfz14_3, hfz14_4, hfz14_5, hfz14_6⟩ := Zce BK221.out
      have p223 : 0 ≤ (x3_1 : Int) := of_decide_eq_true (by first | (with_reducible assumption) | assumption)
      have q223 : x3_1 < (l0_5.length : Int) := of_decide_eq_true (by first | (with_reducible assumption) | assumption)
      obtain ⟨ad223, A223_0, c223_0, e223, hx223_0, hl223_0, hi223_0⟩ := Zd2 HR0_5.out x3_1 p223 q223
      obtain rfl : ad222 = ad223 := (by injection e223)
      replace hx223_0 := (HB.out.cell (World.block_lt_of_cell? w _ hx223_0)).trans hx223_0
      have HR223_0 := Za.mk hi223_0
      have HC223_0 := Za.mk hl223_0
      clear hi223_0 hl223_0
      replace p223 := eq_true p223
      replace q223 := eq_true q223
      have p224 : 0 ≤ (x3_1 : Int) := of_decide_eq_true (by first | (with_reducible assumption) | assumption)
      have q224 : x3_1 < (l0_5.length : Int) := of_decide_eq_true (by first | (with_reducible assumption) | assumption)
      obtain ⟨ad224, A224_0, c224_0, e224, hx224_0, hl224_0, hi224_0⟩ := Zd2 HR0_5.out x3_1 p224 q224
      obtain rfl : ad222 = ad224 := (by injection e224)
      replace hx224_0 := (HB.out.cell (World.block_lt_of_cell? w _ hx224_0)).trans hx224_0
      have HR224_0 := Za.mk hi224_0
      have HC224_0 := Za.mk hl224_0
      clear hi224_0 hl224_0
      replace p224 := eq_true p224
      replace q224 := eq_true q224
      have ea_ := Option.some.inj (hx223_0.symm.trans hx224_0)
      injection ea_ with ea_ en_ ec_
      subst ea_
      subst ec_
      clear en_
      have p225 : 0 ≤ (x4_2 : Int) := of_decide_eq_true (by first | (with_reducible assumption) | assumption)
      have q225 : x4_2 < ((Zbt l0_5 x3_1).length : Int) := of_decide_eq_true (by first | (with_reducible assumption) | assumption)
      obtain ⟨ad225, e225, hx225_0⟩ := Kd.Zby HR224_0.out x4_2 p225 q225
      cases e225
      replace hx225_0 := (HB.out.cell (World.block_lt_of_cell? w _ hx225_0)).trans hx225_0
      replace p225 := eq_true p225
      replace q225 := eq_true q225
      go_wp2_with (first | (go_at_call 85; (with_reducible refine (Zbq.calls (rd (Zbt l0_5 x3_1) x4_2) false _ A11.out).mono ?_); rintro e w' ⟨rfl, ⟨nd, rfl⟩⟩; (try first | exact ⟨rfl, _, World.drewN_drewN _ _ _⟩ | exact ⟨rfl, _, Eq.trans (World.drewN_drewN _ _ _) (congrArg (World.drewN _) (Nat.add_assoc _ _ _))⟩)))
      repeat (go_quiet (first | (go_at_call 85; (with_reducible refine (Zbq.calls (rd (Zbt l0_5 x3_1) x4_2) false _ A11.out).mono ?_); rintro e w' ⟨rfl, ⟨nd, rfl⟩⟩; (try first | exact ⟨rfl, _, World.drewN_drewN _ _ _⟩ | exact ⟨rfl, _, Eq.trans (World.drewN_drewN _ _ _) (congrArg (World.drewN _) (Nat.add_assoc _ _ _))⟩))); try go_wp2_with (first | (go_at_call 85; (with_reducible refine (Zbq.calls (rd (Zbt l0_5 x3_1) x4_2) false _ A11.out).mono ?_); rintro e w' ⟨rfl, ⟨nd, rfl⟩⟩; (try first | exact ⟨rfl, _, World.drewN_drewN _ _ _⟩ | exact ⟨rfl, _, Eq.trans (World.drewN_drewN _ _ _) (congrArg (World.drewN _) (Nat.add_assoc _ _ _))⟩))))
      go_ret
      exact ⟨by first | rfl | (simp [Zaq, Zar] <;> rfl) | (simp [*, Zaq, Zar] <;> rfl), by repeat (first | (with_reducible first | exact HB.out | apply Zac | apply Zaa | apply Zab | refine Zag ?_ GE221.out) | exact HB.out)⟩
     subst c12
     have H1 : (Zay.l1 k2 x3_1 (wrap64 (x4_2 + 1)) a0_0 l0_1 l0_2 a0_3 a0_4 l0_5 a0_6) = some r := by rw [if_pos rfl] at H; exact H
     clear H
     have H := H1
     clear H1
     have H' := Za.mk H
     clear H
     obtain ⟨hcz13_0, hcz13_1, hcz13_2, hcz13_3, hcz13_4, hcz13_5, hcz13_6, hfz13_0, hfz13_1, hfz13_2, hfz13_3, hfz13_4, hfz13_5, hfz13_6⟩ := Zce BK221.out
     have p223 : 0 ≤ (x3_1 : Int) := of_decide_eq_true (by first | (with_reducible assumption) | assumption)
     have q223 : x3_1 < (l0_5.length : Int) := of_decide_eq_true (by first | (with_reducible assumption) | assumption)
     obtain ⟨ad223, A223_0, c223_0, e223, hx223_0, hl223_0, hi223_0⟩ := Zd2 HR0_5.out x3_1 p223 q223
     obtain rfl : ad222 = ad223 := (by injection e223)
     replace hx223_0 := (HB.out.cell (World.block_lt_of_cell? w _ hx223_0)).trans hx223_0
     have HR223_0 := Za.mk hi223_0
     have HC223_0 := Za.mk hl223_0
     clear hi223_0 hl223_0
     replace p223 := eq_true p223
     replace q223 := eq_true q223
     have p224 : 0 ≤ (x3_1 : Int) := of_decide_eq_true (by first | (with_reducible assumption) | assumption)
     have q224 : x3_1 < (l0_5.length : Int) := of_decide_eq_true (by first | (with_reducible assumption) | assumption)
     obtain ⟨ad224, A224_0, c224_0, e224, hx224_0, hl224_0, hi224_0⟩ := Zd2 HR0_5.out x3_1 p224 q224
     obtain rfl : ad222 = ad224 := (by injection e224)
     replace hx224_0 := (HB.out.cell (World.block_lt_of_cell? w _ hx224_0)).trans hx224_0
     have HR224_0 := Za.mk hi224_0
     have HC224_0 := Za.mk hl224_0
     clear hi224_0 hl224_0
     replace p224 := eq_true p224
     replace q224 := eq_true q224
     have ea_ := Option.some.inj (hx223_0.symm.trans hx224_0)
     injection ea_ with ea_ en_ ec_
     subst ea_
     subst ec_
     clear en_
     have p225 : 0 ≤ (x4_2 : Int) := of_decide_eq_true (by first | (with_reducible assumption) | assumption)
     have q225 : x4_2 < ((Zbt l0_5 x3_1).length : Int) := of_decide_eq_true (by first | (with_reducible assumption) | assumption)
     obtain ⟨ad225, e225, hx225_0⟩ := Kd.Zby HR224_0.out x4_2 p225 q225
     cases e225
     replace hx225_0 := (HB.out.cell (World.block_lt_of_cell? w _ hx225_0)).trans hx225_0
     replace p225 := eq_true p225
     replace q225 := eq_true q225
     go_wp2_with (first | (go_at_call 85; (with_reducible refine (Zbq.calls (rd (Zbt l0_5 x3_1) x4_2) true _ A11.out).mono ?_); rintro e w' ⟨rfl, ⟨nd, rfl⟩⟩; (try first | exact ⟨rfl, _, World.drewN_drewN _ _ _⟩ | exact ⟨rfl, _, Eq.trans (World.drewN_drewN _ _ _) (congrArg (World.drewN _) (Nat.add_assoc _ _ _))⟩)))
     repeat (go_quiet (first | (go_at_call 85; (with_reducible refine (Zbq.calls (rd (Zbt l0_5 x3_1) x4_2) true _ A11.out).mono ?_); rintro e w' ⟨rfl, ⟨nd, rfl⟩⟩; (try first | exact ⟨rfl, _, World.drewN_drewN _ _ _⟩ | exact ⟨rfl, _, Eq.trans (World.drewN_drewN _ _ _) (congrArg (World.drewN _) (Nat.add_assoc _ _ _))⟩))); try go_wp2_with (first | (go_at_call 85; (with_reducible refine (Zbq.calls (rd (Zbt l0_5 x3_1) x4_2) true _ A11.out).mono ?_); rintro e w' ⟨rfl, ⟨nd, rfl⟩⟩; (try first | exact ⟨rfl, _, World.drewN_drewN _ _ _⟩ | exact ⟨rfl, _, Eq.trans (World.drewN_drewN _ _ _) (congrArg (World.drewN _) (Nat.add_assoc _ _ _))⟩))))
     go_roundg k2
     case measure => have := HK1.out; have := HK2.out; omega
     case rel => exact ⟨(wrap64 (x4_2 + 1)), (by first | rfl | (simp; done) | (simp [*]; done)), H', ⟨by have := HK1.out; have := HK2.out; omega⟩, ⟨by (with_reducible repeat (first | refine Zah ?_ _ | refine Zaj ?_ | refine Zaf ?_ _)); exact BK221.out⟩, ⟨by repeat (first | (with_reducible first | exact HB.out | apply Zac | apply Zaa | apply Zab | refine Zag ?_ GE221.out) | exact HB.out)⟩⟩
mutual
def Zak.j0 : Nat → Bool → Int → List Int → List Int → Int → Int → List (List Int) → Int → Option (Bool)
 | 0, _, _, _, _, _, _, _, _ => none
 | k + 1, x5, x236000, x236001, x236002, x236003, x236004, x236005, x236006 => if x5 = true then (Zak.j1 k ((x236002.length : Int) == 0) x236000 x236001 x236002 x236003 x236004 x236005 x236006) else (Zak.j1 k false x236000 x236001 x236002 x236003 x236004 x236005 x236006)
def Zak.j1 : Nat → Bool → Int → List Int → List Int → Int → Int → List (List Int) → Int → Option (Bool)
 | 0, _, _, _, _, _, _, _, _ => none
 | k + 1, x6, x236000, x236001, x236002, x236003, x236004, x236005, x236006 => if x236003 ≥ 0 then (Zak.j2 k x6 x236000 x236001 x236002 x236003 x236004 x236005 x236006) else (Zak.j2 k x6 x236000 x236001 x236002 x236003 x236004 x236005 x236006)
def Zak.j2 : Nat → Bool → Int → List Int → List Int → Int → Int → List (List Int) → Int → Option (Bool)
 | 0, _, _, _, _, _, _, _, _ => none
 | k + 1, x6, x236000, x236001, x236002, x236003, x236004, x236005, x236006 => if (x236001.length : Int) > 0 then ((Za1.f k x236001).bind fun t236 => (Zak.j3 k x6 t236 x236000 x236001 x236002 x236003 x236004 x236005 x236006)) else (Zak.j3 k x6 false x236000 x236001 x236002 x236003 x236004 x236005 x236006)
def Zak.j3 : Nat → Bool → Bool → Int → List Int → List Int → Int → Int → List (List Int) → Int → Option (Bool)
 | 0, _, _, _, _, _, _, _, _, _ => none
 | k + 1, x6, x8, x236000, x236001, x236002, x236003, x236004, x236005, x236006 => if x236000 = 0 then (none) else (if x236000 = 1 then (none) else (if x236000 = 2 then (if x6 = true then (if x8 = true then ((Zay.f k x236000 x236001 x236002 x236003 x236004 x236005 x236006).bind fun t237 => (some t237)) else (some false)) else (some false)) else (if x236000 = 3 then (if (x236005.length : Int) = 0 then (if x6 = true then (if x8 = true then (some (decide ((x236001.length : Int) ≥ 3))) else (some false)) else (some false)) else (some false)) else (none))))
end
def Zak.f (k : Nat) (l0 : List (List (S41))) (a1_0 : Int) (l1_1 : List Int) (l1_2 : List Int) (a1_3 : Int) (a1_4 : Int) (l1_5 : List (List Int)) (a1_6 : Int) : Option (Bool) := if a1_3 = 0 then (if a1_4 = 0 then (Zak.j0 k (a1_6 == 0) a1_0 l1_1 l1_2 a1_3 a1_4 l1_5 a1_6) else (Zak.j0 k false a1_0 l1_1 l1_2 a1_3 a1_4 l1_5 a1_6)) else (Zak.j0 k false a1_0 l1_1 l1_2 a1_3 a1_4 l1_5 a1_6)
set_option maxHeartbeats 8000000 in
set_option maxRecDepth 100000 in
theorem Zak.calls (k : Nat) (A0 : Option Addr) (c0 : Nat) (l0 : List (List (S41))) (a1_0 : Int) (A1_1 : Option Addr) (c1_1 : Nat) (l1_1 : List Int) (A1_2 : Option Addr) (c1_2 : Nat) (l1_2 : List Int) (a1_3 : Int) (a1_4 : Int) (A1_5 : Option Addr) (c1_5 : Nat) (l1_5 : List (List Int)) (a1_6 : Int) (r : Bool) (w : World) (hr0 : Kd.C (Kd.slice 41 k41) w A0 l0.length l0) (hc0 : l0.length ≤ c0) (hr1_1 : Kd.C (Kd.int .i64) w A1_1 l1_1.length l1_1) (hc1_1 : l1_1.length ≤ c1_1) (hr1_2 : Kd.C (Kd.int .i64) w A1_2 l1_2.length l1_2) (hc1_2 : l1_2.length ≤ c1_2) (hr1_5 : Kd.C (Kd.slice 3 (Kd.int .i64)) w A1_5 l1_5.length l1_5) (hc1_5 : l1_5.length ≤ c1_5) (h : Zak.f k l0 a1_0 l1_1 l1_2 a1_3 a1_4 l1_5 a1_6 = some r) :
  Calls Try.prog 61 #[.slice A0 l0.length c0, .agg #[.int .i64 a1_0, .slice A1_1 l1_1.length c1_1, .slice A1_2 l1_2.length c1_2, .int .i64 a1_3, .int .i64 a1_4, .slice A1_5 l1_5.length c1_5, .int .i64 a1_6]] w fun e w' => e = .returned (.bool r) ∧ Below w.heap.size w w' := by
 have hu25 := Try.underlying25
 have HR0 := Za.mk hr0
 have HC0 := Za.mk hc0
 clear hr0 hc0
 have HR1_1 := Za.mk hr1_1
 have HC1_1 := Za.mk hc1_1
 clear hr1_1 hc1_1
 have HR1_2 := Za.mk hr1_2
 have HC1_2 := Za.mk hc1_2
 clear hr1_2 hc1_2
 have HR1_5 := Za.mk hr1_5
 have HC1_5 := Za.mk hc1_5
 clear hr1_5 hc1_5
 have HB := Za.mk (Below.refl w.heap.size w)
 have H : (if a1_3 = 0 then (if a1_4 = 0 then (Zak.j0 k (a1_6 == 0) a1_0 l1_1 l1_2 a1_3 a1_4 l1_5 a1_6) else (Zak.j0 k false a1_0 l1_1 l1_2 a1_3 a1_4 l1_5 a1_6)) else (Zak.j0 k false a1_0 l1_1 l1_2 a1_3 a1_4 l1_5 a1_6)) = some r := h
 clear h
 have HC3 := Za.mk H
 clear H
 go_enter Try.func61, Try.ntmps61
 go_upto_region 1 with (first | ((with_reducible refine Zbv (N := 3) rfl ?_); (try (refine Zgp (by rfl) ?_; dsimp only)); refine Zb4 ?hg (N := 3) ?hd (cs := #[.int .i64 a1_0, .slice A1_1 l1_1.length c1_1, .slice A1_2 l1_2.length c1_2, .int .i64 a1_3, .int .i64 a1_4, .slice A1_5 l1_5.length c1_5, .int .i64 a1_6]) (t := 25) ?hr ?_; (case hd => rfl); (case hg => rfl); (case hr => first | (go_simp; done) | (go_simp; rfl)); intro gb235 hg w4 hbox hb; have n0_ := Za.mk (Zan (by repeat (first | (with_reducible first | exact HB.out | apply Zac | apply Zaa | apply Zab) | exact HB.out)) hb); have n1_ := Za.mk (hbox); have n3_ := Za.mk ((by rw [hg]; exact (Zam (by repeat (first | (with_reducible first | exact HB.out | apply Zac | apply Zaa | apply Zab) | exact HB.out))) : w.heap.size ≤ gb235)); clear HB; have HB := n0_; have BK235 := n1_; have GE235 := n3_; clear n0_ n1_ n3_; clear hb hbox hg))
 (try simp only [Act.put, List.setIfInBounds_toArray, List.set_cons_zero, List.set_cons_succ])
 go_cut [5] (fun v5 wc => ∃ (kq : Nat) (x5_2 : Bool), v5 = .bool x5_2 ∧ Za (Zak.j0 kq x5_2 a1_0 l1_1 l1_2 a1_3 a1_4 l1_5 a1_6 = some r) ∧ Za (kq ≤ k) ∧ Za (wc.heap[gb235]? = some (.cells #[.int .i64 a1_0, (.slice A1_1 l1_1.length c1_1), (.slice A1_2 l1_2.length c1_2), .int .i64 a1_3, .int .i64 a1_4, (.slice A1_5 l1_5.length c1_5), .int .i64 a1_6] 25 (0, 0))) ∧ Za (Below w.heap.size w wc))
 case first =>
  have H := HC3.out
  clear HC3
  by_cases c5 : a1_3 = 0
  rotate_left
  ·rw [if_neg c5] at H
   have c5b0 : (a1_3 == 0) = false := beq_eq_false_iff_ne.mpr c5
   have c5b1 : (a1_3 != 0) = true := bne_iff_ne.mpr c5
   (first | rw [c5b0] | (simp only [Za4, Za7]; rw [c5b0]) | skip)
   have H' := Za.mk H
   clear H
   obtain ⟨hcz9_0, hcz9_1, hcz9_2, hcz9_3, hcz9_4, hcz9_5, hcz9_6, hfz9_0, hfz9_1, hfz9_2, hfz9_3, hfz9_4, hfz9_5, hfz9_6⟩ := Zce BK235.out
   go_wp2
   go_meet
   case rel => exact ⟨_, (false), (by first | rfl | (simp; done) | (simp [*]; done)), H', ⟨by first | omega | exact Nat.le_refl _⟩, ⟨by (with_reducible repeat (first | refine Zah ?_ _ | refine Zaj ?_ | refine Zaf ?_ _)); exact BK235.out⟩, ⟨by repeat (first | (with_reducible first | exact HB.out | apply Zac | apply Zaa | apply Zab | refine Zag ?_ GE235.out) | exact HB.out)⟩⟩
  rw [if_pos c5] at H
  have c5b0 : (a1_3 == 0) = true := beq_iff_eq.mpr c5
  have c5b1 : (a1_3 != 0) = false := bne_eq_false_iff_eq.mpr c5
  clear c5
  (first | rw [c5b0] | (simp only [Za4, Za7]; rw [c5b0]) | skip)
  by_cases c6 : a1_4 = 0
  rotate_left
  ·rw [if_neg c6] at H
   have c6b0 : (a1_4 == 0) = false := beq_eq_false_iff_ne.mpr c6
   have c6b1 : (a1_4 != 0) = true := bne_iff_ne.mpr c6
   have H' := Za.mk H
   clear H
   obtain ⟨hcz8_0, hcz8_1, hcz8_2, hcz8_3, hcz8_4, hcz8_5, hcz8_6, hfz8_0, hfz8_1, hfz8_2, hfz8_3, hfz8_4, hfz8_5, hfz8_6⟩ := Zce BK235.out
   go_wp2
   go_meet
   case rel => exact ⟨_, (false), (by first | rfl | (simp; done) | (simp [*]; done)), H', ⟨by first | omega | exact Nat.le_refl _⟩, ⟨by (with_reducible repeat (first | refine Zah ?_ _ | refine Zaj ?_ | refine Zaf ?_ _)); exact BK235.out⟩, ⟨by repeat (first | (with_reducible first | exact HB.out | apply Zac | apply Zaa | apply Zab | refine Zag ?_ GE235.out) | exact HB.out)⟩⟩
  rw [if_pos c6] at H
  have c6b0 : (a1_4 == 0) = true := beq_iff_eq.mpr c6
  have c6b1 : (a1_4 != 0) = false := bne_eq_false_iff_eq.mpr c6
  clear c6
  have H' := Za.mk H
  clear H
  obtain ⟨hcz7_0, hcz7_1, hcz7_2, hcz7_3, hcz7_4, hcz7_5, hcz7_6, hfz7_0, hfz7_1, hfz7_2, hfz7_3, hfz7_4, hfz7_5, hfz7_6⟩ := Zce BK235.out
  go_wp2
  go_meet
  case rel => exact ⟨_, ((a1_6 == 0)), (by first | rfl | (simp; done) | (simp [*]; done)), H', ⟨by first | omega | exact Nat.le_refl _⟩, ⟨by (with_reducible repeat (first | refine Zah ?_ _ | refine Zaj ?_ | refine Zaf ?_ _)); exact BK235.out⟩, ⟨by repeat (first | (with_reducible first | exact HB.out | apply Zac | apply Zaa | apply Zab | refine Zag ?_ GE235.out) | exact HB.out)⟩⟩
 case rest =>
  clear HC3
  try clear c1
  try clear p2
  try clear c5
  try clear c5b0
  try clear c5b1
  try clear c6
  try clear c6b0
  try clear c6b1
  try clear hcz7_0
  try clear hcz7_1
  try clear hcz7_2
  try clear hcz7_3
  try clear hcz7_4
  try clear hcz7_5
  try clear hcz7_6
  try clear hcz8_0
  try clear hcz8_1
  try clear hcz8_2
  try clear hcz8_3
  try clear hcz8_4
  try clear hcz8_5
  try clear hcz8_6
  try clear hcz9_0
  try clear hcz9_1
  try clear hcz9_2
  try clear hcz9_3
  try clear hcz9_4
  try clear hcz9_5
  try clear hcz9_6
  try clear hfz7_0
  try clear hfz7_1
  try clear hfz7_2
  try clear hfz7_3
  try clear hfz7_4
  try clear hfz7_5
  try clear hfz7_6
  try clear hfz8_0
  try clear hfz8_1
  try clear hfz8_2
  try clear hfz8_3
  try clear hfz8_4
  try clear hfz8_5
  try clear hfz8_6
  try clear hfz9_0
  try clear hfz9_1
  try clear hfz9_2
  try clear hfz9_3
  try clear hfz9_4
  try clear hfz9_5
  try clear hfz9_6
  obtain ⟨kq, x5_2, rfl, HA, HJ2, BK235, HB⟩ := hcut
  cases kq with
  | zero => exact absurd HA.out (by simp [Zak.j0])
  | succ kj2 =>
   have H := HA.out
   clear HA
   simp only [Zak.j0] at H
   have HC10 := Za.mk H
   clear H
   go_upto_region 2 with (fail)
   go_cut [6] (fun v6 wc => ∃ (kq : Nat) (x6_9 : Bool), v6 = .bool x6_9 ∧ Za (Zak.j1 kq x6_9 a1_0 l1_1 l1_2 a1_3 a1_4 l1_5 a1_6 = some r) ∧ Za (kq ≤ kj2) ∧ Za (wc.heap[gb235]? = some (.cells #[.int .i64 a1_0, (.slice A1_1 l1_1.length c1_1), (.slice A1_2 l1_2.length c1_2), .int .i64 a1_3, .int .i64 a1_4, (.slice A1_5 l1_5.length c1_5), .int .i64 a1_6] 25 (0, 0))) ∧ Za (Below w.heap.size w wc))
   case first =>
    have H := HC10.out
    clear HC10
    by_cases c11 : x5_2 = true
    rotate_left
    ·replace c11 := Bool.eq_false_iff.mpr c11
     subst c11
     have H1 : (Zak.j1 kj2 false a1_0 l1_1 l1_2 a1_3 a1_4 l1_5 a1_6) = some r := by rw [if_neg (show ¬ (false = true) by decide)] at H; exact H
     clear H
     have H := H1
     clear H1
     have H' := Za.mk H
     clear H
     go_wp2
     go_meet
     case rel => exact ⟨_, (false), (by first | rfl | (simp; done) | (simp [*]; done)), H', ⟨by have := HJ2.out; first | omega | exact Nat.le_refl _⟩, ⟨by (with_reducible repeat (first | refine Zah ?_ _ | refine Zaj ?_ | refine Zaf ?_ _)); exact BK235.out⟩, ⟨by repeat (first | (with_reducible first | exact HB.out | apply Zac | apply Zaa | apply Zab | refine Zag ?_ GE235.out) | exact HB.out)⟩⟩
    subst c11
    have H1 : (Zak.j1 kj2 ((l1_2.length : Int) == 0) a1_0 l1_1 l1_2 a1_3 a1_4 l1_5 a1_6) = some r := by rw [if_pos rfl] at H; exact H
    clear H
    have H := H1
    clear H1
    have H' := Za.mk H
    clear H
    obtain ⟨hcz12_0, hcz12_1, hcz12_2, hcz12_3, hcz12_4, hcz12_5, hcz12_6, hfz12_0, hfz12_1, hfz12_2, hfz12_3, hfz12_4, hfz12_5, hfz12_6⟩ := Zce BK235.out
    go_wp2
    go_meet
    case rel => exact ⟨_, (((l1_2.length : Int) == 0)), (by first | rfl | (simp; done) | (simp [*]; done)), H', ⟨by have := HJ2.out; first | omega | exact Nat.le_refl _⟩, ⟨by (with_reducible repeat (first | refine Zah ?_ _ | refine Zaj ?_ | refine Zaf ?_ _)); exact BK235.out⟩, ⟨by repeat (first | (with_reducible first | exact HB.out | apply Zac | apply Zaa | apply Zab | refine Zag ?_ GE235.out) | exact HB.out)⟩⟩
   case rest =>
    clear HC10
    try clear c1
    try clear p2
    try clear c5
    try clear c5b0
    try clear c5b1
    try clear c6
    try clear c6b0
    try clear c6b1
    try clear c11
    try clear hcz12_0
    try clear hcz12_1
    try clear hcz12_2
    try clear hcz12_3
    try clear hcz12_4
    try clear hcz12_5
    try clear hcz12_6
    try clear hcz7_0
    try clear hcz7_1
    try clear hcz7_2
    try clear hcz7_3
    try clear hcz7_4
    try clear hcz7_5
    try clear hcz7_6
    try clear hcz8_0
    try clear hcz8_1
    try clear hcz8_2
    try clear hcz8_3
    try clear hcz8_4
    try clear hcz8_5
    try clear hcz8_6
    try clear hcz9_0
    try clear hcz9_1
    try clear hcz9_2
    try clear hcz9_3
    try clear hcz9_4
    try clear hcz9_5
    try clear hcz9_6
    try clear hfz12_0
    try clear hfz12_1
    try clear hfz12_2
    try clear hfz12_3
    try clear hfz12_4
    try clear hfz12_5
    try clear hfz12_6
    try clear hfz7_0
    try clear hfz7_1
    try clear hfz7_2
    try clear hfz7_3
    try clear hfz7_4
    try clear hfz7_5
    try clear hfz7_6
    try clear hfz8_0
    try clear hfz8_1
    try clear hfz8_2
    try clear hfz8_3
    try clear hfz8_4
    try clear hfz8_5
    try clear hfz8_6
    try clear hfz9_0
    try clear hfz9_1
    try clear hfz9_2
    try clear hfz9_3
    try clear hfz9_4
    try clear hfz9_5
    try clear hfz9_6
    try clear p2
    obtain ⟨kq, x6_9, rfl, HA, HJ9, BK235, HB⟩ := hcut
    cases kq with
    | zero => exact absurd HA.out (by simp [Zak.j1])
    | succ kj9 =>
     have H := HA.out
     clear HA
     simp only [Zak.j1] at H
     have HC13 := Za.mk H
     clear H
     go_upto_region 3 with (fail)
     go_cut [] (fun wc => ∃ (kq : Nat), Za (Zak.j2 kq x6_9 a1_0 l1_1 l1_2 a1_3 a1_4 l1_5 a1_6 = some r) ∧ Za (kq ≤ kj9) ∧ Za (wc.heap[gb235]? = some (.cells #[.int .i64 a1_0, (.slice A1_1 l1_1.length c1_1), (.slice A1_2 l1_2.length c1_2), .int .i64 a1_3, .int .i64 a1_4, (.slice A1_5 l1_5.length c1_5), .int .i64 a1_6] 25 (0, 0))) ∧ Za (Below w.heap.size w wc))
     case first =>
      have H := HC13.out
      clear HC13
      by_cases c14 : a1_3 ≥ 0
      ·rw [if_pos c14] at H
       have c14b0 : decide (0 ≤ a1_3) = true := decide_eq_true c14
       clear c14
       (first | rw [c14b0] | (simp only [Za4, Za7]; rw [c14b0]) | skip)
       have H' := Za.mk H
       clear H
       obtain ⟨hcz15_0, hcz15_1, hcz15_2, hcz15_3, hcz15_4, hcz15_5, hcz15_6, hfz15_0, hfz15_1, hfz15_2, hfz15_3, hfz15_4, hfz15_5, hfz15_6⟩ := Zce BK235.out
       go_wp2
       go_meet
       case rel => exact ⟨_, H', ⟨by have := HJ2.out; have := HJ9.out; first | omega | exact Nat.le_refl _⟩, ⟨by (with_reducible repeat (first | refine Zah ?_ _ | refine Zaj ?_ | refine Zaf ?_ _)); exact BK235.out⟩, ⟨by repeat (first | (with_reducible first | exact HB.out | apply Zac | apply Zaa | apply Zab | refine Zag ?_ GE235.out) | exact HB.out)⟩⟩
      rw [if_neg c14] at H
      have c14b0 : decide (0 ≤ a1_3) = false := decide_eq_false c14
      clear c14
      (first | rw [c14b0] | (simp only [Za4, Za7]; rw [c14b0]) | skip)
      have H' := Za.mk H
      clear H
      obtain ⟨hcz16_0, hcz16_1, hcz16_2, hcz16_3, hcz16_4, hcz16_5, hcz16_6, hfz16_0, hfz16_1, hfz16_2, hfz16_3, hfz16_4, hfz16_5, hfz16_6⟩ := Zce BK235.out
      go_wp2
      go_meet
      case rel => exact ⟨_, H', ⟨by have := HJ2.out; have := HJ9.out; first | omega | exact Nat.le_refl _⟩, ⟨by (with_reducible repeat (first | refine Zah ?_ _ | refine Zaj ?_ | refine Zaf ?_ _)); exact BK235.out⟩, ⟨by repeat (first | (with_reducible first | exact HB.out | apply Zac | apply Zaa | apply Zab | refine Zag ?_ GE235.out) | exact HB.out)⟩⟩
     case rest =>
      clear HC13
      try clear c1
      try clear p2
      try clear c5
      try clear c5b0
      try clear c5b1
      try clear c6
      try clear c6b0
      try clear c6b1
      try clear c11
      try clear c14
      try clear c14b0
      try clear hcz12_0
      try clear hcz12_1
      try clear hcz12_2
      try clear hcz12_3
      try clear hcz12_4
      try clear hcz12_5
      try clear hcz12_6
      try clear hcz15_0
      try clear hcz15_1
      try clear hcz15_2
      try clear hcz15_3
      try clear hcz15_4
      try clear hcz15_5
      try clear hcz15_6
      try clear hcz16_0
      try clear hcz16_1
      try clear hcz16_2
      try clear hcz16_3
      try clear hcz16_4
      try clear hcz16_5
      try clear hcz16_6
      try clear hcz7_0
      try clear hcz7_1
      try clear hcz7_2
      try clear hcz7_3
      try clear hcz7_4
      try clear hcz7_5
      try clear hcz7_6
      try clear hcz8_0
      try clear hcz8_1
      try clear hcz8_2
      try clear hcz8_3
      try clear hcz8_4
      try clear hcz8_5
      try clear hcz8_6
      try clear hcz9_0
      try clear hcz9_1
      try clear hcz9_2
      try clear hcz9_3
      try clear hcz9_4
      try clear hcz9_5
      try clear hcz9_6
      try clear hfz12_0
      try clear hfz12_1
      try clear hfz12_2
      try clear hfz12_3
      try clear hfz12_4
      try clear hfz12_5
      try clear hfz12_6
      try clear hfz15_0
      try clear hfz15_1
      try clear hfz15_2
      try clear hfz15_3
      try clear hfz15_4
      try clear hfz15_5
      try clear hfz15_6
      try clear hfz16_0
      try clear hfz16_1
      try clear hfz16_2
      try clear hfz16_3
      try clear hfz16_4
      try clear hfz16_5
      try clear hfz16_6
      try clear hfz7_0
      try clear hfz7_1
      try clear hfz7_2
      try clear hfz7_3
      try clear hfz7_4
      try clear hfz7_5
      try clear hfz7_6
      try clear hfz8_0
      try clear hfz8_1
      try clear hfz8_2
      try clear hfz8_3
      try clear hfz8_4
      try clear hfz8_5
      try clear hfz8_6
      try clear hfz9_0
      try clear hfz9_1
      try clear hfz9_2
      try clear hfz9_3
      try clear hfz9_4
      try clear hfz9_5
      try clear hfz9_6
      try clear p2
      obtain ⟨kq, HA, HJ12, BK235, HB⟩ := hcut
      cases kq with
      | zero => exact absurd HA.out (by simp [Zak.j2])
      | succ kj12 =>
       have H := HA.out
       clear HA
       simp only [Zak.j2] at H
       have HC17 := Za.mk H
       clear H
       go_upto_region 4 with (fail)
       go_cut [8] (fun v8 wc => ∃ (kq : Nat) (x8_16 : Bool), v8 = .bool x8_16 ∧ Za (Zak.j3 kq x6_9 x8_16 a1_0 l1_1 l1_2 a1_3 a1_4 l1_5 a1_6 = some r) ∧ Za (kq ≤ kj12) ∧ Za (wc.heap[gb235]? = some (.cells #[.int .i64 a1_0, (.slice A1_1 l1_1.length c1_1), (.slice A1_2 l1_2.length c1_2), .int .i64 a1_3, .int .i64 a1_4, (.slice A1_5 l1_5.length c1_5), .int .i64 a1_6] 25 (0, 0))) ∧ Za (Below w.heap.size w wc))
       case first =>
        have H := HC17.out
        clear HC17
        by_cases c18 : (l1_1.length : Int) > 0
        rotate_left
        ·rw [if_neg c18] at H
         have c18b0 : decide (0 < (l1_1.length : Int)) = false := decide_eq_false c18
         have c18b1 : decide (0 < l1_1.length) = false := decide_eq_false (by omega)
         clear c18
         (first | rw [c18b0] | (simp only [Za4, Za7]; rw [c18b0]) | skip)
         have H' := Za.mk H
         clear H
         obtain ⟨hcz21_0, hcz21_1, hcz21_2, hcz21_3, hcz21_4, hcz21_5, hcz21_6, hfz21_0, hfz21_1, hfz21_2, hfz21_3, hfz21_4, hfz21_5, hfz21_6⟩ := Zce BK235.out
         go_wp2
         go_meet
         case rel => exact ⟨_, (false), (by first | rfl | (simp; done) | (simp [*]; done)), H', ⟨by have := HJ2.out; have := HJ9.out; have := HJ12.out; first | omega | exact Nat.le_refl _⟩, ⟨by (with_reducible repeat (first | refine Zah ?_ _ | refine Zaj ?_ | refine Zaf ?_ _)); exact BK235.out⟩, ⟨by repeat (first | (with_reducible first | exact HB.out | apply Zac | apply Zaa | apply Zab | refine Zag ?_ GE235.out) | exact HB.out)⟩⟩
        rw [if_pos c18] at H
        have c18b0 : decide (0 < (l1_1.length : Int)) = true := decide_eq_true c18
        have c18b1 : decide (0 < l1_1.length) = true := decide_eq_true (by omega)
        clear c18
        (first | rw [c18b0] | (simp only [Za4, Za7]; rw [c18b0]) | skip)
        replace H := Option.bind_eq_some_iff.mp H
        obtain ⟨t236, A190, H⟩ := H
        replace H : (Zak.j3 kj12 x6_9 t236 a1_0 l1_1 l1_2 a1_3 a1_4 l1_5 a1_6) = some r := H
        have A19 := Za.mk A190
        clear A190
        have H' := Za.mk H
        clear H
        obtain ⟨hcz20_0, hcz20_1, hcz20_2, hcz20_3, hcz20_4, hcz20_5, hcz20_6, hfz20_0, hfz20_1, hfz20_2, hfz20_3, hfz20_4, hfz20_5, hfz20_6⟩ := Zce BK235.out
        go_wp2_with (first | (go_at_call 86; (with_reducible refine (Za1.calls kj12 _ _ l1_1 t236 _ ?side1 ?side2 A19.out).mono ?_); (case side1 => repeat (first | exact (Kd.Zaw HR1_1.out HB.out) | (with_reducible refine Kd.C_alloc ?_ _) | (with_reducible refine Kd.Za0 ?_ _) | (with_reducible refine Kd.C_drew ?_))); (case side2 => exact HC1_1.out); rintro e w' ⟨rfl, ⟨nd, rfl⟩⟩))
        go_meet
        case rel => exact ⟨_, (t236), (by first | rfl | (simp; done) | (simp [*]; done)), H', ⟨by have := HJ2.out; have := HJ9.out; have := HJ12.out; first | omega | exact Nat.le_refl _⟩, ⟨by (with_reducible repeat (first | refine Zah ?_ _ | refine Zaj ?_ | refine Zaf ?_ _)); exact BK235.out⟩, ⟨by repeat (first | (with_reducible first | exact HB.out | apply Zac | apply Zaa | apply Zab | refine Zag ?_ GE235.out) | exact HB.out)⟩⟩
       case rest =>
        clear HC17
        try clear c1
        try clear p2
        try clear c5
        try clear c5b0
        try clear c5b1
        try clear c6
        try clear c6b0
        try clear c6b1
        try clear c11
        try clear c14
        try clear c14b0
        try clear c18
        try clear c18b0
        try clear c18b1
        try clear hcz12_0
        try clear hcz12_1
        try clear hcz12_2
        try clear hcz12_3
        try clear hcz12_4
        try clear hcz12_5
        try clear hcz12_6
        try clear hcz15_0
        try clear hcz15_1
        try clear hcz15_2
        try clear hcz15_3
        try clear hcz15_4
        try clear hcz15_5
        try clear hcz15_6
        try clear hcz16_0
        try clear hcz16_1
        try clear hcz16_2
        try clear hcz16_3
        try clear hcz16_4
        try clear hcz16_5
        try clear hcz16_6
        try clear hcz20_0
        try clear hcz20_1
        try clear hcz20_2
        try clear hcz20_3
        try clear hcz20_4
        try clear hcz20_5
        try clear hcz20_6
        try clear hcz21_0
        try clear hcz21_1
        try clear hcz21_2
        try clear hcz21_3
        try clear hcz21_4
        try clear hcz21_5
        try clear hcz21_6
        try clear hcz7_0
        try clear hcz7_1
        try clear hcz7_2
        try clear hcz7_3
        try clear hcz7_4
        try clear hcz7_5
        try clear hcz7_6
        try clear hcz8_0
        try clear hcz8_1
        try clear hcz8_2
        try clear hcz8_3
        try clear hcz8_4
        try clear hcz8_5
        try clear hcz8_6
        try clear hcz9_0
        try clear hcz9_1
        try clear hcz9_2
        try clear hcz9_3
        try clear hcz9_4
        try clear hcz9_5
        try clear hcz9_6
        try clear hfz12_0
        try clear hfz12_1
        try clear hfz12_2
        try clear hfz12_3
        try clear hfz12_4
        try clear hfz12_5
        try clear hfz12_6
        try clear hfz15_0
        try clear hfz15_1
        try clear hfz15_2
        try clear hfz15_3
        try clear hfz15_4
        try clear hfz15_5
        try clear hfz15_6
        try clear hfz16_0
        try clear hfz16_1
        try clear hfz16_2
        try clear hfz16_3
        try clear hfz16_4
        try clear hfz16_5
        try clear hfz16_6
        try clear hfz20_0
        try clear hfz20_1
        try clear hfz20_2
        try clear hfz20_3
        try clear hfz20_4
        try clear hfz20_5
        try clear hfz20_6
        try clear hfz21_0
        try clear hfz21_1
        try clear hfz21_2
        try clear hfz21_3
        try clear hfz21_4
        try clear hfz21_5
        try clear hfz21_6
        try clear hfz7_0
        try clear hfz7_1
        try clear hfz7_2
        try clear hfz7_3
        try clear hfz7_4
        try clear hfz7_5
        try clear hfz7_6
        try clear hfz8_0
        try clear hfz8_1
        try clear hfz8_2
        try clear hfz8_3
        try clear hfz8_4
        try clear hfz8_5
        try clear hfz8_6
        try clear hfz9_0
        try clear hfz9_1
        try clear hfz9_2
        try clear hfz9_3
        try clear hfz9_4
        try clear hfz9_5
        try clear hfz9_6
        try clear p2
        obtain ⟨kq, x8_16, rfl, HA, HJ16, BK235, HB⟩ := hcut
        cases kq with
        | zero => exact absurd HA.out (by simp [Zak.j3])
        | succ kj16 =>
         have H := HA.out
         clear HA
         simp only [Zak.j3] at H
         by_cases c22 : a1_0 = 0
         ·rw [if_pos c22] at H
          exact absurd H (by simp)
         rw [if_neg c22] at H
         have c22b0 : (a1_0 == 0) = false := beq_eq_false_iff_ne.mpr c22
         have c22b1 : (a1_0 != 0) = true := bne_iff_ne.mpr c22
         by_cases c23 : a1_0 = 1
         ·rw [if_pos c23] at H
          exact absurd H (by simp)
         rw [if_neg c23] at H
         have c23b0 : (a1_0 == 1) = false := beq_eq_false_iff_ne.mpr c23
         have c23b1 : (a1_0 != 1) = true := bne_iff_ne.mpr c23
         by_cases c24 : a1_0 = 2
         rotate_left
         ·rw [if_neg c24] at H
          have c24b0 : (a1_0 == 2) = false := beq_eq_false_iff_ne.mpr c24
          have c24b1 : (a1_0 != 2) = true := bne_iff_ne.mpr c24
          by_cases c32 : a1_0 = 3
          rotate_left
          ·rw [if_neg c32] at H
           exact absurd H (by simp)
          rw [if_pos c32] at H
          have c32b0 : (a1_0 == 3) = true := beq_iff_eq.mpr c32
          have c32b1 : (a1_0 != 3) = false := bne_eq_false_iff_eq.mpr c32
          clear c32
          by_cases c33 : (l1_5.length : Int) = 0
          rotate_left
          ·rw [if_neg c33] at H
           have c33b0 : ((l1_5.length : Int) == 0) = false := beq_eq_false_iff_ne.mpr c33
           have c33b1 : ((l1_5.length : Int) != 0) = true := bne_iff_ne.mpr c33
           have c33b2 : ¬ (l1_5 = []) := fun h_ => c33 (by rw [h_]; rfl)
           obtain rfl := Option.some.inj H
           obtain ⟨hcz39_0, hcz39_1, hcz39_2, hcz39_3, hcz39_4, hcz39_5, hcz39_6, hfz39_0, hfz39_1, hfz39_2, hfz39_3, hfz39_4, hfz39_5, hfz39_6⟩ := Zce BK235.out
           go_wp2
           go_ret
           exact ⟨by first | rfl | (simp [Zaq, Zar] <;> rfl) | (simp [*, Zaq, Zar] <;> rfl), by repeat (first | (with_reducible first | exact HB.out | apply Zac | apply Zaa | apply Zab | refine Zag ?_ GE235.out) | exact HB.out)⟩
          rw [if_pos c33] at H
          have c33b0 : ((l1_5.length : Int) == 0) = true := beq_iff_eq.mpr c33
          have c33b1 : ((l1_5.length : Int) != 0) = false := bne_eq_false_iff_eq.mpr c33
          clear c33
          by_cases c34 : x6_9 = true
          rotate_left
          ·replace c34 := Bool.eq_false_iff.mpr c34
           subst c34
           have H1 : (some false) = some r := by rw [if_neg (show ¬ (false = true) by decide)] at H; exact H
           clear H
           have H := H1
           clear H1
           obtain rfl := Option.some.inj H
           obtain ⟨hcz38_0, hcz38_1, hcz38_2, hcz38_3, hcz38_4, hcz38_5, hcz38_6, hfz38_0, hfz38_1, hfz38_2, hfz38_3, hfz38_4, hfz38_5, hfz38_6⟩ := Zce BK235.out
           go_wp2
           go_ret
           exact ⟨by first | rfl | (simp [Zaq, Zar] <;> rfl) | (simp [*, Zaq, Zar] <;> rfl), by repeat (first | (with_reducible first | exact HB.out | apply Zac | apply Zaa | apply Zab | refine Zag ?_ GE235.out) | exact HB.out)⟩
          subst c34
          have H1 : (if x8_16 = true then (some (decide ((l1_1.length : Int) ≥ 3))) else (some false)) = some r := by rw [if_pos rfl] at H; exact H
          clear H
          have H := H1
          clear H1
          by_cases c35 : x8_16 = true
          ·subst c35
           have H1 : (some (decide ((l1_1.length : Int) ≥ 3))) = some r := by rw [if_pos rfl] at H; exact H
           clear H
           have H := H1
           clear H1
           obtain rfl := Option.some.inj H
           obtain ⟨hcz36_0, hcz36_1, hcz36_2, hcz36_3, hcz36_4, hcz36_5, hcz36_6, hfz36_0, hfz36_1, hfz36_2, hfz36_3, hfz36_4, hfz36_5, hfz36_6⟩ := Zce BK235.out
           go_wp2
           go_ret
           exact ⟨by first | rfl | (simp [Zaq, Zar] <;> rfl) | (simp [*, Zaq, Zar] <;> rfl), by repeat (first | (with_reducible first | exact HB.out | apply Zac | apply Zaa | apply Zab | refine Zag ?_ GE235.out) | exact HB.out)⟩
          replace c35 := Bool.eq_false_iff.mpr c35
          subst c35
          have H1 : (some false) = some r := by rw [if_neg (show ¬ (false = true) by decide)] at H; exact H
          clear H
          have H := H1
          clear H1
          obtain rfl := Option.some.inj H
          obtain ⟨hcz37_0, hcz37_1, hcz37_2, hcz37_3, hcz37_4, hcz37_5, hcz37_6, hfz37_0, hfz37_1, hfz37_2, hfz37_3, hfz37_4, hfz37_5, hfz37_6⟩ := Zce BK235.out
          go_wp2
          go_ret
          exact ⟨by first | rfl | (simp [Zaq, Zar] <;> rfl) | (simp [*, Zaq, Zar] <;> rfl), by repeat (first | (with_reducible first | exact HB.out | apply Zac | apply Zaa | apply Zab | refine Zag ?_ GE235.out) | exact HB.out)⟩
         rw [if_pos c24] at H
         have c24b0 : (a1_0 == 2) = true := beq_iff_eq.mpr c24
         have c24b1 : (a1_0 != 2) = false := bne_eq_false_iff_eq.mpr c24
         clear c24
         by_cases c25 : x6_9 = true
         rotate_left
         ·replace c25 := Bool.eq_false_iff.mpr c25
          subst c25
          have H1 : (some false) = some r := by rw [if_neg (show ¬ (false = true) by decide)] at H; exact H
          clear H
          have H := H1
          clear H1
          obtain rfl := Option.some.inj H
          obtain ⟨hcz31_0, hcz31_1, hcz31_2, hcz31_3, hcz31_4, hcz31_5, hcz31_6, hfz31_0, hfz31_1, hfz31_2, hfz31_3, hfz31_4, hfz31_5, hfz31_6⟩ := Zce BK235.out
          go_wp2
          go_ret
          exact ⟨by first | rfl | (simp [Zaq, Zar] <;> rfl) | (simp [*, Zaq, Zar] <;> rfl), by repeat (first | (with_reducible first | exact HB.out | apply Zac | apply Zaa | apply Zab | refine Zag ?_ GE235.out) | exact HB.out)⟩
         subst c25
         have H1 : (if x8_16 = true then ((Zay.f kj16 a1_0 l1_1 l1_2 a1_3 a1_4 l1_5 a1_6).bind fun t237 => (some t237)) else (some false)) = some r := by rw [if_pos rfl] at H; exact H
         clear H
         have H := H1
         clear H1
         by_cases c26 : x8_16 = true
         rotate_left
         ·replace c26 := Bool.eq_false_iff.mpr c26
          subst c26
          have H1 : (some false) = some r := by rw [if_neg (show ¬ (false = true) by decide)] at H; exact H
          clear H
          have H := H1
          clear H1
          obtain rfl := Option.some.inj H
          obtain ⟨hcz30_0, hcz30_1, hcz30_2, hcz30_3, hcz30_4, hcz30_5, hcz30_6, hfz30_0, hfz30_1, hfz30_2, hfz30_3, hfz30_4, hfz30_5, hfz30_6⟩ := Zce BK235.out
          go_wp2
          go_ret
          exact ⟨by first | rfl | (simp [Zaq, Zar] <;> rfl) | (simp [*, Zaq, Zar] <;> rfl), by repeat (first | (with_reducible first | exact HB.out | apply Zac | apply Zaa | apply Zab | refine Zag ?_ GE235.out) | exact HB.out)⟩
         subst c26
         have H1 : ((Zay.f kj16 a1_0 l1_1 l1_2 a1_3 a1_4 l1_5 a1_6).bind fun t237 => (some t237)) = some r := by rw [if_pos rfl] at H; exact H
         clear H
         have H := H1
         clear H1
         replace H := Option.bind_eq_some_iff.mp H
         obtain ⟨t237, A270, H⟩ := H
         replace H : (some t237) = some r := H
         have A27 := Za.mk A270
         clear A270
         obtain rfl := Option.some.inj H
         obtain ⟨hcz28_0, hcz28_1, hcz28_2, hcz28_3, hcz28_4, hcz28_5, hcz28_6, hfz28_0, hfz28_1, hfz28_2, hfz28_3, hfz28_4, hfz28_5, hfz28_6⟩ := Zce BK235.out
         go_wp2_with (first | (go_at_call 88; (with_reducible refine (Zay.calls kj16 a1_0 _ _ l1_1 _ _ l1_2 a1_3 a1_4 _ _ l1_5 a1_6 t237 _ ?side1 ?side2 ?side3 ?side4 ?side5 ?side6 A27.out).mono ?_); (case side1 => repeat (first | exact (Kd.Zaw HR1_1.out HB.out) | (with_reducible refine Kd.C_alloc ?_ _) | (with_reducible refine Kd.Za0 ?_ _) | (with_reducible refine Kd.C_drew ?_))); (case side2 => exact HC1_1.out); (case side3 => repeat (first | exact (Kd.Zaw HR1_2.out HB.out) | (with_reducible refine Kd.C_alloc ?_ _) | (with_reducible refine Kd.Za0 ?_ _) | (with_reducible refine Kd.C_drew ?_))); (case side4 => exact HC1_2.out); (case side5 => repeat (first | exact (Kd.Zaw HR1_5.out HB.out) | (with_reducible refine Kd.C_alloc ?_ _) | (with_reducible refine Kd.Za0 ?_ _) | (with_reducible refine Kd.C_drew ?_))); (case side6 => exact HC1_5.out); rintro e w29 ⟨rfl, hb⟩; have n1_ := Za.mk (Zan (by repeat (first | (with_reducible first | exact HB.out | apply Zac | apply Zaa | apply Zab | refine Zag ?_ GE235.out) | exact HB.out)) hb); clear BK235; clear HB; have HB := n1_; clear n1_; (try clear hb); (try clear hb2); (try clear hk); (try clear hi)))
         go_ret
         exact ⟨by first | rfl | (simp [Zaq, Zar] <;> rfl) | (simp [*, Zaq, Zar] <;> rfl), by repeat (first | (with_reducible first | exact HB.out | apply Zac | apply Zaa | apply Zab | refine Zag ?_ GE235.out) | exact HB.out)⟩
mutual
def Zav.j0 : Nat → List Int → Int → Int → Bool → Option (Bool)
 | 0, _, _, _, _ => none
 | k + 1, x0, x1, x5, x15 => if x15 = true then (some true) else (Zav.l0 k x0 (wrap64 (x5 - (mx x1 (wrap64 (-x1))))) 0)
def Zav.l0 : Nat → List Int → Int → Int → Option (Bool)
 | 0, _, _, _ => none
 | k + 1, x0, x5, x6 => if x6 < (x0.length : Int) then (if 0 ≤ x6 then (if (rd x0 x6) > 4398046511104 then (Zav.j2 k x0 x5 x6 true) else (Zav.j2 k x0 x5 x6 (decide ((rd x0 x6) < (-4398046511104))))) else (none)) else (some false)
def Zav.j2 : Nat → List Int → Int → Int → Bool → Option (Bool)
 | 0, _, _, _, _ => none
 | k + 1, x0, x5, x6, x39 => if x39 = true then (some true) else (if 0 ≤ x6 then (if x6 < (x0.length : Int) then (if (wrap64 (x5 - (wrap64 ((mx (rd x0 x6) (wrap64 (-(rd x0 x6)))) * 1048576)))) < 0 then (some true) else (Zav.l0 k x0 (wrap64 (x5 - (wrap64 ((mx (rd x0 x6) (wrap64 (-(rd x0 x6)))) * 1048576)))) (wrap64 (x6 + 1)))) else (none)) else (none))
end
def Zav.f (k : Nat) (l0 : List Int) (a1 : Int) : Option (Bool) := if a1 > 4611686018427387904 then (Zav.j0 k l0 a1 4611686018427387904 true) else (Zav.j0 k l0 a1 4611686018427387904 (decide (a1 < (-4611686018427387904))))
set_option maxHeartbeats 8000000 in
set_option maxRecDepth 100000 in
theorem Zav.calls (k : Nat) (A0 : Option Addr) (c0 : Nat) (l0 : List Int) (a1 : Int) (r : Bool) (w : World) (hr0 : Kd.C (Kd.int .i64) w A0 l0.length l0) (hc0 : l0.length ≤ c0) (h : Zav.f k l0 a1 = some r) :
  Calls Try.prog 62 #[.slice A0 l0.length c0, .int .i64 a1] w fun e w' => e = .returned (.bool r) ∧ Below w.heap.size w w' := by
 have HR0 := Za.mk hr0
 have HC0 := Za.mk hc0
 clear hr0 hc0
 have HB := Za.mk (Below.refl w.heap.size w)
 have H : (if a1 > 4611686018427387904 then (Zav.j0 k l0 a1 4611686018427387904 true) else (Zav.j0 k l0 a1 4611686018427387904 (decide (a1 < (-4611686018427387904))))) = some r := h
 clear h
 have HC3 := Za.mk H
 clear H
 go_enter Try.func62, Try.ntmps62
 go_upto_region 2 with (fail)
 repeat (go_quiet (fail); go_upto_region 2 with (fail))
 go_cut [15] (fun v15 wc => ∃ (kq : Nat) (x15_2 : Bool), v15 = .bool x15_2 ∧ Za (Zav.j0 kq l0 a1 4611686018427387904 x15_2 = some r) ∧ Za (kq ≤ k) ∧ Za (Below w.heap.size w wc))
 case first =>
  have H := HC3.out
  clear HC3
  by_cases c4 : a1 > 4611686018427387904
  ·rw [if_pos c4] at H
   have c4b0 : decide (4611686018427387904 < a1) = true := decide_eq_true c4
   clear c4
   (first | rw [c4b0] | (simp only [Za4, Za7]; rw [c4b0]) | skip)
   have H' := Za.mk H
   clear H
   go_wp2
   repeat (go_quiet (fail); try go_wp2)
   go_meet
   case rel => exact ⟨_, (true), (by first | rfl | (simp; done) | (simp [*]; done)), H', ⟨by first | omega | exact Nat.le_refl _⟩, ⟨by repeat (first | (with_reducible first | exact HB.out | apply Zac | apply Zaa | apply Zab) | exact HB.out)⟩⟩
  rw [if_neg c4] at H
  have c4b0 : decide (4611686018427387904 < a1) = false := decide_eq_false c4
  clear c4
  (first | rw [c4b0] | (simp only [Za4, Za7]; rw [c4b0]) | skip)
  have H' := Za.mk H
  clear H
  go_wp2
  repeat (go_quiet (fail); try go_wp2)
  go_meet
  case rel => exact ⟨_, (decide (a1 < (-4611686018427387904))), (by first | rfl | (simp; done) | (simp [*]; done)), H', ⟨by first | omega | exact Nat.le_refl _⟩, ⟨by repeat (first | (with_reducible first | exact HB.out | apply Zac | apply Zaa | apply Zab) | exact HB.out)⟩⟩
 case rest =>
  clear HC3
  try clear p2
  try clear c4
  try clear c4b0
  obtain ⟨kq, x15_2, rfl, HA, HJ2, HB⟩ := hcut
  cases kq with
  | zero => exact absurd HA.out (by simp [Zav.j0])
  | succ kj2 =>
   have H := HA.out
   clear HA
   simp only [Zav.j0] at H
   by_cases c5 : x15_2 = true
   ·subst c5
    have H1 : (some true) = some r := by rw [if_pos rfl] at H; exact H
    clear H
    have H := H1
    clear H1
    obtain rfl := Option.some.inj H
    go_wp2
    repeat (go_quiet (fail); try go_wp2)
    go_ret
    exact ⟨by first | rfl | (simp [Zaq, Zar] <;> rfl) | (simp [*, Zaq, Zar] <;> rfl), by repeat (first | (with_reducible first | exact HB.out | apply Zac | apply Zaa | apply Zab) | exact HB.out)⟩
   replace c5 := Bool.eq_false_iff.mpr c5
   subst c5
   have H1 : (Zav.l0 kj2 l0 (wrap64 (4611686018427387904 - (mx a1 (wrap64 (-a1))))) 0) = some r := by rw [if_neg (show ¬ (false = true) by decide)] at H; exact H
   clear H
   have H := H1
   clear H1
   obtain ⟨ji6, hji6⟩ : ∃ j_ : Int, (mx a1 (wrap64 (-a1))) = j_ := ⟨_, rfl⟩
   replace H : (Zav.l0 kj2 l0 (wrap64 (4611686018427387904 - (ji6))) 0) = some r := by first | (rw [hji6] at H; exact H) | (simp only [hji6] at H ⊢; exact H)
   have hji6_ : (if a1 < (wrap64 (-a1)) then (wrap64 (-a1)) else a1) = ji6 := hji6
   have H' := Za.mk H
   clear H
   go_wp2
   repeat (go_quiet (fail); try go_wp2)
   go_loopg [5, 6] kj2 (fun kq v5 v6 w' => ∃ (x5_2 : Int) (x6_2 : Int), v5 = .int .i64 x5_2 ∧ v6 = .int .i64 x6_2 ∧ Za (Zav.l0 kq l0 x5_2 x6_2 = some r) ∧ Za (kq ≤ kj2) ∧ Za (Below w.heap.size w w'))
   case atStart => exact ⟨(wrap64 (4611686018427387904 - (ji6))), (0), (by first | rfl | (simp; done) | (simp only [← hji6] <;> (first | rfl | simp)) | (simp [*]; done)), (by first | rfl | (simp; done) | (simp [*]; done)), H', ⟨Nat.le_refl _⟩, ⟨by repeat (first | (with_reducible first | exact HB.out | apply Zac | apply Zaa | apply Zab) | exact HB.out)⟩⟩
   case round =>
    clear H'
    try clear p2
    try clear c4
    try clear c4b0
    try clear c5
    try clear c6
    try clear p6
    try clear p2
    obtain ⟨x5_2, x6_2, rfl, rfl, HA, HK2, HB⟩ := hrel
    cases gk with
    | zero => exact absurd HA.out (by simp [Zav.l0])
    | succ k2 =>
     have H := HA.out
     clear HA
     simp only [Zav.l0] at H
     by_cases c7 : x6_2 < (l0.length : Int)
     rotate_left
     ·rw [if_neg c7] at H
      have c7b0 : decide (x6_2 < (l0.length : Int)) = false := decide_eq_false c7
      clear c7
      obtain rfl := Option.some.inj H
      go_wp2
      repeat (go_quiet (fail); try go_wp2)
      go_ret
      exact ⟨by first | rfl | (simp [Zaq, Zar] <;> rfl) | (simp only [← hji6]; first | rfl | (simp [Zaq, Zar] <;> rfl)) | (simp [*, Zaq, Zar] <;> rfl), by repeat (first | (with_reducible first | exact HB.out | apply Zac | apply Zaa | apply Zab) | exact HB.out)⟩
     rw [if_pos c7] at H
     have c7b0 : decide (x6_2 < (l0.length : Int)) = true := decide_eq_true c7
     clear c7
     have HC8 := Za.mk H
     clear H
     go_upto_region 8 with (fail)
     repeat (go_quiet (fail); go_upto_region 8 with (fail))
     go_cut [39] (fun v39 wc => ∃ (kq : Nat) (x39_7 : Bool), v39 = .bool x39_7 ∧ Za (Zav.j2 kq l0 x5_2 x6_2 x39_7 = some r) ∧ Za (kq ≤ k2) ∧ Za (Below w.heap.size w wc))
     case first =>
      have H := HC8.out
      clear HC8
      by_cases c9 : 0 ≤ x6_2
      rotate_left
      ·rw [if_neg c9] at H
       exact absurd H (by simp)
      rw [if_pos c9] at H
      have c9b0 : decide (0 ≤ x6_2) = true := decide_eq_true c9
      clear c9
      (first | rw [c9b0] | (simp only [Za4, Za7]; rw [c9b0]) | skip)
      by_cases c10 : (rd l0 x6_2) > 4398046511104
      ·rw [if_pos c10] at H
       have c10b0 : decide (4398046511104 < (rd l0 x6_2)) = true := decide_eq_true c10
       clear c10
       have H' := Za.mk H
       clear H
       have p238 : 0 ≤ (x6_2 : Int) := of_decide_eq_true (by first | (with_reducible assumption) | assumption)
       have q238 : x6_2 < (l0.length : Int) := of_decide_eq_true (by first | (with_reducible assumption) | assumption)
       obtain ⟨ad238, e238, hx238_0⟩ := Kd.Zby HR0.out x6_2 p238 q238
       cases e238
       replace hx238_0 := (HB.out.cell (World.block_lt_of_cell? w _ hx238_0)).trans hx238_0
       replace p238 := eq_true p238
       replace q238 := eq_true q238
       go_wp2
       repeat (go_quiet (fail); try go_wp2)
       go_meet
       case rel => exact ⟨_, (true), (by first | rfl | (simp; done) | (simp [*]; done)), H', ⟨by have := HJ2.out; have := HK2.out; first | omega | exact Nat.le_refl _⟩, ⟨by repeat (first | (with_reducible first | exact HB.out | apply Zac | apply Zaa | apply Zab) | exact HB.out)⟩⟩
      rw [if_neg c10] at H
      have c10b0 : decide (4398046511104 < (rd l0 x6_2)) = false := decide_eq_false c10
      clear c10
      have H' := Za.mk H
      clear H
      have p238 : 0 ≤ (x6_2 : Int) := of_decide_eq_true (by first | (with_reducible assumption) | assumption)
      have q238 : x6_2 < (l0.length : Int) := of_decide_eq_true (by first | (with_reducible assumption) | assumption)
      obtain ⟨ad238, e238, hx238_0⟩ := Kd.Zby HR0.out x6_2 p238 q238
      cases e238
      replace hx238_0 := (HB.out.cell (World.block_lt_of_cell? w _ hx238_0)).trans hx238_0
      replace p238 := eq_true p238
      replace q238 := eq_true q238
      have p239 : 0 ≤ (x6_2 : Int) := of_decide_eq_true (by first | (with_reducible assumption) | assumption)
      have q239 : x6_2 < (l0.length : Int) := of_decide_eq_true (by first | (with_reducible assumption) | assumption)
      obtain ⟨ad239, e239, hx239_0⟩ := Kd.Zby HR0.out x6_2 p239 q239
      obtain rfl : ad238 = ad239 := (by injection e239)
      replace hx239_0 := (HB.out.cell (World.block_lt_of_cell? w _ hx239_0)).trans hx239_0
      replace p239 := eq_true p239
      replace q239 := eq_true q239
      go_wp2
      repeat (go_quiet (fail); try go_wp2)
      go_meet
      case rel => exact ⟨_, (decide ((rd l0 x6_2) < (-4398046511104))), (by first | rfl | (simp; done) | (simp [*]; done)), H', ⟨by have := HJ2.out; have := HK2.out; first | omega | exact Nat.le_refl _⟩, ⟨by repeat (first | (with_reducible first | exact HB.out | apply Zac | apply Zaa | apply Zab) | exact HB.out)⟩⟩
     case rest =>
      clear HC8
      try clear c1
      try clear p2
      try clear q2
      try clear hx2
      try clear c4
      try clear c4b0
      try clear c5
      try clear c6
      try clear p6
      try clear c7
      try clear c7b0
      try clear c9
      try clear c9b0
      try clear c10
      try clear c10b0
      try clear hx238_0
      try clear hx239_0
      try clear p2
      try clear p238
      try clear p239
      try clear p6
      try clear q238
      try clear q239
      obtain ⟨kq, x39_7, rfl, HA, HJ7, HB⟩ := hcut
      cases kq with
      | zero => exact absurd HA.out (by simp [Zav.j2])
      | succ kj7 =>
       have H := HA.out
       clear HA
       simp only [Zav.j2] at H
       by_cases c11 : x39_7 = true
       ·subst c11
        have H1 : (some true) = some r := by rw [if_pos rfl] at H; exact H
        clear H
        have H := H1
        clear H1
        obtain rfl := Option.some.inj H
        go_wp2
        repeat (go_quiet (fail); try go_wp2)
        go_ret
        exact ⟨by first | rfl | (simp [Zaq, Zar] <;> rfl) | (simp only [← hji6]; first | rfl | (simp [Zaq, Zar] <;> rfl)) | (simp [*, Zaq, Zar] <;> rfl), by repeat (first | (with_reducible first | exact HB.out | apply Zac | apply Zaa | apply Zab) | exact HB.out)⟩
       replace c11 := Bool.eq_false_iff.mpr c11
       subst c11
       have H1 : (if 0 ≤ x6_2 then (if x6_2 < (l0.length : Int) then (if (wrap64 (x5_2 - (wrap64 ((mx (rd l0 x6_2) (wrap64 (-(rd l0 x6_2)))) * 1048576)))) < 0 then (some true) else (Zav.l0 kj7 l0 (wrap64 (x5_2 - (wrap64 ((mx (rd l0 x6_2) (wrap64 (-(rd l0 x6_2)))) * 1048576)))) (wrap64 (x6_2 + 1)))) else (none)) else (none)) = some r := by rw [if_neg (show ¬ (false = true) by decide)] at H; exact H
       clear H
       have H := H1
       clear H1
       by_cases c12 : 0 ≤ x6_2
       rotate_left
       ·rw [if_neg c12] at H
        exact absurd H (by simp)
       rw [if_pos c12] at H
       have c12b0 : decide (0 ≤ x6_2) = true := decide_eq_true c12
       clear c12
       by_cases c13 : x6_2 < (l0.length : Int)
       rotate_left
       ·rw [if_neg c13] at H
        exact absurd H (by simp)
       rw [if_pos c13] at H
       have c13b0 : decide (x6_2 < (l0.length : Int)) = true := decide_eq_true c13
       clear c13
       obtain ⟨ji14, hji14⟩ : ∃ j_ : Int, (mx (rd l0 x6_2) (wrap64 (-(rd l0 x6_2)))) = j_ := ⟨_, rfl⟩
       replace H : (if (wrap64 (x5_2 - (wrap64 ((ji14) * 1048576)))) < 0 then (some true) else (Zav.l0 kj7 l0 (wrap64 (x5_2 - (wrap64 ((ji14) * 1048576)))) (wrap64 (x6_2 + 1)))) = some r := by first | (rw [hji14] at H; exact H) | (simp only [hji14] at H ⊢; exact H)
       have hji14_ : (if (rd l0 x6_2) < (wrap64 (-(rd l0 x6_2))) then (wrap64 (-(rd l0 x6_2))) else (rd l0 x6_2)) = ji14 := hji14
       by_cases c15 : (wrap64 (x5_2 - (wrap64 ((ji14) * 1048576)))) < 0
       ·rw [if_pos c15] at H
        have c15b0 : decide ((wrap64 (x5_2 - (wrap64 ((ji14) * 1048576)))) < 0) = true := decide_eq_true c15
        clear c15
        obtain rfl := Option.some.inj H
        have p240 : 0 ≤ (x6_2 : Int) := of_decide_eq_true (by first | (with_reducible assumption) | assumption)
        have q240 : x6_2 < (l0.length : Int) := of_decide_eq_true (by first | (with_reducible assumption) | assumption)
        obtain ⟨ad240, e240, hx240_0⟩ := Kd.Zby HR0.out x6_2 p240 q240
        cases e240
        replace hx240_0 := (HB.out.cell (World.block_lt_of_cell? w _ hx240_0)).trans hx240_0
        replace p240 := eq_true p240
        replace q240 := eq_true q240
        have p241 : 0 ≤ (x6_2 : Int) := of_decide_eq_true (by first | (with_reducible assumption) | assumption)
        have q241 : x6_2 < (l0.length : Int) := of_decide_eq_true (by first | (with_reducible assumption) | assumption)
        obtain ⟨ad241, e241, hx241_0⟩ := Kd.Zby HR0.out x6_2 p241 q241
        obtain rfl : ad240 = ad241 := (by injection e241)
        replace hx241_0 := (HB.out.cell (World.block_lt_of_cell? w _ hx241_0)).trans hx241_0
        replace p241 := eq_true p241
        replace q241 := eq_true q241
        go_wp2
        repeat (go_quiet (fail); try go_wp2)
        go_ret
        exact ⟨by first | rfl | (simp [Zaq, Zar] <;> rfl) | (simp only [← hji6, ← hji14]; first | rfl | (simp [Zaq, Zar] <;> rfl)) | (simp [*, Zaq, Zar] <;> rfl), by repeat (first | (with_reducible first | exact HB.out | apply Zac | apply Zaa | apply Zab) | exact HB.out)⟩
       rw [if_neg c15] at H
       have c15b0 : decide ((wrap64 (x5_2 - (wrap64 ((ji14) * 1048576)))) < 0) = false := decide_eq_false c15
       clear c15
       have H' := Za.mk H
       clear H
       have p240 : 0 ≤ (x6_2 : Int) := of_decide_eq_true (by first | (with_reducible assumption) | assumption)
       have q240 : x6_2 < (l0.length : Int) := of_decide_eq_true (by first | (with_reducible assumption) | assumption)
       obtain ⟨ad240, e240, hx240_0⟩ := Kd.Zby HR0.out x6_2 p240 q240
       cases e240
       replace hx240_0 := (HB.out.cell (World.block_lt_of_cell? w _ hx240_0)).trans hx240_0
       replace p240 := eq_true p240
       replace q240 := eq_true q240
       have p241 : 0 ≤ (x6_2 : Int) := of_decide_eq_true (by first | (with_reducible assumption) | assumption)
       have q241 : x6_2 < (l0.length : Int) := of_decide_eq_true (by first | (with_reducible assumption) | assumption)
       obtain ⟨ad241, e241, hx241_0⟩ := Kd.Zby HR0.out x6_2 p241 q241
       obtain rfl : ad240 = ad241 := (by injection e241)
       replace hx241_0 := (HB.out.cell (World.block_lt_of_cell? w _ hx241_0)).trans hx241_0
       replace p241 := eq_true p241
       replace q241 := eq_true q241
       go_wp2
       repeat (go_quiet (fail); try go_wp2)
       go_roundg kj7
       case measure => have := HJ2.out; have := HK2.out; have := HJ7.out; omega
       case rel => exact ⟨(wrap64 (x5_2 - (wrap64 ((ji14) * 1048576)))), (wrap64 (x6_2 + 1)), (by first | rfl | (simp; done) | (simp only [← hji14] <;> (first | rfl | simp)) | (simp [*]; done)), (by first | rfl | (simp; done) | (simp [*]; done)), H', ⟨by have := HJ2.out; have := HK2.out; have := HJ7.out; omega⟩, ⟨by repeat (first | (with_reducible first | exact HB.out | apply Zac | apply Zaa | apply Zab) | exact HB.out)⟩⟩
mutual
def Zat.j0 : Nat → List (List (S41)) → Bool → Int → List Int → List Int → Int → Int → List (List Int) → Int → Option (Int)
 | 0, _, _, _, _, _, _, _, _, _ => none
 | k + 1, x0, x14, x243000, x243001, x243002, x243003, x243004, x243005, x243006 => if x14 = true then (some 44) else ((Zca.f k x243000 x243001 x243002 x243003 x243004 x243005 x243006).bind fun t243 => (Zat.l0 k x0 t243 0 x243000 x243001 x243002 x243003 x243004 x243005 x243006))
def Zat.l0 : Nat → List (List (S41)) → List Int → Int → Int → List Int → List Int → Int → Int → List (List Int) → Int → Option (Int)
 | 0, _, _, _, _, _, _, _, _, _, _ => none
 | k + 1, x0, x5, x6, x243000, x243001, x243002, x243003, x243004, x243005, x243006 => if x6 < (x5.length : Int) then (if 0 ≤ x6 then (if (rd x5 x6) < 0 then (some 43) else (if (rd x5 x6) ≥ (x0.length : Int) then (some 43) else (Zat.l0 k x0 x5 (wrap64 (x6 + 1)) x243000 x243001 x243002 x243003 x243004 x243005 x243006))) else (none)) else ((Zak.f k x0 x243000 x243001 x243002 x243003 x243004 x243005 x243006).bind fun t248 => (if t248 = true then ((Zav.f k x243002 x243004).bind fun t249 => (if t249 = true then (some 45) else (some 0))) else (some 44)))
end
def Zat.f (k : Nat) (l0 : List (List (S41))) (a1_0 : Int) (l1_1 : List Int) (l1_2 : List Int) (a1_3 : Int) (a1_4 : Int) (l1_5 : List (List Int)) (a1_6 : Int) : Option (Int) := if a1_0 < 0 then (Zat.j0 k l0 true a1_0 l1_1 l1_2 a1_3 a1_4 l1_5 a1_6) else (Zat.j0 k l0 (decide (a1_0 > 6)) a1_0 l1_1 l1_2 a1_3 a1_4 l1_5 a1_6)
set_option maxHeartbeats 8000000 in
set_option maxRecDepth 100000 in
theorem Zat.calls (k : Nat) (A0 : Option Addr) (c0 : Nat) (l0 : List (List (S41))) (a1_0 : Int) (A1_1 : Option Addr) (c1_1 : Nat) (l1_1 : List Int) (A1_2 : Option Addr) (c1_2 : Nat) (l1_2 : List Int) (a1_3 : Int) (a1_4 : Int) (A1_5 : Option Addr) (c1_5 : Nat) (l1_5 : List (List Int)) (a1_6 : Int) (r : Int) (w : World) (hr0 : Kd.C (Kd.slice 41 k41) w A0 l0.length l0) (hc0 : l0.length ≤ c0) (hr1_1 : Kd.C (Kd.int .i64) w A1_1 l1_1.length l1_1) (hc1_1 : l1_1.length ≤ c1_1) (hr1_2 : Kd.C (Kd.int .i64) w A1_2 l1_2.length l1_2) (hc1_2 : l1_2.length ≤ c1_2) (hr1_5 : Kd.C (Kd.slice 3 (Kd.int .i64)) w A1_5 l1_5.length l1_5) (hc1_5 : l1_5.length ≤ c1_5) (h : Zat.f k l0 a1_0 l1_1 l1_2 a1_3 a1_4 l1_5 a1_6 = some r) :
  Calls Try.prog 41 #[.slice A0 l0.length c0, .agg #[.int .i64 a1_0, .slice A1_1 l1_1.length c1_1, .slice A1_2 l1_2.length c1_2, .int .i64 a1_3, .int .i64 a1_4, .slice A1_5 l1_5.length c1_5, .int .i64 a1_6]] w fun e w' => e = .returned (.int .i64 r) ∧ Below w.heap.size w w' := by
 have hu25 := Try.underlying25
 have HR0 := Za.mk hr0
 have HC0 := Za.mk hc0
 clear hr0 hc0
 have HR1_1 := Za.mk hr1_1
 have HC1_1 := Za.mk hc1_1
 clear hr1_1 hc1_1
 have HR1_2 := Za.mk hr1_2
 have HC1_2 := Za.mk hc1_2
 clear hr1_2 hc1_2
 have HR1_5 := Za.mk hr1_5
 have HC1_5 := Za.mk hc1_5
 clear hr1_5 hc1_5
 have HB := Za.mk (Below.refl w.heap.size w)
 have H : (if a1_0 < 0 then (Zat.j0 k l0 true a1_0 l1_1 l1_2 a1_3 a1_4 l1_5 a1_6) else (Zat.j0 k l0 (decide (a1_0 > 6)) a1_0 l1_1 l1_2 a1_3 a1_4 l1_5 a1_6)) = some r := h
 clear h
 have HC3 := Za.mk H
 clear H
 go_enter Try.func41, Try.ntmps41
 go_upto_region 1 with (first | ((with_reducible refine Zbv (N := 3) rfl ?_); (try (refine Zgp (by rfl) ?_; dsimp only)); refine Zb4 ?hg (N := 3) ?hd (cs := #[.int .i64 a1_0, .slice A1_1 l1_1.length c1_1, .slice A1_2 l1_2.length c1_2, .int .i64 a1_3, .int .i64 a1_4, .slice A1_5 l1_5.length c1_5, .int .i64 a1_6]) (t := 25) ?hr ?_; (case hd => rfl); (case hg => rfl); (case hr => first | (go_simp; done) | (go_simp; rfl)); intro gb242 hg w4 hbox hb; have n0_ := Za.mk (Zan (by repeat (first | (with_reducible first | exact HB.out | apply Zac | apply Zaa | apply Zab) | exact HB.out)) hb); have n1_ := Za.mk (hbox); have n3_ := Za.mk ((by rw [hg]; exact (Zam (by repeat (first | (with_reducible first | exact HB.out | apply Zac | apply Zaa | apply Zab) | exact HB.out))) : w.heap.size ≤ gb242)); clear HB; have HB := n0_; have BK242 := n1_; have GE242 := n3_; clear n0_ n1_ n3_; clear hb hbox hg))
 (try simp only [Act.put, List.setIfInBounds_toArray, List.set_cons_zero, List.set_cons_succ])
 go_cut [14] (fun v14 wc => ∃ (kq : Nat) (x14_2 : Bool), v14 = .bool x14_2 ∧ Za (Zat.j0 kq l0 x14_2 a1_0 l1_1 l1_2 a1_3 a1_4 l1_5 a1_6 = some r) ∧ Za (kq ≤ k) ∧ Za (wc.heap[gb242]? = some (.cells #[.int .i64 a1_0, (.slice A1_1 l1_1.length c1_1), (.slice A1_2 l1_2.length c1_2), .int .i64 a1_3, .int .i64 a1_4, (.slice A1_5 l1_5.length c1_5), .int .i64 a1_6] 25 (0, 0))) ∧ Za (Below w.heap.size w wc))
 case first =>
  have H := HC3.out
  clear HC3
  by_cases c5 : a1_0 < 0
  ·rw [if_pos c5] at H
   have c5b0 : decide (a1_0 < 0) = true := decide_eq_true c5
   clear c5
   (first | rw [c5b0] | (simp only [Za4, Za7]; rw [c5b0]) | skip)
   have H' := Za.mk H
   clear H
   obtain ⟨hcz6_0, hcz6_1, hcz6_2, hcz6_3, hcz6_4, hcz6_5, hcz6_6, hfz6_0, hfz6_1, hfz6_2, hfz6_3, hfz6_4, hfz6_5, hfz6_6⟩ := Zce BK242.out
   go_wp2
   go_meet
   case rel => exact ⟨_, (true), (by first | rfl | (simp; done) | (simp [*]; done)), H', ⟨by first | omega | exact Nat.le_refl _⟩, ⟨by (with_reducible repeat (first | refine Zah ?_ _ | refine Zaj ?_ | refine Zaf ?_ _)); exact BK242.out⟩, ⟨by repeat (first | (with_reducible first | exact HB.out | apply Zac | apply Zaa | apply Zab | refine Zag ?_ GE242.out) | exact HB.out)⟩⟩
  rw [if_neg c5] at H
  have c5b0 : decide (a1_0 < 0) = false := decide_eq_false c5
  clear c5
  (first | rw [c5b0] | (simp only [Za4, Za7]; rw [c5b0]) | skip)
  have H' := Za.mk H
  clear H
  obtain ⟨hcz7_0, hcz7_1, hcz7_2, hcz7_3, hcz7_4, hcz7_5, hcz7_6, hfz7_0, hfz7_1, hfz7_2, hfz7_3, hfz7_4, hfz7_5, hfz7_6⟩ := Zce BK242.out
  go_wp2
  go_meet
  case rel => exact ⟨_, (decide (a1_0 > 6)), (by first | rfl | (simp; done) | (simp [*]; done)), H', ⟨by first | omega | exact Nat.le_refl _⟩, ⟨by (with_reducible repeat (first | refine Zah ?_ _ | refine Zaj ?_ | refine Zaf ?_ _)); exact BK242.out⟩, ⟨by repeat (first | (with_reducible first | exact HB.out | apply Zac | apply Zaa | apply Zab | refine Zag ?_ GE242.out) | exact HB.out)⟩⟩
 case rest =>
  clear HC3
  try clear c1
  try clear p2
  try clear c4
  try clear c5
  try clear c5b0
  try clear hcz6_0
  try clear hcz6_1
  try clear hcz6_2
  try clear hcz6_3
  try clear hcz6_4
  try clear hcz6_5
  try clear hcz6_6
  try clear hcz7_0
  try clear hcz7_1
  try clear hcz7_2
  try clear hcz7_3
  try clear hcz7_4
  try clear hcz7_5
  try clear hcz7_6
  try clear hfz6_0
  try clear hfz6_1
  try clear hfz6_2
  try clear hfz6_3
  try clear hfz6_4
  try clear hfz6_5
  try clear hfz6_6
  try clear hfz7_0
  try clear hfz7_1
  try clear hfz7_2
  try clear hfz7_3
  try clear hfz7_4
  try clear hfz7_5
  try clear hfz7_6
  obtain ⟨kq, x14_2, rfl, HA, HJ2, BK242, HB⟩ := hcut
  cases kq with
  | zero => exact absurd HA.out (by simp [Zat.j0])
  | succ kj2 =>
   have H := HA.out
   clear HA
   simp only [Zat.j0] at H
   by_cases c8 : x14_2 = true
   ·subst c8
    have H1 : (some 44) = some r := by rw [if_pos rfl] at H; exact H
    clear H
    have H := H1
    clear H1
    obtain rfl := Option.some.inj H
    go_wp2
    go_ret
    exact ⟨by first | rfl | (simp [Zaq, Zar] <;> rfl) | (simp [*, Zaq, Zar] <;> rfl), by repeat (first | (with_reducible first | exact HB.out | apply Zac | apply Zaa | apply Zab | refine Zag ?_ GE242.out) | exact HB.out)⟩
   replace c8 := Bool.eq_false_iff.mpr c8
   subst c8
   have H1 : ((Zca.f kj2 a1_0 l1_1 l1_2 a1_3 a1_4 l1_5 a1_6).bind fun t243 => (Zat.l0 kj2 l0 t243 0 a1_0 l1_1 l1_2 a1_3 a1_4 l1_5 a1_6)) = some r := by rw [if_neg (show ¬ (false = true) by decide)] at H; exact H
   clear H
   have H := H1
   clear H1
   replace H := Option.bind_eq_some_iff.mp H
   obtain ⟨t243, A90, H⟩ := H
   replace H : (Zat.l0 kj2 l0 t243 0 a1_0 l1_1 l1_2 a1_3 a1_4 l1_5 a1_6) = some r := H
   have A9 := Za.mk A90
   clear A90
   have H' := Za.mk H
   clear H
   obtain ⟨hcz10_0, hcz10_1, hcz10_2, hcz10_3, hcz10_4, hcz10_5, hcz10_6, hfz10_0, hfz10_1, hfz10_2, hfz10_3, hfz10_4, hfz10_5, hfz10_6⟩ := Zce BK242.out
   go_wp2_with (first | ((with_reducible refine Za2 (f := 60) rfl ?_); refine Zb0 (some 16) rfl rfl Try.func60 (by kernel_rfl) rfl #[.agg #[.int .i64 a1_0, .slice A1_1 l1_1.length c1_1, .slice A1_2 l1_2.length c1_2, .int .i64 a1_3, .int .i64 a1_4, .slice A1_5 l1_5.length c1_5, .int .i64 a1_6]] rfl (by (try simp only [List.map_toArray, List.map_cons, List.map_nil]); first | done | rfl | (simp only [List.length_drop, List.length_take]; rfl)) ?_; (refine withB (m := w.heap.size) (w0 := w) (by repeat (first | (with_reducible first | exact HB.out | apply Zac | apply Zaa | apply Zab | refine Zag ?_ GE242.out) | exact HB.out)) ?_); intro hL_; (with_reducible refine (Zca.calls kj2 a1_0 _ _ l1_1 _ _ l1_2 a1_3 a1_4 _ _ l1_5 a1_6 t243 _ ?side1 ?side2 ?side3 ?side4 ?side5 ?side6 A9.out).mono ?_); (case side1 => repeat (first | exact (Kd.Zaw HR1_1.out HB.out) | (with_reducible refine Kd.C_alloc ?_ _) | (with_reducible refine Kd.Za0 ?_ _) | (with_reducible refine Kd.C_drew ?_))); (case side2 => exact HC1_1.out); (case side3 => repeat (first | exact (Kd.Zaw HR1_2.out HB.out) | (with_reducible refine Kd.C_alloc ?_ _) | (with_reducible refine Kd.Za0 ?_ _) | (with_reducible refine Kd.C_drew ?_))); (case side4 => exact HC1_2.out); (case side5 => repeat (first | exact (Kd.Zaw HR1_5.out HB.out) | (with_reducible refine Kd.C_alloc ?_ _) | (with_reducible refine Kd.Za0 ?_ _) | (with_reducible refine Kd.C_drew ?_))); (case side6 => exact HC1_5.out); rintro e w11 ⟨v244, rfl, ho0, hb⟩; refine ⟨_, rfl, ?_⟩; have n0_ := Za.mk (Kd.Zbz ho0 (Zam hL_)); have n1_ := Za.mk (Za6 (g := gb242) (o := .cells #[.int .i64 a1_0, .slice A1_1 l1_1.length c1_1, .slice A1_2 l1_2.length c1_2, .int .i64 a1_3, .int .i64 a1_4, .slice A1_5 l1_5.length c1_5, .int .i64 a1_6] 25 (0, 0)) (mvK BK242.out) hb); have n2_ := Za.mk (Zan hL_ hb); clear BK242; clear HB; have HO245 := n0_; have BK242 := n1_; have HB := n2_; clear n0_ n1_ n2_; (try clear hb); (try clear hb2); (try clear hk); (try clear hi); (try clear ho0)))
   go_loopg [6] kj2 (fun kq v6 w' => ∃ (x6_2 : Int), v6 = .int .i64 x6_2 ∧ Za (Zat.l0 kq l0 t243 x6_2 a1_0 l1_1 l1_2 a1_3 a1_4 l1_5 a1_6 = some r) ∧ Za (kq ≤ kj2) ∧ Za (Kd.R (Kd.int .i64) 3 w' w.heap.size (fun _ => True) v244 t243) ∧ Za (w'.heap[gb242]? = some (.cells #[.int .i64 a1_0, (.slice A1_1 l1_1.length c1_1), (.slice A1_2 l1_2.length c1_2), .int .i64 a1_3, .int .i64 a1_4, (.slice A1_5 l1_5.length c1_5), .int .i64 a1_6] 25 (0, 0))) ∧ Za (Below w.heap.size w w'))
   case atStart => exact ⟨(0), (by first | rfl | (simp; done) | (simp [*]; done)), H', ⟨Nat.le_refl _⟩, ⟨by (with_reducible repeat (first | apply Kd.R_alloc | apply Kd.Zbh | apply Kd.Zbl)); exact HO245.out⟩, ⟨by (with_reducible repeat (first | refine Zah ?_ _ | refine Zaj ?_ | refine Zaf ?_ _)); exact BK242.out⟩, ⟨by repeat (first | (with_reducible first | exact HB.out | apply Zac | apply Zaa | apply Zab | refine Zag ?_ GE242.out) | exact HB.out)⟩⟩
   case round =>
    clear H'
    try clear c1
    try clear p2
    try clear c4
    try clear c5
    try clear c5b0
    try clear c6
    try clear c8
    try clear hcz10_0
    try clear hcz10_1
    try clear hcz10_2
    try clear hcz10_3
    try clear hcz10_4
    try clear hcz10_5
    try clear hcz10_6
    try clear hcz6_0
    try clear hcz6_1
    try clear hcz6_2
    try clear hcz6_3
    try clear hcz6_4
    try clear hcz6_5
    try clear hcz6_6
    try clear hcz7_0
    try clear hcz7_1
    try clear hcz7_2
    try clear hcz7_3
    try clear hcz7_4
    try clear hcz7_5
    try clear hcz7_6
    try clear hfz10_0
    try clear hfz10_1
    try clear hfz10_2
    try clear hfz10_3
    try clear hfz10_4
    try clear hfz10_5
    try clear hfz10_6
    try clear hfz6_0
    try clear hfz6_1
    try clear hfz6_2
    try clear hfz6_3
    try clear hfz6_4
    try clear hfz6_5
    try clear hfz6_6
    try clear hfz7_0
    try clear hfz7_1
    try clear hfz7_2
    try clear hfz7_3
    try clear hfz7_4
    try clear hfz7_5
    try clear hfz7_6
    try clear p2
    obtain ⟨x6_2, rfl, HA, HK2, HO_5, BK242, HB⟩ := hrel
    cases gk with
    | zero => exact absurd HA.out (by simp [Zat.l0])
    | succ k2 =>
     have H := HA.out
     clear HA
     simp only [Zat.l0] at H
     by_cases c12 : x6_2 < (t243.length : Int)
     ·rw [if_pos c12] at H
      have c12b0 : decide (x6_2 < (t243.length : Int)) = true := decide_eq_true c12
      clear c12
      by_cases c13 : 0 ≤ x6_2
      rotate_left
      ·rw [if_neg c13] at H
       exact absurd H (by simp)
      rw [if_pos c13] at H
      have c13b0 : decide (0 ≤ x6_2) = true := decide_eq_true c13
      clear c13
      by_cases c14 : (rd t243 x6_2) < 0
      ·rw [if_pos c14] at H
       have c14b0 : decide ((rd t243 x6_2) < 0) = true := decide_eq_true c14
       clear c14
       obtain rfl := Option.some.inj H
       obtain ⟨Ao15, co15, eo15⟩ := Kd.Zbw HO_5.out
       subst eo15
       have p246 : 0 ≤ (x6_2 : Int) := of_decide_eq_true (by first | (with_reducible assumption) | assumption)
       have q246 : x6_2 < (t243.length : Int) := of_decide_eq_true (by first | (with_reducible assumption) | assumption)
       obtain ⟨ad246, e246, hx246_0⟩ := Kd.Zby (Kd.Za3 HO_5.out).2.2 x6_2 p246 q246
       cases e246
       replace p246 := eq_true p246
       replace q246 := eq_true q246
       go_wp2
       go_ret
       exact ⟨by first | rfl | (simp [Zaq, Zar] <;> rfl) | (simp [*, Zaq, Zar] <;> rfl), by repeat (first | (with_reducible first | exact HB.out | apply Zac | apply Zaa | apply Zab | refine Zag ?_ GE242.out) | exact HB.out)⟩
      rw [if_neg c14] at H
      have c14b0 : decide ((rd t243 x6_2) < 0) = false := decide_eq_false c14
      clear c14
      by_cases c16 : (rd t243 x6_2) ≥ (l0.length : Int)
      ·rw [if_pos c16] at H
       have c16b0 : decide ((l0.length : Int) ≤ (rd t243 x6_2)) = true := decide_eq_true c16
       clear c16
       obtain rfl := Option.some.inj H
       obtain ⟨Ao17, co17, eo17⟩ := Kd.Zbw HO_5.out
       subst eo17
       have p246 : 0 ≤ (x6_2 : Int) := of_decide_eq_true (by first | (with_reducible assumption) | assumption)
       have q246 : x6_2 < (t243.length : Int) := of_decide_eq_true (by first | (with_reducible assumption) | assumption)
       obtain ⟨ad246, e246, hx246_0⟩ := Kd.Zby (Kd.Za3 HO_5.out).2.2 x6_2 p246 q246
       cases e246
       replace p246 := eq_true p246
       replace q246 := eq_true q246
       have p247 : 0 ≤ (x6_2 : Int) := of_decide_eq_true (by first | (with_reducible assumption) | assumption)
       have q247 : x6_2 < (t243.length : Int) := of_decide_eq_true (by first | (with_reducible assumption) | assumption)
       obtain ⟨ad247, e247, hx247_0⟩ := Kd.Zby (Kd.Za3 HO_5.out).2.2 x6_2 p247 q247
       obtain rfl : ad246 = ad247 := (by injection e247)
       replace p247 := eq_true p247
       replace q247 := eq_true q247
       go_wp2
       go_ret
       exact ⟨by first | rfl | (simp [Zaq, Zar] <;> rfl) | (simp [*, Zaq, Zar] <;> rfl), by repeat (first | (with_reducible first | exact HB.out | apply Zac | apply Zaa | apply Zab | refine Zag ?_ GE242.out) | exact HB.out)⟩
      rw [if_neg c16] at H
      have c16b0 : decide ((l0.length : Int) ≤ (rd t243 x6_2)) = false := decide_eq_false c16
      clear c16
      have H' := Za.mk H
      clear H
      obtain ⟨Ao18, co18, eo18⟩ := Kd.Zbw HO_5.out
      subst eo18
      have p246 : 0 ≤ (x6_2 : Int) := of_decide_eq_true (by first | (with_reducible assumption) | assumption)
      have q246 : x6_2 < (t243.length : Int) := of_decide_eq_true (by first | (with_reducible assumption) | assumption)
      obtain ⟨ad246, e246, hx246_0⟩ := Kd.Zby (Kd.Za3 HO_5.out).2.2 x6_2 p246 q246
      cases e246
      replace p246 := eq_true p246
      replace q246 := eq_true q246
      have p247 : 0 ≤ (x6_2 : Int) := of_decide_eq_true (by first | (with_reducible assumption) | assumption)
      have q247 : x6_2 < (t243.length : Int) := of_decide_eq_true (by first | (with_reducible assumption) | assumption)
      obtain ⟨ad247, e247, hx247_0⟩ := Kd.Zby (Kd.Za3 HO_5.out).2.2 x6_2 p247 q247
      obtain rfl : ad246 = ad247 := (by injection e247)
      replace p247 := eq_true p247
      replace q247 := eq_true q247
      go_wp2
      go_roundg k2
      case measure => have := HJ2.out; have := HK2.out; omega
      case rel => exact ⟨(wrap64 (x6_2 + 1)), (by first | rfl | (simp; done) | (simp [*]; done)), H', ⟨by have := HJ2.out; have := HK2.out; omega⟩, ⟨by (with_reducible repeat (first | apply Kd.R_alloc | apply Kd.Zbh | apply Kd.Zbl)); exact HO_5.out⟩, ⟨by (with_reducible repeat (first | refine Zah ?_ _ | refine Zaj ?_ | refine Zaf ?_ _)); exact BK242.out⟩, ⟨by repeat (first | (with_reducible first | exact HB.out | apply Zac | apply Zaa | apply Zab | refine Zag ?_ GE242.out) | exact HB.out)⟩⟩
     rw [if_neg c12] at H
     have c12b0 : decide (x6_2 < (t243.length : Int)) = false := decide_eq_false c12
     clear c12
     replace H := Option.bind_eq_some_iff.mp H
     obtain ⟨t248, A190, H⟩ := H
     replace H : (if t248 = true then ((Zav.f k2 l1_2 a1_4).bind fun t249 => (if t249 = true then (some 45) else (some 0))) else (some 44)) = some r := H
     have A19 := Za.mk A190
     clear A190
     by_cases c20 : t248 = true
     rotate_left
     ·replace c20 := Bool.eq_false_iff.mpr c20
      subst c20
      have H1 : (some 44) = some r := by rw [if_neg (show ¬ (false = true) by decide)] at H; exact H
      clear H
      have H := H1
      clear H1
      obtain rfl := Option.some.inj H
      obtain ⟨Ao33, co33, eo33⟩ := Kd.Zbw HO_5.out
      subst eo33
      obtain ⟨hcz34_0, hcz34_1, hcz34_2, hcz34_3, hcz34_4, hcz34_5, hcz34_6, hfz34_0, hfz34_1, hfz34_2, hfz34_3, hfz34_4, hfz34_5, hfz34_6⟩ := Zce BK242.out
      go_wp2_with (first | ((with_reducible refine Za2 (f := 61) rfl ?_); refine Zb0 (some 39) rfl rfl Try.func61 (by kernel_rfl) rfl #[.slice A0 l0.length c0, .agg #[.int .i64 a1_0, .slice A1_1 l1_1.length c1_1, .slice A1_2 l1_2.length c1_2, .int .i64 a1_3, .int .i64 a1_4, .slice A1_5 l1_5.length c1_5, .int .i64 a1_6]] rfl (by (try simp only [List.map_toArray, List.map_cons, List.map_nil]); first | done | rfl | (simp only [List.length_drop, List.length_take]; rfl)) ?_; (with_reducible refine (Zak.calls k2 _ _ l0 a1_0 _ _ l1_1 _ _ l1_2 a1_3 a1_4 _ _ l1_5 a1_6 false _ ?side1 ?side2 ?side3 ?side4 ?side5 ?side6 ?side7 ?side8 A19.out).mono ?_); (case side1 => repeat (first | exact (Kd.Zaw HR0.out HB.out) | (with_reducible refine Kd.C_alloc ?_ _) | (with_reducible refine Kd.Za0 ?_ _) | (with_reducible refine Kd.C_drew ?_))); (case side2 => exact HC0.out); (case side3 => repeat (first | exact (Kd.Zaw HR1_1.out HB.out) | (with_reducible refine Kd.C_alloc ?_ _) | (with_reducible refine Kd.Za0 ?_ _) | (with_reducible refine Kd.C_drew ?_))); (case side4 => exact HC1_1.out); (case side5 => repeat (first | exact (Kd.Zaw HR1_2.out HB.out) | (with_reducible refine Kd.C_alloc ?_ _) | (with_reducible refine Kd.Za0 ?_ _) | (with_reducible refine Kd.C_drew ?_))); (case side6 => exact HC1_2.out); (case side7 => repeat (first | exact (Kd.Zaw HR1_5.out HB.out) | (with_reducible refine Kd.C_alloc ?_ _) | (with_reducible refine Kd.Za0 ?_ _) | (with_reducible refine Kd.C_drew ?_))); (case side8 => exact HC1_5.out); rintro e w35 ⟨rfl, hb⟩; refine ⟨_, rfl, ?_⟩; have n2_ := Za.mk (Zan (by repeat (first | (with_reducible first | exact HB.out | apply Zac | apply Zaa | apply Zab | refine Zag ?_ GE242.out) | exact HB.out)) hb); clear HO_5; clear BK242; clear HB; have HB := n2_; clear n2_; (try clear hb); (try clear hb2); (try clear hk); (try clear hi)))
      go_ret
      exact ⟨by first | rfl | (simp [Zaq, Zar] <;> rfl) | (simp [*, Zaq, Zar] <;> rfl), by repeat (first | (with_reducible first | exact HB.out | apply Zac | apply Zaa | apply Zab | refine Zag ?_ GE242.out) | exact HB.out)⟩
     subst c20
     have H1 : ((Zav.f k2 l1_2 a1_4).bind fun t249 => (if t249 = true then (some 45) else (some 0))) = some r := by rw [if_pos rfl] at H; exact H
     clear H
     have H := H1
     clear H1
     replace H := Option.bind_eq_some_iff.mp H
     obtain ⟨t249, A210, H⟩ := H
     replace H : (if t249 = true then (some 45) else (some 0)) = some r := H
     have A21 := Za.mk A210
     clear A210
     by_cases c22 : t249 = true
     ·subst c22
      have H1 : (some 45) = some r := by rw [if_pos rfl] at H; exact H
      clear H
      have H := H1
      clear H1
      obtain rfl := Option.some.inj H
      obtain ⟨Ao23, co23, eo23⟩ := Kd.Zbw HO_5.out
      subst eo23
      obtain ⟨hcz24_0, hcz24_1, hcz24_2, hcz24_3, hcz24_4, hcz24_5, hcz24_6, hfz24_0, hfz24_1, hfz24_2, hfz24_3, hfz24_4, hfz24_5, hfz24_6⟩ := Zce BK242.out
      go_wp2_with (first | ((with_reducible refine Za2 (f := 61) rfl ?_); refine Zb0 (some 39) rfl rfl Try.func61 (by kernel_rfl) rfl #[.slice A0 l0.length c0, .agg #[.int .i64 a1_0, .slice A1_1 l1_1.length c1_1, .slice A1_2 l1_2.length c1_2, .int .i64 a1_3, .int .i64 a1_4, .slice A1_5 l1_5.length c1_5, .int .i64 a1_6]] rfl (by (try simp only [List.map_toArray, List.map_cons, List.map_nil]); first | done | rfl | (simp only [List.length_drop, List.length_take]; rfl)) ?_; (with_reducible refine (Zak.calls k2 _ _ l0 a1_0 _ _ l1_1 _ _ l1_2 a1_3 a1_4 _ _ l1_5 a1_6 true _ ?side1 ?side2 ?side3 ?side4 ?side5 ?side6 ?side7 ?side8 A19.out).mono ?_); (case side1 => repeat (first | exact (Kd.Zaw HR0.out HB.out) | (with_reducible refine Kd.C_alloc ?_ _) | (with_reducible refine Kd.Za0 ?_ _) | (with_reducible refine Kd.C_drew ?_))); (case side2 => exact HC0.out); (case side3 => repeat (first | exact (Kd.Zaw HR1_1.out HB.out) | (with_reducible refine Kd.C_alloc ?_ _) | (with_reducible refine Kd.Za0 ?_ _) | (with_reducible refine Kd.C_drew ?_))); (case side4 => exact HC1_1.out); (case side5 => repeat (first | exact (Kd.Zaw HR1_2.out HB.out) | (with_reducible refine Kd.C_alloc ?_ _) | (with_reducible refine Kd.Za0 ?_ _) | (with_reducible refine Kd.C_drew ?_))); (case side6 => exact HC1_2.out); (case side7 => repeat (first | exact (Kd.Zaw HR1_5.out HB.out) | (with_reducible refine Kd.C_alloc ?_ _) | (with_reducible refine Kd.Za0 ?_ _) | (with_reducible refine Kd.C_drew ?_))); (case side8 => exact HC1_5.out); rintro e w25 ⟨rfl, hb⟩; refine ⟨_, rfl, ?_⟩; have n1_ := Za.mk (Za6 (g := gb242) (o := .cells #[.int .i64 a1_0, .slice A1_1 l1_1.length c1_1, .slice A1_2 l1_2.length c1_2, .int .i64 a1_3, .int .i64 a1_4, .slice A1_5 l1_5.length c1_5, .int .i64 a1_6] 25 (0, 0)) (mvK BK242.out) hb); have n2_ := Za.mk (Zan (by repeat (first | (with_reducible first | exact HB.out | apply Zac | apply Zaa | apply Zab | refine Zag ?_ GE242.out) | exact HB.out)) hb); clear HO_5; clear BK242; clear HB; have BK242 := n1_; have HB := n2_; clear n1_ n2_; (try clear hb); (try clear hb2); (try clear hk); (try clear hi); obtain ⟨hcz26_0, hcz26_1, hcz26_2, hcz26_3, hcz26_4, hcz26_5, hcz26_6, hfz26_0, hfz26_1, hfz26_2, hfz26_3, hfz26_4, hfz26_5, hfz26_6⟩ := Zce BK242.out) | ((with_reducible refine Za2 (f := 62) rfl ?_); refine Zb0 (some 45) rfl rfl Try.func62 (by kernel_rfl) rfl #[.slice A1_2 l1_2.length c1_2, .int .i64 a1_4] rfl (by (try simp only [List.map_toArray, List.map_cons, List.map_nil]); first | done | rfl | (simp only [List.length_drop, List.length_take]; rfl)) ?_; (with_reducible refine (Zav.calls k2 _ _ l1_2 a1_4 true _ ?side1 ?side2 A21.out).mono ?_); (case side1 => repeat (first | exact (Kd.Zaw HR1_2.out HB.out) | (with_reducible refine Kd.C_alloc ?_ _) | (with_reducible refine Kd.Za0 ?_ _) | (with_reducible refine Kd.C_drew ?_))); (case side2 => exact HC1_2.out); rintro e w27 ⟨rfl, hb⟩; refine ⟨_, rfl, ?_⟩; have n2_ := Za.mk (Zan (by repeat (first | (with_reducible first | exact HB.out | apply Zac | apply Zaa | apply Zab | refine Zag ?_ GE242.out) | exact HB.out)) hb); clear BK242; clear HB; have HB := n2_; clear n2_; (try clear hb); (try clear hb2); (try clear hk); (try clear hi)))
      go_ret
      exact ⟨by first | rfl | (simp [Zaq, Zar] <;> rfl) | (simp [*, Zaq, Zar] <;> rfl), by repeat (first | (with_reducible first | exact HB.out | apply Zac | apply Zaa | apply Zab | refine Zag ?_ GE242.out) | exact HB.out)⟩
     replace c22 := Bool.eq_false_iff.mpr c22
     subst c22
     have H1 : (some 0) = some r := by rw [if_neg (show ¬ (false = true) by decide)] at H; exact H
     clear H
     have H := H1
     clear H1
     obtain rfl := Option.some.inj H
     obtain ⟨Ao28, co28, eo28⟩ := Kd.Zbw HO_5.out
     subst eo28
     obtain ⟨hcz29_0, hcz29_1, hcz29_2, hcz29_3, hcz29_4, hcz29_5, hcz29_6, hfz29_0, hfz29_1, hfz29_2, hfz29_3, hfz29_4, hfz29_5, hfz29_6⟩ := Zce BK242.out
     go_wp2_with (first | ((with_reducible refine Za2 (f := 61) rfl ?_); refine Zb0 (some 39) rfl rfl Try.func61 (by kernel_rfl) rfl #[.slice A0 l0.length c0, .agg #[.int .i64 a1_0, .slice A1_1 l1_1.length c1_1, .slice A1_2 l1_2.length c1_2, .int .i64 a1_3, .int .i64 a1_4, .slice A1_5 l1_5.length c1_5, .int .i64 a1_6]] rfl (by (try simp only [List.map_toArray, List.map_cons, List.map_nil]); first | done | rfl | (simp only [List.length_drop, List.length_take]; rfl)) ?_; (with_reducible refine (Zak.calls k2 _ _ l0 a1_0 _ _ l1_1 _ _ l1_2 a1_3 a1_4 _ _ l1_5 a1_6 true _ ?side1 ?side2 ?side3 ?side4 ?side5 ?side6 ?side7 ?side8 A19.out).mono ?_); (case side1 => repeat (first | exact (Kd.Zaw HR0.out HB.out) | (with_reducible refine Kd.C_alloc ?_ _) | (with_reducible refine Kd.Za0 ?_ _) | (with_reducible refine Kd.C_drew ?_))); (case side2 => exact HC0.out); (case side3 => repeat (first | exact (Kd.Zaw HR1_1.out HB.out) | (with_reducible refine Kd.C_alloc ?_ _) | (with_reducible refine Kd.Za0 ?_ _) | (with_reducible refine Kd.C_drew ?_))); (case side4 => exact HC1_1.out); (case side5 => repeat (first | exact (Kd.Zaw HR1_2.out HB.out) | (with_reducible refine Kd.C_alloc ?_ _) | (with_reducible refine Kd.Za0 ?_ _) | (with_reducible refine Kd.C_drew ?_))); (case side6 => exact HC1_2.out); (case side7 => repeat (first | exact (Kd.Zaw HR1_5.out HB.out) | (with_reducible refine Kd.C_alloc ?_ _) | (with_reducible refine Kd.Za0 ?_ _) | (with_reducible refine Kd.C_drew ?_))); (case side8 => exact HC1_5.out); rintro e w30 ⟨rfl, hb⟩; refine ⟨_, rfl, ?_⟩; have n1_ := Za.mk (Za6 (g := gb242) (o := .cells #[.int .i64 a1_0, .slice A1_1 l1_1.length c1_1, .slice A1_2 l1_2.length c1_2, .int .i64 a1_3, .int .i64 a1_4, .slice A1_5 l1_5.length c1_5, .int .i64 a1_6] 25 (0, 0)) (mvK BK242.out) hb); have n2_ := Za.mk (Zan (by repeat (first | (with_reducible first | exact HB.out | apply Zac | apply Zaa | apply Zab | refine Zag ?_ GE242.out) | exact HB.out)) hb); clear HO_5; clear BK242; clear HB; have BK242 := n1_; have HB := n2_; clear n1_ n2_; (try clear hb); (try clear hb2); (try clear hk); (try clear hi); obtain ⟨hcz31_0, hcz31_1, hcz31_2, hcz31_3, hcz31_4, hcz31_5, hcz31_6, hfz31_0, hfz31_1, hfz31_2, hfz31_3, hfz31_4, hfz31_5, hfz31_6⟩ := Zce BK242.out) | ((with_reducible refine Za2 (f := 62) rfl ?_); refine Zb0 (some 45) rfl rfl Try.func62 (by kernel_rfl) rfl #[.slice A1_2 l1_2.length c1_2, .int .i64 a1_4] rfl (by (try simp only [List.map_toArray, List.map_cons, List.map_nil]); first | done | rfl | (simp only [List.length_drop, List.length_take]; rfl)) ?_; (with_reducible refine (Zav.calls k2 _ _ l1_2 a1_4 false _ ?side1 ?side2 A21.out).mono ?_); (case side1 => repeat (first | exact (Kd.Zaw HR1_2.out HB.out) | (with_reducible refine Kd.C_alloc ?_ _) | (with_reducible refine Kd.Za0 ?_ _) | (with_reducible refine Kd.C_drew ?_))); (case side2 => exact HC1_2.out); rintro e w32 ⟨rfl, hb⟩; refine ⟨_, rfl, ?_⟩; have n2_ := Za.mk (Zan (by repeat (first | (with_reducible first | exact HB.out | apply Zac | apply Zaa | apply Zab | refine Zag ?_ GE242.out) | exact HB.out)) hb); clear BK242; clear HB; have HB := n2_; clear n2_; (try clear hb); (try clear hb2); (try clear hk); (try clear hi)))
     go_ret
     exact ⟨by first | rfl | (simp [Zaq, Zar] <;> rfl) | (simp [*, Zaq, Zar] <;> rfl), by repeat (first | (with_reducible first | exact HB.out | apply Zac | apply Zaa | apply Zab | refine Zag ?_ GE242.out) | exact HB.out)⟩
end Go.Proofs.Ytpbcigilipdedaa.P
