/- Proved: the statement ModelBig. Conditions: none but those of the statement. -/
import Derived.Test.YtkgjaklnbgdmiaaZ1
import Derived.Test.YtkgjaklnbgdmiaaZ3
import Derived.Test.YtkgjaklnbgdmiaaZ4
import Derived.Test.YtkgjaklnbgdmiaaZ2
import Derived.Laws.Bits64b
import Derived.Test.YtkgjaklnbgdmiaaRows
import Derived.WalkKit
import Derived.ProofKit
import Derived.OpenShut
import Derived.ShutString
import Derived.ChangeOld
import Derived.Below
import Derived.SizedLaws
namespace Go.Proofs.Ytkgjaklnbgdmiaa.P
open Go.RowKit Go.Proofs.YtkgjaklnbgdmiaaW.PrintWords Go.Proofs.YtkgjaklnbgdmiaaW.PrintLast Go.Proofs.YtkgjaklnbgdmiaaW.PrintMore
attribute [local go_sem] Zcm Zco Zc0 Zc1 Zcb Zcc Zcn Zcp
set_option linter.unusedVariables false
set_option linter.unusedSimpArgs false
def Zav.j0 : Nat → Int → List Int → List Int → Int → Int → Int → Option (Bool)
 | 0, _, _, _, _, _, _ => none
 | k + 1, x554000, x554001, x554002, x554003, x554004, x554006 => (some (([(([(⟨0, 1⟩ : S48)] : List (S48)))] : List (List (S48))) : List (List (S48)))).bind fun y560 => ((Zbl.f k y560 x554000 x554001 x554002 x554003 x554004 ([] : List (List Int)) x554006).bind fun t563 => (if x554004 < 0 then (if t563 = 0 then ((Zbl.f k y560 x554000 x554001 x554002 x554003 (wrap64 (x554004 - 1)) ([] : List (List Int)) x554006).bind fun t564 => (if t564 = 45 then ((Za2.f k).bind fun t565 => (some t565)) else (none))) else (none)) else (if t563 = 0 then ((Zbl.f k y560 x554000 x554001 x554002 x554003 (wrap64 (x554004 + 1)) ([] : List (List Int)) x554006).bind fun t566 => (if t566 = 45 then ((Za2.f k).bind fun t567 => (some t567)) else (none))) else (none))))
def Zav.f (k : Nat) (a0 : Int) (a1 : Int) : Option (Bool) := (some (([0] : List Int) : List Int)).bind fun y547 => (if a1 < 0 then (Zav.j0 k 0 y547 (([wrap64 ((wrap64 (-(Go.bits .and .i64 a0 4294967295))) - 1)] : List Int)) 0 (wrap64 (-(wrap64 ((wrap64 (4611686018427387904 - (wrap64 ((Go.bits .and .i64 a0 4294967295) * 1048576)))) - 1048576)))) 0) else (Zav.j0 k 0 y547 (([wrap64 ((Go.bits .and .i64 a0 4294967295) + 1)] : List Int)) 0 (wrap64 ((wrap64 (4611686018427387904 - (wrap64 ((Go.bits .and .i64 a0 4294967295) * 1048576)))) - 1048576)) 0))
set_option maxHeartbeats 8000000 in
set_option maxRecDepth 100000 in
theorem Zav.calls (k : Nat) (a0 : Int) (a1 : Int) (r : Bool) (w : World) (h : Zav.f k a0 a1 = some r) :
  Calls Try.prog 9 #[.int .i64 a0, .int .i64 a1] w fun e w' => e = .returned (.bool r) ∧ Below w.heap.size w w' := by
 have hu31 := Try.underlying31
 have hu48 := Try.underlying48
 have HB := Za.mk (Below.refl w.heap.size w)
 have H : ((some (([0] : List Int) : List Int)).bind fun y547 => (if a1 < 0 then (Zav.j0 k 0 y547 (([wrap64 ((wrap64 (-(Go.bits .and .i64 a0 4294967295))) - 1)] : List Int)) 0 (wrap64 (-(wrap64 ((wrap64 (4611686018427387904 - (wrap64 ((Go.bits .and .i64 a0 4294967295) * 1048576)))) - 1048576)))) 0) else (Zav.j0 k 0 y547 (([wrap64 ((Go.bits .and .i64 a0 4294967295) + 1)] : List Int)) 0 (wrap64 ((wrap64 (4611686018427387904 - (wrap64 ((Go.bits .and .i64 a0 4294967295) * 1048576)))) - 1048576)) 0))) = some r := h
 clear h
 obtain ⟨y547, hy547⟩ : ∃ y_ : List Int, y_ = (([0] : List Int)) := ⟨_, rfl⟩
 replace H : (if a1 < 0 then (Zav.j0 k 0 y547 (([wrap64 ((wrap64 (-(Go.bits .and .i64 a0 4294967295))) - 1)] : List Int)) 0 (wrap64 (-(wrap64 ((wrap64 (4611686018427387904 - (wrap64 ((Go.bits .and .i64 a0 4294967295) * 1048576)))) - 1048576)))) 0) else (Zav.j0 k 0 y547 (([wrap64 ((Go.bits .and .i64 a0 4294967295) + 1)] : List Int)) 0 (wrap64 ((wrap64 (4611686018427387904 - (wrap64 ((Go.bits .and .i64 a0 4294967295) * 1048576)))) - 1048576)) 0)) = some r := by first | (rw [hy547]; with_reducible exact H) | (have H2_ := (Option.bind_some _ _).symm.trans H; rw [hy547]; with_reducible exact H2_) | (have H2_ := (Option.bind_some _ _).symm.trans H; with_reducible exact H2_) | with_reducible exact H | (rw [hy547]; exact H) | exact H
 have Ny547 := Za.mk hy547
 clear hy547
 obtain ⟨y550, hy550⟩ : ∃ y_ : List Int, y_ = (([wrap64 ((Go.bits .and .i64 a0 4294967295) + 1)] : List Int)) := ⟨_, rfl⟩
 replace H : (if a1 < 0 then (Zav.j0 k 0 y547 (([wrap64 ((wrap64 (-(Go.bits .and .i64 a0 4294967295))) - 1)] : List Int)) 0 (wrap64 (-(wrap64 ((wrap64 (4611686018427387904 - (wrap64 ((Go.bits .and .i64 a0 4294967295) * 1048576)))) - 1048576)))) 0) else (Zav.j0 k 0 y547 y550 0 (wrap64 ((wrap64 (4611686018427387904 - (wrap64 ((Go.bits .and .i64 a0 4294967295) * 1048576)))) - 1048576)) 0)) = some r := by first | (rw [hy550]; with_reducible exact H) | (have H2_ := (Option.bind_some _ _).symm.trans H; rw [hy550]; with_reducible exact H2_) | (have H2_ := (Option.bind_some _ _).symm.trans H; with_reducible exact H2_) | with_reducible exact H | (rw [hy550]; exact H) | exact H
 have Ny550 := Za.mk hy550
 clear hy550
 have HC3 := Za.mk H
 clear H
 go_enter Try.func9, Try.ntmps9
 go_upto_if 23 with (first | ((with_reducible refine Zaz (N := 15) rfl ?_); refine Kd.Zcs (Kd.int .i64) _ 3 ?hg (N := 15) ?hd (xs := ([0] : List Int)) (inner := [.int .i64 0]) (ok := fun _ => True) (okp := fun _ => True) ?hr ?hp (fun _ hk => hk) trivial (Below.refl _ _) (Nat.le_refl _) (by simp) ?_; (case hd => rfl); (case hg => rfl); (case hr => first | (go_simp; done) | (go_simp; rfl)); (case hp => exact (Reps.one (show Kd.M (Kd.int .i64) _ _ _ 0 [.int .i64 0] from rfl) (Reps.none _ _))); intro v548 w4 ho5 hb hg_ hnew_; clear hg_ hnew_; (first | rw [← Ny547.out] at ho5 | (simp only [Int.reduceToNat] at ho5; rw [← Ny547.out] at ho5)); have n0_ := Za.mk (Kd.Zbq ho5 (Zaj (by repeat (first | (with_reducible first | exact HB.out | apply Zab | apply Zaa | apply Zac) | exact HB.out)))); have n1_ := Za.mk (Zad (by repeat (first | (with_reducible first | exact HB.out | apply Zab | apply Zaa | apply Zac) | exact HB.out)) hb); clear HB; have HO549 := n0_; have HB := n1_; clear n0_ n1_; clear hb ho5) | ((with_reducible refine Zaz (N := 18) rfl ?_); refine Kd.Zcs (Kd.int .i64) _ 3 ?hg (N := 18) ?hd (xs := ([wrap64 ((Go.bits .and .i64 a0 4294967295) + 1)] : List Int)) (inner := [.int .i64 (wrap64 ((Go.bits .and .i64 a0 4294967295) + 1))]) (ok := fun _ => True) (okp := fun _ => True) ?hr ?hp (fun _ hk => hk) trivial (Below.refl _ _) (Nat.le_refl _) (by simp) ?_; (case hd => rfl); (case hg => rfl); (case hr => first | (go_simp; done) | (go_simp; rfl)); (case hp => exact (Reps.one (show Kd.M (Kd.int .i64) _ _ _ (wrap64 ((Go.bits .and .i64 a0 4294967295) + 1)) [.int .i64 (wrap64 ((Go.bits .and .i64 a0 4294967295) + 1))] from rfl) (Reps.none _ _))); intro v551 w6 ho7 hb hg_ hnew_; clear hg_ hnew_; (first | rw [← Ny550.out] at ho7 | (simp only [Int.reduceToNat] at ho7; rw [← Ny550.out] at ho7)); have n0_ := Za.mk (Kd.Zb4 (by (with_reducible repeat (first | apply Kd.Zaq | apply Kd.Zar | apply Kd.Zay)); exact HO549.out) (Kd.Zch ho7) hb); have n1_ := Za.mk (Kd.Zbq (Kd.Zda ho7 (Kd.R_lt (by (with_reducible repeat (first | apply Kd.Zaq | apply Kd.Zar | apply Kd.Zay)); exact HO549.out))) (Zaj (by repeat (first | (with_reducible first | exact HB.out | apply Zab | apply Zaa | apply Zac) | exact HB.out)))); have n2_ := Za.mk (Zad (by repeat (first | (with_reducible first | exact HB.out | apply Zab | apply Zaa | apply Zac) | exact HB.out)) hb); clear HO549; clear HB; have HO549 := n0_; have HO552 := n1_; have HB := n2_; clear n0_ n1_ n2_; clear hb ho7; obtain ⟨Ao8, co8, eo8⟩ := Kd.Za9 HO552.out; subst eo8; obtain ⟨Ao9, co9, eo9⟩ := Kd.Za9 HO549.out; subst eo9) | ((with_reducible refine Zaz (N := 7) rfl ?_); refine Za5 ?hg (N := 7) ?hd (cs := #[.int .i64 0, .slice none 0 0, .slice none 0 0, .int .i64 0, .int .i64 0, .slice none 0 0, .int .i64 0]) (t := 31) ?hr ?_; (case hd => rfl); (case hg => rfl); (case hr => first | (go_simp; done) | (go_simp; rfl)); intro gb553 hg w10 hbox hb; have n0_ := Za.mk (Kd.Zbi (by (with_reducible repeat (first | apply Kd.Zaq | apply Kd.Zar | apply Kd.Zay)); exact HO549.out) hb); have n1_ := Za.mk (Kd.Zbi (by (with_reducible repeat (first | apply Kd.Zaq | apply Kd.Zar | apply Kd.Zay)); exact HO552.out) hb); have n2_ := Za.mk (Zad (by repeat (first | (with_reducible first | exact HB.out | apply Zab | apply Zaa | apply Zac) | exact HB.out)) hb); have n3_ := Za.mk (hbox); have n4_ := Za.mk ((by rw [hg]; exact (Zaj (by repeat (first | (with_reducible first | exact HB.out | apply Zab | apply Zaa | apply Zac) | exact HB.out))) : w.heap.size ≤ gb553)); have n5_ := Za.mk ((by rw [hg]; exact (Zaj (by repeat (first | (with_reducible first | exact HB.out | apply Zab | apply Zaa | apply Zac) | exact HB.out))) : w.heap.size ≤ gb553)); clear HO549; clear HO552; clear HB; have HO549 := n0_; have HO552 := n1_; have HB := n2_; have BK553 := n3_; have GW553 := n4_; have GE553 := n5_; clear n0_ n1_ n2_ n3_ n4_ n5_; clear hb hbox hg; obtain ⟨hcz11_0, hcz11_1, hcz11_2, hcz11_3, hcz11_4, hcz11_5, hcz11_6, hfz11_0, hfz11_1, hfz11_2, hfz11_3, hfz11_4, hfz11_5, hfz11_6⟩ := Zc9 BK553.out))
 (try simp only [Act.put, List.setIfInBounds_toArray, List.set_cons_zero, List.set_cons_succ])
 go_cut [] (fun wc => ∃ (kq : Nat) (x554002_2 : List Int) (x554004_2 : Int) (u554002 : Value), Za (Zav.j0 kq 0 y547 x554002_2 0 x554004_2 0 = some r) ∧ Za (kq ≤ k) ∧ Za (Kd.R (Kd.int .i64) 3 wc w.heap.size (fun k_ => some k_ ≠ (u554002 : Value).ownBlock) (.slice Ao9 y547.length co9) y547) ∧ Za (Kd.R (Kd.int .i64) 3 wc w.heap.size (fun k_ => some k_ ≠ ((.slice Ao9 y547.length co9) : Value).ownBlock) u554002 x554002_2) ∧ Za (wc.heap[gb553]? = some (.cells #[.int .i64 0, (.slice Ao9 y547.length co9), u554002, .int .i64 0, .int .i64 x554004_2, (.slice none 0 0), .int .i64 0] 31 (0, 0))) ∧ Za (Below w.heap.size w wc))
 case first =>
  have H := HC3.out
  clear HC3
  by_cases c12 : a1 < 0
  rotate_left
  ·rw [if_neg c12] at H
   have c12b0 : decide (a1 < 0) = false := decide_eq_false c12
   clear c12
   (first | rw [c12b0] | (simp only [Zas, Zat]; rw [c12b0]) | skip)
   have H' := Za.mk H
   clear H
   go_wp2
   go_meet
   case rel => exact ⟨_, (y550), (wrap64 ((wrap64 (4611686018427387904 - (wrap64 ((Go.bits .and .i64 a0 4294967295) * 1048576)))) - 1048576)), (.slice Ao8 y550.length co8), H', ⟨by first | omega | exact Nat.le_refl _⟩, ⟨by (with_reducible repeat (first | apply Kd.Zaq | apply Kd.Zar | apply Kd.Zay)); exact Kd.Za7 (Kd.Zb (p := ⟨gb553, 6, none⟩) (Kd.Zb (p := ⟨gb553, 5, none⟩) (Kd.Zb (p := ⟨gb553, 4, none⟩) (Kd.Zb (p := ⟨gb553, 3, none⟩) (Kd.Zb (p := ⟨gb553, 2, none⟩) (Kd.Zb (p := ⟨gb553, 1, none⟩) (Kd.Zb (p := ⟨gb553, 0, none⟩) (Kd.Zbd HO549.out BK553.out (by decide)) (fun _ hk => hk.2) (.int .i64 0)) (fun _ hk => hk.2) (.slice Ao9 y547.length co9)) (fun _ hk => hk.2) (.slice Ao8 y550.length co8)) (fun _ hk => hk.2) (.int .i64 0)) (fun _ hk => hk.2) (.int .i64 (wrap64 ((wrap64 (4611686018427387904 - (wrap64 ((Go.bits .and .i64 a0 4294967295) * 1048576)))) - 1048576)))) (fun _ hk => hk.2) (.slice none 0 0)) (fun _ hk => hk.2) (.int .i64 0)) (fun _ hk => hk.1.2)⟩, ⟨by (with_reducible repeat (first | apply Kd.Zaq | apply Kd.Zar | apply Kd.Zay)); exact Kd.Za7 (Kd.Zb (p := ⟨gb553, 6, none⟩) (Kd.Zb (p := ⟨gb553, 5, none⟩) (Kd.Zb (p := ⟨gb553, 4, none⟩) (Kd.Zb (p := ⟨gb553, 3, none⟩) (Kd.Zb (p := ⟨gb553, 2, none⟩) (Kd.Zb (p := ⟨gb553, 1, none⟩) (Kd.Zb (p := ⟨gb553, 0, none⟩) (Kd.Zbd HO552.out BK553.out (by decide)) (fun _ hk => hk.2) (.int .i64 0)) (fun _ hk => hk.2) (.slice Ao9 y547.length co9)) (fun _ hk => hk.2) (.slice Ao8 y550.length co8)) (fun _ hk => hk.2) (.int .i64 0)) (fun _ hk => hk.2) (.int .i64 (wrap64 ((wrap64 (4611686018427387904 - (wrap64 ((Go.bits .and .i64 a0 4294967295) * 1048576)))) - 1048576)))) (fun _ hk => hk.2) (.slice none 0 0)) (fun _ hk => hk.2) (.int .i64 0)) (fun _ hk => hk.1.2)⟩, ⟨by (with_reducible repeat (first | refine blk_drewN ?_ _ | refine Zag ?_ | refine Zaf ?_ _)); refine Zax (cs := #[.int .i64 0, .slice Ao9 y547.length co9, .slice Ao8 y550.length co8, .int .i64 0, .int .i64 (wrap64 ((wrap64 (4611686018427387904 - (wrap64 ((Go.bits .and .i64 a0 4294967295) * 1048576)))) - 1048576)), .slice none 0 0, .int .i64 0]) ?_ 6 _ rfl; (with_reducible repeat (first | refine blk_drewN ?_ _ | refine Zag ?_ | refine Zaf ?_ _)); refine Zax (cs := #[.int .i64 0, .slice Ao9 y547.length co9, .slice Ao8 y550.length co8, .int .i64 0, .int .i64 (wrap64 ((wrap64 (4611686018427387904 - (wrap64 ((Go.bits .and .i64 a0 4294967295) * 1048576)))) - 1048576)), .slice none 0 0, .int .i64 0]) ?_ 5 _ rfl; (with_reducible repeat (first | refine blk_drewN ?_ _ | refine Zag ?_ | refine Zaf ?_ _)); refine Zax (cs := #[.int .i64 0, .slice Ao9 y547.length co9, .slice Ao8 y550.length co8, .int .i64 0, .int .i64 0, .slice none 0 0, .int .i64 0]) ?_ 4 _ rfl; (with_reducible repeat (first | refine blk_drewN ?_ _ | refine Zag ?_ | refine Zaf ?_ _)); refine Zax (cs := #[.int .i64 0, .slice Ao9 y547.length co9, .slice Ao8 y550.length co8, .int .i64 0, .int .i64 0, .slice none 0 0, .int .i64 0]) ?_ 3 _ rfl; (with_reducible repeat (first | refine blk_drewN ?_ _ | refine Zag ?_ | refine Zaf ?_ _)); refine Zax (cs := #[.int .i64 0, .slice Ao9 y547.length co9, .slice none 0 0, .int .i64 0, .int .i64 0, .slice none 0 0, .int .i64 0]) ?_ 2 _ rfl; (with_reducible repeat (first | refine blk_drewN ?_ _ | refine Zag ?_ | refine Zaf ?_ _)); refine Zax (cs := #[.int .i64 0, .slice none 0 0, .slice none 0 0, .int .i64 0, .int .i64 0, .slice none 0 0, .int .i64 0]) ?_ 1 _ rfl; (with_reducible repeat (first | refine blk_drewN ?_ _ | refine Zag ?_ | refine Zaf ?_ _)); refine Zax (cs := #[.int .i64 0, .slice none 0 0, .slice none 0 0, .int .i64 0, .int .i64 0, .slice none 0 0, .int .i64 0]) ?_ 0 _ rfl; (with_reducible repeat (first | refine blk_drewN ?_ _ | refine Zag ?_ | refine Zaf ?_ _)); exact BK553.out⟩, ⟨by repeat (first | (with_reducible first | exact HB.out | apply Zab | apply Zaa | apply Zac | refine Zae ?_ GE553.out) | exact HB.out)⟩⟩
  rw [if_pos c12] at H
  have c12b0 : decide (a1 < 0) = true := decide_eq_true c12
  clear c12
  (first | rw [c12b0] | (simp only [Zas, Zat]; rw [c12b0]) | skip)
  obtain ⟨y554, hy554⟩ : ∃ y_ : List Int, y_ = (([wrap64 ((wrap64 (-(Go.bits .and .i64 a0 4294967295))) - 1)] : List Int)) := ⟨_, rfl⟩
  replace H : (Zav.j0 k 0 y547 y554 0 (wrap64 (-(wrap64 ((wrap64 (4611686018427387904 - (wrap64 ((Go.bits .and .i64 a0 4294967295) * 1048576)))) - 1048576)))) 0) = some r := by first | (rw [hy554]; with_reducible exact H) | (have H2_ := (Option.bind_some _ _).symm.trans H; rw [hy554]; with_reducible exact H2_) | (have H2_ := (Option.bind_some _ _).symm.trans H; with_reducible exact H2_) | with_reducible exact H | (rw [hy554]; exact H) | exact H
  have Ny554 := Za.mk hy554
  clear hy554
  have H' := Za.mk H
  clear H
  go_wp2_with (first | ((with_reducible refine Zaz (N := 27) rfl ?_); refine Kd.Zcs (Kd.int .i64) _ 3 ?hg (N := 27) ?hd (xs := ([wrap64 ((wrap64 (-(Go.bits .and .i64 a0 4294967295))) - 1)] : List Int)) (inner := [.int .i64 (wrap64 ((wrap64 (-(Go.bits .and .i64 a0 4294967295))) - 1))]) (ok := fun _ => True) (okp := fun _ => True) ?hr ?hp (fun _ hk => hk) trivial (Below.refl _ _) (Nat.le_refl _) (by simp) ?_; (case hd => rfl); (case hg => rfl); (case hr => first | (go_simp; done) | (go_simp; rfl)); (case hp => exact (Reps.one (show Kd.M (Kd.int .i64) _ _ _ (wrap64 ((wrap64 (-(Go.bits .and .i64 a0 4294967295))) - 1)) [.int .i64 (wrap64 ((wrap64 (-(Go.bits .and .i64 a0 4294967295))) - 1))] from rfl) (Reps.none _ _))); intro v555 w13 ho14 hb hg_ hnew_; clear hg_ hnew_; (first | rw [← Ny554.out] at ho14 | (simp only [Int.reduceToNat] at ho14; rw [← Ny554.out] at ho14)); have n0_ := Za.mk (Kd.Zb4 (by (with_reducible repeat (first | apply Kd.Zaq | apply Kd.Zar | apply Kd.Zay)); exact (Kd.Za7 (Kd.Zb (p := ⟨gb553, 6, none⟩) (Kd.Zb (p := ⟨gb553, 5, none⟩) (Kd.Zb (p := ⟨gb553, 4, none⟩) (Kd.Zb (p := ⟨gb553, 3, none⟩) (Kd.Zb (p := ⟨gb553, 2, none⟩) (Kd.Zb (p := ⟨gb553, 1, none⟩) (Kd.Zb (p := ⟨gb553, 0, none⟩) (Kd.Zbd HO549.out BK553.out (by decide)) (fun _ hk => hk.2) (.int .i64 0)) (fun _ hk => hk.2) (.slice Ao9 y547.length co9)) (fun _ hk => hk.2) (.slice Ao8 y550.length co8)) (fun _ hk => hk.2) (.int .i64 0)) (fun _ hk => hk.2) (.int .i64 (wrap64 ((wrap64 (4611686018427387904 - (wrap64 ((Go.bits .and .i64 a0 4294967295) * 1048576)))) - 1048576)))) (fun _ hk => hk.2) (.slice none 0 0)) (fun _ hk => hk.2) (.int .i64 0)) (fun _ h_ => h_.1))) (Kd.Zch ho14) hb); have n1_ := Za.mk (Kd.Zb4 (by (with_reducible repeat (first | apply Kd.Zaq | apply Kd.Zar | apply Kd.Zay)); exact (Kd.Za7 (Kd.Zb (p := ⟨gb553, 6, none⟩) (Kd.Zb (p := ⟨gb553, 5, none⟩) (Kd.Zb (p := ⟨gb553, 4, none⟩) (Kd.Zb (p := ⟨gb553, 3, none⟩) (Kd.Zb (p := ⟨gb553, 2, none⟩) (Kd.Zb (p := ⟨gb553, 1, none⟩) (Kd.Zb (p := ⟨gb553, 0, none⟩) (Kd.Zbd HO552.out BK553.out (by decide)) (fun _ hk => hk.2) (.int .i64 0)) (fun _ hk => hk.2) (.slice Ao9 y547.length co9)) (fun _ hk => hk.2) (.slice Ao8 y550.length co8)) (fun _ hk => hk.2) (.int .i64 0)) (fun _ hk => hk.2) (.int .i64 (wrap64 ((wrap64 (4611686018427387904 - (wrap64 ((Go.bits .and .i64 a0 4294967295) * 1048576)))) - 1048576)))) (fun _ hk => hk.2) (.slice none 0 0)) (fun _ hk => hk.2) (.int .i64 0)) (fun _ h_ => h_.1))) (Kd.Zch ho14) hb); have n2_ := Za.mk (Kd.Zbq (Kd.Zda (Kd.Zda ho14 (Kd.R_lt (by (with_reducible repeat (first | apply Kd.Zaq | apply Kd.Zar | apply Kd.Zay)); exact (Kd.Za7 (Kd.Zb (p := ⟨gb553, 6, none⟩) (Kd.Zb (p := ⟨gb553, 5, none⟩) (Kd.Zb (p := ⟨gb553, 4, none⟩) (Kd.Zb (p := ⟨gb553, 3, none⟩) (Kd.Zb (p := ⟨gb553, 2, none⟩) (Kd.Zb (p := ⟨gb553, 1, none⟩) (Kd.Zb (p := ⟨gb553, 0, none⟩) (Kd.Zbd HO549.out BK553.out (by decide)) (fun _ hk => hk.2) (.int .i64 0)) (fun _ hk => hk.2) (.slice Ao9 y547.length co9)) (fun _ hk => hk.2) (.slice Ao8 y550.length co8)) (fun _ hk => hk.2) (.int .i64 0)) (fun _ hk => hk.2) (.int .i64 (wrap64 ((wrap64 (4611686018427387904 - (wrap64 ((Go.bits .and .i64 a0 4294967295) * 1048576)))) - 1048576)))) (fun _ hk => hk.2) (.slice none 0 0)) (fun _ hk => hk.2) (.int .i64 0)) (fun _ h_ => h_.1))))) (Kd.R_lt (by (with_reducible repeat (first | apply Kd.Zaq | apply Kd.Zar | apply Kd.Zay)); exact (Kd.Za7 (Kd.Zb (p := ⟨gb553, 6, none⟩) (Kd.Zb (p := ⟨gb553, 5, none⟩) (Kd.Zb (p := ⟨gb553, 4, none⟩) (Kd.Zb (p := ⟨gb553, 3, none⟩) (Kd.Zb (p := ⟨gb553, 2, none⟩) (Kd.Zb (p := ⟨gb553, 1, none⟩) (Kd.Zb (p := ⟨gb553, 0, none⟩) (Kd.Zbd HO552.out BK553.out (by decide)) (fun _ hk => hk.2) (.int .i64 0)) (fun _ hk => hk.2) (.slice Ao9 y547.length co9)) (fun _ hk => hk.2) (.slice Ao8 y550.length co8)) (fun _ hk => hk.2) (.int .i64 0)) (fun _ hk => hk.2) (.int .i64 (wrap64 ((wrap64 (4611686018427387904 - (wrap64 ((Go.bits .and .i64 a0 4294967295) * 1048576)))) - 1048576)))) (fun _ hk => hk.2) (.slice none 0 0)) (fun _ hk => hk.2) (.int .i64 0)) (fun _ h_ => h_.1))))) (Zaj (by repeat (first | (with_reducible first | exact HB.out | apply Zab | apply Zaa | apply Zac | refine Zae ?_ GE553.out) | exact HB.out)))); have n3_ := Za.mk (Zau (g := gb553) (o := .cells #[.int .i64 0, .slice Ao9 y547.length co9, .slice Ao8 y550.length co8, .int .i64 0, .int .i64 (wrap64 ((wrap64 (4611686018427387904 - (wrap64 ((Go.bits .and .i64 a0 4294967295) * 1048576)))) - 1048576)), .slice none 0 0, .int .i64 0] 31 (0, 0)) (by (with_reducible repeat (first | refine blk_drewN ?_ _ | refine Zag ?_ | refine Zaf ?_ _)); refine Zax (cs := #[.int .i64 0, .slice Ao9 y547.length co9, .slice Ao8 y550.length co8, .int .i64 0, .int .i64 (wrap64 ((wrap64 (4611686018427387904 - (wrap64 ((Go.bits .and .i64 a0 4294967295) * 1048576)))) - 1048576)), .slice none 0 0, .int .i64 0]) ?_ 6 _ rfl; (with_reducible repeat (first | refine blk_drewN ?_ _ | refine Zag ?_ | refine Zaf ?_ _)); refine Zax (cs := #[.int .i64 0, .slice Ao9 y547.length co9, .slice Ao8 y550.length co8, .int .i64 0, .int .i64 (wrap64 ((wrap64 (4611686018427387904 - (wrap64 ((Go.bits .and .i64 a0 4294967295) * 1048576)))) - 1048576)), .slice none 0 0, .int .i64 0]) ?_ 5 _ rfl; (with_reducible repeat (first | refine blk_drewN ?_ _ | refine Zag ?_ | refine Zaf ?_ _)); refine Zax (cs := #[.int .i64 0, .slice Ao9 y547.length co9, .slice Ao8 y550.length co8, .int .i64 0, .int .i64 0, .slice none 0 0, .int .i64 0]) ?_ 4 _ rfl; (with_reducible repeat (first | refine blk_drewN ?_ _ | refine Zag ?_ | refine Zaf ?_ _)); refine Zax (cs := #[.int .i64 0, .slice Ao9 y547.length co9, .slice Ao8 y550.length co8, .int .i64 0, .int .i64 0, .slice none 0 0, .int .i64 0]) ?_ 3 _ rfl; (with_reducible repeat (first | refine blk_drewN ?_ _ | refine Zag ?_ | refine Zaf ?_ _)); refine Zax (cs := #[.int .i64 0, .slice Ao9 y547.length co9, .slice none 0 0, .int .i64 0, .int .i64 0, .slice none 0 0, .int .i64 0]) ?_ 2 _ rfl; (with_reducible repeat (first | refine blk_drewN ?_ _ | refine Zag ?_ | refine Zaf ?_ _)); refine Zax (cs := #[.int .i64 0, .slice none 0 0, .slice none 0 0, .int .i64 0, .int .i64 0, .slice none 0 0, .int .i64 0]) ?_ 1 _ rfl; (with_reducible repeat (first | refine blk_drewN ?_ _ | refine Zag ?_ | refine Zaf ?_ _)); refine Zax (cs := #[.int .i64 0, .slice none 0 0, .slice none 0 0, .int .i64 0, .int .i64 0, .slice none 0 0, .int .i64 0]) ?_ 0 _ rfl; (with_reducible repeat (first | refine blk_drewN ?_ _ | refine Zag ?_ | refine Zaf ?_ _)); exact BK553.out) hb); have n4_ := Za.mk (Zad (by repeat (first | (with_reducible first | exact HB.out | apply Zab | apply Zaa | apply Zac | refine Zae ?_ GE553.out) | exact HB.out)) hb); clear HO549; clear HO552; clear BK553; clear HB; have HO549 := n0_; have HO552 := n1_; have HO556 := n2_; have BK553 := n3_; have HB := n4_; clear n0_ n1_ n2_ n3_ n4_; clear hb ho14; obtain ⟨Ao15, co15, eo15⟩ := Kd.Za9 HO556.out; subst eo15; obtain ⟨hcz16_0, hcz16_1, hcz16_2, hcz16_3, hcz16_4, hcz16_5, hcz16_6, hfz16_0, hfz16_1, hfz16_2, hfz16_3, hfz16_4, hfz16_5, hfz16_6⟩ := Zc9 BK553.out))
  go_meet
  case rel => exact ⟨_, (y554), (wrap64 (-(wrap64 ((wrap64 (4611686018427387904 - (wrap64 ((Go.bits .and .i64 a0 4294967295) * 1048576)))) - 1048576)))), (.slice Ao15 y554.length co15), H', ⟨by first | omega | exact Nat.le_refl _⟩, ⟨by (with_reducible repeat (first | apply Kd.Zaq | apply Kd.Zar | apply Kd.Zay)); exact Kd.Za7 (Kd.Zb (p := ⟨gb553, 4, none⟩) (Kd.Zb (p := ⟨gb553, 2, none⟩) (Kd.Zbd HO549.out BK553.out (by decide)) (fun _ hk => hk.2) (.slice Ao15 y554.length co15)) (fun _ hk => hk.2) (.int .i64 (wrap64 (-(wrap64 ((wrap64 (4611686018427387904 - (wrap64 ((Go.bits .and .i64 a0 4294967295) * 1048576)))) - 1048576)))))) (fun _ hk => hk.1.2)⟩, ⟨by (with_reducible repeat (first | apply Kd.Zaq | apply Kd.Zar | apply Kd.Zay)); exact Kd.Za7 (Kd.Zb (p := ⟨gb553, 4, none⟩) (Kd.Zb (p := ⟨gb553, 2, none⟩) (Kd.Zbd HO556.out BK553.out (by decide)) (fun _ hk => hk.2) (.slice Ao15 y554.length co15)) (fun _ hk => hk.2) (.int .i64 (wrap64 (-(wrap64 ((wrap64 (4611686018427387904 - (wrap64 ((Go.bits .and .i64 a0 4294967295) * 1048576)))) - 1048576)))))) (fun _ hk => hk.1.1.2)⟩, ⟨by (with_reducible repeat (first | refine blk_drewN ?_ _ | refine Zag ?_ | refine Zaf ?_ _)); refine Zax (cs := #[.int .i64 0, .slice Ao9 y547.length co9, .slice Ao15 y554.length co15, .int .i64 0, .int .i64 (wrap64 ((wrap64 (4611686018427387904 - (wrap64 ((Go.bits .and .i64 a0 4294967295) * 1048576)))) - 1048576)), .slice none 0 0, .int .i64 0]) ?_ 4 _ rfl; (with_reducible repeat (first | refine blk_drewN ?_ _ | refine Zag ?_ | refine Zaf ?_ _)); refine Zax (cs := #[.int .i64 0, .slice Ao9 y547.length co9, .slice Ao8 y550.length co8, .int .i64 0, .int .i64 (wrap64 ((wrap64 (4611686018427387904 - (wrap64 ((Go.bits .and .i64 a0 4294967295) * 1048576)))) - 1048576)), .slice none 0 0, .int .i64 0]) ?_ 2 _ rfl; (with_reducible repeat (first | refine blk_drewN ?_ _ | refine Zag ?_ | refine Zaf ?_ _)); exact BK553.out⟩, ⟨by repeat (first | (with_reducible first | exact HB.out | apply Zab | apply Zaa | apply Zac | refine Zae ?_ GE553.out) | exact HB.out)⟩⟩
 case rest =>
  clear HC3
  try clear c1
  try clear p2
  try clear p6
  try clear c9
  try clear c12
  try clear c12b0
  try clear hcz11_0
  try clear hcz11_1
  try clear hcz11_2
  try clear hcz11_3
  try clear hcz11_4
  try clear hcz11_5
  try clear hcz11_6
  try clear hcz16_0
  try clear hcz16_1
  try clear hcz16_2
  try clear hcz16_3
  try clear hcz16_4
  try clear hcz16_5
  try clear hcz16_6
  try clear hfz11_0
  try clear hfz11_1
  try clear hfz11_2
  try clear hfz11_3
  try clear hfz11_4
  try clear hfz11_5
  try clear hfz11_6
  try clear hfz16_0
  try clear hfz16_1
  try clear hfz16_2
  try clear hfz16_3
  try clear hfz16_4
  try clear hfz16_5
  try clear hfz16_6
  obtain ⟨kq, x554002_2, x554004_2, u554002, HA, HJ2, HO_554001, HO_554002, BK553, HB⟩ := hcut
  cases kq with
  | zero => exact absurd HA.out (by simp [Zav.j0])
  | succ kj2 =>
   have H := HA.out
   clear HA
   simp only [Zav.j0] at H
   obtain ⟨y557, hy557⟩ : ∃ y_ : List (S48), y_ = (([(⟨0, 1⟩ : S48)] : List (S48))) := ⟨_, rfl⟩
   replace H : ((some (([y557] : List (List (S48))) : List (List (S48)))).bind fun y560 => ((Zbl.f kj2 y560 0 y547 x554002_2 0 x554004_2 ([] : List (List Int)) 0).bind fun t563 => (if x554004_2 < 0 then (if t563 = 0 then ((Zbl.f kj2 y560 0 y547 x554002_2 0 (wrap64 (x554004_2 - 1)) ([] : List (List Int)) 0).bind fun t564 => (if t564 = 45 then ((Za2.f kj2).bind fun t565 => (some t565)) else (none))) else (none)) else (if t563 = 0 then ((Zbl.f kj2 y560 0 y547 x554002_2 0 (wrap64 (x554004_2 + 1)) ([] : List (List Int)) 0).bind fun t566 => (if t566 = 45 then ((Za2.f kj2).bind fun t567 => (some t567)) else (none))) else (none))))) = some r := by first | (rw [hy557]; with_reducible exact H) | (have H2_ := (Option.bind_some _ _).symm.trans H; rw [hy557]; with_reducible exact H2_) | (have H2_ := (Option.bind_some _ _).symm.trans H; with_reducible exact H2_) | with_reducible exact H | (rw [hy557]; exact H) | exact H
   have Ny557 := Za.mk hy557
   clear hy557
   obtain ⟨y560, hy560⟩ : ∃ y_ : List (List (S48)), y_ = (([y557] : List (List (S48)))) := ⟨_, rfl⟩
   replace H : ((Zbl.f kj2 y560 0 y547 x554002_2 0 x554004_2 ([] : List (List Int)) 0).bind fun t563 => (if x554004_2 < 0 then (if t563 = 0 then ((Zbl.f kj2 y560 0 y547 x554002_2 0 (wrap64 (x554004_2 - 1)) ([] : List (List Int)) 0).bind fun t564 => (if t564 = 45 then ((Za2.f kj2).bind fun t565 => (some t565)) else (none))) else (none)) else (if t563 = 0 then ((Zbl.f kj2 y560 0 y547 x554002_2 0 (wrap64 (x554004_2 + 1)) ([] : List (List Int)) 0).bind fun t566 => (if t566 = 45 then ((Za2.f kj2).bind fun t567 => (some t567)) else (none))) else (none)))) = some r := by first | (rw [hy560]; with_reducible exact H) | (have H2_ := (Option.bind_some _ _).symm.trans H; rw [hy560]; with_reducible exact H2_) | (have H2_ := (Option.bind_some _ _).symm.trans H; with_reducible exact H2_) | with_reducible exact H | (rw [hy560]; exact H) | exact H
   have Ny560 := Za.mk hy560
   clear hy560
   replace H := Option.bind_eq_some_iff.mp H
   obtain ⟨t563, A170, H⟩ := H
   replace H : (if x554004_2 < 0 then (if t563 = 0 then ((Zbl.f kj2 y560 0 y547 x554002_2 0 (wrap64 (x554004_2 - 1)) ([] : List (List Int)) 0).bind fun t564 => (if t564 = 45 then ((Za2.f kj2).bind fun t565 => (some t565)) else (none))) else (none)) else (if t563 = 0 then ((Zbl.f kj2 y560 0 y547 x554002_2 0 (wrap64 (x554004_2 + 1)) ([] : List (List Int)) 0).bind fun t566 => (if t566 = 45 then ((Za2.f kj2).bind fun t567 => (some t567)) else (none))) else (none))) = some r := H
   have A17 := Za.mk A170
   clear A170
   by_cases c18 : x554004_2 < 0
   ·rw [if_pos c18] at H
    have c18b0 : decide (x554004_2 < 0) = true := decide_eq_true c18
    clear c18
    by_cases c19 : t563 = 0
    rotate_left
    ·rw [if_neg c19] at H
     exact absurd H (by simp)
    rw [if_pos c19] at H
    have c19b0 : (t563 == 0) = true := beq_iff_eq.mpr c19
    have c19b1 : (t563 != 0) = false := bne_eq_false_iff_eq.mpr c19
    clear c19
    replace H := Option.bind_eq_some_iff.mp H
    obtain ⟨t564, A200, H⟩ := H
    replace H : (if t564 = 45 then ((Za2.f kj2).bind fun t565 => (some t565)) else (none)) = some r := H
    have A20 := Za.mk A200
    clear A200
    by_cases c21 : t564 = 45
    rotate_left
    ·rw [if_neg c21] at H
     exact absurd H (by simp)
    rw [if_pos c21] at H
    have c21b0 : (t564 == 45) = true := beq_iff_eq.mpr c21
    have c21b1 : (t564 != 45) = false := bne_eq_false_iff_eq.mpr c21
    clear c21
    replace H := Option.bind_eq_some_iff.mp H
    obtain ⟨t565, A220, H⟩ := H
    replace H : (some t565) = some r := H
    have A22 := Za.mk A220
    clear A220
    obtain rfl := Option.some.inj H
    go_wp2_with (first | ((with_reducible refine Zaz (N := 34) rfl ?_); refine Kd.Zcs k48 _ 48 ?hg (N := 34) ?hd (xs := ([(⟨0, 1⟩ : S48)] : List (S48))) (inner := [.int .i64 0, .int .i64 1]) (ok := fun _ => True) (okp := fun _ => True) ?hr ?hp (fun _ hk => hk) trivial (Below.refl _ _) (Nat.le_refl _) (by simp) ?_; (case hd => rfl); (case hg => rfl); (case hr => first | (go_simp; done) | (go_simp; rfl)); (case hp => exact (Reps.c2 (show Kd.M k48 _ _ _ (⟨0, 1⟩ : S48) [.int .i64 0, .int .i64 1] from (Zd3 _ _ _ (⟨0, 1⟩ : S48) )) (Reps.none _ _))); intro v558 w23 ho24 hb hg_ hnew_; clear hg_ hnew_; (first | rw [← Ny557.out] at ho24 | (simp only [Int.reduceToNat] at ho24; rw [← Ny557.out] at ho24)); have n0_ := Za.mk (Kd.Zbi (by (with_reducible repeat (first | apply Kd.Zaq | apply Kd.Zar | apply Kd.Zay)); exact HO_554001.out) hb); have n1_ := Za.mk (Kd.Zbi (by (with_reducible repeat (first | apply Kd.Zaq | apply Kd.Zar | apply Kd.Zay)); exact HO_554002.out) hb); have n2_ := Za.mk (Kd.Zbq ho24 (Zaj (by repeat (first | (with_reducible first | exact HB.out | apply Zab | apply Zaa | apply Zac | refine Zae ?_ GE553.out) | exact HB.out)))); have n3_ := Za.mk (Zau (g := gb553) (o := .cells #[.int .i64 0, .slice Ao9 y547.length co9, u554002, .int .i64 0, .int .i64 x554004_2, .slice none 0 0, .int .i64 0] 31 (0, 0)) (by (with_reducible repeat (first | refine blk_drewN ?_ _ | refine Zag ?_ | refine Zaf ?_ _)); exact BK553.out) hb); have n4_ := Za.mk (Zad (by repeat (first | (with_reducible first | exact HB.out | apply Zab | apply Zaa | apply Zac | refine Zae ?_ GE553.out) | exact HB.out)) hb); clear HO_554001; clear HO_554002; clear BK553; clear HB; have HO_554001 := n0_; have HO_554002 := n1_; have HO559 := n2_; have BK553 := n3_; have HB := n4_; clear n0_ n1_ n2_ n3_ n4_; clear hb ho24; obtain ⟨Ao25, co25, eo25⟩ := Kd.Za9 HO559.out; subst eo25) | ((with_reducible refine Zaz (N := 35) rfl ?_); refine Kd.N_lit (Kd.slice 48 k48) _ 37 ?hg (N' := 35) ?hd (xs := ([y557] : List (List (S48)))) (inner := [.slice Ao25 y557.length co25]) (ok := (fun k_ => some k_ ≠ (.slice Ao9 y547.length co9 : Value).ownBlock ∧ some k_ ≠ (u554002 : Value).ownBlock ∧ k_ ≠ gb553)) (okp := (fun k_ => some k_ ≠ (.slice Ao9 y547.length co9 : Value).ownBlock ∧ some k_ ≠ (u554002 : Value).ownBlock ∧ k_ ≠ gb553)) ?hr ?hp (fun _ hk => hk) ((show ∀ k_, w23.heap.size ≤ k_ → (fun k_ => some k_ ≠ (.slice Ao9 y547.length co9 : Value).ownBlock ∧ some k_ ≠ (u554002 : Value).ownBlock ∧ k_ ≠ gb553) k_ from fun k_ hk => ⟨Kd.fresh' (Kd.R_lt (by (with_reducible repeat (first | apply Kd.Zaq | apply Kd.Zar | apply Kd.Zay)); exact HO_554001.out)) k_ hk, Kd.fresh' (Kd.R_lt (by (with_reducible repeat (first | apply Kd.Zaq | apply Kd.Zar | apply Kd.Zay)); exact HO_554002.out)) k_ hk, Kd.freshB (g := gb553) (o := .cells #[.int .i64 0, .slice Ao9 y547.length co9, u554002, .int .i64 0, .int .i64 x554004_2, .slice none 0 0, .int .i64 0] 31 (0, 0)) (by (with_reducible repeat (first | refine blk_drewN ?_ _ | refine Zag ?_ | refine Zaf ?_ _)); exact BK553.out) k_ hk⟩) _ (Nat.le_refl _)) (Below.refl _ _) (Nat.le_refl _) (by simp) ?_; (case hd => rfl); (case hg => rfl); (case hr => first | (go_simp; done) | (go_simp; rfl)); (case hp => exact (Reps.one (show Kd.FK (Kd.slice 48 k48) _ _ y557 [.slice Ao25 y557.length co25] from (by obtain ⟨Aq_, cq_, eq_⟩ := Kd.Za9 HO559.out; (try subst eq_); exact Kd.Zeo (Kd.Za4 (Kd.Za7 (ok' := (fun k_ => some k_ ≠ (.slice Ao9 y547.length co9 : Value).ownBlock ∧ some k_ ≠ (u554002 : Value).ownBlock ∧ k_ ≠ gb553)) (Kd.Zbd (Kd.Zc (Kd.Zc (HO559.out) (Kd.Zcv HO_554001.out) (by decide)) (Kd.Zcv HO_554002.out) (by decide)) BK553.out (by decide)) (fun k_ hk => ⟨hk.1.1.2, ⟨hk.1.2, hk.2⟩⟩))).2.1 (Kd.R_F (Kd.Za7 (ok' := (fun k_ => some k_ ≠ (.slice Ao9 y547.length co9 : Value).ownBlock ∧ some k_ ≠ (u554002 : Value).ownBlock ∧ k_ ≠ gb553)) (Kd.Zbd (Kd.Zc (Kd.Zc (HO559.out) (Kd.Zcv HO_554001.out) (by decide)) (Kd.Zcv HO_554002.out) (by decide)) BK553.out (by decide)) (fun k_ hk => ⟨hk.1.1.2, ⟨hk.1.2, hk.2⟩⟩))))) (Reps.none _ _))); intro v561 w26 ho27 hb hg_ hnew_; clear hg_ hnew_; (first | rw [← Ny560.out] at ho27 | (simp only [Int.reduceToNat] at ho27; rw [← Ny560.out] at ho27)); have n0_ := Za.mk (Kd.Zbi (by (with_reducible repeat (first | apply Kd.Zaq | apply Kd.Zar | apply Kd.Zay)); exact HO_554001.out) hb); have n1_ := Za.mk (Kd.Zbi (by (with_reducible repeat (first | apply Kd.Zaq | apply Kd.Zar | apply Kd.Zay)); exact HO_554002.out) hb); have n2_ := Za.mk (Kd.N_lower ho27 (Zaj (by repeat (first | (with_reducible first | exact HB.out | apply Zab | apply Zaa | apply Zac | refine Zae ?_ GE553.out) | exact HB.out)))); have n3_ := Za.mk (Zau (g := gb553) (o := .cells #[.int .i64 0, .slice Ao9 y547.length co9, u554002, .int .i64 0, .int .i64 x554004_2, .slice none 0 0, .int .i64 0] 31 (0, 0)) (by (with_reducible repeat (first | refine blk_drewN ?_ _ | refine Zag ?_ | refine Zaf ?_ _)); exact BK553.out) hb); have n4_ := Za.mk (Zad (by repeat (first | (with_reducible first | exact HB.out | apply Zab | apply Zaa | apply Zac | refine Zae ?_ GE553.out) | exact HB.out)) hb); clear HO_554001; clear HO_554002; clear BK553; clear HB; clear HO559; have HO_554001 := n0_; have HO_554002 := n1_; have HO562 := n2_; have BK553 := n3_; have HB := n4_; clear n0_ n1_ n2_ n3_ n4_; clear hb ho27; obtain ⟨hcz28_0, hcz28_1, hcz28_2, hcz28_3, hcz28_4, hcz28_5, hcz28_6, hfz28_0, hfz28_1, hfz28_2, hfz28_3, hfz28_4, hfz28_5, hfz28_6⟩ := Zc9 BK553.out; obtain ⟨Ao29, co29, eo29⟩ := Kd.Zce HO562.out; subst eo29; obtain ⟨Ao30, co30, eo30⟩ := Kd.Za9 HO_554002.out; subst eo30) | ((with_reducible refine Zaw (f := 14) rfl ?_); refine Zbk (some 38) rfl rfl Try.func14 (by kernel_rfl) rfl #[.slice Ao29 y560.length co29, .agg #[.int .i64 0, .slice Ao9 y547.length co9, .slice Ao30 x554002_2.length co30, .int .i64 0, .int .i64 x554004_2, .slice none 0 0, .int .i64 0]] rfl (by (try simp only [List.map_toArray, List.map_cons, List.map_nil]); first | done | rfl | (simp only [List.length_drop, List.length_take]; rfl)) ?_; (refine (Zbl.calls kj2 _ _ y560 0 _ _ y547 _ _ x554002_2 0 x554004_2 _ _ ([] : List (List Int)) 0 t563 _ ?side1 ?side2 ?side3 ?side4 ?side5 ?side6 ?side7 ?side8 A17.out).mono ?_); (case side1 => repeat (first | exact (Kd.Zbt HO562.out).2.2 | (with_reducible refine Kd.C_alloc ?_ _) | (with_reducible refine Kd.C_drewN ?_ _) | (with_reducible refine Kd.C_drew ?_))); (case side2 => exact (Kd.Zbt HO562.out).2.1); (case side3 => repeat (first | exact (Kd.Za4 HO_554001.out).2.2 | (with_reducible refine Kd.C_alloc ?_ _) | (with_reducible refine Kd.C_drewN ?_ _) | (with_reducible refine Kd.C_drew ?_))); (case side4 => exact (Kd.Za4 HO_554001.out).2.1); (case side5 => repeat (first | exact (Kd.Za4 HO_554002.out).2.2 | (with_reducible refine Kd.C_alloc ?_ _) | (with_reducible refine Kd.C_drewN ?_ _) | (with_reducible refine Kd.C_drew ?_))); (case side6 => exact (Kd.Za4 HO_554002.out).2.1); (case side7 => exact Kd.Zem _ _); (case side8 => exact Nat.le_refl _); rintro e w31 ⟨rfl, hb⟩; refine ⟨_, rfl, ?_⟩; have n0_ := Za.mk (Kd.Zbi (by (with_reducible repeat (first | apply Kd.Zaq | apply Kd.Zar | apply Kd.Zay)); exact HO_554001.out) hb); have n1_ := Za.mk (Kd.Zbi (by (with_reducible repeat (first | apply Kd.Zaq | apply Kd.Zar | apply Kd.Zay)); exact HO_554002.out) hb); have n2_ := Za.mk (Kd.Zd1 (by (with_reducible repeat (first | apply Kd.N_alloc | apply Kd.N_drewN | apply Kd.N_drew)); exact HO562.out) hb); have n3_ := Za.mk (Zau (g := gb553) (o := .cells #[.int .i64 0, .slice Ao9 y547.length co9, .slice Ao30 x554002_2.length co30, .int .i64 0, .int .i64 x554004_2, .slice none 0 0, .int .i64 0] 31 (0, 0)) (by (with_reducible repeat (first | refine blk_drewN ?_ _ | refine Zag ?_ | refine Zaf ?_ _)); exact BK553.out) hb); have n4_ := Za.mk (Zad (by repeat (first | (with_reducible first | exact HB.out | apply Zab | apply Zaa | apply Zac | refine Zae ?_ GE553.out) | exact HB.out)) hb); clear HO_554001; clear HO_554002; clear HO562; clear BK553; clear HB; have HO_554001 := n0_; have HO_554002 := n1_; have HO562 := n2_; have BK553 := n3_; have HB := n4_; clear n0_ n1_ n2_ n3_ n4_; (try clear hb); (try clear hb2); (try clear hk); (try clear hi); obtain ⟨hcz32_0, hcz32_1, hcz32_2, hcz32_3, hcz32_4, hcz32_5, hcz32_6, hfz32_0, hfz32_1, hfz32_2, hfz32_3, hfz32_4, hfz32_5, hfz32_6⟩ := Zc9 BK553.out) | (go_at_call 13; (with_reducible refine (Za2.calls kj2  t565 _ A22.out).mono ?_); rintro e w34 ⟨rfl, hb⟩; have n0_ := Za.mk (Kd.Zbi (by (with_reducible repeat (first | apply Kd.Zaq | apply Kd.Zar | apply Kd.Zay)); exact HO_554001.out) hb); have n1_ := Za.mk (Kd.Zbi (by (with_reducible repeat (first | apply Kd.Zaq | apply Kd.Zar | apply Kd.Zay)); exact HO_554002.out) hb); have n2_ := Za.mk (Kd.Zd1 (by (with_reducible repeat (first | apply Kd.N_alloc | apply Kd.N_drewN | apply Kd.N_drew)); exact HO562.out) hb); have n3_ := Za.mk (Zau (g := gb553) (o := .cells #[.int .i64 0, .slice Ao9 y547.length co9, .slice Ao30 x554002_2.length co30, .int .i64 0, .int .i64 (wrap64 (x554004_2 - 1)), .slice none 0 0, .int .i64 0] 31 (0, 0)) (by (with_reducible repeat (first | refine blk_drewN ?_ _ | refine Zag ?_ | refine Zaf ?_ _)); exact BK553.out) hb); have n4_ := Za.mk (Zad (by repeat (first | (with_reducible first | exact HB.out | apply Zab | apply Zaa | apply Zac | refine Zae ?_ GE553.out) | exact HB.out)) hb); clear HO_554001; clear HO_554002; clear HO562; clear BK553; clear HB; have HO_554001 := n0_; have HO_554002 := n1_; have HO562 := n2_; have BK553 := n3_; have HB := n4_; clear n0_ n1_ n2_ n3_ n4_; (try clear hb); (try clear hb2); (try clear hk); (try clear hi)) | (go_at_call 14; (refine (Zbl.calls kj2 _ _ y560 0 _ _ y547 _ _ x554002_2 0 (wrap64 (x554004_2 - 1)) _ _ ([] : List (List Int)) 0 t564 _ ?side1 ?side2 ?side3 ?side4 ?side5 ?side6 ?side7 ?side8 A20.out).mono ?_); (case side1 => refine (Kd.Zbt (e := 37) (base := w.heap.size) (ok := fun k_ => (some k_ ≠ (.slice Ao9 y547.length co9 : Value).ownBlock ∧ (some k_ ≠ (.slice Ao30 x554002_2.length co30 : Value).ownBlock ∧ k_ ≠ gb553))) (n := y560.length) (c := co29) ?_).2.2; exact (by (with_reducible repeat (first | apply Kd.N_alloc | apply Kd.N_drewN | apply Kd.N_drew)); exact (Kd.Zdm (Kd.Zd4 (p := ⟨gb553, 4, none⟩) (Kd.Zdm HO562.out (fun k_ hk => (⟨hk, hk.2.2⟩ : _ ∧ k_ ≠ gb553))) (fun _ hk => hk.2) (.int .i64 (wrap64 (x554004_2 - 1)))) (fun _ h_ => h_.1)))); (case side2 => exact (Kd.Zbt HO562.out).2.1); (case side3 => refine (Kd.Za4 (e := 3) (base := w.heap.size) (ok := fun k_ => some k_ ≠ (.slice Ao30 x554002_2.length co30 : Value).ownBlock) (n := y547.length) (c := co9) ?_).2.2; exact (by (with_reducible repeat (first | apply Kd.Zaq | apply Kd.Zar | apply Kd.Zay)); exact (Kd.Za7 (Kd.Zb (p := ⟨gb553, 4, none⟩) (Kd.Zbd HO_554001.out BK553.out (by decide)) (fun _ hk => hk.2) (.int .i64 (wrap64 (x554004_2 - 1)))) (fun _ h_ => h_.1)))); (case side4 => exact (Kd.Za4 HO_554001.out).2.1); (case side5 => refine (Kd.Za4 (e := 3) (base := w.heap.size) (ok := fun k_ => some k_ ≠ (.slice Ao9 y547.length co9 : Value).ownBlock) (n := x554002_2.length) (c := co30) ?_).2.2; exact (by (with_reducible repeat (first | apply Kd.Zaq | apply Kd.Zar | apply Kd.Zay)); exact (Kd.Za7 (Kd.Zb (p := ⟨gb553, 4, none⟩) (Kd.Zbd HO_554002.out BK553.out (by decide)) (fun _ hk => hk.2) (.int .i64 (wrap64 (x554004_2 - 1)))) (fun _ h_ => h_.1)))); (case side6 => exact (Kd.Za4 HO_554002.out).2.1); (case side7 => exact Kd.Zem _ _); (case side8 => exact Nat.le_refl _); rintro e w33 ⟨rfl, hb⟩; have n0_ := Za.mk (Kd.Zbi (by (with_reducible repeat (first | apply Kd.Zaq | apply Kd.Zar | apply Kd.Zay)); exact (Kd.Za7 (Kd.Zb (p := ⟨gb553, 4, none⟩) (Kd.Zbd HO_554001.out BK553.out (by decide)) (fun _ hk => hk.2) (.int .i64 (wrap64 (x554004_2 - 1)))) (fun _ h_ => h_.1))) hb); have n1_ := Za.mk (Kd.Zbi (by (with_reducible repeat (first | apply Kd.Zaq | apply Kd.Zar | apply Kd.Zay)); exact (Kd.Za7 (Kd.Zb (p := ⟨gb553, 4, none⟩) (Kd.Zbd HO_554002.out BK553.out (by decide)) (fun _ hk => hk.2) (.int .i64 (wrap64 (x554004_2 - 1)))) (fun _ h_ => h_.1))) hb); have n2_ := Za.mk (Kd.Zd1 (by (with_reducible repeat (first | apply Kd.N_alloc | apply Kd.N_drewN | apply Kd.N_drew)); exact (Kd.Zdm (Kd.Zd4 (p := ⟨gb553, 4, none⟩) (Kd.Zdm HO562.out (fun k_ hk => (⟨hk, hk.2.2⟩ : _ ∧ k_ ≠ gb553))) (fun _ hk => hk.2) (.int .i64 (wrap64 (x554004_2 - 1)))) (fun _ h_ => h_.1))) hb); have n3_ := Za.mk (Zau (g := gb553) (o := .cells #[.int .i64 0, .slice Ao9 y547.length co9, .slice Ao30 x554002_2.length co30, .int .i64 0, .int .i64 (wrap64 (x554004_2 - 1)), .slice none 0 0, .int .i64 0] 31 (0, 0)) (by (with_reducible repeat (first | refine blk_drewN ?_ _ | refine Zag ?_ | refine Zaf ?_ _)); refine Zax (cs := #[.int .i64 0, .slice Ao9 y547.length co9, .slice Ao30 x554002_2.length co30, .int .i64 0, .int .i64 x554004_2, .slice none 0 0, .int .i64 0]) ?_ 4 _ rfl; (with_reducible repeat (first | refine blk_drewN ?_ _ | refine Zag ?_ | refine Zaf ?_ _)); exact BK553.out) hb); have n4_ := Za.mk (Zad (by repeat (first | (with_reducible first | exact HB.out | apply Zab | apply Zaa | apply Zac | refine Zae ?_ GE553.out) | exact HB.out)) hb); clear HO_554001; clear HO_554002; clear HO562; clear BK553; clear HB; have HO_554001 := n0_; have HO_554002 := n1_; have HO562 := n2_; have BK553 := n3_; have HB := n4_; clear n0_ n1_ n2_ n3_ n4_; (try clear hb); (try clear hb2); (try clear hk); (try clear hi)))
    go_ret
    exact ⟨by first | rfl | (simp [Zam, Zan] <;> rfl) | (simp [*, Zam, Zan] <;> rfl), by repeat (first | (with_reducible first | exact HB.out | apply Zab | apply Zaa | apply Zac | refine Zae ?_ GE553.out) | exact HB.out)⟩
   rw [if_neg c18] at H
   have c18b0 : decide (x554004_2 < 0) = false := decide_eq_false c18
   clear c18
   by_cases c35 : t563 = 0
   rotate_left
   ·rw [if_neg c35] at H
    exact absurd H (by simp)
   rw [if_pos c35] at H
   have c35b0 : (t563 == 0) = true := beq_iff_eq.mpr c35
   have c35b1 : (t563 != 0) = false := bne_eq_false_iff_eq.mpr c35
   clear c35
   replace H := Option.bind_eq_some_iff.mp H
   obtain ⟨t566, A360, H⟩ := H
   replace H : (if t566 = 45 then ((Za2.f kj2).bind fun t567 => (some t567)) else (none)) = some r := H
   have A36 := Za.mk A360
   clear A360
   by_cases c37 : t566 = 45
   rotate_left
   ·rw [if_neg c37] at H
    exact absurd H (by simp)
   rw [if_pos c37] at H
   have c37b0 : (t566 == 45) = true := beq_iff_eq.mpr c37
   have c37b1 : (t566 != 45) = false := bne_eq_false_iff_eq.mpr c37
   clear c37
   replace H := Option.bind_eq_some_iff.mp H
   obtain ⟨t567, A380, H⟩ := H
   replace H : (some t567) = some r := H
   have A38 := Za.mk A380
   clear A380
   obtain rfl := Option.some.inj H
   go_wp2_with (first | ((with_reducible refine Zaz (N := 34) rfl ?_); refine Kd.Zcs k48 _ 48 ?hg (N := 34) ?hd (xs := ([(⟨0, 1⟩ : S48)] : List (S48))) (inner := [.int .i64 0, .int .i64 1]) (ok := fun _ => True) (okp := fun _ => True) ?hr ?hp (fun _ hk => hk) trivial (Below.refl _ _) (Nat.le_refl _) (by simp) ?_; (case hd => rfl); (case hg => rfl); (case hr => first | (go_simp; done) | (go_simp; rfl)); (case hp => exact (Reps.c2 (show Kd.M k48 _ _ _ (⟨0, 1⟩ : S48) [.int .i64 0, .int .i64 1] from (Zd3 _ _ _ (⟨0, 1⟩ : S48) )) (Reps.none _ _))); intro v558 w39 ho40 hb hg_ hnew_; clear hg_ hnew_; (first | rw [← Ny557.out] at ho40 | (simp only [Int.reduceToNat] at ho40; rw [← Ny557.out] at ho40)); have n0_ := Za.mk (Kd.Zbi (by (with_reducible repeat (first | apply Kd.Zaq | apply Kd.Zar | apply Kd.Zay)); exact HO_554001.out) hb); have n1_ := Za.mk (Kd.Zbi (by (with_reducible repeat (first | apply Kd.Zaq | apply Kd.Zar | apply Kd.Zay)); exact HO_554002.out) hb); have n2_ := Za.mk (Kd.Zbq ho40 (Zaj (by repeat (first | (with_reducible first | exact HB.out | apply Zab | apply Zaa | apply Zac | refine Zae ?_ GE553.out) | exact HB.out)))); have n3_ := Za.mk (Zau (g := gb553) (o := .cells #[.int .i64 0, .slice Ao9 y547.length co9, u554002, .int .i64 0, .int .i64 x554004_2, .slice none 0 0, .int .i64 0] 31 (0, 0)) (by (with_reducible repeat (first | refine blk_drewN ?_ _ | refine Zag ?_ | refine Zaf ?_ _)); exact BK553.out) hb); have n4_ := Za.mk (Zad (by repeat (first | (with_reducible first | exact HB.out | apply Zab | apply Zaa | apply Zac | refine Zae ?_ GE553.out) | exact HB.out)) hb); clear HO_554001; clear HO_554002; clear BK553; clear HB; have HO_554001 := n0_; have HO_554002 := n1_; have HO559 := n2_; have BK553 := n3_; have HB := n4_; clear n0_ n1_ n2_ n3_ n4_; clear hb ho40; obtain ⟨Ao41, co41, eo41⟩ := Kd.Za9 HO559.out; subst eo41) | ((with_reducible refine Zaz (N := 35) rfl ?_); refine Kd.N_lit (Kd.slice 48 k48) _ 37 ?hg (N' := 35) ?hd (xs := ([y557] : List (List (S48)))) (inner := [.slice Ao41 y557.length co41]) (ok := (fun k_ => some k_ ≠ (.slice Ao9 y547.length co9 : Value).ownBlock ∧ some k_ ≠ (u554002 : Value).ownBlock ∧ k_ ≠ gb553)) (okp := (fun k_ => some k_ ≠ (.slice Ao9 y547.length co9 : Value).ownBlock ∧ some k_ ≠ (u554002 : Value).ownBlock ∧ k_ ≠ gb553)) ?hr ?hp (fun _ hk => hk) ((show ∀ k_, w39.heap.size ≤ k_ → (fun k_ => some k_ ≠ (.slice Ao9 y547.length co9 : Value).ownBlock ∧ some k_ ≠ (u554002 : Value).ownBlock ∧ k_ ≠ gb553) k_ from fun k_ hk => ⟨Kd.fresh' (Kd.R_lt (by (with_reducible repeat (first | apply Kd.Zaq | apply Kd.Zar | apply Kd.Zay)); exact HO_554001.out)) k_ hk, Kd.fresh' (Kd.R_lt (by (with_reducible repeat (first | apply Kd.Zaq | apply Kd.Zar | apply Kd.Zay)); exact HO_554002.out)) k_ hk, Kd.freshB (g := gb553) (o := .cells #[.int .i64 0, .slice Ao9 y547.length co9, u554002, .int .i64 0, .int .i64 x554004_2, .slice none 0 0, .int .i64 0] 31 (0, 0)) (by (with_reducible repeat (first | refine blk_drewN ?_ _ | refine Zag ?_ | refine Zaf ?_ _)); exact BK553.out) k_ hk⟩) _ (Nat.le_refl _)) (Below.refl _ _) (Nat.le_refl _) (by simp) ?_; (case hd => rfl); (case hg => rfl); (case hr => first | (go_simp; done) | (go_simp; rfl)); (case hp => exact (Reps.one (show Kd.FK (Kd.slice 48 k48) _ _ y557 [.slice Ao41 y557.length co41] from (by obtain ⟨Aq_, cq_, eq_⟩ := Kd.Za9 HO559.out; (try subst eq_); exact Kd.Zeo (Kd.Za4 (Kd.Za7 (ok' := (fun k_ => some k_ ≠ (.slice Ao9 y547.length co9 : Value).ownBlock ∧ some k_ ≠ (u554002 : Value).ownBlock ∧ k_ ≠ gb553)) (Kd.Zbd (Kd.Zc (Kd.Zc (HO559.out) (Kd.Zcv HO_554001.out) (by decide)) (Kd.Zcv HO_554002.out) (by decide)) BK553.out (by decide)) (fun k_ hk => ⟨hk.1.1.2, ⟨hk.1.2, hk.2⟩⟩))).2.1 (Kd.R_F (Kd.Za7 (ok' := (fun k_ => some k_ ≠ (.slice Ao9 y547.length co9 : Value).ownBlock ∧ some k_ ≠ (u554002 : Value).ownBlock ∧ k_ ≠ gb553)) (Kd.Zbd (Kd.Zc (Kd.Zc (HO559.out) (Kd.Zcv HO_554001.out) (by decide)) (Kd.Zcv HO_554002.out) (by decide)) BK553.out (by decide)) (fun k_ hk => ⟨hk.1.1.2, ⟨hk.1.2, hk.2⟩⟩))))) (Reps.none _ _))); intro v561 w42 ho43 hb hg_ hnew_; clear hg_ hnew_; (first | rw [← Ny560.out] at ho43 | (simp only [Int.reduceToNat] at ho43; rw [← Ny560.out] at ho43)); have n0_ := Za.mk (Kd.Zbi (by (with_reducible repeat (first | apply Kd.Zaq | apply Kd.Zar | apply Kd.Zay)); exact HO_554001.out) hb); have n1_ := Za.mk (Kd.Zbi (by (with_reducible repeat (first | apply Kd.Zaq | apply Kd.Zar | apply Kd.Zay)); exact HO_554002.out) hb); have n2_ := Za.mk (Kd.N_lower ho43 (Zaj (by repeat (first | (with_reducible first | exact HB.out | apply Zab | apply Zaa | apply Zac | refine Zae ?_ GE553.out) | exact HB.out)))); have n3_ := Za.mk (Zau (g := gb553) (o := .cells #[.int .i64 0, .slice Ao9 y547.length co9, u554002, .int .i64 0, .int .i64 x554004_2, .slice none 0 0, .int .i64 0] 31 (0, 0)) (by (with_reducible repeat (first | refine blk_drewN ?_ _ | refine Zag ?_ | refine Zaf ?_ _)); exact BK553.out) hb); have n4_ := Za.mk (Zad (by repeat (first | (with_reducible first | exact HB.out | apply Zab | apply Zaa | apply Zac | refine Zae ?_ GE553.out) | exact HB.out)) hb); clear HO_554001; clear HO_554002; clear BK553; clear HB; clear HO559; have HO_554001 := n0_; have HO_554002 := n1_; have HO562 := n2_; have BK553 := n3_; have HB := n4_; clear n0_ n1_ n2_ n3_ n4_; clear hb ho43; obtain ⟨hcz44_0, hcz44_1, hcz44_2, hcz44_3, hcz44_4, hcz44_5, hcz44_6, hfz44_0, hfz44_1, hfz44_2, hfz44_3, hfz44_4, hfz44_5, hfz44_6⟩ := Zc9 BK553.out; obtain ⟨Ao45, co45, eo45⟩ := Kd.Zce HO562.out; subst eo45; obtain ⟨Ao46, co46, eo46⟩ := Kd.Za9 HO_554002.out; subst eo46) | ((with_reducible refine Zaw (f := 14) rfl ?_); refine Zbk (some 38) rfl rfl Try.func14 (by kernel_rfl) rfl #[.slice Ao45 y560.length co45, .agg #[.int .i64 0, .slice Ao9 y547.length co9, .slice Ao46 x554002_2.length co46, .int .i64 0, .int .i64 x554004_2, .slice none 0 0, .int .i64 0]] rfl (by (try simp only [List.map_toArray, List.map_cons, List.map_nil]); first | done | rfl | (simp only [List.length_drop, List.length_take]; rfl)) ?_; (refine (Zbl.calls kj2 _ _ y560 0 _ _ y547 _ _ x554002_2 0 x554004_2 _ _ ([] : List (List Int)) 0 t563 _ ?side1 ?side2 ?side3 ?side4 ?side5 ?side6 ?side7 ?side8 A17.out).mono ?_); (case side1 => repeat (first | exact (Kd.Zbt HO562.out).2.2 | (with_reducible refine Kd.C_alloc ?_ _) | (with_reducible refine Kd.C_drewN ?_ _) | (with_reducible refine Kd.C_drew ?_))); (case side2 => exact (Kd.Zbt HO562.out).2.1); (case side3 => repeat (first | exact (Kd.Za4 HO_554001.out).2.2 | (with_reducible refine Kd.C_alloc ?_ _) | (with_reducible refine Kd.C_drewN ?_ _) | (with_reducible refine Kd.C_drew ?_))); (case side4 => exact (Kd.Za4 HO_554001.out).2.1); (case side5 => repeat (first | exact (Kd.Za4 HO_554002.out).2.2 | (with_reducible refine Kd.C_alloc ?_ _) | (with_reducible refine Kd.C_drewN ?_ _) | (with_reducible refine Kd.C_drew ?_))); (case side6 => exact (Kd.Za4 HO_554002.out).2.1); (case side7 => exact Kd.Zem _ _); (case side8 => exact Nat.le_refl _); rintro e w47 ⟨rfl, hb⟩; refine ⟨_, rfl, ?_⟩; have n0_ := Za.mk (Kd.Zbi (by (with_reducible repeat (first | apply Kd.Zaq | apply Kd.Zar | apply Kd.Zay)); exact HO_554001.out) hb); have n1_ := Za.mk (Kd.Zbi (by (with_reducible repeat (first | apply Kd.Zaq | apply Kd.Zar | apply Kd.Zay)); exact HO_554002.out) hb); have n2_ := Za.mk (Kd.Zd1 (by (with_reducible repeat (first | apply Kd.N_alloc | apply Kd.N_drewN | apply Kd.N_drew)); exact HO562.out) hb); have n3_ := Za.mk (Zau (g := gb553) (o := .cells #[.int .i64 0, .slice Ao9 y547.length co9, .slice Ao46 x554002_2.length co46, .int .i64 0, .int .i64 x554004_2, .slice none 0 0, .int .i64 0] 31 (0, 0)) (by (with_reducible repeat (first | refine blk_drewN ?_ _ | refine Zag ?_ | refine Zaf ?_ _)); exact BK553.out) hb); have n4_ := Za.mk (Zad (by repeat (first | (with_reducible first | exact HB.out | apply Zab | apply Zaa | apply Zac | refine Zae ?_ GE553.out) | exact HB.out)) hb); clear HO_554001; clear HO_554002; clear HO562; clear BK553; clear HB; have HO_554001 := n0_; have HO_554002 := n1_; have HO562 := n2_; have BK553 := n3_; have HB := n4_; clear n0_ n1_ n2_ n3_ n4_; (try clear hb); (try clear hb2); (try clear hk); (try clear hi); obtain ⟨hcz48_0, hcz48_1, hcz48_2, hcz48_3, hcz48_4, hcz48_5, hcz48_6, hfz48_0, hfz48_1, hfz48_2, hfz48_3, hfz48_4, hfz48_5, hfz48_6⟩ := Zc9 BK553.out) | (go_at_call 13; (with_reducible refine (Za2.calls kj2  t567 _ A38.out).mono ?_); rintro e w50 ⟨rfl, hb⟩; have n0_ := Za.mk (Kd.Zbi (by (with_reducible repeat (first | apply Kd.Zaq | apply Kd.Zar | apply Kd.Zay)); exact HO_554001.out) hb); have n1_ := Za.mk (Kd.Zbi (by (with_reducible repeat (first | apply Kd.Zaq | apply Kd.Zar | apply Kd.Zay)); exact HO_554002.out) hb); have n2_ := Za.mk (Kd.Zd1 (by (with_reducible repeat (first | apply Kd.N_alloc | apply Kd.N_drewN | apply Kd.N_drew)); exact HO562.out) hb); have n3_ := Za.mk (Zau (g := gb553) (o := .cells #[.int .i64 0, .slice Ao9 y547.length co9, .slice Ao46 x554002_2.length co46, .int .i64 0, .int .i64 (wrap64 (x554004_2 + 1)), .slice none 0 0, .int .i64 0] 31 (0, 0)) (by (with_reducible repeat (first | refine blk_drewN ?_ _ | refine Zag ?_ | refine Zaf ?_ _)); exact BK553.out) hb); have n4_ := Za.mk (Zad (by repeat (first | (with_reducible first | exact HB.out | apply Zab | apply Zaa | apply Zac | refine Zae ?_ GE553.out) | exact HB.out)) hb); clear HO_554001; clear HO_554002; clear HO562; clear BK553; clear HB; have HO_554001 := n0_; have HO_554002 := n1_; have HO562 := n2_; have BK553 := n3_; have HB := n4_; clear n0_ n1_ n2_ n3_ n4_; (try clear hb); (try clear hb2); (try clear hk); (try clear hi)) | (go_at_call 14; (refine (Zbl.calls kj2 _ _ y560 0 _ _ y547 _ _ x554002_2 0 (wrap64 (x554004_2 + 1)) _ _ ([] : List (List Int)) 0 t566 _ ?side1 ?side2 ?side3 ?side4 ?side5 ?side6 ?side7 ?side8 A36.out).mono ?_); (case side1 => refine (Kd.Zbt (e := 37) (base := w.heap.size) (ok := fun k_ => (some k_ ≠ (.slice Ao9 y547.length co9 : Value).ownBlock ∧ (some k_ ≠ (.slice Ao46 x554002_2.length co46 : Value).ownBlock ∧ k_ ≠ gb553))) (n := y560.length) (c := co45) ?_).2.2; exact (by (with_reducible repeat (first | apply Kd.N_alloc | apply Kd.N_drewN | apply Kd.N_drew)); exact (Kd.Zdm (Kd.Zd4 (p := ⟨gb553, 4, none⟩) (Kd.Zdm HO562.out (fun k_ hk => (⟨hk, hk.2.2⟩ : _ ∧ k_ ≠ gb553))) (fun _ hk => hk.2) (.int .i64 (wrap64 (x554004_2 + 1)))) (fun _ h_ => h_.1)))); (case side2 => exact (Kd.Zbt HO562.out).2.1); (case side3 => refine (Kd.Za4 (e := 3) (base := w.heap.size) (ok := fun k_ => some k_ ≠ (.slice Ao46 x554002_2.length co46 : Value).ownBlock) (n := y547.length) (c := co9) ?_).2.2; exact (by (with_reducible repeat (first | apply Kd.Zaq | apply Kd.Zar | apply Kd.Zay)); exact (Kd.Za7 (Kd.Zb (p := ⟨gb553, 4, none⟩) (Kd.Zbd HO_554001.out BK553.out (by decide)) (fun _ hk => hk.2) (.int .i64 (wrap64 (x554004_2 + 1)))) (fun _ h_ => h_.1)))); (case side4 => exact (Kd.Za4 HO_554001.out).2.1); (case side5 => refine (Kd.Za4 (e := 3) (base := w.heap.size) (ok := fun k_ => some k_ ≠ (.slice Ao9 y547.length co9 : Value).ownBlock) (n := x554002_2.length) (c := co46) ?_).2.2; exact (by (with_reducible repeat (first | apply Kd.Zaq | apply Kd.Zar | apply Kd.Zay)); exact (Kd.Za7 (Kd.Zb (p := ⟨gb553, 4, none⟩) (Kd.Zbd HO_554002.out BK553.out (by decide)) (fun _ hk => hk.2) (.int .i64 (wrap64 (x554004_2 + 1)))) (fun _ h_ => h_.1)))); (case side6 => exact (Kd.Za4 HO_554002.out).2.1); (case side7 => exact Kd.Zem _ _); (case side8 => exact Nat.le_refl _); rintro e w49 ⟨rfl, hb⟩; have n0_ := Za.mk (Kd.Zbi (by (with_reducible repeat (first | apply Kd.Zaq | apply Kd.Zar | apply Kd.Zay)); exact (Kd.Za7 (Kd.Zb (p := ⟨gb553, 4, none⟩) (Kd.Zbd HO_554001.out BK553.out (by decide)) (fun _ hk => hk.2) (.int .i64 (wrap64 (x554004_2 + 1)))) (fun _ h_ => h_.1))) hb); have n1_ := Za.mk (Kd.Zbi (by (with_reducible repeat (first | apply Kd.Zaq | apply Kd.Zar | apply Kd.Zay)); exact (Kd.Za7 (Kd.Zb (p := ⟨gb553, 4, none⟩) (Kd.Zbd HO_554002.out BK553.out (by decide)) (fun _ hk => hk.2) (.int .i64 (wrap64 (x554004_2 + 1)))) (fun _ h_ => h_.1))) hb); have n2_ := Za.mk (Kd.Zd1 (by (with_reducible repeat (first | apply Kd.N_alloc | apply Kd.N_drewN | apply Kd.N_drew)); exact (Kd.Zdm (Kd.Zd4 (p := ⟨gb553, 4, none⟩) (Kd.Zdm HO562.out (fun k_ hk => (⟨hk, hk.2.2⟩ : _ ∧ k_ ≠ gb553))) (fun _ hk => hk.2) (.int .i64 (wrap64 (x554004_2 + 1)))) (fun _ h_ => h_.1))) hb); have n3_ := Za.mk (Zau (g := gb553) (o := .cells #[.int .i64 0, .slice Ao9 y547.length co9, .slice Ao46 x554002_2.length co46, .int .i64 0, .int .i64 (wrap64 (x554004_2 + 1)), .slice none 0 0, .int .i64 0] 31 (0, 0)) (by (with_reducible repeat (first | refine blk_drewN ?_ _ | refine Zag ?_ | refine Zaf ?_ _)); refine Zax (cs := #[.int .i64 0, .slice Ao9 y547.length co9, .slice Ao46 x554002_2.length co46, .int .i64 0, .int .i64 x554004_2, .slice none 0 0, .int .i64 0]) ?_ 4 _ rfl; (with_reducible repeat (first | refine blk_drewN ?_ _ | refine Zag ?_ | refine Zaf ?_ _)); exact BK553.out) hb); have n4_ := Za.mk (Zad (by repeat (first | (with_reducible first | exact HB.out | apply Zab | apply Zaa | apply Zac | refine Zae ?_ GE553.out) | exact HB.out)) hb); clear HO_554001; clear HO_554002; clear HO562; clear BK553; clear HB; have HO_554001 := n0_; have HO_554002 := n1_; have HO562 := n2_; have BK553 := n3_; have HB := n4_; clear n0_ n1_ n2_ n3_ n4_; (try clear hb); (try clear hb2); (try clear hk); (try clear hi)))
   go_ret
   exact ⟨by first | rfl | (simp [Zam, Zan] <;> rfl) | (simp [*, Zam, Zan] <;> rfl), by repeat (first | (with_reducible first | exact HB.out | apply Zab | apply Zaa | apply Zac | refine Zae ?_ GE553.out) | exact HB.out)⟩
def Zav.Pure : Prop := ∀ (a0 : Int) (a1 : Int), (Lit.int .i64 a0).wf = true → (Lit.int .i64 a1).wf = true → ∃ k, Zav.f k a0 a1 = some true
theorem Zav.walk (P : Zav.Pure) (a0 : Int) (a1 : Int) (w : World) (w0 : (Lit.int .i64 a0).wf = true) (w1 : (Lit.int .i64 a1).wf = true) :
  Calls Try.prog 9 #[.int .i64 a0, .int .i64 a1] w fun e w' => e = .returned (.bool true) ∧ Below w.heap.size w w' := by
 obtain ⟨k, h⟩ := P a0 a1 w0 w1
 refine (Zav.calls k a0 a1 true w h).mono ?_
 rintro e w' ⟨rfl, hd⟩
 exact ⟨rfl, hd⟩
end Go.Proofs.Ytkgjaklnbgdmiaa.P
/- Whole numbers with their bound, in plain words: Add, Sub, Mul by 2^20, size, big. -/
namespace Go.Proofs.Ytkgjaklnbgdmiaa.P
open Go.RowKit Go.Proofs.YtkgjaklnbgdmiaaW.PrintWords Go.Proofs.YtkgjaklnbgdmiaaW.PrintLast
set_option linter.unusedVariables false
def Sml (x : Int) : Prop := -4611686018427387904 ≤ x ∧ x ≤ 4611686018427387904
instance (x : Int) : Decidable (Sml x) := inferInstanceAs (Decidable (_ ∧ _))
theorem Zfc (l : List Int) (hl : l.length ≤ 1000000) : ∀ (d i : Nat), i + d = l.length → Ev (fun k => Za8.l0 k l (l.length : Int) (i : Int)) ((l.drop i).all fun x => decide (Sml x))
  | 0, i, h => by
    obtain rfl : i = l.length := by omega
    refine Ev.step (G := fun _ => some true) (fun k => by rw [Za8.l0, if_neg (by omega)]) (Ev.const ?_)
    rw [List.drop_length]
    rfl
  | d + 1, i, h => by
    have hi : i < l.length := by omega
    have hw : wrap64 ((i : Int) + 1) = ((i + 1 : Nat) : Int) := by unfold wrap64; omega
    have hr : rd l (i : Int) = l[i] := by simp [rd, List.getD_eq_getElem?_getD, List.getElem?_eq_getElem hi]
    have ih := Zfc l hl d (i + 1) (by omega)
    rw [List.drop_eq_getElem_cons hi, List.all_cons]
    by_cases h1 : l[i] < -4611686018427387904
    · have e : decide (Sml l[i]) = false := decide_eq_false (fun hs => absurd hs.1 (by omega))
      rw [e, Bool.false_and]
      exact Ev.step (G := fun _ => some false) (fun k => by rw [Za8.l0, if_pos (by omega), if_pos (by omega), if_pos (by omega), hr, if_pos h1]) (Ev.const rfl)
    by_cases h2 : l[i] > 4611686018427387904
    rotate_left
    · have e : decide (Sml l[i]) = true := decide_eq_true ⟨by omega, by omega⟩
      rw [e, Bool.true_and]
      exact Ev.step (fun k => by rw [Za8.l0, if_pos (by omega), if_pos (by omega), if_pos (by omega), hr, if_neg h1, if_neg h2, hw]) ih
    have e : decide (Sml l[i]) = false := decide_eq_false (fun hs => absurd hs.2 (by omega))
    rw [e, Bool.false_and]
    exact Ev.step (G := fun _ => some false) (fun k => by rw [Za8.l0, if_pos (by omega), if_pos (by omega), if_pos (by omega), hr, if_neg h1, if_pos h2]) (Ev.const rfl)
theorem Zen (l : List Int) (hl : l.length ≤ 1000000) : Ev (fun k => Za8.f k l) (l.all fun x => decide (Sml x)) := by
  have := Zfc l hl l.length 0 (by omega)
  rw [List.drop_zero] at this
  exact this
theorem told_ev (a : Int) : Ev (fun k => Zbm.f k a) (if Sml a then (a, true) else (0, false)) := by
  unfold Zbm.f
  have h := Zen [a] (by simp)
  by_cases hs : Sml a
  · rw [if_pos hs]
    rw [show ([a].all fun x => decide (Sml x)) = true by simp [hs]] at h
    exact Ev.bind h (Ev.Zby rfl (Ev.const rfl))
  rw [if_neg hs]
  rw [show ([a].all fun x => decide (Sml x)) = false by simp [hs]] at h
  exact Ev.bind h (Ev.Zb7 (by simp) (Ev.const rfl))
def addS (a b : Int) : Int × Bool := if Sml a ∧ Sml b ∧ Sml (a + b) then (a + b, true) else (0, false)
theorem add_ev (a b : Int) : Ev (fun k => Zb5.f k a b) (addS a b) := by
  unfold Zb5.f
  have h := Zen [a, b] (by simp)
  by_cases hs : Sml a ∧ Sml b
  rotate_left
  · have e : addS a b = (0, false) := if_neg (fun hh => hs ⟨hh.1, hh.2.1⟩)
    rw [e]
    have e2 : ([a, b].all fun x => decide (Sml x)) = false := by
      by_cases ha : Sml a
      rotate_left
      · simp [ha]
      have hb : ¬ Sml b := fun hb => hs ⟨ha, hb⟩
      simp [ha, hb]
    rw [e2] at h
    exact Ev.bind h (Ev.Zb7 (by simp) (Ev.const rfl))
  rw [show ([a, b].all fun x => decide (Sml x)) = true by simp [hs.1, hs.2]] at h
  refine Ev.bind h (Ev.Zby rfl ?_)
  obtain ⟨⟨a1, a2⟩, b1, b2⟩ := hs
  have w1 : a > 0 → wrap64 (4611686018427387904 - a) = 4611686018427387904 - a := fun _ => by unfold wrap64; omega
  have w2 : a < 0 → wrap64 (-4611686018427387904 - a) = -4611686018427387904 - a := fun _ => by unfold wrap64; omega
  have ht := told_ev (a + b)
  by_cases hab : Sml (a + b)
  · have e : addS a b = (a + b, true) := if_pos ⟨⟨a1, a2⟩, ⟨b1, b2⟩, hab⟩
    rw [if_pos hab] at ht
    rw [e]
    have hb := Ev.bind (H := fun _ (p : Int × Bool) => some (p.1, p.2)) ht (Ev.const rfl)
    obtain ⟨c1, c2⟩ := hab
    have w3 : wrap64 (a + b) = a + b := by unfold wrap64; omega
    simp only [w3]
    by_cases q1 : a > 0
    · exact Ev.Zby q1 (Ev.Zb7 (by rw [w1 q1]; omega) (Ev.Zb7 (by omega) hb))
    by_cases q2 : a < 0
    rotate_left
    · exact Ev.Zb7 q1 (Ev.Zb7 q2 hb)
    exact Ev.Zb7 q1 (Ev.Zby q2 (Ev.Zb7 (by rw [w2 q2]; omega) hb))
  have e : addS a b = (0, false) := if_neg (fun hh => hab hh.2.2)
  rw [e]
  have hab' : a + b < -4611686018427387904 ∨ 4611686018427387904 < a + b := by
    rcases Int.lt_or_le (a + b) (-4611686018427387904) with z | z
    · exact .inl z
    rcases Int.lt_or_le 4611686018427387904 (a + b) with z2 | z2
    · exact .inr z2
    exact absurd ⟨z, z2⟩ hab
  by_cases q1 : a > 0
  · exact Ev.Zby q1 (Ev.Zby (by rw [w1 q1]; omega) (Ev.const rfl))
  by_cases q2 : a < 0
  rotate_left
  · exfalso; omega
  exact Ev.Zb7 q1 (Ev.Zby q2 (Ev.Zby (by rw [w2 q2]; omega) (Ev.const rfl)))
theorem sub0_ev (a : Int) (h0 : a < 0) (hw : -9223372036854775808 ≤ a) : Ev (fun k => Zdq.f k 0 a) (if Sml a then (-a, true) else (0, false)) := by
  unfold Zdq.f
  have h := Zen [0, a] (by simp)
  by_cases hs : Sml a
  rotate_left
  · rw [if_neg hs]
    rw [show ([0, a].all fun x => decide (Sml x)) = false by simp [hs]] at h
    exact Ev.bind h (Ev.Zb7 (by simp) (Ev.const rfl))
  rw [if_pos hs]
  rw [show ([0, a].all fun x => decide (Sml x)) = true by simp [hs]; exact ⟨by omega, by omega⟩] at h
  have hn : wrap64 (-a) = -a := by
    have := hs.1
    unfold wrap64; omega
  have hadd := add_ev 0 (-a)
  have e : addS 0 (-a) = (-a, true) := by
    unfold addS
    have h1 := hs.1
    have h2 := hs.2
    rw [if_pos ⟨⟨by omega, by omega⟩, ⟨by omega, by omega⟩, by rw [Int.zero_add]; exact ⟨by omega, by omega⟩⟩, Int.zero_add]
  rw [e] at hadd
  refine Ev.bind h (Ev.Zby rfl ?_)
  rw [hn]
  exact Ev.bind (H := fun _ (p : Int × Bool) => some (p.1, p.2)) hadd (Ev.const rfl)
theorem size_ev (a : Int) (hw : -9223372036854775808 ≤ a) : Ev (fun k => Zb9.f k a) (if Sml a then ((a.natAbs : Int), true) else (0, false)) := by
  unfold Zb9.f
  by_cases h0 : a < 0
  · refine Ev.Zby h0 ?_
    have h := sub0_ev a h0 hw
    have e : (if Sml a then (-a, true) else ((0 : Int), false)) = (if Sml a then ((a.natAbs : Int), true) else (0, false)) := by
      rw [show (-a : Int) = (a.natAbs : Int) by omega]
    rw [e] at h
    refine Ev.bind h (Ev.const ?_)
    split <;> rfl
  refine Ev.Zb7 h0 ?_
  have h := add_ev 0 a
  have e : addS 0 a = (if Sml a then ((a.natAbs : Int), true) else (0, false)) := by
    unfold addS
    rw [Int.zero_add, show (a.natAbs : Int) = a by omega]
    by_cases hs : Sml a
    rotate_left
    · rw [if_neg (fun hh => hs hh.2.1), if_neg hs]
    rw [if_pos ⟨⟨by omega, by omega⟩, hs, hs⟩, if_pos hs]
  rw [e] at h
  refine Ev.bind h (Ev.const ?_)
  split <;> rfl
theorem wrapU {x : Int} (h0 : 0 ≤ x) (h1 : x < 18446744073709551616) : IntKind.u64.wrap x = x := by
  rw [IntKind.wrap_u64]
  omega
theorem maskU {x : Int} (h0 : 0 ≤ x) (h1 : x < 18446744073709551616) : Go.bits .and .u64 x 4294967295 = x % 4294967296 := by
  obtain ⟨n, rfl⟩ : ∃ n : Nat, x = n := ⟨x.toNat, by omega⟩
  rw [show (4294967295 : Int) = ((4294967295 : Nat) : Int) from rfl, bits_and_u64_nat n 4294967295 (by omega) (by omega), show (4294967295 : Nat) = 2 ^ 32 - 1 from rfl, Nat.and_two_pow_sub_one_eq_mod]
  omega
theorem mul64_mega {a : Int} (h0 : 0 ≤ a) (h1 : a ≤ 4611686018427387904) : bits_Mul64.f a 1048576 = some (a * 1048576 / 18446744073709551616, a * 1048576 % 18446744073709551616) := by
  unfold bits_Mul64.f
  have e1 : (1048576 : Int) / 4294967296 = 0 := by decide
  have e2 : Go.bits .and .u64 (1048576 : Int) 4294967295 = 1048576 := by rw [maskU (by omega) (by omega)]; decide
  rw [e1, e2, maskU h0 (by omega)]
  have w1 : IntKind.u64.wrap (a / 4294967296 * 0) = 0 := by rw [Int.mul_zero]; exact wrapU (by omega) (by omega)
  have w2 : IntKind.u64.wrap (a / 4294967296 * 1048576) = a / 4294967296 * 1048576 := wrapU (by omega) (by omega)
  have w3 : IntKind.u64.wrap (a % 4294967296 * 1048576) = a % 4294967296 * 1048576 := wrapU (by omega) (by omega)
  have w4 : IntKind.u64.wrap (a % 4294967296 * 0) = 0 := by rw [Int.mul_zero]; exact wrapU (by omega) (by omega)
  rw [w1, w2, w3, w4]
  have w5 : IntKind.u64.wrap (a / 4294967296 * 1048576 + a % 4294967296 * 1048576 / 4294967296) = a / 4294967296 * 1048576 + a % 4294967296 * 1048576 / 4294967296 := wrapU (by omega) (by omega)
  rw [w5, maskU (by omega) (by omega)]
  have w6 : ∀ t : Int, 0 ≤ t → t < 18446744073709551616 → IntKind.u64.wrap (IntKind.u64.wrap (0 + t / 4294967296) + IntKind.u64.wrap (t % 4294967296 + 0) / 4294967296) = t / 4294967296 := fun t ht0 ht1 => by
    rw [wrapU (x := 0 + t / 4294967296) (by omega) (by omega), wrapU (x := t % 4294967296 + 0) (by omega) (by omega), wrapU (by omega) (by omega)]
    omega
  rw [w6 _ (by omega) (by omega)]
  have w7 : IntKind.u64.wrap (a * 1048576) = a * 1048576 % 18446744073709551616 := by
    rw [IntKind.wrap_u64]
  rw [w7]
  congr 2
  omega
theorem mul_ev {a : Int} (h0 : 0 ≤ a) (h1 : a ≤ 4611686018427387904) : Ev (fun k => Zbn.f k a 1048576) (if a * 1048576 ≤ 4611686018427387904 then (a * 1048576, true) else (0, false)) := by
  unfold Zbn.f
  have h := Zen [a, 1048576] (by simp)
  rw [show ([a, 1048576].all fun x => decide (Sml x)) = true by
    have hs1 : Sml a := ⟨by omega, h1⟩
    have hs2 : Sml 1048576 := ⟨by omega, by omega⟩
    simp [hs1, hs2]] at h
  have s1 : Zbw.f a = some a := by
    unfold Zbw.f
    rw [if_neg (by omega), wrapU h0 (by omega)]
  have s2 : Zbw.f 1048576 = some 1048576 := by
    unfold Zbw.f
    rw [if_neg (by omega), wrapU (by omega) (by omega)]
  refine Ev.bind h (Ev.Zby rfl ?_)
  simp only [s1, s2, mul64_mega h0 h1, Option.bind_some]
  by_cases hc : a * 1048576 ≤ 4611686018427387904
  rotate_left
  · rw [if_neg hc]
    have key : ∀ b : Bool, b = true → ∀ x : Int, Ev (fun k => Zbn.j0 k a 1048576 x b) (0, false) := fun b hb x => Ev.step (G := fun _ => some (0, false)) (fun k => by rw [Zbn.j0, if_pos hb]) (Ev.const rfl)
    by_cases q1 : a * 1048576 / 18446744073709551616 = 0
    rotate_left
    · exact Ev.Zb7 q1 (key _ rfl _)
    exact Ev.Zby q1 (key _ (by simp; omega) _)
  rw [if_pos hc]
  have q1 : a * 1048576 / 18446744073709551616 = 0 := by omega
  have q2 : a * 1048576 % 18446744073709551616 = a * 1048576 := by omega
  simp only [q1, q2]
  refine Ev.Zby trivial (Ev.step (G := fun _ => some (a * 1048576, true)) (fun k => ?_) (Ev.const rfl))
  rw [Zbn.j0, if_neg (by simp; omega), if_neg (by simp; omega), show wrap64 (a * 1048576) = a * 1048576 by unfold wrap64; omega]
def tot : List Int → Int
  | [] => 0
  | c :: l => (c.natAbs : Int) * 1048576 + tot l
theorem Zei : ∀ l, 0 ≤ tot l
  | [] => Int.le_refl _
  | c :: l => by have := Zei l; unfold tot; omega
theorem big_no (l : List Int) (hl : l.length ≤ 1000000) (hw : ∀ c ∈ l, -9223372036854775808 ≤ c) (s : Int) : ∀ (d i : Nat), i + d = l.length → Ev (fun k => Zbo.l0 k s false l (l.length : Int) (i : Int)) true
  | 0, i, h => by
    obtain rfl : i = l.length := by omega
    exact Ev.step (G := fun _ => some true) (fun k => by rw [Zbo.l0, if_neg (by omega)]; rfl) (Ev.const rfl)
  | d + 1, i, h => by
    have hi : i < l.length := by omega
    have hr : rd l (i : Int) = l[i] := by simp [rd, List.getD_eq_getElem?_getD, List.getElem?_eq_getElem hi]
    have hs := size_ev l[i] (hw _ (List.getElem_mem hi))
    refine Ev.step (fun k => by rw [Zbo.l0, if_pos (by omega), if_pos (by omega), if_pos (by omega), hr]) ?_
    refine Ev.bind hs ?_
    by_cases hsm : Sml l[i]
    rotate_left
    · rw [if_neg hsm]
      exact Ev.Zb7 (by simp) (Ev.const rfl)
    rw [if_pos hsm]
    obtain ⟨m1, m2⟩ := hsm
    refine Ev.Zby rfl (Ev.bind (mul_ev (a := (l[i].natAbs : Int)) (by omega) (by omega)) ?_)
    by_cases hm : (l[i].natAbs : Int) * 1048576 ≤ 4611686018427387904
    rotate_left
    · rw [if_neg hm]
      exact Ev.Zb7 (by simp) (Ev.const rfl)
    rw [if_pos hm]
    exact Ev.Zby rfl (Ev.Zb7 (by simp) (Ev.const rfl))
theorem big_loop (l : List Int) (hl : l.length ≤ 1000000) (hw : ∀ c ∈ l, -9223372036854775808 ≤ c) : ∀ (d i : Nat) (s : Int), i + d = l.length → 0 ≤ s → s ≤ 4611686018427387904 → Ev (fun k => Zbo.l0 k s true l (l.length : Int) (i : Int)) (!decide (s + tot (l.drop i) ≤ 4611686018427387904))
  | 0, i, s, h, h0, h1 => by
    obtain rfl : i = l.length := by omega
    rw [List.drop_length]
    refine Ev.step (G := fun _ => some false) (fun k => by rw [Zbo.l0, if_neg (by omega)]; rfl) (Ev.const ?_)
    rw [decide_eq_true (by unfold tot; omega)]
    rfl
  | d + 1, i, s, h, h0, h1 => by
    have hi : i < l.length := by omega
    have hr : rd l (i : Int) = l[i] := by simp [rd, List.getD_eq_getElem?_getD, List.getElem?_eq_getElem hi]
    have hz : wrap64 ((i : Int) + 1) = ((i + 1 : Nat) : Int) := by unfold wrap64; omega
    have hs := size_ev l[i] (hw _ (List.getElem_mem hi))
    rw [List.drop_eq_getElem_cons hi, tot]
    have ht := Zei (l.drop (i + 1))
    refine Ev.step (fun k => by rw [Zbo.l0, if_pos (by omega), if_pos (by omega), if_pos (by omega), hr]) ?_
    refine Ev.bind hs ?_
    by_cases hsm : Sml l[i]
    rotate_left
    · rw [if_neg hsm, decide_eq_false (by
        have : ¬ (-4611686018427387904 ≤ l[i] ∧ l[i] ≤ 4611686018427387904) := hsm
        omega)]
      exact Ev.Zb7 (by simp) (Ev.const rfl)
    rw [if_pos hsm]
    obtain ⟨m1, m2⟩ := hsm
    refine Ev.Zby rfl (Ev.bind (mul_ev (a := (l[i].natAbs : Int)) (by omega) (by omega)) ?_)
    by_cases hm : (l[i].natAbs : Int) * 1048576 ≤ 4611686018427387904
    rotate_left
    · rw [if_neg hm, decide_eq_false (by omega)]
      exact Ev.Zb7 (by simp) (Ev.const rfl)
    rw [if_pos hm]
    refine Ev.Zby rfl (Ev.Zby rfl ?_)
    have ha := add_ev s ((l[i].natAbs : Int) * 1048576)
    refine Ev.bind ha ?_
    rw [hz]
    by_cases hab : s + (l[i].natAbs : Int) * 1048576 ≤ 4611686018427387904
    rotate_left
    · have e : addS s ((l[i].natAbs : Int) * 1048576) = (0, false) := if_neg (fun hh => hab hh.2.2.2)
      rw [e, decide_eq_false (by omega)]
      exact big_no l hl hw 0 d (i + 1) (by omega)
    have e : addS s ((l[i].natAbs : Int) * 1048576) = (s + (l[i].natAbs : Int) * 1048576, true) := if_pos ⟨⟨by omega, h1⟩, ⟨by omega, hm⟩, ⟨by omega, hab⟩⟩
    rw [e, ← Int.add_assoc]
    exact big_loop l hl hw d (i + 1) _ (by omega) (by omega) hab
theorem big_ev (l : List Int) (rhs : Int) (hl : l.length ≤ 1000000) (hw : ∀ c ∈ l, -9223372036854775808 ≤ c) (hr : -9223372036854775808 ≤ rhs) : Ev (fun k => Zbo.f k l rhs) (!decide ((rhs.natAbs : Int) + tot l ≤ 4611686018427387904)) := by
  unfold Zbo.f
  have ht := Zei l
  refine Ev.bind (size_ev rhs hr) ?_
  by_cases hsm : Sml rhs
  rotate_left
  · rw [if_neg hsm, decide_eq_false (by
      have : ¬ (-4611686018427387904 ≤ rhs ∧ rhs ≤ 4611686018427387904) := hsm
      omega)]
    exact big_no l hl hw 0 l.length 0 (by omega)
  rw [if_pos hsm]
  obtain ⟨m1, m2⟩ := hsm
  have := big_loop l hl hw l.length 0 (rhs.natAbs : Int) (by omega) (by omega) (by omega)
  rw [List.drop_zero] at this
  exact this
end Go.Proofs.Ytkgjaklnbgdmiaa.P
/- Counts at the very edge: one product more is too much. -/
namespace Go.Proofs.Ytkgjaklnbgdmiaa.P
open Go.RowKit Go.Proofs.YtkgjaklnbgdmiaaW.PrintWords Go.Proofs.YtkgjaklnbgdmiaaW.PrintLast
set_option linter.unusedVariables false
theorem and32 (n : Int) : Go.bits .and .i64 n 4294967295 = n % 4294967296 := by
  have h1 : (BitVec.ofInt 64 4294967295).toNat = 2 ^ 32 - 1 := by decide
  have key : (BitVec.ofInt 64 n &&& BitVec.ofInt 64 4294967295).toNat = (n % ((2 ^ 64 : Nat) : Int)).toNat % 2 ^ 32 := by
    rw [BitVec.toNat_and, BitVec.toNat_ofInt, h1, Nat.and_two_pow_sub_one_eq_mod]
  show IntKind.i64.wrap ((BitVec.ofInt 64 n &&& BitVec.ofInt 64 4294967295).toNat : Nat) = n % 4294967296
  rw [key, IntKind.wrap_i64]
  omega
theorem contains1 (c : Int) (h : c ≠ 0) : Ev (fun k => slices_Contains_int.f k [c] 0) false := by
  unfold slices_Contains_int.f slices_Index_int.f
  refine Ev.bind (a := -1) ?_ (Ev.const rfl)
  refine Ev.step (G := fun k => slices_Index_int.l0 k [c] 0 1 1) (fun k => ?_) ?_
  · rw [slices_Index_int.l0, if_pos (by simp), if_pos (by simp), if_pos (by simp), if_neg (by simpa [rd] using fun e => h e.symm)]
    rw [show wrap64 (0 + 1) = 1 from w64 (by omega) (by omega)]
    simp
  exact Ev.step (G := fun _ => some (-1)) (fun k => by rw [slices_Index_int.l0, if_neg (by simp)]) (Ev.const rfl)
theorem con1 (l0 : List (List S48)) (h0 : l0.length = 1) (c rhs : Int) (hc : c ≠ 0) (hcw : -9223372036854775808 ≤ c) (hr : -9223372036854775808 ≤ rhs) : Ev (fun k => Zbl.f k l0 0 [0] [c] 0 rhs [] 0) (if (rhs.natAbs : Int) + (c.natAbs : Int) * 1048576 ≤ 4611686018427387904 then 0 else 45) := by
  unfold Zbl.f
  refine Ev.Zb7 (by omega) (Ev.Zb7 (by simp [awayV, h0]) (Ev.Zb7 (by simp) ?_))
  refine Ev.bind (a := true) ?_ (Ev.Zb7 (by simp) (Ev.bind (big_ev [c] rhs (by simp) (by intro x hx; rw [List.mem_singleton] at hx; subst hx; exact hcw) hr) (Ev.const ?_)))
  · unfold Zbf.f
    refine Ev.Zb7 (by simp) (Ev.Zby rfl (Ev.bind (a := true) ?_ (Ev.const rfl)))
    unfold Zb8.f Zb3.f
    refine Ev.bind (a := true) ?_ (Ev.const rfl)
    refine Ev.Zby (by simp) (Ev.Zby (by simp) ?_)
    refine Ev.bind (a := true) (Ev.const (by simp [Zcd.f, sd, insU])) (Ev.Zby rfl ?_)
    exact Ev.bind (contains1 c hc) (Ev.const rfl)
  simp only [tot, Int.add_zero]
  by_cases q : (rhs.natAbs : Int) + (c.natAbs : Int) * 1048576 ≤ 4611686018427387904
  · rw [if_pos q, decide_eq_true q]
    rfl
  rw [if_neg q, decide_eq_false q]
  rfl
theorem modelBig_pure (a0 : Int) (a1 : Int) : ∃ k, Zav.f k a0 a1 = some true := by
  refine Ev.out (F := fun k => Zav.f k a0 a1) ?_
  unfold Zav.f
  rw [and32]
  have hn0 : 0 ≤ a0 % 4294967296 := by omega
  have hn1 : a0 % 4294967296 < 4294967296 := by omega
  generalize a0 % 4294967296 = n at hn0 hn1 ⊢
  have e1 : wrap64 (wrap64 (-n) - 1) = -(n + 1) := by
    rw [w64 (n := -n) (by omega) (by omega), w64 (by omega) (by omega)]; omega
  have e2 : wrap64 (n + 1) = n + 1 := w64 (by omega) (by omega)
  have e3 : wrap64 (wrap64 (4611686018427387904 - wrap64 (n * 1048576)) - 1048576) = 4611686018427387904 - (n + 1) * 1048576 := by
    rw [w64 (n := n * 1048576) (by omega) (by omega), w64 (n := 4611686018427387904 - n * 1048576) (by omega) (by omega), w64 (by omega) (by omega)]; omega
  have e4 : wrap64 (-(4611686018427387904 - (n + 1) * 1048576)) = -(4611686018427387904 - (n + 1) * 1048576) := w64 (by omega) (by omega)
  rw [e3, e1, e2, e4]
  have hf : Ev (fun k => Za2.f k) true := Ev.const rfl
  refine Ev.bind (a := ([0] : List Int)) (Ev.const rfl) ?_
  by_cases hneg : a1 < 0
  rotate_left
  · refine Ev.Zb7 hneg (Ev.step (fun k => by rw [Zav.j0]) ?_)
    refine Ev.bind (a := [[(⟨0, 1⟩ : S48)]]) (Ev.const rfl) ?_
    have h1 := con1 [[(⟨0, 1⟩ : S48)]] rfl (n + 1) (4611686018427387904 - (n + 1) * 1048576) (by omega) (by omega) (by omega)
    have h2 := con1 [[(⟨0, 1⟩ : S48)]] rfl (n + 1) (4611686018427387904 - (n + 1) * 1048576 + 1) (by omega) (by omega) (by omega)
    rw [if_pos (by omega)] at h1
    rw [if_neg (by omega)] at h2
    have e5 : wrap64 (4611686018427387904 - (n + 1) * 1048576 + 1) = 4611686018427387904 - (n + 1) * 1048576 + 1 := w64 (by omega) (by omega)
    rw [e5]
    exact Ev.bind h1 (Ev.Zb7 (by omega) (Ev.Zby rfl (Ev.bind h2 (Ev.Zby rfl (Ev.bind hf (Ev.const rfl))))))
  refine Ev.Zby hneg (Ev.step (fun k => by rw [Zav.j0]) ?_)
  refine Ev.bind (a := [[(⟨0, 1⟩ : S48)]]) (Ev.const rfl) ?_
  have h1 := con1 [[(⟨0, 1⟩ : S48)]] rfl (-(n + 1)) (-(4611686018427387904 - (n + 1) * 1048576)) (by omega) (by omega) (by omega)
  have h2 := con1 [[(⟨0, 1⟩ : S48)]] rfl (-(n + 1)) (-(4611686018427387904 - (n + 1) * 1048576) - 1) (by omega) (by omega) (by omega)
  rw [if_pos (by omega)] at h1
  rw [if_neg (by omega)] at h2
  have e5 : wrap64 (-(4611686018427387904 - (n + 1) * 1048576) - 1) = -(4611686018427387904 - (n + 1) * 1048576) - 1 := w64 (by omega) (by omega)
  rw [e5]
  exact Ev.bind h1 (Ev.Zby (by omega) (Ev.Zby rfl (Ev.bind h2 (Ev.Zby rfl (Ev.bind hf (Ev.const rfl))))))
end Go.Proofs.Ytkgjaklnbgdmiaa.P
namespace Go.Proofs.Ytkgjaklnbgdmiaa.Pure
open Go.RowKit Go.Proofs.Ytkgjaklnbgdmiaa.P Go.Proofs.YtkgjaklnbgdmiaaW.PrintWords Go.Proofs.YtkgjaklnbgdmiaaW.PrintLast
theorem ModelBig : Zav.Pure := fun a0 a1 _ _ => modelBig_pure a0 a1
end Go.Proofs.Ytkgjaklnbgdmiaa.Pure
namespace Go.Proofs.Ytkgjaklnbgdmiaa.modelBig
open Go.ChangeShapes Go.WideShapes Go.ChangeAt Go.RowKit
open Go.ChangeMaps (open_string shut_string)
set_option linter.unusedVariables false
theorem own : ownKnob Try.prog.godebug = none := by kernel_rfl
set_option maxRecDepth 100000 in
theorem lifted (os : Os) (started : os.Started) (H : Type) (enc : TypeId × Value → H) :
  ReturnsInHanded {} Try.checked os 9 .any (Rows.modelBigSpec.pre6 enc Try.prog Try.f9 Rows.modelBigRow.domain false) (Rows.modelBigSpec.post enc Try.prog Try.f9 false true false false) := by
 refine returnsInHanded_of_change_sized (C := Try.checked) own started (by kernel_rfl) Try.func9
  (ChangeSpec.witness6 (enc := enc) (C := Try.checked) false ⟨#[], #[.int .i64 0, .int .i64 0], []⟩ 8 (by kernel_rfl) (by kernel_rfl) (by kernel_rfl) (by kernel_rfl)) ?_
 intro W base args ds gs before hval0 hW hcnd hsz0 _
 have hsz : (DataW.weightsEach Try.prog (Try.f9.params.toList ++ Rows.modelBigSpec.plain.varTypes Try.prog) (ds ++ gs)).all (· ≤ reachBytes) = true := hsz0
 have hval : ∀ (j : Nat) t v, Try.f9.params[j]? = some t → args[j]? = some v → Value.okWide Try.prog W .any base t v := hval0
 have hW' := hW
 obtain ⟨p, q, hA0, hV, rfl, hfz, hnd⟩ := hW
 have hA : DataW.TrodAll enc Try.prog W 0 (fun _ => true) true Try.f9.params.toList args.toList ds p := hA0
 rw [Try.params9] at hA hval hsz
 obtain ⟨v0, vs0, d0, ds0, p0, q0, hargs, rfl, rfl, h0, r0⟩ := trodAll_cons hA
 obtain ⟨v1, vs1, d1, ds1, p1, q1, rfl, rfl, rfl, h1, r1⟩ := trodAll_cons r0
 obtain ⟨rfl, rfl, rfl⟩ := trodAll_nil r1
 obtain rfl : args = #[v0, v1] := by cases args; simp_all
 obtain ⟨rfl, rfl⟩ := trodVars_none hV
 obtain ⟨a0, rfl, rfl, rfl, w0⟩ := open_int Try.underlying3 (hval 0 3 v0 rfl rfl) h0
 obtain ⟨a1, rfl, rfl, rfl, w1⟩ := open_int Try.underlying3 (hval 1 3 v1 rfl rfl) h1
 clear hA0 hval0 hsz0 hsz
 refine (P.Zav.walk Pure.ModelBig a0 a1 W w0 w1).mono fun e W' ⟨he, bel⟩ => ?_
 subst he
 exact ⟨_, rfl, _, _, _, [], _, [], hW', trodAll_mk1 (shut_bool Try.underlying4 _), (trodAll_cons_mk (shut_int Try.underlying3 w0) (trodAll_cons_mk (shut_int Try.underlying3 w1) trodAll_mk0)), rfl, bel.frame _, fun h => by cases h⟩
theorem over : Rows.modelBigRow.holds Try.pinned (OpenSpec.ofChange Rows.modelBigSpec) :=
 OpenClaim.holds_of_wide 9 Try.f9 rfl rfl rfl rfl rfl rfl rfl ⟨rfl, rfl, rfl, rfl, rfl⟩ rfl rfl rfl rfl rfl (by kernel_rfl) Try.func9 (by kernel_rfl)
  (of_decide_eq_true (by kernel_rfl)) (by unfold Func.isWrapper; first | (rw [if_pos (by decide +kernel)]; kernel_rfl) | (rw [if_neg (by decide +kernel)]; exact ⟨rfl, rfl⟩))
  (fun os started H enc _ => lifted os started H enc)
theorem proved : Rows.ModelBigSaid := over
end Go.Proofs.Ytkgjaklnbgdmiaa.modelBig
namespace Go.Proofs.Ytkgjaklnbgdmiaa
theorem modelBig_holds : Rows.ModelBigSaid := modelBig.proved
end Go.Proofs.Ytkgjaklnbgdmiaa
