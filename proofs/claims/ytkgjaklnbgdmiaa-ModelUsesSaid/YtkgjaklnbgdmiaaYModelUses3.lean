/- Proved: the statement ModelUses. Conditions: none but those of the statement. -/
import Derived.Test.YtkgjaklnbgdmiaaZ1
import Derived.Test.YtkgjaklnbgdmiaaYModelUses2
import Derived.Test.YtkgjaklnbgdmiaaYModelUses1
import Derived.Test.YtkgjaklnbgdmiaaZ3
import Derived.Test.YtkgjaklnbgdmiaaZ4
import Derived.Test.YtkgjaklnbgdmiaaU1
import Derived.Deep.Slices
import Derived.ChangeArms
import Derived.DataReads
import Derived.SizedLaws
import Derived.Test.YtkgjaklnbgdmiaaRows
import Derived.WalkKit
import Derived.ProofKit
import Derived.OpenShut
import Derived.ShutString
import Derived.ChangeOld
import Derived.Below
namespace Go.Proofs.Ytkgjaklnbgdmiaa.P
open Go.RowKit Go.Proofs.YtkgjaklnbgdmiaaW.PrintWords Go.Proofs.YtkgjaklnbgdmiaaW.PrintLast Go.Proofs.YtkgjaklnbgdmiaaW.PrintMore
attribute [local go_sem] Zcs Zcu Zc7 Zc8 Zcc Zcd Zct Zcv
set_option linter.unusedVariables false
set_option linter.unusedSimpArgs false
mutual
def Zam.l0 : Nat → Bool → Int → List (S50) → List (S31) → Int → List Int → List Int → Option (Bool)
 | 0, _, _, _, _, _, _, _ => none
 | k + 1, x3, x4, x745000, x745001, x745002, x745003, x745004 => if x4 < (x745001.length : Int) then (if 0 ≤ x4 then ((Zcp.f ((Zah x745001 x4).f0) ((Zah x745001 x4).f1) ((Zah x745001 x4).f2) ((Zah x745001 x4).f3) ((Zah x745001 x4).f4) ((Zah x745001 x4).f5) ((Zah x745001 x4).f6)).bind fun t761 => (Zam.l1 k x3 x4 t761 0 x745000 x745001 x745002 x745003 x745004)) else (none)) else ((Zbg.f k).bind fun t759 => (some t759))
def Zam.l1 : Nat → Bool → Int → List Int → Int → List (S50) → List (S31) → Int → List Int → List Int → Option (Bool)
 | 0, _, _, _, _, _, _, _, _, _ => none
 | k + 1, x3, x4, x5, x6, x745000, x745001, x745002, x745003, x745004 => if x6 < (x5.length : Int) then (if x6 > 0 then (if 0 ≤ x6 then (if 0 ≤ (wrap64 (x6 - 1)) then (if (wrap64 (x6 - 1)) < (x5.length : Int) then (if (rd x5 x6) ≤ (rd x5 (wrap64 (x6 - 1))) then (none) else (if x3 = true then (if (rd x5 x6) < 0 then (none) else (if (rd x5 x6) ≥ (x745000.length : Int) then (none) else (Zam.l1 k x3 x4 x5 (wrap64 (x6 + 1)) x745000 x745001 x745002 x745003 x745004))) else (Zam.l1 k x3 x4 x5 (wrap64 (x6 + 1)) x745000 x745001 x745002 x745003 x745004))) else (none)) else (none)) else (none)) else (if x3 = true then (if 0 ≤ x6 then (if (rd x5 x6) < 0 then (none) else (if (rd x5 x6) ≥ (x745000.length : Int) then (none) else (Zam.l1 k x3 x4 x5 (wrap64 (x6 + 1)) x745000 x745001 x745002 x745003 x745004))) else (none)) else (Zam.l1 k x3 x4 x5 (wrap64 (x6 + 1)) x745000 x745001 x745002 x745003 x745004))) else (Zam.l2 k x3 x4 x5 0 x745000 x745001 x745002 x745003 x745004)
def Zam.l2 : Nat → Bool → Int → List Int → Int → List (S50) → List (S31) → Int → List Int → List Int → Option (Bool)
 | 0, _, _, _, _, _, _, _, _, _ => none
 | k + 1, x3, x4, x5, x7, x745000, x745001, x745002, x745003, x745004 => if 0 ≤ x4 then (if x4 < (x745001.length : Int) then (if x7 < (((Zah x745001 x4).f1).length : Int) then (if 0 ≤ x7 then ((Zbh.f k x5 (rd ((Zah x745001 x4).f1) x7)).bind fun t773 => (if t773 = true then (Zam.l2 k x3 x4 x5 (wrap64 (x7 + 1)) x745000 x745001 x745002 x745003 x745004) else (none))) else (none)) else (Zam.l0 k x3 (wrap64 (x4 + 1)) x745000 x745001 x745002 x745003 x745004)) else (none)) else (none)
end
def Zam.f (k : Nat) (l0_0 : List (S50)) (l0_1 : List (S31)) (a0_2 : Int) (l0_3 : List Int) (l0_4 : List Int) : Option (Bool) := (Zak.f k l0_0 l0_1 a0_2 l0_3 l0_4).bind fun bt745 => ((Zbn.f k bt745.1 bt745.2.1 bt745.2.2.1 bt745.2.2.2.1 bt745.2.2.2.2).bind fun t758 => (Zam.l0 k (t758 == 0) 0 bt745.1 bt745.2.1 bt745.2.2.1 bt745.2.2.2.1 bt745.2.2.2.2))
set_option maxHeartbeats 8000000 in
set_option maxRecDepth 100000 in
theorem Zam.calls (k : Nat) (A0_0 : Option Addr) (c0_0 : Nat) (l0_0 : List (S50)) (A0_1 : Option Addr) (c0_1 : Nat) (l0_1 : List (S31)) (a0_2 : Int) (A0_3 : Option Addr) (c0_3 : Nat) (l0_3 : List Int) (A0_4 : Option Addr) (c0_4 : Nat) (l0_4 : List Int) (r : Bool) (w : World) (hr0_0 : Kd.C k50 w A0_0 l0_0.length l0_0) (hc0_0 : l0_0.length ≤ c0_0) (hr0_1 : Kd.C k31 w A0_1 l0_1.length l0_1) (hc0_1 : l0_1.length ≤ c0_1) (hr0_3 : Kd.C (Kd.int .i64) w A0_3 l0_3.length l0_3) (hc0_3 : l0_3.length ≤ c0_3) (hr0_4 : Kd.C (Kd.int .i64) w A0_4 l0_4.length l0_4) (hc0_4 : l0_4.length ≤ c0_4) (h : Zam.f k l0_0 l0_1 a0_2 l0_3 l0_4 = some r) :
  Calls Try.prog 8 #[.agg #[.slice A0_0 l0_0.length c0_0, .slice A0_1 l0_1.length c0_1, .int .i64 a0_2, .slice A0_3 l0_3.length c0_3, .slice A0_4 l0_4.length c0_4]] w fun e w' => e = .returned (.bool r) ∧ Below w.heap.size w w' := by
 have hu28 := Try.underlying28
 have hu31 := Try.underlying31
 have HR0_0 := Za.mk hr0_0
 have HC0_0 := Za.mk hc0_0
 clear hr0_0 hc0_0
 have HR0_1 := Za.mk hr0_1
 have HC0_1 := Za.mk hc0_1
 clear hr0_1 hc0_1
 have HR0_3 := Za.mk hr0_3
 have HC0_3 := Za.mk hc0_3
 clear hr0_3 hc0_3
 have HR0_4 := Za.mk hr0_4
 have HC0_4 := Za.mk hc0_4
 clear hr0_4 hc0_4
 have HB := Za.mk (Below.refl w.heap.size w)
 have H : ((Zak.f k l0_0 l0_1 a0_2 l0_3 l0_4).bind fun bt745 => ((Zbn.f k bt745.1 bt745.2.1 bt745.2.2.1 bt745.2.2.2.1 bt745.2.2.2.2).bind fun t758 => (Zam.l0 k (t758 == 0) 0 bt745.1 bt745.2.1 bt745.2.2.1 bt745.2.2.2.1 bt745.2.2.2.2))) = some r := h
 clear h
 replace H := Option.bind_eq_some_iff.mp H
 obtain ⟨⟨t745, t748, t751, t752, t755⟩, A20, H⟩ := H
 replace H : ((Zbn.f k t745 t748 t751 t752 t755).bind fun t758 => (Zam.l0 k (t758 == 0) 0 t745 t748 t751 t752 t755)) = some r := H
 have A2 := Za.mk A20
 clear A20
 replace H := Option.bind_eq_some_iff.mp H
 obtain ⟨t758, A30, H⟩ := H
 replace H : (Zam.l0 k (t758 == 0) 0 t745 t748 t751 t752 t755) = some r := H
 have A3 := Za.mk A30
 clear A30
 have H' := Za.mk H
 clear H
 go_enter Try.func8, Try.ntmps8
 go_wp2_with (first | ((with_reducible refine Zax (N := 1) rfl ?_); (try (refine Zco (by rfl) ?_; dsimp only)); refine Za7 ?hg (N := 1) ?hd (cs := #[.slice A0_0 l0_0.length c0_0, .slice A0_1 l0_1.length c0_1, .int .i64 a0_2, .slice A0_3 l0_3.length c0_3, .slice A0_4 l0_4.length c0_4]) (t := 28) ?hr ?_; (case hd => rfl); (case hg => rfl); (case hr => first | (go_simp; done) | (go_simp; rfl)); intro gb744 hg w4 hbox hb; have n0_ := Za.mk (Zaf (by repeat (first | (with_reducible first | exact HB.out | apply Zab | apply Zaa | apply Zad) | exact HB.out)) hb); have n1_ := Za.mk (hbox); have n3_ := Za.mk ((by rw [hg]; exact (Zan (by repeat (first | (with_reducible first | exact HB.out | apply Zab | apply Zaa | apply Zad) | exact HB.out))) : w.heap.size ≤ gb744)); clear HB; have HB := n0_; have BK744 := n1_; have GE744 := n3_; clear n0_ n1_ n3_; clear hb hbox hg; obtain ⟨hcz5_0, hcz5_1, hcz5_2, hcz5_3, hcz5_4, hfz5_0, hfz5_1, hfz5_2, hfz5_3, hfz5_4⟩ := Zde BK744.out) | (go_at_call 10; (with_reducible refine (Zak.calls k _ _ l0_0 _ _ l0_1 a0_2 _ _ l0_3 _ _ l0_4 t745 t748 t751 t752 t755 _ ?side1 ?side2 ?side3 ?side4 ?side5 ?side6 ?side7 ?side8 A2.out).mono ?_); (case side1 => repeat (first | exact (Kd.Zal HR0_0.out HB.out) | (with_reducible refine Kd.C_alloc ?_ _) | (with_reducible refine Kd.Zaw ?_ _) | (with_reducible refine Kd.C_drew ?_))); (case side2 => exact HC0_0.out); (case side3 => repeat (first | exact (Kd.Zal HR0_1.out HB.out) | (with_reducible refine Kd.C_alloc ?_ _) | (with_reducible refine Kd.Zaw ?_ _) | (with_reducible refine Kd.C_drew ?_))); (case side4 => exact HC0_1.out); (case side5 => repeat (first | exact (Kd.Zal HR0_3.out HB.out) | (with_reducible refine Kd.C_alloc ?_ _) | (with_reducible refine Kd.Zaw ?_ _) | (with_reducible refine Kd.C_drew ?_))); (case side6 => exact HC0_3.out); (case side7 => repeat (first | exact (Kd.Zal HR0_4.out HB.out) | (with_reducible refine Kd.C_alloc ?_ _) | (with_reducible refine Kd.Zaw ?_ _) | (with_reducible refine Kd.C_drew ?_))); (case side8 => exact HC0_4.out); rintro e w6 ⟨v746, v749, v753, v756, rfl, ho0, ho1, ho2, ho3, hb⟩; have n0_ := Za.mk (Kd.Ze0 ho0 (Zan (by repeat (first | (with_reducible first | exact HB.out | apply Zab | apply Zaa | apply Zad | refine Zac ?_ GE744.out) | exact HB.out)))); have n1_ := Za.mk (Kd.Zbp ho1 (Zan (by repeat (first | (with_reducible first | exact HB.out | apply Zab | apply Zaa | apply Zad | refine Zac ?_ GE744.out) | exact HB.out)))); have n2_ := Za.mk (Kd.Zbp ho2 (Zan (by repeat (first | (with_reducible first | exact HB.out | apply Zab | apply Zaa | apply Zad | refine Zac ?_ GE744.out) | exact HB.out)))); have n3_ := Za.mk (Kd.Zbp ho3 (Zan (by repeat (first | (with_reducible first | exact HB.out | apply Zab | apply Zaa | apply Zad | refine Zac ?_ GE744.out) | exact HB.out)))); have n4_ := Za.mk (Zap (g := gb744) (o := .cells #[.slice A0_0 l0_0.length c0_0, .slice A0_1 l0_1.length c0_1, .int .i64 a0_2, .slice A0_3 l0_3.length c0_3, .slice A0_4 l0_4.length c0_4] 28 (0, 0)) (by (with_reducible repeat (first | refine Zag ?_ _ | refine Zai ?_ | refine Zae ?_ _)); exact BK744.out) hb); have n5_ := Za.mk (Zaf (by repeat (first | (with_reducible first | exact HB.out | apply Zab | apply Zaa | apply Zad | refine Zac ?_ GE744.out) | exact HB.out)) hb); clear BK744; clear HB; have HO747 := n0_; have HO750 := n1_; have HO754 := n2_; have HO757 := n3_; have BK744 := n4_; have HB := n5_; clear n0_ n1_ n2_ n3_ n4_ n5_; (try clear hb); (try clear hb2); (try clear hk); (try clear hi); (try clear ho0); (try clear ho1); (try clear ho2); (try clear ho3); obtain ⟨Ao7, co7, eo7⟩ := Kd.Zdr HO747.out; subst eo7; obtain ⟨hcz8_0, hcz8_1, hcz8_2, hcz8_3, hcz8_4, hfz8_0, hfz8_1, hfz8_2, hfz8_3, hfz8_4⟩ := Zde BK744.out; obtain ⟨Ao9, co9, eo9⟩ := Kd.Za9 HO750.out; subst eo9; obtain ⟨Ao10, co10, eo10⟩ := Kd.Za9 HO754.out; subst eo10; obtain ⟨Ao11, co11, eo11⟩ := Kd.Za9 HO757.out; subst eo11) | (go_at_call 30; (with_reducible refine (Zbn.calls k _ _ t745 _ _ t748 t751 _ _ t752 _ _ t755 t758 _ ?side1 ?side2 ?side3 ?side4 ?side5 ?side6 ?side7 ?side8 A3.out).mono ?_); (case side1 => refine (Kd.Zea (e := 50) (base := w.heap.size) (ok := fun k_ => True) (n := t745.length) (c := co7) ?_).2.2; exact (by (with_reducible repeat (first | apply Kd.Zbj | apply Kd.Zbk | apply Kd.Zbr)); exact (Kd.Zcj (Kd.Zbv (p := ⟨gb744, 4, none⟩) (Kd.Zbv (p := ⟨gb744, 3, none⟩) (Kd.Zbv (p := ⟨gb744, 2, none⟩) (Kd.Zbv (p := ⟨gb744, 1, none⟩) (Kd.Zbv (p := ⟨gb744, 0, none⟩) (Kd.Zcm HO747.out BK744.out (by decide)) (fun _ hk => hk.2) (.slice Ao7 t745.length co7)) (fun _ hk => hk.2) (.slice Ao9 t748.length co9)) (fun _ hk => hk.2) (.int .i64 t751)) (fun _ hk => hk.2) (.slice Ao10 t752.length co10)) (fun _ hk => hk.2) (.slice Ao11 t755.length co11)) (fun _ h_ => h_.1)))); (case side2 => exact (Kd.Zea HO747.out).2.1); (case side3 => refine (Kd.Za0 (e := 31) (base := w.heap.size) (ok := fun k_ => (some k_ ≠ (.slice Ao10 t752.length co10 : Value).ownBlock ∧ some k_ ≠ (.slice Ao11 t755.length co11 : Value).ownBlock)) (n := t748.length) (c := co9) ?_).2.2; exact (by (with_reducible repeat (first | apply Kd.Zat | apply Kd.Zau | apply Kd.Zaz)); exact (Kd.Za2 (Kd.Za1 (p := ⟨gb744, 4, none⟩) (Kd.Za1 (p := ⟨gb744, 3, none⟩) (Kd.Za1 (p := ⟨gb744, 2, none⟩) (Kd.Za1 (p := ⟨gb744, 1, none⟩) (Kd.Za1 (p := ⟨gb744, 0, none⟩) (Kd.Zbc HO750.out BK744.out (by decide)) (fun _ hk => hk.2) (.slice Ao7 t745.length co7)) (fun _ hk => hk.2) (.slice Ao9 t748.length co9)) (fun _ hk => hk.2) (.int .i64 t751)) (fun _ hk => hk.2) (.slice Ao10 t752.length co10)) (fun _ hk => hk.2) (.slice Ao11 t755.length co11)) (fun _ h_ => h_.1)))); (case side4 => exact (Kd.Za0 HO750.out).2.1); (case side5 => refine (Kd.Za0 (e := 3) (base := w.heap.size) (ok := fun k_ => some k_ ≠ (.slice Ao11 t755.length co11 : Value).ownBlock) (n := t752.length) (c := co10) ?_).2.2; exact (by (with_reducible repeat (first | apply Kd.Zat | apply Kd.Zau | apply Kd.Zaz)); exact (Kd.Za2 (Kd.Za1 (p := ⟨gb744, 4, none⟩) (Kd.Za1 (p := ⟨gb744, 3, none⟩) (Kd.Za1 (p := ⟨gb744, 2, none⟩) (Kd.Za1 (p := ⟨gb744, 1, none⟩) (Kd.Za1 (p := ⟨gb744, 0, none⟩) (Kd.Zbc HO754.out BK744.out (by decide)) (fun _ hk => hk.2) (.slice Ao7 t745.length co7)) (fun _ hk => hk.2) (.slice Ao9 t748.length co9)) (fun _ hk => hk.2) (.int .i64 t751)) (fun _ hk => hk.2) (.slice Ao10 t752.length co10)) (fun _ hk => hk.2) (.slice Ao11 t755.length co11)) (fun _ h_ => h_.1)))); (case side6 => exact (Kd.Za0 HO754.out).2.1); (case side7 => refine (Kd.Za0 (e := 3) (base := w.heap.size) (ok := fun k_ => some k_ ≠ (.slice Ao10 t752.length co10 : Value).ownBlock) (n := t755.length) (c := co11) ?_).2.2; exact (by (with_reducible repeat (first | apply Kd.Zat | apply Kd.Zau | apply Kd.Zaz)); exact (Kd.Za2 (Kd.Za1 (p := ⟨gb744, 4, none⟩) (Kd.Za1 (p := ⟨gb744, 3, none⟩) (Kd.Za1 (p := ⟨gb744, 2, none⟩) (Kd.Za1 (p := ⟨gb744, 1, none⟩) (Kd.Za1 (p := ⟨gb744, 0, none⟩) (Kd.Zbc HO757.out BK744.out (by decide)) (fun _ hk => hk.2) (.slice Ao7 t745.length co7)) (fun _ hk => hk.2) (.slice Ao9 t748.length co9)) (fun _ hk => hk.2) (.int .i64 t751)) (fun _ hk => hk.2) (.slice Ao10 t752.length co10)) (fun _ hk => hk.2) (.slice Ao11 t755.length co11)) (fun _ h_ => h_.1)))); (case side8 => exact (Kd.Za0 HO757.out).2.1); rintro e w12 ⟨rfl, hb⟩; have n0_ := Za.mk (Kd.Zcw (by (with_reducible repeat (first | apply Kd.Zbj | apply Kd.Zbk | apply Kd.Zbr)); exact (Kd.Zcj (Kd.Zbv (p := ⟨gb744, 4, none⟩) (Kd.Zbv (p := ⟨gb744, 3, none⟩) (Kd.Zbv (p := ⟨gb744, 2, none⟩) (Kd.Zbv (p := ⟨gb744, 1, none⟩) (Kd.Zbv (p := ⟨gb744, 0, none⟩) (Kd.Zcm HO747.out BK744.out (by decide)) (fun _ hk => hk.2) (.slice Ao7 t745.length co7)) (fun _ hk => hk.2) (.slice Ao9 t748.length co9)) (fun _ hk => hk.2) (.int .i64 t751)) (fun _ hk => hk.2) (.slice Ao10 t752.length co10)) (fun _ hk => hk.2) (.slice Ao11 t755.length co11)) (fun _ h_ => h_.1))) hb); have n1_ := Za.mk (Kd.Zb6 (by (with_reducible repeat (first | apply Kd.Zat | apply Kd.Zau | apply Kd.Zaz)); exact (Kd.Za2 (Kd.Za1 (p := ⟨gb744, 4, none⟩) (Kd.Za1 (p := ⟨gb744, 3, none⟩) (Kd.Za1 (p := ⟨gb744, 2, none⟩) (Kd.Za1 (p := ⟨gb744, 1, none⟩) (Kd.Za1 (p := ⟨gb744, 0, none⟩) (Kd.Zbc HO750.out BK744.out (by decide)) (fun _ hk => hk.2) (.slice Ao7 t745.length co7)) (fun _ hk => hk.2) (.slice Ao9 t748.length co9)) (fun _ hk => hk.2) (.int .i64 t751)) (fun _ hk => hk.2) (.slice Ao10 t752.length co10)) (fun _ hk => hk.2) (.slice Ao11 t755.length co11)) (fun _ h_ => h_.1))) hb); have n2_ := Za.mk (Kd.Zb6 (by (with_reducible repeat (first | apply Kd.Zat | apply Kd.Zau | apply Kd.Zaz)); exact (Kd.Za2 (Kd.Za1 (p := ⟨gb744, 4, none⟩) (Kd.Za1 (p := ⟨gb744, 3, none⟩) (Kd.Za1 (p := ⟨gb744, 2, none⟩) (Kd.Za1 (p := ⟨gb744, 1, none⟩) (Kd.Za1 (p := ⟨gb744, 0, none⟩) (Kd.Zbc HO754.out BK744.out (by decide)) (fun _ hk => hk.2) (.slice Ao7 t745.length co7)) (fun _ hk => hk.2) (.slice Ao9 t748.length co9)) (fun _ hk => hk.2) (.int .i64 t751)) (fun _ hk => hk.2) (.slice Ao10 t752.length co10)) (fun _ hk => hk.2) (.slice Ao11 t755.length co11)) (fun _ h_ => h_.1))) hb); have n3_ := Za.mk (Kd.Zb6 (by (with_reducible repeat (first | apply Kd.Zat | apply Kd.Zau | apply Kd.Zaz)); exact (Kd.Za2 (Kd.Za1 (p := ⟨gb744, 4, none⟩) (Kd.Za1 (p := ⟨gb744, 3, none⟩) (Kd.Za1 (p := ⟨gb744, 2, none⟩) (Kd.Za1 (p := ⟨gb744, 1, none⟩) (Kd.Za1 (p := ⟨gb744, 0, none⟩) (Kd.Zbc HO757.out BK744.out (by decide)) (fun _ hk => hk.2) (.slice Ao7 t745.length co7)) (fun _ hk => hk.2) (.slice Ao9 t748.length co9)) (fun _ hk => hk.2) (.int .i64 t751)) (fun _ hk => hk.2) (.slice Ao10 t752.length co10)) (fun _ hk => hk.2) (.slice Ao11 t755.length co11)) (fun _ h_ => h_.1))) hb); have n4_ := Za.mk (Zap (g := gb744) (o := .cells #[.slice Ao7 t745.length co7, .slice Ao9 t748.length co9, .int .i64 t751, .slice Ao10 t752.length co10, .slice Ao11 t755.length co11] 28 (0, 0)) (by (with_reducible repeat (first | refine Zag ?_ _ | refine Zai ?_ | refine Zae ?_ _)); refine Zaq (cs := #[.slice Ao7 t745.length co7, .slice Ao9 t748.length co9, .int .i64 t751, .slice Ao10 t752.length co10, .slice A0_4 l0_4.length c0_4]) ?_ 4 _ rfl; (with_reducible repeat (first | refine Zag ?_ _ | refine Zai ?_ | refine Zae ?_ _)); refine Zaq (cs := #[.slice Ao7 t745.length co7, .slice Ao9 t748.length co9, .int .i64 t751, .slice A0_3 l0_3.length c0_3, .slice A0_4 l0_4.length c0_4]) ?_ 3 _ rfl; (with_reducible repeat (first | refine Zag ?_ _ | refine Zai ?_ | refine Zae ?_ _)); refine Zaq (cs := #[.slice Ao7 t745.length co7, .slice Ao9 t748.length co9, .int .i64 a0_2, .slice A0_3 l0_3.length c0_3, .slice A0_4 l0_4.length c0_4]) ?_ 2 _ rfl; (with_reducible repeat (first | refine Zag ?_ _ | refine Zai ?_ | refine Zae ?_ _)); refine Zaq (cs := #[.slice Ao7 t745.length co7, .slice A0_1 l0_1.length c0_1, .int .i64 a0_2, .slice A0_3 l0_3.length c0_3, .slice A0_4 l0_4.length c0_4]) ?_ 1 _ rfl; (with_reducible repeat (first | refine Zag ?_ _ | refine Zai ?_ | refine Zae ?_ _)); refine Zaq (cs := #[.slice A0_0 l0_0.length c0_0, .slice A0_1 l0_1.length c0_1, .int .i64 a0_2, .slice A0_3 l0_3.length c0_3, .slice A0_4 l0_4.length c0_4]) ?_ 0 _ rfl; (with_reducible repeat (first | refine Zag ?_ _ | refine Zai ?_ | refine Zae ?_ _)); exact BK744.out) hb); have n5_ := Za.mk (Zaf (by repeat (first | (with_reducible first | exact HB.out | apply Zab | apply Zaa | apply Zad | refine Zac ?_ GE744.out) | exact HB.out)) hb); clear HO747; clear HO750; clear HO754; clear HO757; clear BK744; clear HB; have HO747 := n0_; have HO750 := n1_; have HO754 := n2_; have HO757 := n3_; have BK744 := n4_; have HB := n5_; clear n0_ n1_ n2_ n3_ n4_ n5_; (try clear hb); (try clear hb2); (try clear hk); (try clear hi)))
 repeat (go_quiet (first | ((with_reducible refine Zax (N := 1) rfl ?_); (try (refine Zco (by rfl) ?_; dsimp only)); refine Za7 ?hg (N := 1) ?hd (cs := #[.slice A0_0 l0_0.length c0_0, .slice A0_1 l0_1.length c0_1, .int .i64 a0_2, .slice A0_3 l0_3.length c0_3, .slice A0_4 l0_4.length c0_4]) (t := 28) ?hr ?_; (case hd => rfl); (case hg => rfl); (case hr => first | (go_simp; done) | (go_simp; rfl)); intro gb744 hg w4 hbox hb; have n0_ := Za.mk (Zaf (by repeat (first | (with_reducible first | exact HB.out | apply Zab | apply Zaa | apply Zad) | exact HB.out)) hb); have n1_ := Za.mk (hbox); have n3_ := Za.mk ((by rw [hg]; exact (Zan (by repeat (first | (with_reducible first | exact HB.out | apply Zab | apply Zaa | apply Zad) | exact HB.out))) : w.heap.size ≤ gb744)); clear HB; have HB := n0_; have BK744 := n1_; have GE744 := n3_; clear n0_ n1_ n3_; clear hb hbox hg; obtain ⟨hcz5_0, hcz5_1, hcz5_2, hcz5_3, hcz5_4, hfz5_0, hfz5_1, hfz5_2, hfz5_3, hfz5_4⟩ := Zde BK744.out) | (go_at_call 10; (with_reducible refine (Zak.calls k _ _ l0_0 _ _ l0_1 a0_2 _ _ l0_3 _ _ l0_4 t745 t748 t751 t752 t755 _ ?side1 ?side2 ?side3 ?side4 ?side5 ?side6 ?side7 ?side8 A2.out).mono ?_); (case side1 => repeat (first | exact (Kd.Zal HR0_0.out HB.out) | (with_reducible refine Kd.C_alloc ?_ _) | (with_reducible refine Kd.Zaw ?_ _) | (with_reducible refine Kd.C_drew ?_))); (case side2 => exact HC0_0.out); (case side3 => repeat (first | exact (Kd.Zal HR0_1.out HB.out) | (with_reducible refine Kd.C_alloc ?_ _) | (with_reducible refine Kd.Zaw ?_ _) | (with_reducible refine Kd.C_drew ?_))); (case side4 => exact HC0_1.out); (case side5 => repeat (first | exact (Kd.Zal HR0_3.out HB.out) | (with_reducible refine Kd.C_alloc ?_ _) | (with_reducible refine Kd.Zaw ?_ _) | (with_reducible refine Kd.C_drew ?_))); (case side6 => exact HC0_3.out); (case side7 => repeat (first | exact (Kd.Zal HR0_4.out HB.out) | (with_reducible refine Kd.C_alloc ?_ _) | (with_reducible refine Kd.Zaw ?_ _) | (with_reducible refine Kd.C_drew ?_))); (case side8 => exact HC0_4.out); rintro e w6 ⟨v746, v749, v753, v756, rfl, ho0, ho1, ho2, ho3, hb⟩; have n0_ := Za.mk (Kd.Ze0 ho0 (Zan (by repeat (first | (with_reducible first | exact HB.out | apply Zab | apply Zaa | apply Zad | refine Zac ?_ GE744.out) | exact HB.out)))); have n1_ := Za.mk (Kd.Zbp ho1 (Zan (by repeat (first | (with_reducible first | exact HB.out | apply Zab | apply Zaa | apply Zad | refine Zac ?_ GE744.out) | exact HB.out)))); have n2_ := Za.mk (Kd.Zbp ho2 (Zan (by repeat (first | (with_reducible first | exact HB.out | apply Zab | apply Zaa | apply Zad | refine Zac ?_ GE744.out) | exact HB.out)))); have n3_ := Za.mk (Kd.Zbp ho3 (Zan (by repeat (first | (with_reducible first | exact HB.out | apply Zab | apply Zaa | apply Zad | refine Zac ?_ GE744.out) | exact HB.out)))); have n4_ := Za.mk (Zap (g := gb744) (o := .cells #[.slice A0_0 l0_0.length c0_0, .slice A0_1 l0_1.length c0_1, .int .i64 a0_2, .slice A0_3 l0_3.length c0_3, .slice A0_4 l0_4.length c0_4] 28 (0, 0)) (by (with_reducible repeat (first | refine Zag ?_ _ | refine Zai ?_ | refine Zae ?_ _)); exact BK744.out) hb); have n5_ := Za.mk (Zaf (by repeat (first | (with_reducible first | exact HB.out | apply Zab | apply Zaa | apply Zad | refine Zac ?_ GE744.out) | exact HB.out)) hb); clear BK744; clear HB; have HO747 := n0_; have HO750 := n1_; have HO754 := n2_; have HO757 := n3_; have BK744 := n4_; have HB := n5_; clear n0_ n1_ n2_ n3_ n4_ n5_; (try clear hb); (try clear hb2); (try clear hk); (try clear hi); (try clear ho0); (try clear ho1); (try clear ho2); (try clear ho3); obtain ⟨Ao7, co7, eo7⟩ := Kd.Zdr HO747.out; subst eo7; obtain ⟨hcz8_0, hcz8_1, hcz8_2, hcz8_3, hcz8_4, hfz8_0, hfz8_1, hfz8_2, hfz8_3, hfz8_4⟩ := Zde BK744.out; obtain ⟨Ao9, co9, eo9⟩ := Kd.Za9 HO750.out; subst eo9; obtain ⟨Ao10, co10, eo10⟩ := Kd.Za9 HO754.out; subst eo10; obtain ⟨Ao11, co11, eo11⟩ := Kd.Za9 HO757.out; subst eo11) | (go_at_call 30; (with_reducible refine (Zbn.calls k _ _ t745 _ _ t748 t751 _ _ t752 _ _ t755 t758 _ ?side1 ?side2 ?side3 ?side4 ?side5 ?side6 ?side7 ?side8 A3.out).mono ?_); (case side1 => refine (Kd.Zea (e := 50) (base := w.heap.size) (ok := fun k_ => True) (n := t745.length) (c := co7) ?_).2.2; exact (by (with_reducible repeat (first | apply Kd.Zbj | apply Kd.Zbk | apply Kd.Zbr)); exact (Kd.Zcj (Kd.Zbv (p := ⟨gb744, 4, none⟩) (Kd.Zbv (p := ⟨gb744, 3, none⟩) (Kd.Zbv (p := ⟨gb744, 2, none⟩) (Kd.Zbv (p := ⟨gb744, 1, none⟩) (Kd.Zbv (p := ⟨gb744, 0, none⟩) (Kd.Zcm HO747.out BK744.out (by decide)) (fun _ hk => hk.2) (.slice Ao7 t745.length co7)) (fun _ hk => hk.2) (.slice Ao9 t748.length co9)) (fun _ hk => hk.2) (.int .i64 t751)) (fun _ hk => hk.2) (.slice Ao10 t752.length co10)) (fun _ hk => hk.2) (.slice Ao11 t755.length co11)) (fun _ h_ => h_.1)))); (case side2 => exact (Kd.Zea HO747.out).2.1); (case side3 => refine (Kd.Za0 (e := 31) (base := w.heap.size) (ok := fun k_ => (some k_ ≠ (.slice Ao10 t752.length co10 : Value).ownBlock ∧ some k_ ≠ (.slice Ao11 t755.length co11 : Value).ownBlock)) (n := t748.length) (c := co9) ?_).2.2; exact (by (with_reducible repeat (first | apply Kd.Zat | apply Kd.Zau | apply Kd.Zaz)); exact (Kd.Za2 (Kd.Za1 (p := ⟨gb744, 4, none⟩) (Kd.Za1 (p := ⟨gb744, 3, none⟩) (Kd.Za1 (p := ⟨gb744, 2, none⟩) (Kd.Za1 (p := ⟨gb744, 1, none⟩) (Kd.Za1 (p := ⟨gb744, 0, none⟩) (Kd.Zbc HO750.out BK744.out (by decide)) (fun _ hk => hk.2) (.slice Ao7 t745.length co7)) (fun _ hk => hk.2) (.slice Ao9 t748.length co9)) (fun _ hk => hk.2) (.int .i64 t751)) (fun _ hk => hk.2) (.slice Ao10 t752.length co10)) (fun _ hk => hk.2) (.slice Ao11 t755.length co11)) (fun _ h_ => h_.1)))); (case side4 => exact (Kd.Za0 HO750.out).2.1); (case side5 => refine (Kd.Za0 (e := 3) (base := w.heap.size) (ok := fun k_ => some k_ ≠ (.slice Ao11 t755.length co11 : Value).ownBlock) (n := t752.length) (c := co10) ?_).2.2; exact (by (with_reducible repeat (first | apply Kd.Zat | apply Kd.Zau | apply Kd.Zaz)); exact (Kd.Za2 (Kd.Za1 (p := ⟨gb744, 4, none⟩) (Kd.Za1 (p := ⟨gb744, 3, none⟩) (Kd.Za1 (p := ⟨gb744, 2, none⟩) (Kd.Za1 (p := ⟨gb744, 1, none⟩) (Kd.Za1 (p := ⟨gb744, 0, none⟩) (Kd.Zbc HO754.out BK744.out (by decide)) (fun _ hk => hk.2) (.slice Ao7 t745.length co7)) (fun _ hk => hk.2) (.slice Ao9 t748.length co9)) (fun _ hk => hk.2) (.int .i64 t751)) (fun _ hk => hk.2) (.slice Ao10 t752.length co10)) (fun _ hk => hk.2) (.slice Ao11 t755.length co11)) (fun _ h_ => h_.1)))); (case side6 => exact (Kd.Za0 HO754.out).2.1); (case side7 => refine (Kd.Za0 (e := 3) (base := w.heap.size) (ok := fun k_ => some k_ ≠ (.slice Ao10 t752.length co10 : Value).ownBlock) (n := t755.length) (c := co11) ?_).2.2; exact (by (with_reducible repeat (first | apply Kd.Zat | apply Kd.Zau | apply Kd.Zaz)); exact (Kd.Za2 (Kd.Za1 (p := ⟨gb744, 4, none⟩) (Kd.Za1 (p := ⟨gb744, 3, none⟩) (Kd.Za1 (p := ⟨gb744, 2, none⟩) (Kd.Za1 (p := ⟨gb744, 1, none⟩) (Kd.Za1 (p := ⟨gb744, 0, none⟩) (Kd.Zbc HO757.out BK744.out (by decide)) (fun _ hk => hk.2) (.slice Ao7 t745.length co7)) (fun _ hk => hk.2) (.slice Ao9 t748.length co9)) (fun _ hk => hk.2) (.int .i64 t751)) (fun _ hk => hk.2) (.slice Ao10 t752.length co10)) (fun _ hk => hk.2) (.slice Ao11 t755.length co11)) (fun _ h_ => h_.1)))); (case side8 => exact (Kd.Za0 HO757.out).2.1); rintro e w12 ⟨rfl, hb⟩; have n0_ := Za.mk (Kd.Zcw (by (with_reducible repeat (first | apply Kd.Zbj | apply Kd.Zbk | apply Kd.Zbr)); exact (Kd.Zcj (Kd.Zbv (p := ⟨gb744, 4, none⟩) (Kd.Zbv (p := ⟨gb744, 3, none⟩) (Kd.Zbv (p := ⟨gb744, 2, none⟩) (Kd.Zbv (p := ⟨gb744, 1, none⟩) (Kd.Zbv (p := ⟨gb744, 0, none⟩) (Kd.Zcm HO747.out BK744.out (by decide)) (fun _ hk => hk.2) (.slice Ao7 t745.length co7)) (fun _ hk => hk.2) (.slice Ao9 t748.length co9)) (fun _ hk => hk.2) (.int .i64 t751)) (fun _ hk => hk.2) (.slice Ao10 t752.length co10)) (fun _ hk => hk.2) (.slice Ao11 t755.length co11)) (fun _ h_ => h_.1))) hb); have n1_ := Za.mk (Kd.Zb6 (by (with_reducible repeat (first | apply Kd.Zat | apply Kd.Zau | apply Kd.Zaz)); exact (Kd.Za2 (Kd.Za1 (p := ⟨gb744, 4, none⟩) (Kd.Za1 (p := ⟨gb744, 3, none⟩) (Kd.Za1 (p := ⟨gb744, 2, none⟩) (Kd.Za1 (p := ⟨gb744, 1, none⟩) (Kd.Za1 (p := ⟨gb744, 0, none⟩) (Kd.Zbc HO750.out BK744.out (by decide)) (fun _ hk => hk.2) (.slice Ao7 t745.length co7)) (fun _ hk => hk.2) (.slice Ao9 t748.length co9)) (fun _ hk => hk.2) (.int .i64 t751)) (fun _ hk => hk.2) (.slice Ao10 t752.length co10)) (fun _ hk => hk.2) (.slice Ao11 t755.length co11)) (fun _ h_ => h_.1))) hb); have n2_ := Za.mk (Kd.Zb6 (by (with_reducible repeat (first | apply Kd.Zat | apply Kd.Zau | apply Kd.Zaz)); exact (Kd.Za2 (Kd.Za1 (p := ⟨gb744, 4, none⟩) (Kd.Za1 (p := ⟨gb744, 3, none⟩) (Kd.Za1 (p := ⟨gb744, 2, none⟩) (Kd.Za1 (p := ⟨gb744, 1, none⟩) (Kd.Za1 (p := ⟨gb744, 0, none⟩) (Kd.Zbc HO754.out BK744.out (by decide)) (fun _ hk => hk.2) (.slice Ao7 t745.length co7)) (fun _ hk => hk.2) (.slice Ao9 t748.length co9)) (fun _ hk => hk.2) (.int .i64 t751)) (fun _ hk => hk.2) (.slice Ao10 t752.length co10)) (fun _ hk => hk.2) (.slice Ao11 t755.length co11)) (fun _ h_ => h_.1))) hb); have n3_ := Za.mk (Kd.Zb6 (by (with_reducible repeat (first | apply Kd.Zat | apply Kd.Zau | apply Kd.Zaz)); exact (Kd.Za2 (Kd.Za1 (p := ⟨gb744, 4, none⟩) (Kd.Za1 (p := ⟨gb744, 3, none⟩) (Kd.Za1 (p := ⟨gb744, 2, none⟩) (Kd.Za1 (p := ⟨gb744, 1, none⟩) (Kd.Za1 (p := ⟨gb744, 0, none⟩) (Kd.Zbc HO757.out BK744.out (by decide)) (fun _ hk => hk.2) (.slice Ao7 t745.length co7)) (fun _ hk => hk.2) (.slice Ao9 t748.length co9)) (fun _ hk => hk.2) (.int .i64 t751)) (fun _ hk => hk.2) (.slice Ao10 t752.length co10)) (fun _ hk => hk.2) (.slice Ao11 t755.length co11)) (fun _ h_ => h_.1))) hb); have n4_ := Za.mk (Zap (g := gb744) (o := .cells #[.slice Ao7 t745.length co7, .slice Ao9 t748.length co9, .int .i64 t751, .slice Ao10 t752.length co10, .slice Ao11 t755.length co11] 28 (0, 0)) (by (with_reducible repeat (first | refine Zag ?_ _ | refine Zai ?_ | refine Zae ?_ _)); refine Zaq (cs := #[.slice Ao7 t745.length co7, .slice Ao9 t748.length co9, .int .i64 t751, .slice Ao10 t752.length co10, .slice A0_4 l0_4.length c0_4]) ?_ 4 _ rfl; (with_reducible repeat (first | refine Zag ?_ _ | refine Zai ?_ | refine Zae ?_ _)); refine Zaq (cs := #[.slice Ao7 t745.length co7, .slice Ao9 t748.length co9, .int .i64 t751, .slice A0_3 l0_3.length c0_3, .slice A0_4 l0_4.length c0_4]) ?_ 3 _ rfl; (with_reducible repeat (first | refine Zag ?_ _ | refine Zai ?_ | refine Zae ?_ _)); refine Zaq (cs := #[.slice Ao7 t745.length co7, .slice Ao9 t748.length co9, .int .i64 a0_2, .slice A0_3 l0_3.length c0_3, .slice A0_4 l0_4.length c0_4]) ?_ 2 _ rfl; (with_reducible repeat (first | refine Zag ?_ _ | refine Zai ?_ | refine Zae ?_ _)); refine Zaq (cs := #[.slice Ao7 t745.length co7, .slice A0_1 l0_1.length c0_1, .int .i64 a0_2, .slice A0_3 l0_3.length c0_3, .slice A0_4 l0_4.length c0_4]) ?_ 1 _ rfl; (with_reducible repeat (first | refine Zag ?_ _ | refine Zai ?_ | refine Zae ?_ _)); refine Zaq (cs := #[.slice A0_0 l0_0.length c0_0, .slice A0_1 l0_1.length c0_1, .int .i64 a0_2, .slice A0_3 l0_3.length c0_3, .slice A0_4 l0_4.length c0_4]) ?_ 0 _ rfl; (with_reducible repeat (first | refine Zag ?_ _ | refine Zai ?_ | refine Zae ?_ _)); exact BK744.out) hb); have n5_ := Za.mk (Zaf (by repeat (first | (with_reducible first | exact HB.out | apply Zab | apply Zaa | apply Zad | refine Zac ?_ GE744.out) | exact HB.out)) hb); clear HO747; clear HO750; clear HO754; clear HO757; clear BK744; clear HB; have HO747 := n0_; have HO750 := n1_; have HO754 := n2_; have HO757 := n3_; have BK744 := n4_; have HB := n5_; clear n0_ n1_ n2_ n3_ n4_ n5_; (try clear hb); (try clear hb2); (try clear hk); (try clear hi))); try go_wp2_with (first | ((with_reducible refine Zax (N := 1) rfl ?_); (try (refine Zco (by rfl) ?_; dsimp only)); refine Za7 ?hg (N := 1) ?hd (cs := #[.slice A0_0 l0_0.length c0_0, .slice A0_1 l0_1.length c0_1, .int .i64 a0_2, .slice A0_3 l0_3.length c0_3, .slice A0_4 l0_4.length c0_4]) (t := 28) ?hr ?_; (case hd => rfl); (case hg => rfl); (case hr => first | (go_simp; done) | (go_simp; rfl)); intro gb744 hg w4 hbox hb; have n0_ := Za.mk (Zaf (by repeat (first | (with_reducible first | exact HB.out | apply Zab | apply Zaa | apply Zad) | exact HB.out)) hb); have n1_ := Za.mk (hbox); have n3_ := Za.mk ((by rw [hg]; exact (Zan (by repeat (first | (with_reducible first | exact HB.out | apply Zab | apply Zaa | apply Zad) | exact HB.out))) : w.heap.size ≤ gb744)); clear HB; have HB := n0_; have BK744 := n1_; have GE744 := n3_; clear n0_ n1_ n3_; clear hb hbox hg; obtain ⟨hcz5_0, hcz5_1, hcz5_2, hcz5_3, hcz5_4, hfz5_0, hfz5_1, hfz5_2, hfz5_3, hfz5_4⟩ := Zde BK744.out) | (go_at_call 10; (with_reducible refine (Zak.calls k _ _ l0_0 _ _ l0_1 a0_2 _ _ l0_3 _ _ l0_4 t745 t748 t751 t752 t755 _ ?side1 ?side2 ?side3 ?side4 ?side5 ?side6 ?side7 ?side8 A2.out).mono ?_); (case side1 => repeat (first | exact (Kd.Zal HR0_0.out HB.out) | (with_reducible refine Kd.C_alloc ?_ _) | (with_reducible refine Kd.Zaw ?_ _) | (with_reducible refine Kd.C_drew ?_))); (case side2 => exact HC0_0.out); (case side3 => repeat (first | exact (Kd.Zal HR0_1.out HB.out) | (with_reducible refine Kd.C_alloc ?_ _) | (with_reducible refine Kd.Zaw ?_ _) | (with_reducible refine Kd.C_drew ?_))); (case side4 => exact HC0_1.out); (case side5 => repeat (first | exact (Kd.Zal HR0_3.out HB.out) | (with_reducible refine Kd.C_alloc ?_ _) | (with_reducible refine Kd.Zaw ?_ _) | (with_reducible refine Kd.C_drew ?_))); (case side6 => exact HC0_3.out); (case side7 => repeat (first | exact (Kd.Zal HR0_4.out HB.out) | (with_reducible refine Kd.C_alloc ?_ _) | (with_reducible refine Kd.Zaw ?_ _) | (with_reducible refine Kd.C_drew ?_))); (case side8 => exact HC0_4.out); rintro e w6 ⟨v746, v749, v753, v756, rfl, ho0, ho1, ho2, ho3, hb⟩; have n0_ := Za.mk (Kd.Ze0 ho0 (Zan (by repeat (first | (with_reducible first | exact HB.out | apply Zab | apply Zaa | apply Zad | refine Zac ?_ GE744.out) | exact HB.out)))); have n1_ := Za.mk (Kd.Zbp ho1 (Zan (by repeat (first | (with_reducible first | exact HB.out | apply Zab | apply Zaa | apply Zad | refine Zac ?_ GE744.out) | exact HB.out)))); have n2_ := Za.mk (Kd.Zbp ho2 (Zan (by repeat (first | (with_reducible first | exact HB.out | apply Zab | apply Zaa | apply Zad | refine Zac ?_ GE744.out) | exact HB.out)))); have n3_ := Za.mk (Kd.Zbp ho3 (Zan (by repeat (first | (with_reducible first | exact HB.out | apply Zab | apply Zaa | apply Zad | refine Zac ?_ GE744.out) | exact HB.out)))); have n4_ := Za.mk (Zap (g := gb744) (o := .cells #[.slice A0_0 l0_0.length c0_0, .slice A0_1 l0_1.length c0_1, .int .i64 a0_2, .slice A0_3 l0_3.length c0_3, .slice A0_4 l0_4.length c0_4] 28 (0, 0)) (by (with_reducible repeat (first | refine Zag ?_ _ | refine Zai ?_ | refine Zae ?_ _)); exact BK744.out) hb); have n5_ := Za.mk (Zaf (by repeat (first | (with_reducible first | exact HB.out | apply Zab | apply Zaa | apply Zad | refine Zac ?_ GE744.out) | exact HB.out)) hb); clear BK744; clear HB; have HO747 := n0_; have HO750 := n1_; have HO754 := n2_; have HO757 := n3_; have BK744 := n4_; have HB := n5_; clear n0_ n1_ n2_ n3_ n4_ n5_; (try clear hb); (try clear hb2); (try clear hk); (try clear hi); (try clear ho0); (try clear ho1); (try clear ho2); (try clear ho3); obtain ⟨Ao7, co7, eo7⟩ := Kd.Zdr HO747.out; subst eo7; obtain ⟨hcz8_0, hcz8_1, hcz8_2, hcz8_3, hcz8_4, hfz8_0, hfz8_1, hfz8_2, hfz8_3, hfz8_4⟩ := Zde BK744.out; obtain ⟨Ao9, co9, eo9⟩ := Kd.Za9 HO750.out; subst eo9; obtain ⟨Ao10, co10, eo10⟩ := Kd.Za9 HO754.out; subst eo10; obtain ⟨Ao11, co11, eo11⟩ := Kd.Za9 HO757.out; subst eo11) | (go_at_call 30; (with_reducible refine (Zbn.calls k _ _ t745 _ _ t748 t751 _ _ t752 _ _ t755 t758 _ ?side1 ?side2 ?side3 ?side4 ?side5 ?side6 ?side7 ?side8 A3.out).mono ?_); (case side1 => refine (Kd.Zea (e := 50) (base := w.heap.size) (ok := fun k_ => True) (n := t745.length) (c := co7) ?_).2.2; exact (by (with_reducible repeat (first | apply Kd.Zbj | apply Kd.Zbk | apply Kd.Zbr)); exact (Kd.Zcj (Kd.Zbv (p := ⟨gb744, 4, none⟩) (Kd.Zbv (p := ⟨gb744, 3, none⟩) (Kd.Zbv (p := ⟨gb744, 2, none⟩) (Kd.Zbv (p := ⟨gb744, 1, none⟩) (Kd.Zbv (p := ⟨gb744, 0, none⟩) (Kd.Zcm HO747.out BK744.out (by decide)) (fun _ hk => hk.2) (.slice Ao7 t745.length co7)) (fun _ hk => hk.2) (.slice Ao9 t748.length co9)) (fun _ hk => hk.2) (.int .i64 t751)) (fun _ hk => hk.2) (.slice Ao10 t752.length co10)) (fun _ hk => hk.2) (.slice Ao11 t755.length co11)) (fun _ h_ => h_.1)))); (case side2 => exact (Kd.Zea HO747.out).2.1); (case side3 => refine (Kd.Za0 (e := 31) (base := w.heap.size) (ok := fun k_ => (some k_ ≠ (.slice Ao10 t752.length co10 : Value).ownBlock ∧ some k_ ≠ (.slice Ao11 t755.length co11 : Value).ownBlock)) (n := t748.length) (c := co9) ?_).2.2; exact (by (with_reducible repeat (first | apply Kd.Zat | apply Kd.Zau | apply Kd.Zaz)); exact (Kd.Za2 (Kd.Za1 (p := ⟨gb744, 4, none⟩) (Kd.Za1 (p := ⟨gb744, 3, none⟩) (Kd.Za1 (p := ⟨gb744, 2, none⟩) (Kd.Za1 (p := ⟨gb744, 1, none⟩) (Kd.Za1 (p := ⟨gb744, 0, none⟩) (Kd.Zbc HO750.out BK744.out (by decide)) (fun _ hk => hk.2) (.slice Ao7 t745.length co7)) (fun _ hk => hk.2) (.slice Ao9 t748.length co9)) (fun _ hk => hk.2) (.int .i64 t751)) (fun _ hk => hk.2) (.slice Ao10 t752.length co10)) (fun _ hk => hk.2) (.slice Ao11 t755.length co11)) (fun _ h_ => h_.1)))); (case side4 => exact (Kd.Za0 HO750.out).2.1); (case side5 => refine (Kd.Za0 (e := 3) (base := w.heap.size) (ok := fun k_ => some k_ ≠ (.slice Ao11 t755.length co11 : Value).ownBlock) (n := t752.length) (c := co10) ?_).2.2; exact (by (with_reducible repeat (first | apply Kd.Zat | apply Kd.Zau | apply Kd.Zaz)); exact (Kd.Za2 (Kd.Za1 (p := ⟨gb744, 4, none⟩) (Kd.Za1 (p := ⟨gb744, 3, none⟩) (Kd.Za1 (p := ⟨gb744, 2, none⟩) (Kd.Za1 (p := ⟨gb744, 1, none⟩) (Kd.Za1 (p := ⟨gb744, 0, none⟩) (Kd.Zbc HO754.out BK744.out (by decide)) (fun _ hk => hk.2) (.slice Ao7 t745.length co7)) (fun _ hk => hk.2) (.slice Ao9 t748.length co9)) (fun _ hk => hk.2) (.int .i64 t751)) (fun _ hk => hk.2) (.slice Ao10 t752.length co10)) (fun _ hk => hk.2) (.slice Ao11 t755.length co11)) (fun _ h_ => h_.1)))); (case side6 => exact (Kd.Za0 HO754.out).2.1); (case side7 => refine (Kd.Za0 (e := 3) (base := w.heap.size) (ok := fun k_ => some k_ ≠ (.slice Ao10 t752.length co10 : Value).ownBlock) (n := t755.length) (c := co11) ?_).2.2; exact (by (with_reducible repeat (first | apply Kd.Zat | apply Kd.Zau | apply Kd.Zaz)); exact (Kd.Za2 (Kd.Za1 (p := ⟨gb744, 4, none⟩) (Kd.Za1 (p := ⟨gb744, 3, none⟩) (Kd.Za1 (p := ⟨gb744, 2, none⟩) (Kd.Za1 (p := ⟨gb744, 1, none⟩) (Kd.Za1 (p := ⟨gb744, 0, none⟩) (Kd.Zbc HO757.out BK744.out (by decide)) (fun _ hk => hk.2) (.slice Ao7 t745.length co7)) (fun _ hk => hk.2) (.slice Ao9 t748.length co9)) (fun _ hk => hk.2) (.int .i64 t751)) (fun _ hk => hk.2) (.slice Ao10 t752.length co10)) (fun _ hk => hk.2) (.slice Ao11 t755.length co11)) (fun _ h_ => h_.1)))); (case side8 => exact (Kd.Za0 HO757.out).2.1); rintro e w12 ⟨rfl, hb⟩; have n0_ := Za.mk (Kd.Zcw (by (with_reducible repeat (first | apply Kd.Zbj | apply Kd.Zbk | apply Kd.Zbr)); exact (Kd.Zcj (Kd.Zbv (p := ⟨gb744, 4, none⟩) (Kd.Zbv (p := ⟨gb744, 3, none⟩) (Kd.Zbv (p := ⟨gb744, 2, none⟩) (Kd.Zbv (p := ⟨gb744, 1, none⟩) (Kd.Zbv (p := ⟨gb744, 0, none⟩) (Kd.Zcm HO747.out BK744.out (by decide)) (fun _ hk => hk.2) (.slice Ao7 t745.length co7)) (fun _ hk => hk.2) (.slice Ao9 t748.length co9)) (fun _ hk => hk.2) (.int .i64 t751)) (fun _ hk => hk.2) (.slice Ao10 t752.length co10)) (fun _ hk => hk.2) (.slice Ao11 t755.length co11)) (fun _ h_ => h_.1))) hb); have n1_ := Za.mk (Kd.Zb6 (by (with_reducible repeat (first | apply Kd.Zat | apply Kd.Zau | apply Kd.Zaz)); exact (Kd.Za2 (Kd.Za1 (p := ⟨gb744, 4, none⟩) (Kd.Za1 (p := ⟨gb744, 3, none⟩) (Kd.Za1 (p := ⟨gb744, 2, none⟩) (Kd.Za1 (p := ⟨gb744, 1, none⟩) (Kd.Za1 (p := ⟨gb744, 0, none⟩) (Kd.Zbc HO750.out BK744.out (by decide)) (fun _ hk => hk.2) (.slice Ao7 t745.length co7)) (fun _ hk => hk.2) (.slice Ao9 t748.length co9)) (fun _ hk => hk.2) (.int .i64 t751)) (fun _ hk => hk.2) (.slice Ao10 t752.length co10)) (fun _ hk => hk.2) (.slice Ao11 t755.length co11)) (fun _ h_ => h_.1))) hb); have n2_ := Za.mk (Kd.Zb6 (by (with_reducible repeat (first | apply Kd.Zat | apply Kd.Zau | apply Kd.Zaz)); exact (Kd.Za2 (Kd.Za1 (p := ⟨gb744, 4, none⟩) (Kd.Za1 (p := ⟨gb744, 3, none⟩) (Kd.Za1 (p := ⟨gb744, 2, none⟩) (Kd.Za1 (p := ⟨gb744, 1, none⟩) (Kd.Za1 (p := ⟨gb744, 0, none⟩) (Kd.Zbc HO754.out BK744.out (by decide)) (fun _ hk => hk.2) (.slice Ao7 t745.length co7)) (fun _ hk => hk.2) (.slice Ao9 t748.length co9)) (fun _ hk => hk.2) (.int .i64 t751)) (fun _ hk => hk.2) (.slice Ao10 t752.length co10)) (fun _ hk => hk.2) (.slice Ao11 t755.length co11)) (fun _ h_ => h_.1))) hb); have n3_ := Za.mk (Kd.Zb6 (by (with_reducible repeat (first | apply Kd.Zat | apply Kd.Zau | apply Kd.Zaz)); exact (Kd.Za2 (Kd.Za1 (p := ⟨gb744, 4, none⟩) (Kd.Za1 (p := ⟨gb744, 3, none⟩) (Kd.Za1 (p := ⟨gb744, 2, none⟩) (Kd.Za1 (p := ⟨gb744, 1, none⟩) (Kd.Za1 (p := ⟨gb744, 0, none⟩) (Kd.Zbc HO757.out BK744.out (by decide)) (fun _ hk => hk.2) (.slice Ao7 t745.length co7)) (fun _ hk => hk.2) (.slice Ao9 t748.length co9)) (fun _ hk => hk.2) (.int .i64 t751)) (fun _ hk => hk.2) (.slice Ao10 t752.length co10)) (fun _ hk => hk.2) (.slice Ao11 t755.length co11)) (fun _ h_ => h_.1))) hb); have n4_ := Za.mk (Zap (g := gb744) (o := .cells #[.slice Ao7 t745.length co7, .slice Ao9 t748.length co9, .int .i64 t751, .slice Ao10 t752.length co10, .slice Ao11 t755.length co11] 28 (0, 0)) (by (with_reducible repeat (first | refine Zag ?_ _ | refine Zai ?_ | refine Zae ?_ _)); refine Zaq (cs := #[.slice Ao7 t745.length co7, .slice Ao9 t748.length co9, .int .i64 t751, .slice Ao10 t752.length co10, .slice A0_4 l0_4.length c0_4]) ?_ 4 _ rfl; (with_reducible repeat (first | refine Zag ?_ _ | refine Zai ?_ | refine Zae ?_ _)); refine Zaq (cs := #[.slice Ao7 t745.length co7, .slice Ao9 t748.length co9, .int .i64 t751, .slice A0_3 l0_3.length c0_3, .slice A0_4 l0_4.length c0_4]) ?_ 3 _ rfl; (with_reducible repeat (first | refine Zag ?_ _ | refine Zai ?_ | refine Zae ?_ _)); refine Zaq (cs := #[.slice Ao7 t745.length co7, .slice Ao9 t748.length co9, .int .i64 a0_2, .slice A0_3 l0_3.length c0_3, .slice A0_4 l0_4.length c0_4]) ?_ 2 _ rfl; (with_reducible repeat (first | refine Zag ?_ _ | refine Zai ?_ | refine Zae ?_ _)); refine Zaq (cs := #[.slice Ao7 t745.length co7, .slice A0_1 l0_1.length c0_1, .int .i64 a0_2, .slice A0_3 l0_3.length c0_3, .slice A0_4 l0_4.length c0_4]) ?_ 1 _ rfl; (with_reducible repeat (first | refine Zag ?_ _ | refine Zai ?_ | refine Zae ?_ _)); refine Zaq (cs := #[.slice A0_0 l0_0.length c0_0, .slice A0_1 l0_1.length c0_1, .int .i64 a0_2, .slice A0_3 l0_3.length c0_3, .slice A0_4 l0_4.length c0_4]) ?_ 0 _ rfl; (with_reducible repeat (first | refine Zag ?_ _ | refine Zai ?_ | refine Zae ?_ _)); exact BK744.out) hb); have n5_ := Za.mk (Zaf (by repeat (first | (with_reducible first | exact HB.out | apply Zab | apply Zaa | apply Zad | refine Zac ?_ GE744.out) | exact HB.out)) hb); clear HO747; clear HO750; clear HO754; clear HO757; clear BK744; clear HB; have HO747 := n0_; have HO750 := n1_; have HO754 := n2_; have HO757 := n3_; have BK744 := n4_; have HB := n5_; clear n0_ n1_ n2_ n3_ n4_ n5_; (try clear hb); (try clear hb2); (try clear hk); (try clear hi))))
 go_loopg [4] k (fun kq v4 w' => ∃ (x4_1 : Int), v4 = .int .i64 x4_1 ∧ Za (Zam.l0 kq (t758 == 0) x4_1 t745 t748 t751 t752 t755 = some r) ∧ Za (kq ≤ k) ∧ Za (Kd.S k50 50 w' w.heap.size (fun _ => True) (.slice Ao7 t745.length co7) t745) ∧ Za (Kd.R k31 31 w' w.heap.size (fun k_ => some k_ ≠ ((.slice Ao10 t752.length co10) : Value).ownBlock ∧ some k_ ≠ ((.slice Ao11 t755.length co11) : Value).ownBlock) (.slice Ao9 t748.length co9) t748) ∧ Za (Kd.R (Kd.int .i64) 3 w' w.heap.size (fun k_ => some k_ ≠ ((.slice Ao11 t755.length co11) : Value).ownBlock) (.slice Ao10 t752.length co10) t752) ∧ Za (Kd.R (Kd.int .i64) 3 w' w.heap.size (fun k_ => some k_ ≠ ((.slice Ao10 t752.length co10) : Value).ownBlock) (.slice Ao11 t755.length co11) t755) ∧ Za (w'.heap[gb744]? = some (.cells #[(.slice Ao7 t745.length co7), (.slice Ao9 t748.length co9), .int .i64 t751, (.slice Ao10 t752.length co10), (.slice Ao11 t755.length co11)] 28 (0, 0))) ∧ Za (Below w.heap.size w w'))
 case atStart => exact ⟨(0), (by first | rfl | (simp; done) | (simp [*]; done)), H', ⟨Nat.le_refl _⟩, ⟨by (with_reducible repeat (first | apply Kd.Zbj | apply Kd.Zbk | apply Kd.Zbr)); exact HO747.out⟩, ⟨by (with_reducible repeat (first | apply Kd.Zat | apply Kd.Zau | apply Kd.Zaz)); exact HO750.out⟩, ⟨by (with_reducible repeat (first | apply Kd.Zat | apply Kd.Zau | apply Kd.Zaz)); exact HO754.out⟩, ⟨by (with_reducible repeat (first | apply Kd.Zat | apply Kd.Zau | apply Kd.Zaz)); exact HO757.out⟩, ⟨by (with_reducible repeat (first | refine Zag ?_ _ | refine Zai ?_ | refine Zae ?_ _)); exact BK744.out⟩, ⟨by repeat (first | (with_reducible first | exact HB.out | apply Zab | apply Zaa | apply Zad | refine Zac ?_ GE744.out) | exact HB.out)⟩⟩
 case round =>
  clear H'
  try clear p2
  try clear c8
  try clear hcz5_0
  try clear hcz5_1
  try clear hcz5_2
  try clear hcz5_3
  try clear hcz5_4
  try clear hcz8_0
  try clear hcz8_1
  try clear hcz8_2
  try clear hcz8_3
  try clear hcz8_4
  try clear hfz5_0
  try clear hfz5_1
  try clear hfz5_2
  try clear hfz5_3
  try clear hfz5_4
  try clear hfz8_0
  try clear hfz8_1
  try clear hfz8_2
  try clear hfz8_3
  try clear hfz8_4
  obtain ⟨x4_1, rfl, HA, HK1, HO_745000, HO_745001, HO_745003, HO_745004, BK744, HB⟩ := hrel
  cases gk with
  | zero => exact absurd HA.out (by simp [Zam.l0])
  | succ k1 =>
   have H := HA.out
   clear HA
   simp only [Zam.l0] at H
   by_cases c13 : x4_1 < (t748.length : Int)
   rotate_left
   ·rw [if_neg c13] at H
    have c13b0 : decide (x4_1 < (t748.length : Int)) = false := decide_eq_false c13
    clear c13
    replace H := Option.bind_eq_some_iff.mp H
    obtain ⟨t759, A470, H⟩ := H
    replace H : (some t759) = some r := H
    have A47 := Za.mk A470
    clear A470
    obtain rfl := Option.some.inj H
    obtain ⟨hcz48_0, hcz48_1, hcz48_2, hcz48_3, hcz48_4, hfz48_0, hfz48_1, hfz48_2, hfz48_3, hfz48_4⟩ := Zde BK744.out
    go_wp2_with (first | (go_at_call 13; (with_reducible refine (Zbg.calls k1  t759 _ A47.out).mono ?_); rintro e w49 ⟨rfl, hb⟩; have n5_ := Za.mk (Zaf (by repeat (first | (with_reducible first | exact HB.out | apply Zab | apply Zaa | apply Zad | refine Zac ?_ GE744.out) | exact HB.out)) hb); clear HO_745000; clear HO_745001; clear HO_745003; clear HO_745004; clear BK744; clear HB; have HB := n5_; clear n5_; (try clear hb); (try clear hb2); (try clear hk); (try clear hi)))
    repeat (go_quiet (first | (go_at_call 13; (with_reducible refine (Zbg.calls k1  t759 _ A47.out).mono ?_); rintro e w49 ⟨rfl, hb⟩; have n5_ := Za.mk (Zaf (by repeat (first | (with_reducible first | exact HB.out | apply Zab | apply Zaa | apply Zad | refine Zac ?_ GE744.out) | exact HB.out)) hb); clear HB; have HB := n5_; clear n5_; (try clear hb); (try clear hb2); (try clear hk); (try clear hi))); try go_wp2_with (first | (go_at_call 13; (with_reducible refine (Zbg.calls k1  t759 _ A47.out).mono ?_); rintro e w49 ⟨rfl, hb⟩; have n5_ := Za.mk (Zaf (by repeat (first | (with_reducible first | exact HB.out | apply Zab | apply Zaa | apply Zad | refine Zac ?_ GE744.out) | exact HB.out)) hb); clear HB; have HB := n5_; clear n5_; (try clear hb); (try clear hb2); (try clear hk); (try clear hi))))
    go_ret
    exact ⟨by first | rfl | (simp [Zar, Zas] <;> rfl) | (simp [*, Zar, Zas] <;> rfl), by repeat (first | (with_reducible first | exact HB.out | apply Zab | apply Zaa | apply Zad | refine Zac ?_ GE744.out) | exact HB.out)⟩
   rw [if_pos c13] at H
   have c13b0 : decide (x4_1 < (t748.length : Int)) = true := decide_eq_true c13
   clear c13
   by_cases c14 : 0 ≤ x4_1
   rotate_left
   ·rw [if_neg c14] at H
    exact absurd H (by simp)
   rw [if_pos c14] at H
   have c14b0 : decide (0 ≤ x4_1) = true := decide_eq_true c14
   clear c14
   replace H := Option.bind_eq_some_iff.mp H
   obtain ⟨t761, A150, H⟩ := H
   replace H : (Zam.l1 k1 (t758 == 0) x4_1 t761 0 t745 t748 t751 t752 t755) = some r := H
   have A15 := Za.mk A150
   clear A150
   have H' := Za.mk H
   clear H
   obtain ⟨hcz16_0, hcz16_1, hcz16_2, hcz16_3, hcz16_4, hfz16_0, hfz16_1, hfz16_2, hfz16_3, hfz16_4⟩ := Zde BK744.out
   have p760 : 0 ≤ (x4_1 : Int) := of_decide_eq_true (by first | (with_reducible assumption) | assumption)
   have q760 : x4_1 < (t748.length : Int) := of_decide_eq_true (by first | (with_reducible assumption) | assumption)
   obtain ⟨ad760, A760_1, c760_1, A760_2, c760_2, A760_5, c760_5, e760, hx760_0, hx760_1, hx760_2, hx760_3, hx760_4, hx760_5, hx760_6, hl760_1, hi760_1, hl760_2, hi760_2, hl760_5, hi760_5⟩ := Zeg (Kd.Za0 HO_745001.out).2.2 x4_1 p760 q760
   cases e760
   obtain ⟨ce760, hce760, hMe760, hcc760⟩ := Kd.R_get HO_745001.out z31 x4_1 p760 (by first | exact q760 | exact of_decide_eq_true (by first | (with_reducible assumption) | assumption) | (have e_ := (Kd.Za0 HO_745001.out).1; omega))
   obtain ⟨ve760_1, ve760_2, ve760_5, rfl, ge760_1, ge760_2, ge760_5⟩ := Zet hMe760
   have hv760_1 := hcc760 1 _ rfl
   rw [Zb9 _ _ 1 (by omega)] at hv760_1
   replace hv760_1 := Option.some.inj (hv760_1.symm.trans hx760_1)
   rw [hv760_1] at ge760_1
   have HL760_1 := Za.mk (show Kd.R (Kd.int .i64) 3 _ _ _ _ ((Zah t748 x4_1).f1) from ge760_1)
   clear hv760_1 ge760_1
   have hv760_2 := hcc760 2 _ rfl
   rw [Zb9 _ _ 2 (by omega)] at hv760_2
   replace hv760_2 := Option.some.inj (hv760_2.symm.trans hx760_2)
   rw [hv760_2] at ge760_2
   have HL760_2 := Za.mk (show Kd.R (Kd.int .i64) 3 _ _ _ _ ((Zah t748 x4_1).f2) from ge760_2)
   clear hv760_2 ge760_2
   have hv760_5 := hcc760 5 _ rfl
   rw [Zb9 _ _ 5 (by omega)] at hv760_5
   replace hv760_5 := Option.some.inj (hv760_5.symm.trans hx760_5)
   rw [hv760_5] at ge760_5
   have HL760_5 := Za.mk (show Kd.R (Kd.slice 3 (Kd.int .i64)) 24 _ _ _ _ ((Zah t748 x4_1).f5) from ge760_5)
   clear hv760_5 ge760_5
   clear hcc760 hce760
   have HR760_1 := Za.mk hi760_1
   have HC760_1 := Za.mk hl760_1
   clear hi760_1 hl760_1
   have HR760_2 := Za.mk hi760_2
   have HC760_2 := Za.mk hl760_2
   clear hi760_2 hl760_2
   have HR760_5 := Za.mk hi760_5
   have HC760_5 := Za.mk hl760_5
   clear hi760_5 hl760_5
   replace p760 := eq_true p760
   replace q760 := eq_true q760
   go_wp2_with (first | (go_at_call 17; (with_reducible refine (Zcp.calls ((Zah t748 x4_1).f0) _ _ ((Zah t748 x4_1).f1) _ _ ((Zah t748 x4_1).f2) ((Zah t748 x4_1).f3) ((Zah t748 x4_1).f4) _ _ ((Zah t748 x4_1).f5) ((Zah t748 x4_1).f6) t761 _ ?side1 ?side2 ?side3 ?side4 ?side5 ?side6 A15.out).mono ?_); (case side1 => repeat (first | exact (by repeat (first | (with_reducible exact HR760_1.out) | (with_reducible refine Kd.C_alloc ?_ _) | (with_reducible refine Kd.Zaw ?_ _) | (with_reducible refine Kd.C_drew ?_) | exact HR760_1.out)) | (with_reducible refine Kd.C_alloc ?_ _) | (with_reducible refine Kd.Zaw ?_ _) | (with_reducible refine Kd.C_drew ?_))); (case side2 => exact HC760_1.out); (case side3 => repeat (first | exact (by repeat (first | (with_reducible exact HR760_2.out) | (with_reducible refine Kd.C_alloc ?_ _) | (with_reducible refine Kd.Zaw ?_ _) | (with_reducible refine Kd.C_drew ?_) | exact HR760_2.out)) | (with_reducible refine Kd.C_alloc ?_ _) | (with_reducible refine Kd.Zaw ?_ _) | (with_reducible refine Kd.C_drew ?_))); (case side4 => exact HC760_2.out); (case side5 => repeat (first | exact (by repeat (first | (with_reducible exact HR760_5.out) | (with_reducible refine Kd.C_alloc ?_ _) | (with_reducible refine Kd.Zaw ?_ _) | (with_reducible refine Kd.C_drew ?_) | exact HR760_5.out)) | (with_reducible refine Kd.C_alloc ?_ _) | (with_reducible refine Kd.Zaw ?_ _) | (with_reducible refine Kd.C_drew ?_))); (case side6 => exact HC760_5.out); rintro e w17 ⟨v762, rfl, ho0, hb⟩; have n0_ := Za.mk (Kd.Zcw (by (with_reducible repeat (first | apply Kd.Zbj | apply Kd.Zbk | apply Kd.Zbr)); exact HO_745000.out) hb); have n1_ := Za.mk (Kd.Zby (by (with_reducible repeat (first | apply Kd.Zat | apply Kd.Zau | apply Kd.Zaz)); exact HO_745001.out) (Kd.Zb4 ho0) hb); have n2_ := Za.mk (Kd.Zby (by (with_reducible repeat (first | apply Kd.Zat | apply Kd.Zau | apply Kd.Zaz)); exact HO_745003.out) (Kd.Zb4 ho0) hb); have n3_ := Za.mk (Kd.Zby (by (with_reducible repeat (first | apply Kd.Zat | apply Kd.Zau | apply Kd.Zaz)); exact HO_745004.out) (Kd.Zb4 ho0) hb); have n4_ := Za.mk (Kd.Zby (by (with_reducible repeat (first | apply Kd.Zat | apply Kd.Zau | apply Kd.Zaz)); exact HL760_1.out) (Kd.Zb4 ho0) hb); have n5_ := Za.mk (Kd.Zby (by (with_reducible repeat (first | apply Kd.Zat | apply Kd.Zau | apply Kd.Zaz)); exact HL760_2.out) (Kd.Zb4 ho0) hb); have n7_ := Za.mk (Kd.Zbp (Kd.Zc1 (Kd.Zc1 (Kd.Zc1 (Kd.Zc1 ho0 (Kd.R_lt (by (with_reducible repeat (first | apply Kd.Zat | apply Kd.Zau | apply Kd.Zaz)); exact HO_745003.out))) (Kd.R_lt (by (with_reducible repeat (first | apply Kd.Zat | apply Kd.Zau | apply Kd.Zaz)); exact HO_745004.out))) (Kd.R_lt (by (with_reducible repeat (first | apply Kd.Zat | apply Kd.Zau | apply Kd.Zaz)); exact HL760_1.out))) (Kd.R_lt (by (with_reducible repeat (first | apply Kd.Zat | apply Kd.Zau | apply Kd.Zaz)); exact HL760_2.out))) (Zan (by repeat (first | (with_reducible first | exact HB.out | apply Zab | apply Zaa | apply Zad | refine Zac ?_ GE744.out) | exact HB.out)))); have n8_ := Za.mk (Zap (g := gb744) (o := .cells #[.slice Ao7 t745.length co7, .slice (some ad760) t748.length co9, .int .i64 t751, .slice Ao10 t752.length co10, .slice Ao11 t755.length co11] 28 (0, 0)) (by (with_reducible repeat (first | refine Zag ?_ _ | refine Zai ?_ | refine Zae ?_ _)); exact BK744.out) hb); have n9_ := Za.mk (Kd.Zal (by repeat (first | (with_reducible exact HR760_1.out) | (with_reducible refine Kd.C_alloc ?_ _) | (with_reducible refine Kd.Zaw ?_ _) | (with_reducible refine Kd.C_drew ?_) | exact HR760_1.out)) hb); have n10_ := Za.mk (Kd.Zal (by repeat (first | (with_reducible exact HR760_2.out) | (with_reducible refine Kd.C_alloc ?_ _) | (with_reducible refine Kd.Zaw ?_ _) | (with_reducible refine Kd.C_drew ?_) | exact HR760_2.out)) hb); have n11_ := Za.mk (Kd.Zal (by repeat (first | (with_reducible exact HR760_5.out) | (with_reducible refine Kd.C_alloc ?_ _) | (with_reducible refine Kd.Zaw ?_ _) | (with_reducible refine Kd.C_drew ?_) | exact HR760_5.out)) hb); have n12_ := Za.mk (Zaf (by repeat (first | (with_reducible first | exact HB.out | apply Zab | apply Zaa | apply Zad | refine Zac ?_ GE744.out) | exact HB.out)) hb); clear HO_745000; clear HO_745001; clear HO_745003; clear HO_745004; clear HL760_1; clear HL760_2; clear HL760_5; clear BK744; clear HR760_1; clear HR760_2; clear HR760_5; clear HB; have HO_745000 := n0_; have HO_745001 := n1_; have HO_745003 := n2_; have HO_745004 := n3_; have HL760_1 := n4_; have HL760_2 := n5_; have HO763 := n7_; have BK744 := n8_; have HR760_1 := n9_; have HR760_2 := n10_; have HR760_5 := n11_; have HB := n12_; clear n0_ n1_ n2_ n3_ n4_ n5_ n7_ n8_ n9_ n10_ n11_ n12_; (try clear hb); (try clear hb2); (try clear hk); (try clear hi); (try clear ho0)))
   repeat (go_quiet (first | (go_at_call 17; (with_reducible refine (Zcp.calls ((Zah t748 x4_1).f0) _ _ ((Zah t748 x4_1).f1) _ _ ((Zah t748 x4_1).f2) ((Zah t748 x4_1).f3) ((Zah t748 x4_1).f4) _ _ ((Zah t748 x4_1).f5) ((Zah t748 x4_1).f6) t761 _ ?side1 ?side2 ?side3 ?side4 ?side5 ?side6 A15.out).mono ?_); (case side1 => repeat (first | exact (by repeat (first | (with_reducible exact HR760_1.out) | (with_reducible refine Kd.C_alloc ?_ _) | (with_reducible refine Kd.Zaw ?_ _) | (with_reducible refine Kd.C_drew ?_) | exact HR760_1.out)) | (with_reducible refine Kd.C_alloc ?_ _) | (with_reducible refine Kd.Zaw ?_ _) | (with_reducible refine Kd.C_drew ?_))); (case side2 => exact HC760_1.out); (case side3 => repeat (first | exact (by repeat (first | (with_reducible exact HR760_2.out) | (with_reducible refine Kd.C_alloc ?_ _) | (with_reducible refine Kd.Zaw ?_ _) | (with_reducible refine Kd.C_drew ?_) | exact HR760_2.out)) | (with_reducible refine Kd.C_alloc ?_ _) | (with_reducible refine Kd.Zaw ?_ _) | (with_reducible refine Kd.C_drew ?_))); (case side4 => exact HC760_2.out); (case side5 => repeat (first | exact (by repeat (first | (with_reducible exact HR760_5.out) | (with_reducible refine Kd.C_alloc ?_ _) | (with_reducible refine Kd.Zaw ?_ _) | (with_reducible refine Kd.C_drew ?_) | exact HR760_5.out)) | (with_reducible refine Kd.C_alloc ?_ _) | (with_reducible refine Kd.Zaw ?_ _) | (with_reducible refine Kd.C_drew ?_))); (case side6 => exact HC760_5.out); rintro e w17 ⟨v762, rfl, ho0, hb⟩; have n0_ := Za.mk (Kd.Zcw (by (with_reducible repeat (first | apply Kd.Zbj | apply Kd.Zbk | apply Kd.Zbr)); exact HO_745000.out) hb); have n1_ := Za.mk (Kd.Zby (by (with_reducible repeat (first | apply Kd.Zat | apply Kd.Zau | apply Kd.Zaz)); exact HO_745001.out) (Kd.Zb4 ho0) hb); have n2_ := Za.mk (Kd.Zby (by (with_reducible repeat (first | apply Kd.Zat | apply Kd.Zau | apply Kd.Zaz)); exact HO_745003.out) (Kd.Zb4 ho0) hb); have n3_ := Za.mk (Kd.Zby (by (with_reducible repeat (first | apply Kd.Zat | apply Kd.Zau | apply Kd.Zaz)); exact HO_745004.out) (Kd.Zb4 ho0) hb); have n4_ := Za.mk (Kd.Zby (by (with_reducible repeat (first | apply Kd.Zat | apply Kd.Zau | apply Kd.Zaz)); exact HL760_1.out) (Kd.Zb4 ho0) hb); have n5_ := Za.mk (Kd.Zby (by (with_reducible repeat (first | apply Kd.Zat | apply Kd.Zau | apply Kd.Zaz)); exact HL760_2.out) (Kd.Zb4 ho0) hb); have n7_ := Za.mk (Kd.Zbp (Kd.Zc1 (Kd.Zc1 (Kd.Zc1 (Kd.Zc1 ho0 (Kd.R_lt (by (with_reducible repeat (first | apply Kd.Zat | apply Kd.Zau | apply Kd.Zaz)); exact HO_745003.out))) (Kd.R_lt (by (with_reducible repeat (first | apply Kd.Zat | apply Kd.Zau | apply Kd.Zaz)); exact HO_745004.out))) (Kd.R_lt (by (with_reducible repeat (first | apply Kd.Zat | apply Kd.Zau | apply Kd.Zaz)); exact HL760_1.out))) (Kd.R_lt (by (with_reducible repeat (first | apply Kd.Zat | apply Kd.Zau | apply Kd.Zaz)); exact HL760_2.out))) (Zan (by repeat (first | (with_reducible first | exact HB.out | apply Zab | apply Zaa | apply Zad | refine Zac ?_ GE744.out) | exact HB.out)))); have n8_ := Za.mk (Zap (g := gb744) (o := .cells #[.slice Ao7 t745.length co7, .slice (some ad760) t748.length co9, .int .i64 t751, .slice Ao10 t752.length co10, .slice Ao11 t755.length co11] 28 (0, 0)) (by (with_reducible repeat (first | refine Zag ?_ _ | refine Zai ?_ | refine Zae ?_ _)); exact BK744.out) hb); have n9_ := Za.mk (Kd.Zal (by repeat (first | (with_reducible exact HR760_1.out) | (with_reducible refine Kd.C_alloc ?_ _) | (with_reducible refine Kd.Zaw ?_ _) | (with_reducible refine Kd.C_drew ?_) | exact HR760_1.out)) hb); have n10_ := Za.mk (Kd.Zal (by repeat (first | (with_reducible exact HR760_2.out) | (with_reducible refine Kd.C_alloc ?_ _) | (with_reducible refine Kd.Zaw ?_ _) | (with_reducible refine Kd.C_drew ?_) | exact HR760_2.out)) hb); have n11_ := Za.mk (Kd.Zal (by repeat (first | (with_reducible exact HR760_5.out) | (with_reducible refine Kd.C_alloc ?_ _) | (with_reducible refine Kd.Zaw ?_ _) | (with_reducible refine Kd.C_drew ?_) | exact HR760_5.out)) hb); have n12_ := Za.mk (Zaf (by repeat (first | (with_reducible first | exact HB.out | apply Zab | apply Zaa | apply Zad | refine Zac ?_ GE744.out) | exact HB.out)) hb); clear HO_745000; clear HO_745001; clear HO_745003; clear HO_745004; clear HL760_1; clear HL760_2; clear BK744; clear HR760_1; clear HR760_2; clear HR760_5; clear HB; have HO_745000 := n0_; have HO_745001 := n1_; have HO_745003 := n2_; have HO_745004 := n3_; have HL760_1 := n4_; have HL760_2 := n5_; have HO763 := n7_; have BK744 := n8_; have HR760_1 := n9_; have HR760_2 := n10_; have HR760_5 := n11_; have HB := n12_; clear n0_ n1_ n2_ n3_ n4_ n5_ n7_ n8_ n9_ n10_ n11_ n12_; (try clear hb); (try clear hb2); (try clear hk); (try clear hi); (try clear ho0))); try go_wp2_with (first | (go_at_call 17; (with_reducible refine (Zcp.calls ((Zah t748 x4_1).f0) _ _ ((Zah t748 x4_1).f1) _ _ ((Zah t748 x4_1).f2) ((Zah t748 x4_1).f3) ((Zah t748 x4_1).f4) _ _ ((Zah t748 x4_1).f5) ((Zah t748 x4_1).f6) t761 _ ?side1 ?side2 ?side3 ?side4 ?side5 ?side6 A15.out).mono ?_); (case side1 => repeat (first | exact (by repeat (first | (with_reducible exact HR760_1.out) | (with_reducible refine Kd.C_alloc ?_ _) | (with_reducible refine Kd.Zaw ?_ _) | (with_reducible refine Kd.C_drew ?_) | exact HR760_1.out)) | (with_reducible refine Kd.C_alloc ?_ _) | (with_reducible refine Kd.Zaw ?_ _) | (with_reducible refine Kd.C_drew ?_))); (case side2 => exact HC760_1.out); (case side3 => repeat (first | exact (by repeat (first | (with_reducible exact HR760_2.out) | (with_reducible refine Kd.C_alloc ?_ _) | (with_reducible refine Kd.Zaw ?_ _) | (with_reducible refine Kd.C_drew ?_) | exact HR760_2.out)) | (with_reducible refine Kd.C_alloc ?_ _) | (with_reducible refine Kd.Zaw ?_ _) | (with_reducible refine Kd.C_drew ?_))); (case side4 => exact HC760_2.out); (case side5 => repeat (first | exact (by repeat (first | (with_reducible exact HR760_5.out) | (with_reducible refine Kd.C_alloc ?_ _) | (with_reducible refine Kd.Zaw ?_ _) | (with_reducible refine Kd.C_drew ?_) | exact HR760_5.out)) | (with_reducible refine Kd.C_alloc ?_ _) | (with_reducible refine Kd.Zaw ?_ _) | (with_reducible refine Kd.C_drew ?_))); (case side6 => exact HC760_5.out); rintro e w17 ⟨v762, rfl, ho0, hb⟩; have n0_ := Za.mk (Kd.Zcw (by (with_reducible repeat (first | apply Kd.Zbj | apply Kd.Zbk | apply Kd.Zbr)); exact HO_745000.out) hb); have n1_ := Za.mk (Kd.Zby (by (with_reducible repeat (first | apply Kd.Zat | apply Kd.Zau | apply Kd.Zaz)); exact HO_745001.out) (Kd.Zb4 ho0) hb); have n2_ := Za.mk (Kd.Zby (by (with_reducible repeat (first | apply Kd.Zat | apply Kd.Zau | apply Kd.Zaz)); exact HO_745003.out) (Kd.Zb4 ho0) hb); have n3_ := Za.mk (Kd.Zby (by (with_reducible repeat (first | apply Kd.Zat | apply Kd.Zau | apply Kd.Zaz)); exact HO_745004.out) (Kd.Zb4 ho0) hb); have n7_ := Za.mk (Kd.Zbp (Kd.Zc1 (Kd.Zc1 (Kd.Zc1 (Kd.Zc1 ho0 (Kd.R_lt (by (with_reducible repeat (first | apply Kd.Zat | apply Kd.Zau | apply Kd.Zaz)); exact HO_745003.out))) (Kd.R_lt (by (with_reducible repeat (first | apply Kd.Zat | apply Kd.Zau | apply Kd.Zaz)); exact HO_745004.out))) (Kd.R_lt (by (with_reducible repeat (first | apply Kd.Zat | apply Kd.Zau | apply Kd.Zaz)); exact HL760_1.out))) (Kd.R_lt (by (with_reducible repeat (first | apply Kd.Zat | apply Kd.Zau | apply Kd.Zaz)); exact HL760_2.out))) (Zan (by repeat (first | (with_reducible first | exact HB.out | apply Zab | apply Zaa | apply Zad | refine Zac ?_ GE744.out) | exact HB.out)))); have n8_ := Za.mk (Zap (g := gb744) (o := .cells #[.slice Ao7 t745.length co7, .slice (some ad760) t748.length co9, .int .i64 t751, .slice Ao10 t752.length co10, .slice Ao11 t755.length co11] 28 (0, 0)) (by (with_reducible repeat (first | refine Zag ?_ _ | refine Zai ?_ | refine Zae ?_ _)); exact BK744.out) hb); have n9_ := Za.mk (Kd.Zal (by repeat (first | (with_reducible exact HR760_1.out) | (with_reducible refine Kd.C_alloc ?_ _) | (with_reducible refine Kd.Zaw ?_ _) | (with_reducible refine Kd.C_drew ?_) | exact HR760_1.out)) hb); have n10_ := Za.mk (Kd.Zal (by repeat (first | (with_reducible exact HR760_2.out) | (with_reducible refine Kd.C_alloc ?_ _) | (with_reducible refine Kd.Zaw ?_ _) | (with_reducible refine Kd.C_drew ?_) | exact HR760_2.out)) hb); have n11_ := Za.mk (Kd.Zal (by repeat (first | (with_reducible exact HR760_5.out) | (with_reducible refine Kd.C_alloc ?_ _) | (with_reducible refine Kd.Zaw ?_ _) | (with_reducible refine Kd.C_drew ?_) | exact HR760_5.out)) hb); have n12_ := Za.mk (Zaf (by repeat (first | (with_reducible first | exact HB.out | apply Zab | apply Zaa | apply Zad | refine Zac ?_ GE744.out) | exact HB.out)) hb); clear HO_745000; clear HO_745001; clear HO_745003; clear HO_745004; clear HL760_1; clear HL760_2; clear BK744; clear HR760_1; clear HR760_2; clear HR760_5; clear HB; have HO_745000 := n0_; have HO_745001 := n1_; have HO_745003 := n2_; have HO_745004 := n3_; have HO763 := n7_; have BK744 := n8_; have HR760_1 := n9_; have HR760_2 := n10_; have HR760_5 := n11_; have HB := n12_; clear n0_ n1_ n2_ n3_ n7_ n8_ n9_ n10_ n11_ n12_; (try clear hb); (try clear hb2); (try clear hk); (try clear hi); (try clear ho0))))
   go_loopg [6] k1 (fun kq v6 w' => ∃ (x6_2 : Int), v6 = .int .i64 x6_2 ∧ Za (Zam.l1 kq (t758 == 0) x4_1 t761 x6_2 t745 t748 t751 t752 t755 = some r) ∧ Za (kq ≤ k1) ∧ Za (Kd.R (Kd.int .i64) 3 w' w.heap.size (fun k_ => some k_ ≠ ((.slice Ao10 t752.length co10) : Value).ownBlock ∧ some k_ ≠ ((.slice Ao11 t755.length co11) : Value).ownBlock) v762 t761) ∧ Za (Kd.S k50 50 w' w.heap.size (fun _ => True) (.slice Ao7 t745.length co7) t745) ∧ Za (Kd.R k31 31 w' w.heap.size (fun k_ => some k_ ≠ (v762 : Value).ownBlock ∧ some k_ ≠ ((.slice Ao10 t752.length co10) : Value).ownBlock ∧ some k_ ≠ ((.slice Ao11 t755.length co11) : Value).ownBlock) (.slice (some ad760) t748.length co9) t748) ∧ Za (Kd.R (Kd.int .i64) 3 w' w.heap.size (fun k_ => some k_ ≠ (v762 : Value).ownBlock ∧ some k_ ≠ ((.slice Ao11 t755.length co11) : Value).ownBlock) (.slice Ao10 t752.length co10) t752) ∧ Za (Kd.R (Kd.int .i64) 3 w' w.heap.size (fun k_ => some k_ ≠ (v762 : Value).ownBlock ∧ some k_ ≠ ((.slice Ao10 t752.length co10) : Value).ownBlock) (.slice Ao11 t755.length co11) t755) ∧ Za (w'.heap[gb744]? = some (.cells #[(.slice Ao7 t745.length co7), (.slice (some ad760) t748.length co9), .int .i64 t751, (.slice Ao10 t752.length co10), (.slice Ao11 t755.length co11)] 28 (0, 0))) ∧ Za (Kd.C (Kd.int .i64) w' A760_1 ((Zah t748 x4_1).f1).length ((Zah t748 x4_1).f1)) ∧ Za (Kd.C (Kd.int .i64) w' A760_2 ((Zah t748 x4_1).f2).length ((Zah t748 x4_1).f2)) ∧ Za (Kd.C (Kd.slice 3 (Kd.int .i64)) w' A760_5 ((Zah t748 x4_1).f5).length ((Zah t748 x4_1).f5)) ∧ Za (Below w.heap.size w w'))
   case atStart => exact ⟨(0), (by first | rfl | (simp; done) | (simp [*]; done)), H', ⟨Nat.le_refl _⟩, ⟨by (with_reducible repeat (first | apply Kd.Zat | apply Kd.Zau | apply Kd.Zaz)); exact Kd.Za2 HO763.out (fun _ hk => ⟨hk.1.1.1.2, hk.1.1.2⟩)⟩, ⟨by (with_reducible repeat (first | apply Kd.Zbj | apply Kd.Zbk | apply Kd.Zbr)); exact HO_745000.out⟩, ⟨by (with_reducible repeat (first | apply Kd.Zat | apply Kd.Zau | apply Kd.Zaz)); exact Kd.Za2 HO_745001.out (fun _ hk => ⟨hk.2, ⟨hk.1.1, hk.1.2⟩⟩)⟩, ⟨by (with_reducible repeat (first | apply Kd.Zat | apply Kd.Zau | apply Kd.Zaz)); exact Kd.Za2 HO_745003.out (fun _ hk => ⟨hk.2, hk.1⟩)⟩, ⟨by (with_reducible repeat (first | apply Kd.Zat | apply Kd.Zau | apply Kd.Zaz)); exact Kd.Za2 HO_745004.out (fun _ hk => ⟨hk.2, hk.1⟩)⟩, ⟨by (with_reducible repeat (first | refine Zag ?_ _ | refine Zai ?_ | refine Zae ?_ _)); exact BK744.out⟩, ⟨by repeat (first | (with_reducible exact HR760_1.out) | (with_reducible refine Kd.C_alloc ?_ _) | (with_reducible refine Kd.Zaw ?_ _) | (with_reducible refine Kd.C_drew ?_) | exact HR760_1.out)⟩, ⟨by repeat (first | (with_reducible exact HR760_2.out) | (with_reducible refine Kd.C_alloc ?_ _) | (with_reducible refine Kd.Zaw ?_ _) | (with_reducible refine Kd.C_drew ?_) | exact HR760_2.out)⟩, ⟨by repeat (first | (with_reducible exact HR760_5.out) | (with_reducible refine Kd.C_alloc ?_ _) | (with_reducible refine Kd.Zaw ?_ _) | (with_reducible refine Kd.C_drew ?_) | exact HR760_5.out)⟩, ⟨by repeat (first | (with_reducible first | exact HB.out | apply Zab | apply Zaa | apply Zad | refine Zac ?_ GE744.out) | exact HB.out)⟩⟩
   case round =>
    clear H'
    try clear c1
    try clear p2
    try clear c7
    try clear p7
    try clear q7
    try clear hx7
    try clear c8
    try clear c13
    try clear c13b0
    try clear c14
    try clear c14b0
    try clear hcz16_0
    try clear hcz16_1
    try clear hcz16_2
    try clear hcz16_3
    try clear hcz16_4
    try clear hcz5_0
    try clear hcz5_1
    try clear hcz5_2
    try clear hcz5_3
    try clear hcz5_4
    try clear hcz8_0
    try clear hcz8_1
    try clear hcz8_2
    try clear hcz8_3
    try clear hcz8_4
    try clear hfz16_0
    try clear hfz16_1
    try clear hfz16_2
    try clear hfz16_3
    try clear hfz16_4
    try clear hfz5_0
    try clear hfz5_1
    try clear hfz5_2
    try clear hfz5_3
    try clear hfz5_4
    try clear hfz8_0
    try clear hfz8_1
    try clear hfz8_2
    try clear hfz8_3
    try clear hfz8_4
    try clear hx760_0
    try clear hx760_1
    try clear hx760_2
    try clear hx760_3
    try clear hx760_4
    try clear hx760_5
    try clear hx760_6
    try clear p2
    try clear p760
    try clear q760
    obtain ⟨x6_2, rfl, HA, HK2, HO_5, HO_745000, HO_745001, HO_745003, HO_745004, BK744, HR760_1, HR760_2, HR760_5, HB⟩ := hrel
    cases gk with
    | zero => exact absurd HA.out (by simp [Zam.l1])
    | succ k2 =>
     have H := HA.out
     clear HA
     simp only [Zam.l1] at H
     by_cases c18 : x6_2 < (t761.length : Int)
     ·rw [if_pos c18] at H
      have c18b0 : decide (x6_2 < (t761.length : Int)) = true := decide_eq_true c18
      clear c18
      by_cases c19 : x6_2 > 0
      rotate_left
      ·rw [if_neg c19] at H
       have c19b0 : decide (0 < x6_2) = false := decide_eq_false c19
       clear c19
       by_cases c31 : (t758 == 0) = true
       rotate_left
       ·rw [if_neg c31] at H
        have c31b0 : (t758 == 0) = false := by simpa using c31
        (try (have c31b1 : decide (t758 = 0) = false := by simpa using c31))
        (try (have c31b2 : (t758 == 0) = false := by simpa using c31))
        (try (have c31b3 : ¬ (t758 = 0) := by simpa using c31))
        clear c31
        have H' := Za.mk H
        clear H
        obtain ⟨Ao37, co37, eo37⟩ := Kd.Za9 HO_5.out
        subst eo37
        go_wp2
        try simp only [c31b0]
        repeat (go_quiet (fail); try go_wp2)
        conv in (occs := 1 2) (Value.bool false) => all_goals rw [← c31b0]
        go_roundg k2
        case measure => have := HK1.out; have := HK2.out; omega
        case rel => exact ⟨(wrap64 (x6_2 + 1)), (by first | rfl | (simp; done) | (simp [*]; done)), H', ⟨by have := HK1.out; have := HK2.out; omega⟩, ⟨by (with_reducible repeat (first | apply Kd.Zat | apply Kd.Zau | apply Kd.Zaz)); exact HO_5.out⟩, ⟨by (with_reducible repeat (first | apply Kd.Zbj | apply Kd.Zbk | apply Kd.Zbr)); exact HO_745000.out⟩, ⟨by (with_reducible repeat (first | apply Kd.Zat | apply Kd.Zau | apply Kd.Zaz)); exact HO_745001.out⟩, ⟨by (with_reducible repeat (first | apply Kd.Zat | apply Kd.Zau | apply Kd.Zaz)); exact HO_745003.out⟩, ⟨by (with_reducible repeat (first | apply Kd.Zat | apply Kd.Zau | apply Kd.Zaz)); exact HO_745004.out⟩, ⟨by (with_reducible repeat (first | refine Zag ?_ _ | refine Zai ?_ | refine Zae ?_ _)); exact BK744.out⟩, ⟨by repeat (first | (with_reducible exact HR760_1.out) | (with_reducible refine Kd.C_alloc ?_ _) | (with_reducible refine Kd.Zaw ?_ _) | (with_reducible refine Kd.C_drew ?_) | exact HR760_1.out)⟩, ⟨by repeat (first | (with_reducible exact HR760_2.out) | (with_reducible refine Kd.C_alloc ?_ _) | (with_reducible refine Kd.Zaw ?_ _) | (with_reducible refine Kd.C_drew ?_) | exact HR760_2.out)⟩, ⟨by repeat (first | (with_reducible exact HR760_5.out) | (with_reducible refine Kd.C_alloc ?_ _) | (with_reducible refine Kd.Zaw ?_ _) | (with_reducible refine Kd.C_drew ?_) | exact HR760_5.out)⟩, ⟨by repeat (first | (with_reducible first | exact HB.out | apply Zab | apply Zaa | apply Zad | refine Zac ?_ GE744.out) | exact HB.out)⟩⟩
       rw [if_pos c31] at H
       have c31b0 : (t758 == 0) = true := c31
       (try (have c31b1 : decide (t758 = 0) = true := by simpa using c31))
       (try (have c31b2 : (t758 == 0) = true := by simpa using c31))
       clear c31
       by_cases c32 : 0 ≤ x6_2
       rotate_left
       ·rw [if_neg c32] at H
        exact absurd H (by simp)
       rw [if_pos c32] at H
       have c32b0 : decide (0 ≤ x6_2) = true := decide_eq_true c32
       clear c32
       by_cases c33 : (rd t761 x6_2) < 0
       ·rw [if_pos c33] at H
        exact absurd H (by simp)
       rw [if_neg c33] at H
       have c33b0 : decide ((rd t761 x6_2) < 0) = false := decide_eq_false c33
       clear c33
       by_cases c34 : (rd t761 x6_2) ≥ (t745.length : Int)
       ·rw [if_pos c34] at H
        exact absurd H (by simp)
       rw [if_neg c34] at H
       have c34b0 : decide ((t745.length : Int) ≤ (rd t761 x6_2)) = false := decide_eq_false c34
       clear c34
       have H' := Za.mk H
       clear H
       obtain ⟨Ao35, co35, eo35⟩ := Kd.Za9 HO_5.out
       subst eo35
       have p768 : 0 ≤ (x6_2 : Int) := of_decide_eq_true (by first | (with_reducible assumption) | assumption)
       have q768 : x6_2 < (t761.length : Int) := of_decide_eq_true (by first | (with_reducible assumption) | assumption)
       obtain ⟨ad768, e768, hx768_0⟩ := Kd.Zcq (Kd.Za0 HO_5.out).2.2 x6_2 p768 q768
       cases e768
       replace p768 := eq_true p768
       replace q768 := eq_true q768
       have p769 : 0 ≤ (x6_2 : Int) := of_decide_eq_true (by first | (with_reducible assumption) | assumption)
       have q769 : x6_2 < (t761.length : Int) := of_decide_eq_true (by first | (with_reducible assumption) | assumption)
       obtain ⟨ad769, e769, hx769_0⟩ := Kd.Zcq (Kd.Za0 HO_5.out).2.2 x6_2 p769 q769
       obtain rfl : ad768 = ad769 := (by injection e769)
       replace p769 := eq_true p769
       replace q769 := eq_true q769
       obtain ⟨hcz36_0, hcz36_1, hcz36_2, hcz36_3, hcz36_4, hfz36_0, hfz36_1, hfz36_2, hfz36_3, hfz36_4⟩ := Zde BK744.out
       go_wp2
       try simp only [c31b0]
       repeat (go_quiet (fail); try go_wp2)
       conv in (occs := 1 2) (Value.bool true) => all_goals rw [← c31b0]
       go_roundg k2
       case measure => have := HK1.out; have := HK2.out; omega
       case rel => exact ⟨(wrap64 (x6_2 + 1)), (by first | rfl | (simp; done) | (simp [*]; done)), H', ⟨by have := HK1.out; have := HK2.out; omega⟩, ⟨by (with_reducible repeat (first | apply Kd.Zat | apply Kd.Zau | apply Kd.Zaz)); exact HO_5.out⟩, ⟨by (with_reducible repeat (first | apply Kd.Zbj | apply Kd.Zbk | apply Kd.Zbr)); exact HO_745000.out⟩, ⟨by (with_reducible repeat (first | apply Kd.Zat | apply Kd.Zau | apply Kd.Zaz)); exact HO_745001.out⟩, ⟨by (with_reducible repeat (first | apply Kd.Zat | apply Kd.Zau | apply Kd.Zaz)); exact HO_745003.out⟩, ⟨by (with_reducible repeat (first | apply Kd.Zat | apply Kd.Zau | apply Kd.Zaz)); exact HO_745004.out⟩, ⟨by (with_reducible repeat (first | refine Zag ?_ _ | refine Zai ?_ | refine Zae ?_ _)); exact BK744.out⟩, ⟨by repeat (first | (with_reducible exact HR760_1.out) | (with_reducible refine Kd.C_alloc ?_ _) | (with_reducible refine Kd.Zaw ?_ _) | (with_reducible refine Kd.C_drew ?_) | exact HR760_1.out)⟩, ⟨by repeat (first | (with_reducible exact HR760_2.out) | (with_reducible refine Kd.C_alloc ?_ _) | (with_reducible refine Kd.Zaw ?_ _) | (with_reducible refine Kd.C_drew ?_) | exact HR760_2.out)⟩, ⟨by repeat (first | (with_reducible exact HR760_5.out) | (with_reducible refine Kd.C_alloc ?_ _) | (with_reducible refine Kd.Zaw ?_ _) | (with_reducible refine Kd.C_drew ?_) | exact HR760_5.out)⟩, ⟨by repeat (first | (with_reducible first | exact HB.out | apply Zab | apply Zaa | apply Zad | refine Zac ?_ GE744.out) | exact HB.out)⟩⟩
      rw [if_pos c19] at H
      have c19b0 : decide (0 < x6_2) = true := decide_eq_true c19
      clear c19
      by_cases c20 : 0 ≤ x6_2
      rotate_left
      ·rw [if_neg c20] at H
       exact absurd H (by simp)
      rw [if_pos c20] at H
      have c20b0 : decide (0 ≤ x6_2) = true := decide_eq_true c20
      clear c20
      obtain ⟨ji21, hji21⟩ : ∃ j_ : Int, (wrap64 (x6_2 - 1)) = j_ := ⟨_, rfl⟩
      replace H : (if 0 ≤ (ji21) then (if (ji21) < (t761.length : Int) then (if (rd t761 x6_2) ≤ (rd t761 (ji21)) then (none) else (if (t758 == 0) = true then (if (rd t761 x6_2) < 0 then (none) else (if (rd t761 x6_2) ≥ (t745.length : Int) then (none) else (Zam.l1 k2 (t758 == 0) x4_1 t761 (wrap64 (x6_2 + 1)) t745 t748 t751 t752 t755))) else (Zam.l1 k2 (t758 == 0) x4_1 t761 (wrap64 (x6_2 + 1)) t745 t748 t751 t752 t755))) else (none)) else (none)) = some r := by first | (rw [hji21] at H; exact H) | (simp only [hji21] at H ⊢; exact H)
      have hji21w : (IntKind.i64.wrap (x6_2 - 1)) = ji21 := (Zbb _).trans hji21
      by_cases c22 : 0 ≤ (ji21)
      rotate_left
      ·rw [if_neg c22] at H
       exact absurd H (by simp)
      rw [if_pos c22] at H
      have c22b0 : decide (0 ≤ (ji21)) = true := decide_eq_true c22
      clear c22
      by_cases c23 : (ji21) < (t761.length : Int)
      rotate_left
      ·rw [if_neg c23] at H
       exact absurd H (by simp)
      rw [if_pos c23] at H
      have c23b0 : decide ((ji21) < (t761.length : Int)) = true := decide_eq_true c23
      clear c23
      by_cases c24 : (rd t761 x6_2) ≤ (rd t761 (ji21))
      ·rw [if_pos c24] at H
       exact absurd H (by simp)
      rw [if_neg c24] at H
      have c24b0 : decide ((rd t761 x6_2) ≤ (rd t761 (ji21))) = false := decide_eq_false c24
      clear c24
      by_cases c25 : (t758 == 0) = true
      rotate_left
      ·rw [if_neg c25] at H
       have c25b0 : (t758 == 0) = false := by simpa using c25
       (try (have c25b1 : decide (t758 = 0) = false := by simpa using c25))
       (try (have c25b2 : (t758 == 0) = false := by simpa using c25))
       (try (have c25b3 : ¬ (t758 = 0) := by simpa using c25))
       clear c25
       have H' := Za.mk H
       clear H
       obtain ⟨Ao30, co30, eo30⟩ := Kd.Za9 HO_5.out
       subst eo30
       have p764 : 0 ≤ (x6_2 : Int) := of_decide_eq_true (by first | (with_reducible assumption) | assumption)
       have q764 : x6_2 < (t761.length : Int) := of_decide_eq_true (by first | (with_reducible assumption) | assumption)
       obtain ⟨ad764, e764, hx764_0⟩ := Kd.Zcq (Kd.Za0 HO_5.out).2.2 x6_2 p764 q764
       cases e764
       replace p764 := eq_true p764
       replace q764 := eq_true q764
       have p765 : 0 ≤ ((ji21) : Int) := of_decide_eq_true (by first | (with_reducible assumption) | assumption)
       have q765 : (ji21) < (t761.length : Int) := of_decide_eq_true (by first | (with_reducible assumption) | assumption)
       obtain ⟨ad765, e765, hx765_0⟩ := Kd.Zcq (Kd.Za0 HO_5.out).2.2 (ji21) p765 q765
       obtain rfl : ad764 = ad765 := (by injection e765)
       replace p765 := eq_true p765
       replace q765 := eq_true q765
       go_wp2
       try simp only [c25b0]
       repeat (go_quiet (fail); try go_wp2)
       conv in (occs := 1 2) (Value.bool false) => all_goals rw [← c25b0]
       go_roundg k2
       case measure => have := HK1.out; have := HK2.out; omega
       case rel => exact ⟨(wrap64 (x6_2 + 1)), (by first | rfl | (simp; done) | (simp [*]; done)), H', ⟨by have := HK1.out; have := HK2.out; omega⟩, ⟨by (with_reducible repeat (first | apply Kd.Zat | apply Kd.Zau | apply Kd.Zaz)); exact HO_5.out⟩, ⟨by (with_reducible repeat (first | apply Kd.Zbj | apply Kd.Zbk | apply Kd.Zbr)); exact HO_745000.out⟩, ⟨by (with_reducible repeat (first | apply Kd.Zat | apply Kd.Zau | apply Kd.Zaz)); exact HO_745001.out⟩, ⟨by (with_reducible repeat (first | apply Kd.Zat | apply Kd.Zau | apply Kd.Zaz)); exact HO_745003.out⟩, ⟨by (with_reducible repeat (first | apply Kd.Zat | apply Kd.Zau | apply Kd.Zaz)); exact HO_745004.out⟩, ⟨by (with_reducible repeat (first | refine Zag ?_ _ | refine Zai ?_ | refine Zae ?_ _)); exact BK744.out⟩, ⟨by repeat (first | (with_reducible exact HR760_1.out) | (with_reducible refine Kd.C_alloc ?_ _) | (with_reducible refine Kd.Zaw ?_ _) | (with_reducible refine Kd.C_drew ?_) | exact HR760_1.out)⟩, ⟨by repeat (first | (with_reducible exact HR760_2.out) | (with_reducible refine Kd.C_alloc ?_ _) | (with_reducible refine Kd.Zaw ?_ _) | (with_reducible refine Kd.C_drew ?_) | exact HR760_2.out)⟩, ⟨by repeat (first | (with_reducible exact HR760_5.out) | (with_reducible refine Kd.C_alloc ?_ _) | (with_reducible refine Kd.Zaw ?_ _) | (with_reducible refine Kd.C_drew ?_) | exact HR760_5.out)⟩, ⟨by repeat (first | (with_reducible first | exact HB.out | apply Zab | apply Zaa | apply Zad | refine Zac ?_ GE744.out) | exact HB.out)⟩⟩
      rw [if_pos c25] at H
      have c25b0 : (t758 == 0) = true := c25
      (try (have c25b1 : decide (t758 = 0) = true := by simpa using c25))
      (try (have c25b2 : (t758 == 0) = true := by simpa using c25))
      clear c25
      by_cases c26 : (rd t761 x6_2) < 0
      ·rw [if_pos c26] at H
       exact absurd H (by simp)
      rw [if_neg c26] at H
      have c26b0 : decide ((rd t761 x6_2) < 0) = false := decide_eq_false c26
      clear c26
      by_cases c27 : (rd t761 x6_2) ≥ (t745.length : Int)
      ·rw [if_pos c27] at H
       exact absurd H (by simp)
      rw [if_neg c27] at H
      have c27b0 : decide ((t745.length : Int) ≤ (rd t761 x6_2)) = false := decide_eq_false c27
      clear c27
      have H' := Za.mk H
      clear H
      obtain ⟨Ao28, co28, eo28⟩ := Kd.Za9 HO_5.out
      subst eo28
      have p764 : 0 ≤ (x6_2 : Int) := of_decide_eq_true (by first | (with_reducible assumption) | assumption)
      have q764 : x6_2 < (t761.length : Int) := of_decide_eq_true (by first | (with_reducible assumption) | assumption)
      obtain ⟨ad764, e764, hx764_0⟩ := Kd.Zcq (Kd.Za0 HO_5.out).2.2 x6_2 p764 q764
      cases e764
      replace p764 := eq_true p764
      replace q764 := eq_true q764
      have p765 : 0 ≤ ((ji21) : Int) := of_decide_eq_true (by first | (with_reducible assumption) | assumption)
      have q765 : (ji21) < (t761.length : Int) := of_decide_eq_true (by first | (with_reducible assumption) | assumption)
      obtain ⟨ad765, e765, hx765_0⟩ := Kd.Zcq (Kd.Za0 HO_5.out).2.2 (ji21) p765 q765
      obtain rfl : ad764 = ad765 := (by injection e765)
      replace p765 := eq_true p765
      replace q765 := eq_true q765
      have p766 : 0 ≤ (x6_2 : Int) := of_decide_eq_true (by first | (with_reducible assumption) | assumption)
      have q766 : x6_2 < (t761.length : Int) := of_decide_eq_true (by first | (with_reducible assumption) | assumption)
      obtain ⟨ad766, e766, hx766_0⟩ := Kd.Zcq (Kd.Za0 HO_5.out).2.2 x6_2 p766 q766
      obtain rfl : ad764 = ad766 := (by injection e766)
      replace p766 := eq_true p766
      replace q766 := eq_true q766
      have p767 : 0 ≤ (x6_2 : Int) := of_decide_eq_true (by first | (with_reducible assumption) | assumption)
      have q767 : x6_2 < (t761.length : Int) := of_decide_eq_true (by first | (with_reducible assumption) | assumption)
      obtain ⟨ad767, e767, hx767_0⟩ := Kd.Zcq (Kd.Za0 HO_5.out).2.2 x6_2 p767 q767
      obtain rfl : ad764 = ad767 := (by injection e767)
      replace p767 := eq_true p767
      replace q767 := eq_true q767
      obtain ⟨hcz29_0, hcz29_1, hcz29_2, hcz29_3, hcz29_4, hfz29_0, hfz29_1, hfz29_2, hfz29_3, hfz29_4⟩ := Zde BK744.out
      go_wp2
      try simp only [c25b0]
      repeat (go_quiet (fail); try go_wp2)
      conv in (occs := 1 2) (Value.bool true) => all_goals rw [← c25b0]
      go_roundg k2
      case measure => have := HK1.out; have := HK2.out; omega
      case rel => exact ⟨(wrap64 (x6_2 + 1)), (by first | rfl | (simp; done) | (simp [*]; done)), H', ⟨by have := HK1.out; have := HK2.out; omega⟩, ⟨by (with_reducible repeat (first | apply Kd.Zat | apply Kd.Zau | apply Kd.Zaz)); exact HO_5.out⟩, ⟨by (with_reducible repeat (first | apply Kd.Zbj | apply Kd.Zbk | apply Kd.Zbr)); exact HO_745000.out⟩, ⟨by (with_reducible repeat (first | apply Kd.Zat | apply Kd.Zau | apply Kd.Zaz)); exact HO_745001.out⟩, ⟨by (with_reducible repeat (first | apply Kd.Zat | apply Kd.Zau | apply Kd.Zaz)); exact HO_745003.out⟩, ⟨by (with_reducible repeat (first | apply Kd.Zat | apply Kd.Zau | apply Kd.Zaz)); exact HO_745004.out⟩, ⟨by (with_reducible repeat (first | refine Zag ?_ _ | refine Zai ?_ | refine Zae ?_ _)); exact BK744.out⟩, ⟨by repeat (first | (with_reducible exact HR760_1.out) | (with_reducible refine Kd.C_alloc ?_ _) | (with_reducible refine Kd.Zaw ?_ _) | (with_reducible refine Kd.C_drew ?_) | exact HR760_1.out)⟩, ⟨by repeat (first | (with_reducible exact HR760_2.out) | (with_reducible refine Kd.C_alloc ?_ _) | (with_reducible refine Kd.Zaw ?_ _) | (with_reducible refine Kd.C_drew ?_) | exact HR760_2.out)⟩, ⟨by repeat (first | (with_reducible exact HR760_5.out) | (with_reducible refine Kd.C_alloc ?_ _) | (with_reducible refine Kd.Zaw ?_ _) | (with_reducible refine Kd.C_drew ?_) | exact HR760_5.out)⟩, ⟨by repeat (first | (with_reducible first | exact HB.out | apply Zab | apply Zaa | apply Zad | refine Zac ?_ GE744.out) | exact HB.out)⟩⟩
     rw [if_neg c18] at H
     have c18b0 : decide (x6_2 < (t761.length : Int)) = false := decide_eq_false c18
     clear c18
     have H' := Za.mk H
     clear H
     obtain ⟨Ao38, co38, eo38⟩ := Kd.Za9 HO_5.out
     subst eo38
     go_wp2
     repeat (go_quiet (fail); try go_wp2)
     go_loopg [7] k2 (fun kq v7 w' => ∃ (x7_3 : Int), v7 = .int .i64 x7_3 ∧ Za (Zam.l2 kq (t758 == 0) x4_1 t761 x7_3 t745 t748 t751 t752 t755 = some r) ∧ Za (kq ≤ k2) ∧ Za (Kd.R (Kd.int .i64) 3 w' w.heap.size (fun k_ => some k_ ≠ ((.slice Ao10 t752.length co10) : Value).ownBlock ∧ some k_ ≠ ((.slice Ao11 t755.length co11) : Value).ownBlock) (.slice Ao38 t761.length co38) t761) ∧ Za (Kd.S k50 50 w' w.heap.size (fun _ => True) (.slice Ao7 t745.length co7) t745) ∧ Za (Kd.R k31 31 w' w.heap.size (fun k_ => some k_ ≠ ((.slice Ao38 t761.length co38) : Value).ownBlock ∧ some k_ ≠ ((.slice Ao10 t752.length co10) : Value).ownBlock ∧ some k_ ≠ ((.slice Ao11 t755.length co11) : Value).ownBlock) (.slice (some ad760) t748.length co9) t748) ∧ Za (Kd.R (Kd.int .i64) 3 w' w.heap.size (fun k_ => some k_ ≠ ((.slice Ao38 t761.length co38) : Value).ownBlock ∧ some k_ ≠ ((.slice Ao11 t755.length co11) : Value).ownBlock) (.slice Ao10 t752.length co10) t752) ∧ Za (Kd.R (Kd.int .i64) 3 w' w.heap.size (fun k_ => some k_ ≠ ((.slice Ao38 t761.length co38) : Value).ownBlock ∧ some k_ ≠ ((.slice Ao10 t752.length co10) : Value).ownBlock) (.slice Ao11 t755.length co11) t755) ∧ Za (w'.heap[gb744]? = some (.cells #[(.slice Ao7 t745.length co7), (.slice (some ad760) t748.length co9), .int .i64 t751, (.slice Ao10 t752.length co10), (.slice Ao11 t755.length co11)] 28 (0, 0))) ∧ Za (Kd.C (Kd.int .i64) w' A760_1 ((Zah t748 x4_1).f1).length ((Zah t748 x4_1).f1)) ∧ Za (Kd.C (Kd.int .i64) w' A760_2 ((Zah t748 x4_1).f2).length ((Zah t748 x4_1).f2)) ∧ Za (Kd.C (Kd.slice 3 (Kd.int .i64)) w' A760_5 ((Zah t748 x4_1).f5).length ((Zah t748 x4_1).f5)) ∧ Za (Below w.heap.size w w'))
     case atStart => exact ⟨(0), (by first | rfl | (simp; done) | (simp [*]; done)), H', ⟨Nat.le_refl _⟩, ⟨by (with_reducible repeat (first | apply Kd.Zat | apply Kd.Zau | apply Kd.Zaz)); exact HO_5.out⟩, ⟨by (with_reducible repeat (first | apply Kd.Zbj | apply Kd.Zbk | apply Kd.Zbr)); exact HO_745000.out⟩, ⟨by (with_reducible repeat (first | apply Kd.Zat | apply Kd.Zau | apply Kd.Zaz)); exact HO_745001.out⟩, ⟨by (with_reducible repeat (first | apply Kd.Zat | apply Kd.Zau | apply Kd.Zaz)); exact HO_745003.out⟩, ⟨by (with_reducible repeat (first | apply Kd.Zat | apply Kd.Zau | apply Kd.Zaz)); exact HO_745004.out⟩, ⟨by (with_reducible repeat (first | refine Zag ?_ _ | refine Zai ?_ | refine Zae ?_ _)); exact BK744.out⟩, ⟨by repeat (first | (with_reducible exact HR760_1.out) | (with_reducible refine Kd.C_alloc ?_ _) | (with_reducible refine Kd.Zaw ?_ _) | (with_reducible refine Kd.C_drew ?_) | exact HR760_1.out)⟩, ⟨by repeat (first | (with_reducible exact HR760_2.out) | (with_reducible refine Kd.C_alloc ?_ _) | (with_reducible refine Kd.Zaw ?_ _) | (with_reducible refine Kd.C_drew ?_) | exact HR760_2.out)⟩, ⟨by repeat (first | (with_reducible exact HR760_5.out) | (with_reducible refine Kd.C_alloc ?_ _) | (with_reducible refine Kd.Zaw ?_ _) | (with_reducible refine Kd.C_drew ?_) | exact HR760_5.out)⟩, ⟨by repeat (first | (with_reducible first | exact HB.out | apply Zab | apply Zaa | apply Zad | refine Zac ?_ GE744.out) | exact HB.out)⟩⟩
     case round =>
      clear H'
      try clear c1
      try clear c2
      try clear p2
      try clear c3
      try clear p6
      try clear c7
      try clear p7
      try clear q7
      try clear hx7
      try clear c8
      try clear c13
      try clear c13b0
      try clear c14
      try clear c14b0
      try clear c18
      try clear c18b0
      try clear c19
      try clear c19b0
      try clear c20
      try clear c20b0
      try clear c22
      try clear c22b0
      try clear c23
      try clear c23b0
      try clear c24
      try clear c24b0
      try clear c25
      try clear c25b0
      try clear c25b1
      try clear c25b2
      try clear c26
      try clear c26b0
      try clear c27
      try clear c27b0
      try clear c31
      try clear c31b0
      try clear c31b1
      try clear c31b2
      try clear c32
      try clear c32b0
      try clear c33
      try clear c33b0
      try clear c34
      try clear c34b0
      try clear hcz16_0
      try clear hcz16_1
      try clear hcz16_2
      try clear hcz16_3
      try clear hcz16_4
      try clear hcz29_0
      try clear hcz29_1
      try clear hcz29_2
      try clear hcz29_3
      try clear hcz29_4
      try clear hcz36_0
      try clear hcz36_1
      try clear hcz36_2
      try clear hcz36_3
      try clear hcz36_4
      try clear hcz5_0
      try clear hcz5_1
      try clear hcz5_2
      try clear hcz5_3
      try clear hcz5_4
      try clear hcz8_0
      try clear hcz8_1
      try clear hcz8_2
      try clear hcz8_3
      try clear hcz8_4
      try clear hfz16_0
      try clear hfz16_1
      try clear hfz16_2
      try clear hfz16_3
      try clear hfz16_4
      try clear hfz29_0
      try clear hfz29_1
      try clear hfz29_2
      try clear hfz29_3
      try clear hfz29_4
      try clear hfz36_0
      try clear hfz36_1
      try clear hfz36_2
      try clear hfz36_3
      try clear hfz36_4
      try clear hfz5_0
      try clear hfz5_1
      try clear hfz5_2
      try clear hfz5_3
      try clear hfz5_4
      try clear hfz8_0
      try clear hfz8_1
      try clear hfz8_2
      try clear hfz8_3
      try clear hfz8_4
      try clear hx760_0
      try clear hx760_1
      try clear hx760_2
      try clear hx760_3
      try clear hx760_4
      try clear hx760_5
      try clear hx760_6
      try clear hx764_0
      try clear hx765_0
      try clear hx766_0
      try clear hx767_0
      try clear hx768_0
      try clear hx769_0
      try clear p2
      try clear p7
      try clear p760
      try clear p764
      try clear p765
      try clear p766
      try clear p767
      try clear p768
      try clear p769
      try clear q7
      try clear q760
      try clear q764
      try clear q765
      try clear q766
      try clear q767
      try clear q768
      try clear q769
      obtain ⟨x7_3, rfl, HA, HK3, HO_5, HO_745000, HO_745001, HO_745003, HO_745004, BK744, HR760_1, HR760_2, HR760_5, HB⟩ := hrel
      cases gk with
      | zero => exact absurd HA.out (by simp [Zam.l2])
      | succ k3 =>
       have H := HA.out
       clear HA
       simp only [Zam.l2] at H
       by_cases c39 : 0 ≤ x4_1
       rotate_left
       ·rw [if_neg c39] at H
        exact absurd H (by simp)
       rw [if_pos c39] at H
       have c39b0 : decide (0 ≤ x4_1) = true := decide_eq_true c39
       clear c39
       by_cases c40 : x4_1 < (t748.length : Int)
       rotate_left
       ·rw [if_neg c40] at H
        exact absurd H (by simp)
       rw [if_pos c40] at H
       have c40b0 : decide (x4_1 < (t748.length : Int)) = true := decide_eq_true c40
       clear c40
       by_cases c41 : x7_3 < (((Zah t748 x4_1).f1).length : Int)
       rotate_left
       ·rw [if_neg c41] at H
        have c41b0 : decide (x7_3 < (((Zah t748 x4_1).f1).length : Int)) = false := decide_eq_false c41
        clear c41
        have H' := Za.mk H
        clear H
        obtain ⟨hcz46_0, hcz46_1, hcz46_2, hcz46_3, hcz46_4, hfz46_0, hfz46_1, hfz46_2, hfz46_3, hfz46_4⟩ := Zde BK744.out
        have p770 : 0 ≤ (x4_1 : Int) := of_decide_eq_true (by first | (with_reducible assumption) | assumption)
        have q770 : x4_1 < (t748.length : Int) := of_decide_eq_true (by first | (with_reducible assumption) | assumption)
        obtain ⟨ad770, A770_1, c770_1, A770_2, c770_2, A770_5, c770_5, e770, hx770_0, hx770_1, hx770_2, hx770_3, hx770_4, hx770_5, hx770_6, hl770_1, hi770_1, hl770_2, hi770_2, hl770_5, hi770_5⟩ := Zeg (Kd.Za0 HO_745001.out).2.2 x4_1 p770 q770
        obtain rfl : ad760 = ad770 := (by injection e770)
        obtain ⟨ce770, hce770, hMe770, hcc770⟩ := Kd.R_get HO_745001.out z31 x4_1 p770 (by first | exact q770 | exact of_decide_eq_true (by first | (with_reducible assumption) | assumption) | (have e_ := (Kd.Za0 HO_745001.out).1; omega))
        obtain ⟨ve770_1, ve770_2, ve770_5, rfl, ge770_1, ge770_2, ge770_5⟩ := Zet hMe770
        have hv770_1 := hcc770 1 _ rfl
        rw [Zb9 _ _ 1 (by omega)] at hv770_1
        replace hv770_1 := Option.some.inj (hv770_1.symm.trans hx770_1)
        rw [hv770_1] at ge770_1
        have HL770_1 := Za.mk (show Kd.R (Kd.int .i64) 3 _ _ _ _ ((Zah t748 x4_1).f1) from ge770_1)
        clear hv770_1 ge770_1
        have hv770_2 := hcc770 2 _ rfl
        rw [Zb9 _ _ 2 (by omega)] at hv770_2
        replace hv770_2 := Option.some.inj (hv770_2.symm.trans hx770_2)
        rw [hv770_2] at ge770_2
        have HL770_2 := Za.mk (show Kd.R (Kd.int .i64) 3 _ _ _ _ ((Zah t748 x4_1).f2) from ge770_2)
        clear hv770_2 ge770_2
        have hv770_5 := hcc770 5 _ rfl
        rw [Zb9 _ _ 5 (by omega)] at hv770_5
        replace hv770_5 := Option.some.inj (hv770_5.symm.trans hx770_5)
        rw [hv770_5] at ge770_5
        have HL770_5 := Za.mk (show Kd.R (Kd.slice 3 (Kd.int .i64)) 24 _ _ _ _ ((Zah t748 x4_1).f5) from ge770_5)
        clear hv770_5 ge770_5
        clear hcc770 hce770
        have HR770_1 := Za.mk hi770_1
        have HC770_1 := Za.mk hl770_1
        clear hi770_1 hl770_1
        have HR770_2 := Za.mk hi770_2
        have HC770_2 := Za.mk hl770_2
        clear hi770_2 hl770_2
        have HR770_5 := Za.mk hi770_5
        have HC770_5 := Za.mk hl770_5
        clear hi770_5 hl770_5
        replace p770 := eq_true p770
        replace q770 := eq_true q770
        go_wp2
        repeat (go_quiet (fail); try go_wp2)
        go_roundg k3
        case measure => have := HK1.out; have := HK2.out; have := HK3.out; omega
        case rel => exact ⟨(wrap64 (x4_1 + 1)), (by first | rfl | (simp; done) | (simp [*]; done)), H', ⟨by have := HK1.out; have := HK2.out; have := HK3.out; omega⟩, ⟨by (with_reducible repeat (first | apply Kd.Zbj | apply Kd.Zbk | apply Kd.Zbr)); exact HO_745000.out⟩, ⟨by (with_reducible repeat (first | apply Kd.Zat | apply Kd.Zau | apply Kd.Zaz)); exact Kd.Za2 HO_745001.out (fun _ hk => ⟨hk.2.1, hk.2.2⟩)⟩, ⟨by (with_reducible repeat (first | apply Kd.Zat | apply Kd.Zau | apply Kd.Zaz)); exact Kd.Za2 HO_745003.out (fun _ hk => hk.2)⟩, ⟨by (with_reducible repeat (first | apply Kd.Zat | apply Kd.Zau | apply Kd.Zaz)); exact Kd.Za2 HO_745004.out (fun _ hk => hk.2)⟩, ⟨by (with_reducible repeat (first | refine Zag ?_ _ | refine Zai ?_ | refine Zae ?_ _)); exact BK744.out⟩, ⟨by repeat (first | (with_reducible first | exact HB.out | apply Zab | apply Zaa | apply Zad | refine Zac ?_ GE744.out) | exact HB.out)⟩⟩
       rw [if_pos c41] at H
       have c41b0 : decide (x7_3 < (((Zah t748 x4_1).f1).length : Int)) = true := decide_eq_true c41
       clear c41
       by_cases c42 : 0 ≤ x7_3
       rotate_left
       ·rw [if_neg c42] at H
        exact absurd H (by simp)
       rw [if_pos c42] at H
       have c42b0 : decide (0 ≤ x7_3) = true := decide_eq_true c42
       clear c42
       replace H := Option.bind_eq_some_iff.mp H
       obtain ⟨t773, A430, H⟩ := H
       replace H : (if t773 = true then (Zam.l2 k3 (t758 == 0) x4_1 t761 (wrap64 (x7_3 + 1)) t745 t748 t751 t752 t755) else (none)) = some r := H
       have A43 := Za.mk A430
       clear A430
       by_cases c44 : t773 = true
       rotate_left
       ·replace c44 := Bool.eq_false_iff.mpr c44
        subst c44
        have H1 : (none) = some r := by rw [if_neg (show ¬ (false = true) by decide)] at H; exact H
        clear H
        have H := H1
        clear H1
        exact absurd H (by simp)
       subst c44
       have H1 : (Zam.l2 k3 (t758 == 0) x4_1 t761 (wrap64 (x7_3 + 1)) t745 t748 t751 t752 t755) = some r := by rw [if_pos rfl] at H; exact H
       clear H
       have H := H1
       clear H1
       have H' := Za.mk H
       clear H
       obtain ⟨hcz45_0, hcz45_1, hcz45_2, hcz45_3, hcz45_4, hfz45_0, hfz45_1, hfz45_2, hfz45_3, hfz45_4⟩ := Zde BK744.out
       have p770 : 0 ≤ (x4_1 : Int) := of_decide_eq_true (by first | (with_reducible assumption) | assumption)
       have q770 : x4_1 < (t748.length : Int) := of_decide_eq_true (by first | (with_reducible assumption) | assumption)
       obtain ⟨ad770, A770_1, c770_1, A770_2, c770_2, A770_5, c770_5, e770, hx770_0, hx770_1, hx770_2, hx770_3, hx770_4, hx770_5, hx770_6, hl770_1, hi770_1, hl770_2, hi770_2, hl770_5, hi770_5⟩ := Zeg (Kd.Za0 HO_745001.out).2.2 x4_1 p770 q770
       obtain rfl : ad760 = ad770 := (by injection e770)
       obtain ⟨ce770, hce770, hMe770, hcc770⟩ := Kd.R_get HO_745001.out z31 x4_1 p770 (by first | exact q770 | exact of_decide_eq_true (by first | (with_reducible assumption) | assumption) | (have e_ := (Kd.Za0 HO_745001.out).1; omega))
       obtain ⟨ve770_1, ve770_2, ve770_5, rfl, ge770_1, ge770_2, ge770_5⟩ := Zet hMe770
       have hv770_1 := hcc770 1 _ rfl
       rw [Zb9 _ _ 1 (by omega)] at hv770_1
       replace hv770_1 := Option.some.inj (hv770_1.symm.trans hx770_1)
       rw [hv770_1] at ge770_1
       have HL770_1 := Za.mk (show Kd.R (Kd.int .i64) 3 _ _ _ _ ((Zah t748 x4_1).f1) from ge770_1)
       clear hv770_1 ge770_1
       have hv770_2 := hcc770 2 _ rfl
       rw [Zb9 _ _ 2 (by omega)] at hv770_2
       replace hv770_2 := Option.some.inj (hv770_2.symm.trans hx770_2)
       rw [hv770_2] at ge770_2
       have HL770_2 := Za.mk (show Kd.R (Kd.int .i64) 3 _ _ _ _ ((Zah t748 x4_1).f2) from ge770_2)
       clear hv770_2 ge770_2
       have hv770_5 := hcc770 5 _ rfl
       rw [Zb9 _ _ 5 (by omega)] at hv770_5
       replace hv770_5 := Option.some.inj (hv770_5.symm.trans hx770_5)
       rw [hv770_5] at ge770_5
       have HL770_5 := Za.mk (show Kd.R (Kd.slice 3 (Kd.int .i64)) 24 _ _ _ _ ((Zah t748 x4_1).f5) from ge770_5)
       clear hv770_5 ge770_5
       clear hcc770 hce770
       have HR770_1 := Za.mk hi770_1
       have HC770_1 := Za.mk hl770_1
       clear hi770_1 hl770_1
       have HR770_2 := Za.mk hi770_2
       have HC770_2 := Za.mk hl770_2
       clear hi770_2 hl770_2
       have HR770_5 := Za.mk hi770_5
       have HC770_5 := Za.mk hl770_5
       clear hi770_5 hl770_5
       replace p770 := eq_true p770
       replace q770 := eq_true q770
       have p771 : 0 ≤ (x4_1 : Int) := of_decide_eq_true (by first | (with_reducible assumption) | assumption)
       have q771 : x4_1 < (t748.length : Int) := of_decide_eq_true (by first | (with_reducible assumption) | assumption)
       obtain ⟨ad771, A771_1, c771_1, A771_2, c771_2, A771_5, c771_5, e771, hx771_0, hx771_1, hx771_2, hx771_3, hx771_4, hx771_5, hx771_6, hl771_1, hi771_1, hl771_2, hi771_2, hl771_5, hi771_5⟩ := Zeg (Kd.Za0 HO_745001.out).2.2 x4_1 p771 q771
       obtain rfl : ad760 = ad771 := (by injection e771)
       obtain ⟨ce771, hce771, hMe771, hcc771⟩ := Kd.R_get HO_745001.out z31 x4_1 p771 (by first | exact q771 | exact of_decide_eq_true (by first | (with_reducible assumption) | assumption) | (have e_ := (Kd.Za0 HO_745001.out).1; omega))
       obtain ⟨ve771_1, ve771_2, ve771_5, rfl, ge771_1, ge771_2, ge771_5⟩ := Zet hMe771
       have hv771_1 := hcc771 1 _ rfl
       rw [Zb9 _ _ 1 (by omega)] at hv771_1
       replace hv771_1 := Option.some.inj (hv771_1.symm.trans hx771_1)
       rw [hv771_1] at ge771_1
       have HL771_1 := Za.mk (show Kd.R (Kd.int .i64) 3 _ _ _ _ ((Zah t748 x4_1).f1) from ge771_1)
       clear hv771_1 ge771_1
       have hv771_2 := hcc771 2 _ rfl
       rw [Zb9 _ _ 2 (by omega)] at hv771_2
       replace hv771_2 := Option.some.inj (hv771_2.symm.trans hx771_2)
       rw [hv771_2] at ge771_2
       have HL771_2 := Za.mk (show Kd.R (Kd.int .i64) 3 _ _ _ _ ((Zah t748 x4_1).f2) from ge771_2)
       clear hv771_2 ge771_2
       have hv771_5 := hcc771 5 _ rfl
       rw [Zb9 _ _ 5 (by omega)] at hv771_5
       replace hv771_5 := Option.some.inj (hv771_5.symm.trans hx771_5)
       rw [hv771_5] at ge771_5
       have HL771_5 := Za.mk (show Kd.R (Kd.slice 3 (Kd.int .i64)) 24 _ _ _ _ ((Zah t748 x4_1).f5) from ge771_5)
       clear hv771_5 ge771_5
       clear hcc771 hce771
       have HR771_1 := Za.mk hi771_1
       have HC771_1 := Za.mk hl771_1
       clear hi771_1 hl771_1
       have HR771_2 := Za.mk hi771_2
       have HC771_2 := Za.mk hl771_2
       clear hi771_2 hl771_2
       have HR771_5 := Za.mk hi771_5
       have HC771_5 := Za.mk hl771_5
       clear hi771_5 hl771_5
       replace p771 := eq_true p771
       replace q771 := eq_true q771
       have ea_ := Option.some.inj (hx770_1.symm.trans hx771_1)
       injection ea_ with ea_ en_ ec_
       subst ea_
       subst ec_
       clear en_
       have ea_ := Option.some.inj (hx770_2.symm.trans hx771_2)
       injection ea_ with ea_ en_ ec_
       subst ea_
       subst ec_
       clear en_
       have ea_ := Option.some.inj (hx770_5.symm.trans hx771_5)
       injection ea_ with ea_ en_ ec_
       subst ea_
       subst ec_
       clear en_
       have p772 : 0 ≤ (x7_3 : Int) := of_decide_eq_true (by first | (with_reducible assumption) | assumption)
       have q772 : x7_3 < (((Zah t748 x4_1).f1).length : Int) := of_decide_eq_true (by first | (with_reducible assumption) | assumption)
       obtain ⟨ad772, e772, hx772_0⟩ := Kd.Zcq (by repeat (first | (with_reducible exact HR771_1.out) | (with_reducible refine Kd.C_alloc ?_ _) | (with_reducible refine Kd.Zaw ?_ _) | (with_reducible refine Kd.C_drew ?_) | exact HR771_1.out)) x7_3 p772 q772
       cases e772
       replace p772 := eq_true p772
       replace q772 := eq_true q772
       go_wp2_with (first | (go_at_call 33; (with_reducible refine (Zbh.calls k3 _ _ t761 (rd ((Zah t748 x4_1).f1) x7_3) true _ ?side1 ?side2 A43.out).mono ?_); (case side1 => repeat (first | exact (Kd.Za0 HO_5.out).2.2 | (with_reducible refine Kd.C_alloc ?_ _) | (with_reducible refine Kd.Zaw ?_ _) | (with_reducible refine Kd.C_drew ?_))); (case side2 => exact (Kd.Za0 HO_5.out).2.1); rintro e w' ⟨rfl, ⟨nd, rfl⟩⟩; (try first | exact ⟨rfl, _, World.drewN_drewN _ _ _⟩ | exact ⟨rfl, _, Eq.trans (World.drewN_drewN _ _ _) (congrArg (World.drewN _) (Nat.add_assoc _ _ _))⟩)))
       repeat (go_quiet (first | (go_at_call 33; (with_reducible refine (Zbh.calls k3 _ _ t761 (rd ((Zah t748 x4_1).f1) x7_3) true _ ?side1 ?side2 A43.out).mono ?_); (case side1 => repeat (first | exact (Kd.Za0 HO_5.out).2.2 | (with_reducible refine Kd.C_alloc ?_ _) | (with_reducible refine Kd.Zaw ?_ _) | (with_reducible refine Kd.C_drew ?_))); (case side2 => exact (Kd.Za0 HO_5.out).2.1); rintro e w' ⟨rfl, ⟨nd, rfl⟩⟩; (try first | exact ⟨rfl, _, World.drewN_drewN _ _ _⟩ | exact ⟨rfl, _, Eq.trans (World.drewN_drewN _ _ _) (congrArg (World.drewN _) (Nat.add_assoc _ _ _))⟩))); try go_wp2_with (first | (go_at_call 33; (with_reducible refine (Zbh.calls k3 _ _ t761 (rd ((Zah t748 x4_1).f1) x7_3) true _ ?side1 ?side2 A43.out).mono ?_); (case side1 => repeat (first | exact (Kd.Za0 HO_5.out).2.2 | (with_reducible refine Kd.C_alloc ?_ _) | (with_reducible refine Kd.Zaw ?_ _) | (with_reducible refine Kd.C_drew ?_))); (case side2 => exact (Kd.Za0 HO_5.out).2.1); rintro e w' ⟨rfl, ⟨nd, rfl⟩⟩; (try first | exact ⟨rfl, _, World.drewN_drewN _ _ _⟩ | exact ⟨rfl, _, Eq.trans (World.drewN_drewN _ _ _) (congrArg (World.drewN _) (Nat.add_assoc _ _ _))⟩))))
       go_roundg k3
       case measure => have := HK1.out; have := HK2.out; have := HK3.out; omega
       case rel => exact ⟨(wrap64 (x7_3 + 1)), (by first | rfl | (simp; done) | (simp [*]; done)), H', ⟨by have := HK1.out; have := HK2.out; have := HK3.out; omega⟩, ⟨by (with_reducible repeat (first | apply Kd.Zat | apply Kd.Zau | apply Kd.Zaz)); exact HO_5.out⟩, ⟨by (with_reducible repeat (first | apply Kd.Zbj | apply Kd.Zbk | apply Kd.Zbr)); exact HO_745000.out⟩, ⟨by (with_reducible repeat (first | apply Kd.Zat | apply Kd.Zau | apply Kd.Zaz)); exact HO_745001.out⟩, ⟨by (with_reducible repeat (first | apply Kd.Zat | apply Kd.Zau | apply Kd.Zaz)); exact HO_745003.out⟩, ⟨by (with_reducible repeat (first | apply Kd.Zat | apply Kd.Zau | apply Kd.Zaz)); exact HO_745004.out⟩, ⟨by (with_reducible repeat (first | refine Zag ?_ _ | refine Zai ?_ | refine Zae ?_ _)); exact BK744.out⟩, ⟨by repeat (first | (with_reducible exact HR760_1.out) | (with_reducible refine Kd.C_alloc ?_ _) | (with_reducible refine Kd.Zaw ?_ _) | (with_reducible refine Kd.C_drew ?_) | exact HR760_1.out)⟩, ⟨by repeat (first | (with_reducible exact HR760_2.out) | (with_reducible refine Kd.C_alloc ?_ _) | (with_reducible refine Kd.Zaw ?_ _) | (with_reducible refine Kd.C_drew ?_) | exact HR760_2.out)⟩, ⟨by repeat (first | (with_reducible exact HR760_5.out) | (with_reducible refine Kd.C_alloc ?_ _) | (with_reducible refine Kd.Zaw ?_ _) | (with_reducible refine Kd.C_drew ?_) | exact HR760_5.out)⟩, ⟨by repeat (first | (with_reducible first | exact HB.out | apply Zab | apply Zaa | apply Zad | refine Zac ?_ GE744.out) | exact HB.out)⟩⟩
end Go.Proofs.Ytkgjaklnbgdmiaa.P
/- secateurlaw04.ModelUses: a constraint's variables rise, each once; of a right one they are variables of the model. -/
namespace Go.Proofs.Ytkgjaklnbgdmiaa.P
open Go.RowKit Go.Proofs.YtkgjaklnbgdmiaaW.PrintWords Go.Proofs.YtkgjaklnbgdmiaaW.PrintLast Go.Proofs.YtkgjaklnbgdmiaaW.PrintMore
set_option linter.unusedVariables false
set_option linter.unusedSimpArgs false
def usesC (c : S31) : List Int := sd (if c.f0 = 4 then c.f1 ++ [c.f6] else c.f1)
theorem usesC_f (c : S31) (h : c.f1.length ≤ 14) : Zcp.f c.f0 c.f1 c.f2 c.f3 c.f4 c.f5 c.f6 = some (usesC c) := by
  unfold Zcp.f
  rw [if_pos (by omega)]
  rfl
theorem mem_usesC (c : S31) (x : Int) : x ∈ usesC c ↔ x ∈ c.f1 ∨ (c.f0 = 4 ∧ x = c.f6) := by
  unfold usesC
  rw [mem_sd]
  by_cases h : c.f0 = 4
  · rw [if_pos h]; simp [h]
  rw [if_neg h]; simp [h]
theorem Zf (c : S31) (h : c.f1.length ≤ 14) : (usesC c).length ≤ 15 := by
  unfold usesC
  refine Nat.le_trans (sd_length _) ?_
  split
  · simp; omega
  omega
section
variable (R : Bool) (V : List S50) (cons : List S31) (gk : Int) (gv gc : List Int)
theorem uses_l2 (i : Nat) (hi : i < cons.length) (hil : cons.length ≤ 1000000) (u : List Int) (hu : u.length ≤ 15) (hm : ∀ x ∈ cons[i].f1, x ∈ u) (hl : cons[i].f1.length ≤ 14)
    (next : Ev (fun k => Zam.l0 k R ((i + 1 : Nat) : Int) V cons gk gv gc) true) : ∀ (d n : Nat), n + d = cons[i].f1.length → Ev (fun k => Zam.l2 k R (i : Int) u (n : Int) V cons gk gv gc) true
  | 0, n, h => by
    have hrd : Zah cons (i : Int) = cons[i] := by simp [Zah, List.getD_eq_getElem?_getD, List.getElem?_eq_getElem hi]
    exact Ev.step (fun k => by rw [Zam.l2, if_pos (by omega), if_pos (by omega), hrd, if_neg (by omega), w1 (by omega)]) next
  | d + 1, n, h => by
    have hn : n < cons[i].f1.length := by omega
    have hrd : Zah cons (i : Int) = cons[i] := by simp [Zah, List.getD_eq_getElem?_getD, List.getElem?_eq_getElem hi]
    have hx : rd cons[i].f1 (n : Int) = cons[i].f1[n] := Zgb _ n hn
    have ih := uses_l2 i hi hil u hu hm hl next d (n + 1) (by omega)
    have hh := ref_Has u cons[i].f1[n] (by omega)
    rw [decide_eq_true (hm _ (List.getElem_mem hn))] at hh
    refine Ev.step (fun k => by rw [Zam.l2, if_pos (by omega), if_pos (by omega), hrd, if_pos (by omega), if_pos (by omega), hx]) (Ev.bind hh (Ev.Zba rfl ?_))
    rw [w1 (by omega)]
    exact ih
theorem uses_l1 (i : Nat) (u : List Int) (hss : SS u) (hlen : u.length ≤ 15) (hr : R = true → ∀ x ∈ u, 0 ≤ x ∧ x < (V.length : Int))
    (next : Ev (fun k => Zam.l2 k R (i : Int) u 0 V cons gk gv gc) true) : ∀ (d n : Nat), n + d = u.length → Ev (fun k => Zam.l1 k R (i : Int) u (n : Int) V cons gk gv gc) true
  | 0, n, h => Ev.step (fun k => by rw [Zam.l1, if_neg (by omega)]) next
  | d + 1, n, h => by
    have hn : n < u.length := by omega
    have hx : rd u (n : Int) = u[n] := Zgb _ n hn
    have ih := uses_l1 i u hss hlen hr next d (n + 1) (by omega)
    have hin : R = true → 0 ≤ u[n] ∧ u[n] < (V.length : Int) := fun e => hr e _ (List.getElem_mem hn)
    by_cases hp : 0 < n
    rotate_left
    · refine Ev.step (fun k => by rw [Zam.l1, if_pos (by omega), if_neg (by omega), hx]) ?_
      rw [w1 (by omega)]
      by_cases hR : R = true
      rotate_left
      · exact Ev.Zbm hR ih
      have := hin hR
      exact Ev.Zba hR (Ev.Zba (by omega) (Ev.Zbm (by omega) (Ev.Zbm (by omega) ih)))
    have hw : wrap64 ((n : Int) - 1) = ((n - 1 : Nat) : Int) := by rw [w64 (by omega) (by omega)]; omega
    have hx1 : rd u ((n - 1 : Nat) : Int) = u[n - 1] := Zgb _ _ (by omega)
    have hlt : u[n - 1] < u[n] := mem_le_of_ss hss (by omega) hn (by omega)
    refine Ev.step (fun k => by rw [Zam.l1, if_pos (by omega), if_pos (by omega), if_pos (by omega), hw, if_pos (by omega), if_pos (by omega), hx, hx1, if_neg (by omega)]) ?_
    rw [w1 (by omega)]
    by_cases hR : R = true
    rotate_left
    · exact Ev.Zbm hR ih
    have := hin hR
    exact Ev.Zba hR (Ev.Zbm (by omega) (Ev.Zbm (by omega) ih))
theorem uses_l0 (hil : cons.length ≤ 1000000) (hs : ∀ c ∈ cons, c.f1.length ≤ 14) (hr : R = true → ∀ c ∈ cons, ∀ x ∈ usesC c, 0 ≤ x ∧ x < (V.length : Int)) : ∀ (d i : Nat), i + d = cons.length → Ev (fun k => Zam.l0 k R (i : Int) V cons gk gv gc) true
  | 0, i, h => Ev.step (G := fun k => (Zbg.f k).bind fun t => some t) (fun k => by rw [Zam.l0, if_neg (by omega)]) (Ev.const rfl)
  | d + 1, i, h => by
    have hi : i < cons.length := by omega
    have hrd : Zah cons (i : Int) = cons[i] := by simp [Zah, List.getD_eq_getElem?_getD, List.getElem?_eq_getElem hi]
    have hmem := List.getElem_mem hi
    have h14 := hs _ hmem
    have ih := uses_l0 hil hs hr d (i + 1) (by omega)
    refine Ev.step (fun k => by rw [Zam.l0, if_pos (by omega), if_pos (by omega), hrd, usesC_f _ h14]) (Ev.bind (a := usesC cons[i]) (Ev.const rfl) ?_)
    exact uses_l1 R V cons gk gv gc i (usesC cons[i]) (sd_ss _) (Zf _ h14) (fun e x hx => hr e _ hmem x hx)
      (uses_l2 R V cons gk gv gc i hi hil (usesC cons[i]) (Zf _ h14) (fun x hx => (mem_usesC _ x).2 (.inl hx)) h14 ih cons[i].f1.length 0 (by omega)) (usesC cons[i]).length 0 (by omega)
end
theorem away_in {n : Nat} {x : Int} (h : awayV n x = false) : 0 ≤ x ∧ x < (n : Int) := by
  unfold awayV at h
  simp only [Bool.or_eq_false_iff, decide_eq_false_iff_not] at h
  omega
theorem uses_in {d : List (List Rg)} {c : S31} (h : conC d c = 0) : ∀ x ∈ usesC c, 0 ≤ x ∧ x < (d.length : Int) := by
  intro x hx
  obtain ⟨h1, h2⟩ := conE_ok h
  rcases (mem_usesC c x).1 hx with hx | ⟨h4, rfl⟩
  · exact away_in (Bool.eq_false_iff.2 (fun e => Bool.eq_false_iff.1 h1 (List.any_eq_true.2 ⟨x, hx, e⟩)))
  exact away_in (h2 h4)
theorem law_ModelUses (A0 : Option Addr) (c0 : Nat) (x0 : List S50) (A1 : Option Addr) (c1 : Nat) (x1 : List S31) (x2 : Int) (A3 : Option Addr) (c3 : Nat) (x3 : List Int) (A4 : Option Addr) (c4 : Nat) (x4 : List Int) (W : World)
    (hC0 : Kd.C k50 W A0 x0.length x0) (hc0 : x0.length ≤ c0) (ok0 : List.length x0 * 40 ≤ 140737488351232 ∧ ∀ v ∈ x0, VarOk v) (hC1 : Kd.C k31 W A1 x1.length x1) (hc1 : x1.length ≤ c1) (ok1 : List.length x1 * 104 ≤ 140737488351232 ∧ ∀ c ∈ x1, ConOk c) (ok2 : (Lit.int .i64 x2).wf = true)
    (hC3 : Kd.C (Kd.int .i64) W A3 x3.length x3) (hc3 : x3.length ≤ c3) (ok3 : List.length x3 * 8 ≤ 140737488351232 ∧ ∀ y ∈ x3, (Lit.int .i64 y).wf = true) (hC4 : Kd.C (Kd.int .i64) W A4 x4.length x4) (hc4 : x4.length ≤ c4) (ok4 : List.length x4 * 8 ≤ 140737488351232 ∧ ∀ y ∈ x4, (Lit.int .i64 y).wf = true) :
    Calls Try.prog 8 #[.agg #[.slice A0 x0.length c0, .slice A1 x1.length c1, .int .i64 x2, .slice A3 x3.length c3, .slice A4 x4.length c4]] W fun e W' => e = .returned (.bool true) ∧ Below W.heap.size W W' := by
  have hE : Ev (fun k => Zam.f k x0 x1 x2 x3 x4) true := by
    unfold Zam.f
    refine Ev.bind (bound_ev x0 x1 x2 x3 x4) (Ev.bind (check_evB (bV x0) (bC x1) x2 (x3.take 14) (x4.take 14) bV_dom6 (okC_bC ok1.2) (take14 x3) (take14 x4) (take14w ok4.2)) ?_)
    have h16 := bC_length x1
    refine uses_l0 _ (bV x0) (bC x1) x2 (x3.take 14) (x4.take 14) (by omega) (fun c hc => (bC_small c hc).1) (fun e c hc x hx => ?_) (bC x1).length 0 (by omega)
    have := uses_in (chkE_ok (eq_of_beq e) c hc) x hx
    unfold domsOf at this
    rwa [List.length_map] at this
  obtain ⟨k, hk⟩ := hE.out
  exact Zam.calls k A0 c0 x0 A1 c1 x1 x2 A3 c3 x3 A4 c4 x4 true W hC0 hc0 hC1 hc1 hC3 hc3 hC4 hc4 hk
end Go.Proofs.Ytkgjaklnbgdmiaa.P
/- What a datum of a statement's arguments holds: a number, a text, a row, a struct, whatever is nested: its cells read as a value of the kind; and how long its rows are at most (by the weight of the whole). -/
namespace Go.Proofs.Ytkgjaklnbgdmiaa.P
open Go.RowKit Go.ChangeShapes Go.WideShapes Go.Proofs.YtkgjaklnbgdmiaaW.PrintWords
set_option linter.unusedVariables false
structure OpensZ {α : Type} (P : Program) (d : Kd α) (ok : α → Prop) (t : TypeId) : Prop where
  out : ∀ {H : Type} (enc : TypeId × Value → H) (w : World) (base : Nat) (sp : Nat → Bool) (held : Bool) (fuel : Nat) (cs : List Value) (x : DataW H × List MemPlace),
    DataW.trod enc P w base sp held fuel t cs = some x → (∀ n ∈ x.1.weights P t, n ≤ reachBytes) → ∃ v : α, d.K w v cs ∧ ok v
theorem OpensZ.int {P : Program} {t : TypeId} {k : IntKind} (ht : P.underlying t = some (.int k)) : OpensZ P (Kd.int k) (fun n => (Lit.int k n).wf = true) t := by
  refine ⟨?_⟩
  intro H enc w base sp held fuel cs x h hz
  obtain ⟨n, rfl, rfl, hw⟩ := DataW.trod_int ht h
  exact ⟨n, rfl, hw⟩
theorem OpensZ.bool {P : Program} {t : TypeId} (ht : P.underlying t = some .bool) : OpensZ P Kd.bool (fun _ => True) t := by
  refine ⟨?_⟩
  intro H enc w base sp held fuel cs x h hz
  obtain ⟨b, rfl, rfl⟩ := DataW.trod_bool ht h
  exact ⟨b, rfl, trivial⟩
theorem OpensZ.string {P : Program} {t : TypeId} (ht : P.underlying t = some .string) : OpensZ P Kd.string (fun s => s.size ≤ maxLen) t := by
  refine ⟨?_⟩
  intro H enc w base sp held fuel cs x h hz
  obtain ⟨s, rfl, rfl, hs⟩ := DataW.trod_string ht h
  exact ⟨s, rfl, hs⟩
theorem OpensZ.iso {α β : Type} {P : Program} {d : Kd α} {ok : α → Prop} {t : TypeId} (h : OpensZ P d ok t) (f : β → α) (g : α → β) (hfg : ∀ a, f (g a) = a) : OpensZ P (Kd.iso d f) (fun b => ok (f b)) t := by
  refine ⟨?_⟩
  intro H enc w base sp held fuel cs x hx hz
  obtain ⟨v, hK, hok⟩ := h.out enc w base sp held fuel cs x hx hz
  exact ⟨g v, by show d.K w (f (g v)) cs; rw [hfg]; exact hK, by show ok (f (g v)); rw [hfg]; exact hok⟩
theorem Zew {H : Type} {P : Program} {t e : TypeId} (ht : P.underlying t = some (.slice e)) {el sp : List (DataW H)} : (DataW.slice el sp : DataW H).weights P t = (el.length + sp.length) * P.bytesOf e :: (DataW.weightsAll P e el ++ DataW.weightsAll P e sp) := by simp [DataW.weights, ht]
theorem weights_agg {H : Type} {P : Program} {t : TypeId} {fs : Array Field} (ht : P.underlying t = some (.struct fs)) {ps : List (DataW H)} : (DataW.agg ps : DataW H).weights P t = DataW.weightsEach P (fs.toList.map (·.type)) ps := by simp [DataW.weights, ht]
theorem Zeh {H : Type} {P : Program} {e : TypeId} {d : DataW H} : ∀ {l : List (DataW H)}, d ∈ l → ∀ {n : Nat}, n ∈ d.weights P e → n ∈ DataW.weightsAll P e l
  | x :: l, hd, n, hn => by
    simp only [DataW.weightsAll, List.mem_append]
    rcases List.mem_cons.1 hd with rfl | hd
    · exact .inl hn
    exact .inr (Zeh hd hn)
theorem choose_list {α : Type} {n : Nat} {R : Nat → α → Prop} (h : ∀ i, i < n → ∃ a, R i a) : ∃ l : List α, l.length = n ∧ ∀ i (hi : i < l.length), R i l[i] := by
  induction n with
  | zero => exact ⟨[], rfl, fun i hi => absurd hi (by simp)⟩
  | succ n ih =>
    obtain ⟨l, hl, hR⟩ := ih (fun i hi => h i (by omega))
    obtain ⟨a, ha⟩ := h n (by omega)
    refine ⟨l ++ [a], by simp [hl], fun i hi => ?_⟩
    rcases Nat.lt_or_ge i l.length with hlt | hge
    · rw [List.getElem_append_left hlt]
      exact hR i hlt
    have : i = l.length := by simp at hi; omega
    subst this
    rw [List.getElem_append_right (by omega)]
    simpa [hl] using ha
theorem addr_add (a : Addr) (i j : Nat) : (a.add i).add j = a.add (i + j) := by
  by_cases h : i = 0
  · subst h; simp [Addr.add]
  by_cases h2 : j = 0
  · subst h2; simp [Addr.add]
  simp [Addr.add, h, h2, Nat.add_assoc]
theorem OpensZ.row {α : Type} {P : Program} {d : Kd α} {ok : α → Prop} {t e : TypeId} {B : Nat} (ht : P.underlying t = some (.slice e)) (hc : P.cellsOf e = d.sz) (hB : P.bytesOf e = B) (h : OpensZ P d ok e) :
    OpensZ P (Kd.slice e d) (fun l => l.length * B ≤ 140737488351232 ∧ ∀ x ∈ l, ok x) t := by
  refine ⟨?_⟩
  intro H enc w base sp held fuel cs x hx hz
  rcases Go.Deep.open_slice ht hx with ⟨rfl, rfl⟩ | ⟨a, len, cap, m, n, D, Pl, rfl, hb, hl, hm, hmm, rfl, he⟩
  · exact ⟨[], ⟨none, 0, rfl, Nat.le_refl _, rfl, by simp, fun h => absurd h (by simp)⟩, by simp, fun x hx => by simp at hx⟩
  have hlm : len ≤ m := by rw [hmm]; split <;> omega
  have each : ∀ i, i < len → ∃ v : α, ok v ∧ ∃ c, c.length = d.sz ∧ d.K w v c ∧ ∀ j u, c[j]? = some u → w.cell? (a.add (i * d.sz + j)) = some u := fun i hi => by
    obtain ⟨cs', h1, h2⟩ := he i (by omega)
    obtain ⟨v, hK, hok⟩ := h.out enc w base sp held n cs' _ h2 (fun q hq => hz q (by
      rw [Zew ht]
      refine List.mem_cons_of_mem _ (List.mem_append_left _ (Zeh (d := D i) (List.mem_map.2 ⟨i, List.mem_range.2 hi, rfl⟩) hq))))
    obtain ⟨_, hlen, hcell⟩ := World.cells?_some h1
    rw [hc] at hlen hcell
    refine ⟨v, hok, cs', hlen, hK, fun j u hu => ?_⟩
    have hj : j < d.sz := by rw [← hlen]; exact (List.getElem?_eq_some_iff.1 hu).1
    have := hcell j hj
    rw [hu] at this
    rw [← this, addr_add]
  obtain ⟨l, hll, hR⟩ := choose_list each
  have hmax : cap ≤ 9223372036854775807 := by unfold maxLen at hm; exact hm
  refine ⟨l, ⟨some a, cap, by rw [hll], by omega, rfl, by omega, fun _ => ⟨a, rfl, fun j p hp => ?_⟩⟩, ?_, fun x hx => ?_⟩
  · obtain ⟨hj, rfl⟩ := List.getElem?_eq_some_iff.1 hp
    obtain ⟨_, c, h1, h2, h3⟩ := hR j hj
    exact ⟨c, h1, h2, h3⟩
  · have h3 := hz ((len + (m - len)) * P.bytesOf e) (by rw [Zew ht]; simp)
    rw [hB] at h3
    rw [hll]
    exact Nat.le_trans (Nat.mul_le_mul_right _ (by omega)) h3
  obtain ⟨i, hi, rfl⟩ := List.mem_iff_getElem.1 hx
  exact (hR i hi).1
structure OpensZF {α : Type} (P : Program) (d : Kd α) (ok : α → Prop) (fs : List Field) (off : Nat) : Prop where
  out : ∀ {H : Type} (enc : TypeId × Value → H) (w : World) (base : Nat) (sp : Nat → Bool) (held : Bool) (fuel : Nat) (cs : List Value), cs.length = off + d.sz →
    (∀ f ∈ fs, ∃ x, DataW.trod enc P w base sp held fuel f.type ((cs.drop f.offset).take (P.cellsOf f.type)) = some x ∧ ∀ n ∈ x.1.weights P f.type, n ≤ reachBytes) → ∃ v : α, d.K w v (cs.drop off) ∧ ok v
theorem OpensZF.last {α : Type} {P : Program} {d : Kd α} {ok : α → Prop} {f : Field} {off : Nat} (ho : f.offset = off) (hc : P.cellsOf f.type = d.sz) (h : OpensZ P d ok f.type) : OpensZF P d ok [f] off := by
  refine ⟨?_⟩
  intro H enc w base sp held fuel cs hl hf
  obtain ⟨x, hx, hz⟩ := hf f (by simp)
  rw [ho, hc, List.take_of_length_le (by simp; omega)] at hx
  exact h.out enc w base sp held fuel _ x hx hz
theorem OpensZF.cons {α β : Type} {P : Program} {d : Kd α} {ok : α → Prop} {d' : Kd β} {ok' : β → Prop} {f : Field} {fs : List Field} {off : Nat} (ho : f.offset = off) (hc : P.cellsOf f.type = d.sz) (h : OpensZ P d ok f.type) (h' : OpensZF P d' ok' fs (off + d.sz)) :
    OpensZF P (Kd.pair d d') (fun z => ok z.1 ∧ ok' z.2) (f :: fs) off := by
  refine ⟨?_⟩
  intro H enc w base sp held fuel cs hl hf
  have hl' : cs.length = off + (d.sz + d'.sz) := hl
  obtain ⟨x, hx, hz⟩ := hf f (by simp)
  obtain ⟨v, hK, hok⟩ := h.out enc w base sp held fuel _ x hx hz
  obtain ⟨v', hK', hok'⟩ := h'.out enc w base sp held fuel cs (by omega) (fun g hg => hf g (List.mem_cons_of_mem _ hg))
  rw [ho, hc] at hK
  refine ⟨(v, v'), ⟨(cs.drop off).take d.sz, cs.drop (off + d.sz), ?_, hK, hK'⟩, hok, hok'⟩
  rw [← List.drop_drop, List.take_append_drop]
theorem OpensZ.struct {α : Type} {P : Program} {d : Kd α} {ok : α → Prop} {t : TypeId} {fs : List Field} (ht : P.underlying t = some (.struct fs.toArray)) (hc : P.cellsOf t = d.sz) (h : OpensZF P d ok fs 0) : OpensZ P d ok t := by
  refine ⟨?_⟩
  intro H enc w base sp held fuel cs x hx hz
  obtain ⟨xs, n, rfl, rfl, hl, hxl, hf⟩ := DataW.trod_struct ht hx
  have := h.out enc w base sp held n cs (by omega) (fun f hf' => by
    obtain ⟨i, hi, rfl⟩ := List.mem_iff_getElem.1 hf'
    have := hf i fs[i] (by simp [hi])
    have hix : i < xs.length := by simp at hxl; omega
    rw [List.getElem?_eq_getElem hix] at this
    refine ⟨xs[i], by simpa using this, fun q hq => hz q ?_⟩
    rw [weights_agg ht]
    exact DataW.weights_mem_each (j := i) (t := fs[i].type) (d := xs[i].1) (by simp [hi]) (by simp [hix]) q hq)
  simpa using this
theorem OpensZ.arg {α H : Type} {P : Program} {d : Kd α} {ok : List α → Prop} {e t : TypeId} (h : OpensZ P (Kd.slice e d) ok t) {enc : TypeId × Value → H} {w : World} {base : Nat} {sp : Nat → Bool} {held : Bool} {A : Option Addr} {len cap : Nat} {dt : DataW H} {ps : List MemPlace}
    (hT : DataW.Trod enc P w base sp held t (.slice A len cap) dt ps) (hz : ∀ n ∈ dt.weights P t, n ≤ reachBytes) : ∃ l : List α, l.length = len ∧ l.length ≤ cap ∧ d.C w A l.length l ∧ ok l := by
  obtain ⟨fuel, hf⟩ := hT
  obtain ⟨l, ⟨A', c, hcs, hl, hC⟩, hok⟩ := h.out enc w base sp held fuel _ _ hf hz
  simp [Value.cells] at hcs
  obtain ⟨rfl, rfl, rfl⟩ := hcs
  exact ⟨l, rfl, hl, hC, hok⟩
theorem each_weights {H : Type} {P : Program} {ts : List TypeId} {ds : List (DataW H)} (h : (DataW.weightsEach P ts ds).all (· ≤ reachBytes) = true) {j : Nat} {t : TypeId} {d : DataW H} (ht : ts[j]? = some t) (hd : ds[j]? = some d) : ∀ n ∈ d.weights P t, n ≤ reachBytes := fun n hn => by
  have := List.all_eq_true.1 h n (DataW.weights_mem_each ht hd n hn)
  simpa using this
end Go.Proofs.Ytkgjaklnbgdmiaa.P
namespace Go.Proofs.Ytkgjaklnbgdmiaa.modelUses
open Go.ChangeShapes Go.WideShapes Go.ChangeAt Go.RowKit
open Go.ChangeMaps (open_string shut_string)
open Go.Proofs.Ytkgjaklnbgdmiaa.P
open Go.Proofs.YtkgjaklnbgdmiaaW.PrintWords
set_option linter.unusedVariables false
theorem own : ownKnob Try.prog.godebug = none := by kernel_rfl
theorem laidOut : laidOutB Try.prog = true := by kernel_rfl
theorem o_string : OpensZ Try.prog Kd.string (fun s => ByteArray.size s ≤ maxLen) 9 := OpensZ.string Try.underlying9
theorem o_int : OpensZ Try.prog (Kd.int .i64) (fun n => (Lit.int .i64 n).wf = true) 3 := OpensZ.int Try.underlying3
set_option maxHeartbeats 2000000 in
theorem p_api_Range : OpensZ Try.prog (Kd.pair (Kd.int .i64) (Kd.int .i64)) (fun z => ((Lit.int .i64 (z).1).wf = true ∧ (Lit.int .i64 (z).2).wf = true)) 48 := by
 refine OpensZ.struct (d := (Kd.pair (Kd.int .i64) (Kd.int .i64))) Try.underlying48 (by kernel_rfl) ?_
 refine OpensZF.cons (d := (Kd.int .i64)) (ok := fun v_ : Int => (Lit.int .i64 v_).wf = true) (ok' := fun z_ : (Int) => (Lit.int .i64 z_).wf = true) (by kernel_rfl) (by kernel_rfl) o_int ?_
 exact OpensZF.last (d := (Kd.int .i64)) (ok := fun v_ : Int => (Lit.int .i64 v_).wf = true) (by kernel_rfl) (by kernel_rfl) o_int
theorem o_api_Range : OpensZ Try.prog k48 (fun b : S48 => ((Lit.int .i64 (b).f0).wf = true ∧ (Lit.int .i64 (b).f1).wf = true)) 48 := OpensZ.iso p_api_Range (fun x : S48 => (x.f0, x.f1)) (fun z => ⟨z.1, z.2⟩) (fun _ => rfl)
theorem o_Lapi_Range : OpensZ Try.prog (Kd.slice 48 k48) (fun l => (List.length l * 16 ≤ 140737488351232 ∧ ∀ y1_ ∈ l, ((Lit.int .i64 (y1_).f0).wf = true ∧ (Lit.int .i64 (y1_).f1).wf = true))) 37 := OpensZ.row Try.underlying37 (by kernel_rfl) (by kernel_rfl) o_api_Range
set_option maxHeartbeats 2000000 in
theorem p_api_Var : OpensZ Try.prog (Kd.pair Kd.string (Kd.slice 48 k48)) (fun z => (ByteArray.size (z).1 ≤ maxLen ∧ (List.length (z).2 * 16 ≤ 140737488351232 ∧ ∀ y1_ ∈ (z).2, ((Lit.int .i64 (y1_).f0).wf = true ∧ (Lit.int .i64 (y1_).f1).wf = true)))) 50 := by
 refine OpensZ.struct (d := (Kd.pair Kd.string (Kd.slice 48 k48))) Try.underlying50 (by kernel_rfl) ?_
 refine OpensZF.cons (d := Kd.string) (ok := fun v_ : ByteArray => ByteArray.size v_ ≤ maxLen) (ok' := fun z_ : ((List S48)) => (List.length z_ * 16 ≤ 140737488351232 ∧ ∀ y1_ ∈ z_, ((Lit.int .i64 (y1_).f0).wf = true ∧ (Lit.int .i64 (y1_).f1).wf = true))) (by kernel_rfl) (by kernel_rfl) o_string ?_
 exact OpensZF.last (d := (Kd.slice 48 k48)) (ok := fun v_ : (List S48) => (List.length v_ * 16 ≤ 140737488351232 ∧ ∀ y1_ ∈ v_, ((Lit.int .i64 (y1_).f0).wf = true ∧ (Lit.int .i64 (y1_).f1).wf = true))) (by kernel_rfl) (by kernel_rfl) o_Lapi_Range
theorem o_api_Var : OpensZ Try.prog k50 (fun b : S50 => (ByteArray.size (b).f0 ≤ maxLen ∧ (List.length (b).f1 * 16 ≤ 140737488351232 ∧ ∀ y1_ ∈ (b).f1, ((Lit.int .i64 (y1_).f0).wf = true ∧ (Lit.int .i64 (y1_).f1).wf = true)))) 50 := OpensZ.iso p_api_Var (fun x : S50 => (x.f0, x.f1)) (fun z => ⟨z.1, z.2⟩) (fun _ => rfl)
theorem o_Lapi_Var : OpensZ Try.prog (Kd.slice 50 k50) (fun l => (List.length l * 40 ≤ 140737488351232 ∧ ∀ y1_ ∈ l, (ByteArray.size (y1_).f0 ≤ maxLen ∧ (List.length (y1_).f1 * 16 ≤ 140737488351232 ∧ ∀ y2_ ∈ (y1_).f1, ((Lit.int .i64 (y2_).f0).wf = true ∧ (Lit.int .i64 (y2_).f1).wf = true))))) 22 := OpensZ.row Try.underlying22 (by kernel_rfl) (by kernel_rfl) o_api_Var
theorem o_Lint : OpensZ Try.prog (Kd.slice 3 (Kd.int .i64)) (fun l => (List.length l * 8 ≤ 140737488351232 ∧ ∀ y1_ ∈ l, (Lit.int .i64 y1_).wf = true)) 24 := OpensZ.row Try.underlying24 (by kernel_rfl) (by kernel_rfl) o_int
theorem o_LLint : OpensZ Try.prog (Kd.slice 24 (Kd.slice 3 (Kd.int .i64))) (fun l => (List.length l * 24 ≤ 140737488351232 ∧ ∀ y1_ ∈ l, (List.length y1_ * 8 ≤ 140737488351232 ∧ ∀ y2_ ∈ y1_, (Lit.int .i64 y2_).wf = true))) 29 := OpensZ.row Try.underlying29 (by kernel_rfl) (by kernel_rfl) o_Lint
set_option maxHeartbeats 2000000 in
theorem p_api_Con : OpensZ Try.prog (Kd.pair (Kd.int .i64) (Kd.pair (Kd.slice 3 (Kd.int .i64)) (Kd.pair (Kd.slice 3 (Kd.int .i64)) (Kd.pair (Kd.int .i64) (Kd.pair (Kd.int .i64) (Kd.pair (Kd.slice 24 (Kd.slice 3 (Kd.int .i64))) (Kd.int .i64))))))) (fun z => ((Lit.int .i64 (z).1).wf = true ∧ ((List.length ((z).2).1 * 8 ≤ 140737488351232 ∧ ∀ y1_ ∈ ((z).2).1, (Lit.int .i64 y1_).wf = true) ∧ ((List.length (((z).2).2).1 * 8 ≤ 140737488351232 ∧ ∀ y1_ ∈ (((z).2).2).1, (Lit.int .i64 y1_).wf = true) ∧ ((Lit.int .i64 ((((z).2).2).2).1).wf = true ∧ ((Lit.int .i64 (((((z).2).2).2).2).1).wf = true ∧ ((List.length ((((((z).2).2).2).2).2).1 * 24 ≤ 140737488351232 ∧ ∀ y1_ ∈ ((((((z).2).2).2).2).2).1, (List.length y1_ * 8 ≤ 140737488351232 ∧ ∀ y2_ ∈ y1_, (Lit.int .i64 y2_).wf = true)) ∧ (Lit.int .i64 ((((((z).2).2).2).2).2).2).wf = true))))))) 31 := by
 refine OpensZ.struct (d := (Kd.pair (Kd.int .i64) (Kd.pair (Kd.slice 3 (Kd.int .i64)) (Kd.pair (Kd.slice 3 (Kd.int .i64)) (Kd.pair (Kd.int .i64) (Kd.pair (Kd.int .i64) (Kd.pair (Kd.slice 24 (Kd.slice 3 (Kd.int .i64))) (Kd.int .i64)))))))) Try.underlying31 (by kernel_rfl) ?_
 refine OpensZF.cons (d := (Kd.int .i64)) (ok := fun v_ : Int => (Lit.int .i64 v_).wf = true) (ok' := fun z_ : ((List Int) × (List Int) × Int × Int × (List (List Int)) × Int) => ((List.length (z_).1 * 8 ≤ 140737488351232 ∧ ∀ y1_ ∈ (z_).1, (Lit.int .i64 y1_).wf = true) ∧ ((List.length ((z_).2).1 * 8 ≤ 140737488351232 ∧ ∀ y1_ ∈ ((z_).2).1, (Lit.int .i64 y1_).wf = true) ∧ ((Lit.int .i64 (((z_).2).2).1).wf = true ∧ ((Lit.int .i64 ((((z_).2).2).2).1).wf = true ∧ ((List.length (((((z_).2).2).2).2).1 * 24 ≤ 140737488351232 ∧ ∀ y1_ ∈ (((((z_).2).2).2).2).1, (List.length y1_ * 8 ≤ 140737488351232 ∧ ∀ y2_ ∈ y1_, (Lit.int .i64 y2_).wf = true)) ∧ (Lit.int .i64 (((((z_).2).2).2).2).2).wf = true)))))) (by kernel_rfl) (by kernel_rfl) o_int ?_
 refine OpensZF.cons (d := (Kd.slice 3 (Kd.int .i64))) (ok := fun v_ : (List Int) => (List.length v_ * 8 ≤ 140737488351232 ∧ ∀ y1_ ∈ v_, (Lit.int .i64 y1_).wf = true)) (ok' := fun z_ : ((List Int) × Int × Int × (List (List Int)) × Int) => ((List.length (z_).1 * 8 ≤ 140737488351232 ∧ ∀ y1_ ∈ (z_).1, (Lit.int .i64 y1_).wf = true) ∧ ((Lit.int .i64 ((z_).2).1).wf = true ∧ ((Lit.int .i64 (((z_).2).2).1).wf = true ∧ ((List.length ((((z_).2).2).2).1 * 24 ≤ 140737488351232 ∧ ∀ y1_ ∈ ((((z_).2).2).2).1, (List.length y1_ * 8 ≤ 140737488351232 ∧ ∀ y2_ ∈ y1_, (Lit.int .i64 y2_).wf = true)) ∧ (Lit.int .i64 ((((z_).2).2).2).2).wf = true))))) (by kernel_rfl) (by kernel_rfl) o_Lint ?_
 refine OpensZF.cons (d := (Kd.slice 3 (Kd.int .i64))) (ok := fun v_ : (List Int) => (List.length v_ * 8 ≤ 140737488351232 ∧ ∀ y1_ ∈ v_, (Lit.int .i64 y1_).wf = true)) (ok' := fun z_ : (Int × Int × (List (List Int)) × Int) => ((Lit.int .i64 (z_).1).wf = true ∧ ((Lit.int .i64 ((z_).2).1).wf = true ∧ ((List.length (((z_).2).2).1 * 24 ≤ 140737488351232 ∧ ∀ y1_ ∈ (((z_).2).2).1, (List.length y1_ * 8 ≤ 140737488351232 ∧ ∀ y2_ ∈ y1_, (Lit.int .i64 y2_).wf = true)) ∧ (Lit.int .i64 (((z_).2).2).2).wf = true)))) (by kernel_rfl) (by kernel_rfl) o_Lint ?_
 refine OpensZF.cons (d := (Kd.int .i64)) (ok := fun v_ : Int => (Lit.int .i64 v_).wf = true) (ok' := fun z_ : (Int × (List (List Int)) × Int) => ((Lit.int .i64 (z_).1).wf = true ∧ ((List.length ((z_).2).1 * 24 ≤ 140737488351232 ∧ ∀ y1_ ∈ ((z_).2).1, (List.length y1_ * 8 ≤ 140737488351232 ∧ ∀ y2_ ∈ y1_, (Lit.int .i64 y2_).wf = true)) ∧ (Lit.int .i64 ((z_).2).2).wf = true))) (by kernel_rfl) (by kernel_rfl) o_int ?_
 refine OpensZF.cons (d := (Kd.int .i64)) (ok := fun v_ : Int => (Lit.int .i64 v_).wf = true) (ok' := fun z_ : ((List (List Int)) × Int) => ((List.length (z_).1 * 24 ≤ 140737488351232 ∧ ∀ y1_ ∈ (z_).1, (List.length y1_ * 8 ≤ 140737488351232 ∧ ∀ y2_ ∈ y1_, (Lit.int .i64 y2_).wf = true)) ∧ (Lit.int .i64 (z_).2).wf = true)) (by kernel_rfl) (by kernel_rfl) o_int ?_
 refine OpensZF.cons (d := (Kd.slice 24 (Kd.slice 3 (Kd.int .i64)))) (ok := fun v_ : (List (List Int)) => (List.length v_ * 24 ≤ 140737488351232 ∧ ∀ y1_ ∈ v_, (List.length y1_ * 8 ≤ 140737488351232 ∧ ∀ y2_ ∈ y1_, (Lit.int .i64 y2_).wf = true))) (ok' := fun z_ : (Int) => (Lit.int .i64 z_).wf = true) (by kernel_rfl) (by kernel_rfl) o_LLint ?_
 exact OpensZF.last (d := (Kd.int .i64)) (ok := fun v_ : Int => (Lit.int .i64 v_).wf = true) (by kernel_rfl) (by kernel_rfl) o_int
theorem o_api_Con : OpensZ Try.prog k31 (fun b : S31 => ((Lit.int .i64 (b).f0).wf = true ∧ (List.length (b).f1 * 8 ≤ 140737488351232 ∧ ∀ y1_ ∈ (b).f1, (Lit.int .i64 y1_).wf = true) ∧ (List.length (b).f2 * 8 ≤ 140737488351232 ∧ ∀ y1_ ∈ (b).f2, (Lit.int .i64 y1_).wf = true) ∧ (Lit.int .i64 (b).f3).wf = true ∧ (Lit.int .i64 (b).f4).wf = true ∧ (List.length (b).f5 * 24 ≤ 140737488351232 ∧ ∀ y1_ ∈ (b).f5, (List.length y1_ * 8 ≤ 140737488351232 ∧ ∀ y2_ ∈ y1_, (Lit.int .i64 y2_).wf = true)) ∧ (Lit.int .i64 (b).f6).wf = true)) 31 := OpensZ.iso p_api_Con (fun x : S31 => (x.f0, x.f1, x.f2, x.f3, x.f4, x.f5, x.f6)) (fun z => ⟨z.1, z.2.1, z.2.2.1, z.2.2.2.1, z.2.2.2.2.1, z.2.2.2.2.2.1, z.2.2.2.2.2.2⟩) (fun _ => rfl)
theorem o_Lapi_Con : OpensZ Try.prog (Kd.slice 31 k31) (fun l => (List.length l * 104 ≤ 140737488351232 ∧ ∀ y1_ ∈ l, ((Lit.int .i64 (y1_).f0).wf = true ∧ (List.length (y1_).f1 * 8 ≤ 140737488351232 ∧ ∀ y2_ ∈ (y1_).f1, (Lit.int .i64 y2_).wf = true) ∧ (List.length (y1_).f2 * 8 ≤ 140737488351232 ∧ ∀ y2_ ∈ (y1_).f2, (Lit.int .i64 y2_).wf = true) ∧ (Lit.int .i64 (y1_).f3).wf = true ∧ (Lit.int .i64 (y1_).f4).wf = true ∧ (List.length (y1_).f5 * 24 ≤ 140737488351232 ∧ ∀ y2_ ∈ (y1_).f5, (List.length y2_ * 8 ≤ 140737488351232 ∧ ∀ y3_ ∈ y2_, (Lit.int .i64 y3_).wf = true)) ∧ (Lit.int .i64 (y1_).f6).wf = true))) 23 := OpensZ.row Try.underlying23 (by kernel_rfl) (by kernel_rfl) o_api_Con
set_option maxHeartbeats 2000000 in
theorem p_api_Goal : OpensZ Try.prog (Kd.pair (Kd.int .i64) (Kd.pair (Kd.slice 3 (Kd.int .i64)) (Kd.slice 3 (Kd.int .i64)))) (fun z => ((Lit.int .i64 (z).1).wf = true ∧ ((List.length ((z).2).1 * 8 ≤ 140737488351232 ∧ ∀ y1_ ∈ ((z).2).1, (Lit.int .i64 y1_).wf = true) ∧ (List.length ((z).2).2 * 8 ≤ 140737488351232 ∧ ∀ y1_ ∈ ((z).2).2, (Lit.int .i64 y1_).wf = true)))) 26 := by
 refine OpensZ.struct (d := (Kd.pair (Kd.int .i64) (Kd.pair (Kd.slice 3 (Kd.int .i64)) (Kd.slice 3 (Kd.int .i64))))) Try.underlying26 (by kernel_rfl) ?_
 refine OpensZF.cons (d := (Kd.int .i64)) (ok := fun v_ : Int => (Lit.int .i64 v_).wf = true) (ok' := fun z_ : ((List Int) × (List Int)) => ((List.length (z_).1 * 8 ≤ 140737488351232 ∧ ∀ y1_ ∈ (z_).1, (Lit.int .i64 y1_).wf = true) ∧ (List.length (z_).2 * 8 ≤ 140737488351232 ∧ ∀ y1_ ∈ (z_).2, (Lit.int .i64 y1_).wf = true))) (by kernel_rfl) (by kernel_rfl) o_int ?_
 refine OpensZF.cons (d := (Kd.slice 3 (Kd.int .i64))) (ok := fun v_ : (List Int) => (List.length v_ * 8 ≤ 140737488351232 ∧ ∀ y1_ ∈ v_, (Lit.int .i64 y1_).wf = true)) (ok' := fun z_ : ((List Int)) => (List.length z_ * 8 ≤ 140737488351232 ∧ ∀ y1_ ∈ z_, (Lit.int .i64 y1_).wf = true)) (by kernel_rfl) (by kernel_rfl) o_Lint ?_
 exact OpensZF.last (d := (Kd.slice 3 (Kd.int .i64))) (ok := fun v_ : (List Int) => (List.length v_ * 8 ≤ 140737488351232 ∧ ∀ y1_ ∈ v_, (Lit.int .i64 y1_).wf = true)) (by kernel_rfl) (by kernel_rfl) o_Lint
set_option maxHeartbeats 2000000 in
theorem p_api_Model : OpensZ Try.prog (Kd.pair (Kd.slice 50 k50) (Kd.pair (Kd.slice 31 k31) (Kd.pair (Kd.int .i64) (Kd.pair (Kd.slice 3 (Kd.int .i64)) (Kd.slice 3 (Kd.int .i64)))))) (fun z => ((List.length (z).1 * 40 ≤ 140737488351232 ∧ ∀ y1_ ∈ (z).1, (ByteArray.size (y1_).f0 ≤ maxLen ∧ (List.length (y1_).f1 * 16 ≤ 140737488351232 ∧ ∀ y2_ ∈ (y1_).f1, ((Lit.int .i64 (y2_).f0).wf = true ∧ (Lit.int .i64 (y2_).f1).wf = true)))) ∧ ((List.length ((z).2).1 * 104 ≤ 140737488351232 ∧ ∀ y1_ ∈ ((z).2).1, ((Lit.int .i64 (y1_).f0).wf = true ∧ (List.length (y1_).f1 * 8 ≤ 140737488351232 ∧ ∀ y2_ ∈ (y1_).f1, (Lit.int .i64 y2_).wf = true) ∧ (List.length (y1_).f2 * 8 ≤ 140737488351232 ∧ ∀ y2_ ∈ (y1_).f2, (Lit.int .i64 y2_).wf = true) ∧ (Lit.int .i64 (y1_).f3).wf = true ∧ (Lit.int .i64 (y1_).f4).wf = true ∧ (List.length (y1_).f5 * 24 ≤ 140737488351232 ∧ ∀ y2_ ∈ (y1_).f5, (List.length y2_ * 8 ≤ 140737488351232 ∧ ∀ y3_ ∈ y2_, (Lit.int .i64 y3_).wf = true)) ∧ (Lit.int .i64 (y1_).f6).wf = true)) ∧ ((Lit.int .i64 (((z).2).2).1).wf = true ∧ ((List.length ((((z).2).2).2).1 * 8 ≤ 140737488351232 ∧ ∀ y1_ ∈ ((((z).2).2).2).1, (Lit.int .i64 y1_).wf = true) ∧ (List.length ((((z).2).2).2).2 * 8 ≤ 140737488351232 ∧ ∀ y1_ ∈ ((((z).2).2).2).2, (Lit.int .i64 y1_).wf = true)))))) 28 := by
 refine OpensZ.struct (d := (Kd.pair (Kd.slice 50 k50) (Kd.pair (Kd.slice 31 k31) (Kd.pair (Kd.int .i64) (Kd.pair (Kd.slice 3 (Kd.int .i64)) (Kd.slice 3 (Kd.int .i64))))))) Try.underlying28 (by kernel_rfl) ?_
 refine OpensZF.cons (d := (Kd.slice 50 k50)) (ok := fun v_ : (List S50) => (List.length v_ * 40 ≤ 140737488351232 ∧ ∀ y1_ ∈ v_, (ByteArray.size (y1_).f0 ≤ maxLen ∧ (List.length (y1_).f1 * 16 ≤ 140737488351232 ∧ ∀ y2_ ∈ (y1_).f1, ((Lit.int .i64 (y2_).f0).wf = true ∧ (Lit.int .i64 (y2_).f1).wf = true))))) (ok' := fun z_ : ((List S31) × (Int × (List Int) × (List Int))) => ((List.length (z_).1 * 104 ≤ 140737488351232 ∧ ∀ y1_ ∈ (z_).1, ((Lit.int .i64 (y1_).f0).wf = true ∧ (List.length (y1_).f1 * 8 ≤ 140737488351232 ∧ ∀ y2_ ∈ (y1_).f1, (Lit.int .i64 y2_).wf = true) ∧ (List.length (y1_).f2 * 8 ≤ 140737488351232 ∧ ∀ y2_ ∈ (y1_).f2, (Lit.int .i64 y2_).wf = true) ∧ (Lit.int .i64 (y1_).f3).wf = true ∧ (Lit.int .i64 (y1_).f4).wf = true ∧ (List.length (y1_).f5 * 24 ≤ 140737488351232 ∧ ∀ y2_ ∈ (y1_).f5, (List.length y2_ * 8 ≤ 140737488351232 ∧ ∀ y3_ ∈ y2_, (Lit.int .i64 y3_).wf = true)) ∧ (Lit.int .i64 (y1_).f6).wf = true)) ∧ ((Lit.int .i64 ((z_).2).1).wf = true ∧ ((List.length (((z_).2).2).1 * 8 ≤ 140737488351232 ∧ ∀ y1_ ∈ (((z_).2).2).1, (Lit.int .i64 y1_).wf = true) ∧ (List.length (((z_).2).2).2 * 8 ≤ 140737488351232 ∧ ∀ y1_ ∈ (((z_).2).2).2, (Lit.int .i64 y1_).wf = true))))) (by kernel_rfl) (by kernel_rfl) o_Lapi_Var ?_
 refine OpensZF.cons (d := (Kd.slice 31 k31)) (ok := fun v_ : (List S31) => (List.length v_ * 104 ≤ 140737488351232 ∧ ∀ y1_ ∈ v_, ((Lit.int .i64 (y1_).f0).wf = true ∧ (List.length (y1_).f1 * 8 ≤ 140737488351232 ∧ ∀ y2_ ∈ (y1_).f1, (Lit.int .i64 y2_).wf = true) ∧ (List.length (y1_).f2 * 8 ≤ 140737488351232 ∧ ∀ y2_ ∈ (y1_).f2, (Lit.int .i64 y2_).wf = true) ∧ (Lit.int .i64 (y1_).f3).wf = true ∧ (Lit.int .i64 (y1_).f4).wf = true ∧ (List.length (y1_).f5 * 24 ≤ 140737488351232 ∧ ∀ y2_ ∈ (y1_).f5, (List.length y2_ * 8 ≤ 140737488351232 ∧ ∀ y3_ ∈ y2_, (Lit.int .i64 y3_).wf = true)) ∧ (Lit.int .i64 (y1_).f6).wf = true))) (ok' := fun z_ : ((Int × (List Int) × (List Int))) => ((Lit.int .i64 (z_).1).wf = true ∧ ((List.length ((z_).2).1 * 8 ≤ 140737488351232 ∧ ∀ y1_ ∈ ((z_).2).1, (Lit.int .i64 y1_).wf = true) ∧ (List.length ((z_).2).2 * 8 ≤ 140737488351232 ∧ ∀ y1_ ∈ ((z_).2).2, (Lit.int .i64 y1_).wf = true)))) (by kernel_rfl) (by kernel_rfl) o_Lapi_Con ?_
 exact OpensZF.last (d := (Kd.pair (Kd.int .i64) (Kd.pair (Kd.slice 3 (Kd.int .i64)) (Kd.slice 3 (Kd.int .i64))))) (ok := fun v_ : (Int × (List Int) × (List Int)) => ((Lit.int .i64 (v_).1).wf = true ∧ ((List.length ((v_).2).1 * 8 ≤ 140737488351232 ∧ ∀ y1_ ∈ ((v_).2).1, (Lit.int .i64 y1_).wf = true) ∧ (List.length ((v_).2).2 * 8 ≤ 140737488351232 ∧ ∀ y1_ ∈ ((v_).2).2, (Lit.int .i64 y1_).wf = true)))) (by kernel_rfl) (by kernel_rfl) p_api_Goal
set_option maxRecDepth 100000 in
theorem lifted (os : Os) (started : os.Started) (H : Type) (enc : TypeId × Value → H) :
  ReturnsInHanded {} Try.checked os 8 .any (Rows.modelUsesSpec.pre6 enc Try.prog Try.f8 Rows.modelUsesRow.domain false) (Rows.modelUsesSpec.post enc Try.prog Try.f8 false true false false) := by
 refine returnsInHanded_of_change_sized (C := Try.checked) own started (by kernel_rfl) Try.func8
  (ChangeSpec.witness6 (enc := enc) (C := Try.checked) false ⟨#[], #[.agg #[.slice none 0 0, .slice none 0 0, .int .i64 0, .slice none 0 0, .slice none 0 0]], []⟩ 8 (by kernel_rfl) (by kernel_rfl) (by kernel_rfl) (by kernel_rfl)) ?_
 intro W base args ds gs before hval0 hW hcnd hsz0 _
 have hsz : (DataW.weightsEach Try.prog (Try.f8.params.toList ++ Rows.modelUsesSpec.plain.varTypes Try.prog) (ds ++ gs)).all (· ≤ reachBytes) = true := hsz0
 have hval : ∀ (j : Nat) t v, Try.f8.params[j]? = some t → args[j]? = some v → Value.okWide Try.prog W .any base t v := hval0
 have hW' := hW
 obtain ⟨p, q, hA0, hV, rfl, hfz, hnd⟩ := hW
 have hA : DataW.TrodAll enc Try.prog W 0 (fun _ => true) true Try.f8.params.toList args.toList ds p := hA0
 rw [Try.params8] at hA hval hsz
 obtain ⟨v0, vs0, d0, ds0, p0, q0, hargs, rfl, rfl, h0, r0⟩ := trodAll_cons hA
 obtain ⟨rfl, rfl, rfl⟩ := trodAll_nil r0
 obtain rfl : args = #[v0] := by cases args; simp_all
 obtain ⟨rfl, rfl⟩ := trodVars_none hV
 have k0 := h0
 have lt0 : ∀ x ∈ p0, x.block < W.heap.size := by obtain ⟨m, hm⟩ := k0; exact DataW.trod_lt m _ _ _ hm
 obtain ⟨cs0, rfl, _⟩ := okWide_struct Try.underlying28 (hval 0 28 v0 rfl rfl)
 obtain ⟨fu0, hf0⟩ := h0
 obtain ⟨⟨x0, ⟨x1, ⟨x2, ⟨x3, x4⟩⟩⟩⟩, hK0, ⟨ok0, ⟨ok1, ⟨ok2, ⟨ok3, ok4⟩⟩⟩⟩⟩ := p_api_Model.out _ _ _ _ _ _ _ _ hf0 (each_weights hsz (j := 0) (t := 28) rfl rfl)
 obtain ⟨_, _, e, ⟨A0, c0, rfl, hc0, hC0⟩, ⟨_, _, rfl, ⟨A1, c1, rfl, hc1, hC1⟩, ⟨_, _, rfl, rfl, ⟨_, _, rfl, ⟨A3, c3, rfl, hc3, hC3⟩, ⟨A4, c4, rfl, hc4, hC4⟩⟩⟩⟩⟩ := hK0
 obtain rfl : cs0 = #[.slice A0 x0.length c0, .slice A1 x1.length c1, .int .i64 x2, .slice A3 x3.length c3, .slice A4 x4.length c4] := by
  apply Array.ext'
  simpa [Value.cells] using e
 clear hA0 hval0 hsz0 hsz
 refine (P.law_ModelUses A0 c0 x0 A1 c1 x1 x2 A3 c3 x3 A4 c4 x4 W hC0 hc0 ok0 hC1 hc1 ok1 ok2 hC3 hc3 ok3 hC4 hc4 ok4).mono fun e W' ⟨he, bel⟩ => ?_
 subst he
 exact ⟨_, rfl, _, _, _, [], _, [], hW', trodAll_mk1 (shut_bool Try.underlying4 _), (trodAll_cons_mk (Below.trod laidOut (by kernel_rfl) (of_decide_eq_true (by kernel_rfl)) k0 bel lt0) trodAll_mk0), rfl, bel.frame _, fun h => by cases h⟩
theorem over : Rows.modelUsesRow.holds Try.pinned (OpenSpec.ofChange Rows.modelUsesSpec) :=
 OpenClaim.holds_of_wide 8 Try.f8 rfl rfl rfl rfl rfl rfl rfl ⟨rfl, rfl, rfl, rfl, rfl⟩ rfl rfl rfl rfl rfl (by kernel_rfl) Try.func8 (by kernel_rfl)
  (of_decide_eq_true (by kernel_rfl)) (by unfold Func.isWrapper; first | (rw [if_pos (by decide +kernel)]; kernel_rfl) | (rw [if_neg (by decide +kernel)]; exact ⟨rfl, rfl⟩))
  (fun os started H enc _ => lifted os started H enc)
theorem proved : Rows.ModelUsesSaid := over
end Go.Proofs.Ytkgjaklnbgdmiaa.modelUses
namespace Go.Proofs.Ytkgjaklnbgdmiaa
theorem modelUses_holds : Rows.ModelUsesSaid := modelUses.proved
end Go.Proofs.Ytkgjaklnbgdmiaa
