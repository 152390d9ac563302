/- Proved: what each function of the program that the statements of this seat reach comes to, for whatever memory and arguments it is called with (on condition that its plain text tells a result). -/
import Derived.Test.YtkgjaklnbgdmiaaZ1
import Derived.Test.YtkgjaklnbgdmiaaZ3
import Derived.Test.YtkgjaklnbgdmiaaZ2
import Derived.Carry
import Derived.Shelf.GgClosure.Gives
import Derived.Deep.LoopGhost
namespace Go.Proofs.Ytkgjaklnbgdmiaa.P
open Go.RowKit Go.Proofs.YtkgjaklnbgdmiaaW.PrintWords Go.Proofs.YtkgjaklnbgdmiaaW.PrintLast Go.Proofs.YtkgjaklnbgdmiaaW.PrintMore
attribute [local go_sem] Zcm Zco Zc0 Zc1 Zcb Zcc Zcn Zcp
set_option linter.unusedVariables false
set_option linter.unusedSimpArgs false
def Zdx.f (k : Nat) (l0 : List (List (S48))) (a1_0 : Int) (l1_1 : List Int) (l1_2 : List Int) : Option (Int) := if a1_0 = 0 then (if (l1_1.length : Int) > 0 then (some 44) else (if (l1_2.length : Int) > 0 then (some 44) else (some 0))) else (if a1_0 = 1 then ((Zbl.f k l0 0 l1_1 l1_2 0 0 ([] : List (List Int)) 0).bind fun t337 => (some t337)) else (if a1_0 = 2 then ((Zbl.f k l0 0 l1_1 l1_2 0 0 ([] : List (List Int)) 0).bind fun t338 => (some t338)) else (some 44)))
set_option maxHeartbeats 8000000 in
set_option maxRecDepth 100000 in
theorem Zdx.calls (k : Nat) (A0 : Option Addr) (c0 : Nat) (l0 : List (List (S48))) (a1_0 : Int) (A1_1 : Option Addr) (c1_1 : Nat) (l1_1 : List Int) (A1_2 : Option Addr) (c1_2 : Nat) (l1_2 : List Int) (r : Int) (w : World) (hr0 : Kd.C (Kd.slice 48 k48) w A0 l0.length l0) (hc0 : l0.length ≤ c0) (hr1_1 : Kd.C (Kd.int .i64) w A1_1 l1_1.length l1_1) (hc1_1 : l1_1.length ≤ c1_1) (hr1_2 : Kd.C (Kd.int .i64) w A1_2 l1_2.length l1_2) (hc1_2 : l1_2.length ≤ c1_2) (h : Zdx.f k l0 a1_0 l1_1 l1_2 = some r) :
  Calls Try.prog 19 #[.slice A0 l0.length c0, .agg #[.int .i64 a1_0, .slice A1_1 l1_1.length c1_1, .slice A1_2 l1_2.length c1_2]] w fun e w' => e = .returned (.int .i64 r) ∧ Below w.heap.size w w' := by
 have hu26 := Try.underlying26
 have hu31 := Try.underlying31
 have HR0 := Za.mk hr0
 have HC0 := Za.mk hc0
 clear hr0 hc0
 have HR1_1 := Za.mk hr1_1
 have HC1_1 := Za.mk hc1_1
 clear hr1_1 hc1_1
 have HR1_2 := Za.mk hr1_2
 have HC1_2 := Za.mk hc1_2
 clear hr1_2 hc1_2
 have HB := Za.mk (Below.refl w.heap.size w)
 have H : (if a1_0 = 0 then (if (l1_1.length : Int) > 0 then (some 44) else (if (l1_2.length : Int) > 0 then (some 44) else (some 0))) else (if a1_0 = 1 then ((Zbl.f k l0 0 l1_1 l1_2 0 0 ([] : List (List Int)) 0).bind fun t337 => (some t337)) else (if a1_0 = 2 then ((Zbl.f k l0 0 l1_1 l1_2 0 0 ([] : List (List Int)) 0).bind fun t338 => (some t338)) else (some 44)))) = some r := h
 clear h
 by_cases c3 : a1_0 = 0
 ·rw [if_pos c3] at H
  have c3b0 : (a1_0 == 0) = true := beq_iff_eq.mpr c3
  have c3b1 : (a1_0 != 0) = false := bne_eq_false_iff_eq.mpr c3
  clear c3
  by_cases c4 : (l1_1.length : Int) > 0
  ·rw [if_pos c4] at H
   have c4b0 : decide (0 < (l1_1.length : Int)) = true := decide_eq_true c4
   have c4b1 : decide (0 < l1_1.length) = true := decide_eq_true (by omega)
   clear c4
   obtain rfl := Option.some.inj H
   go_enter Try.func19, Try.ntmps19
   go_wp2_with (first | ((with_reducible refine Zaz (N := 3) rfl ?_); (try (refine Zck (by rfl) ?_; dsimp only)); refine Za5 ?hg (N := 3) ?hd (cs := #[.int .i64 a1_0, .slice A1_1 l1_1.length c1_1, .slice A1_2 l1_2.length c1_2]) (t := 26) ?hr ?_; (case hd => rfl); (case hg => rfl); (case hr => first | (go_simp; done) | (go_simp; rfl)); intro gb336 hg w5 hbox hb; have n0_ := Za.mk (Zad (by repeat (first | (with_reducible first | exact HB.out | apply Zab | apply Zaa | apply Zac) | exact HB.out)) hb); have n1_ := Za.mk (hbox); have n2_ := Za.mk ((by rw [hg]; exact (Zaj (by repeat (first | (with_reducible first | exact HB.out | apply Zab | apply Zaa | apply Zac) | exact HB.out))) : w.heap.size ≤ gb336)); have n3_ := Za.mk ((by rw [hg]; exact (Zaj (by repeat (first | (with_reducible first | exact HB.out | apply Zab | apply Zaa | apply Zac) | exact HB.out))) : w.heap.size ≤ gb336)); clear HB; have HB := n0_; have BK336 := n1_; have GW336 := n2_; have GE336 := n3_; clear n0_ n1_ n2_ n3_; clear hb hbox hg; obtain ⟨hcz6_0, hcz6_1, hcz6_2, hfz6_0, hfz6_1, hfz6_2⟩ := blks3 BK336.out))
   go_ret
   exact ⟨by first | rfl | (simp [Zam, Zan] <;> rfl) | (simp [*, Zam, Zan] <;> rfl), by repeat (first | (with_reducible first | exact HB.out | apply Zab | apply Zaa | apply Zac | refine Zae ?_ GE336.out) | exact HB.out)⟩
  rw [if_neg c4] at H
  have c4b0 : decide (0 < (l1_1.length : Int)) = false := decide_eq_false c4
  have c4b1 : decide (0 < l1_1.length) = false := decide_eq_false (by omega)
  clear c4
  by_cases c7 : (l1_2.length : Int) > 0
  ·rw [if_pos c7] at H
   have c7b0 : decide (0 < (l1_2.length : Int)) = true := decide_eq_true c7
   have c7b1 : decide (0 < l1_2.length) = true := decide_eq_true (by omega)
   clear c7
   obtain rfl := Option.some.inj H
   go_enter Try.func19, Try.ntmps19
   go_wp2_with (first | ((with_reducible refine Zaz (N := 3) rfl ?_); (try (refine Zck (by rfl) ?_; dsimp only)); refine Za5 ?hg (N := 3) ?hd (cs := #[.int .i64 a1_0, .slice A1_1 l1_1.length c1_1, .slice A1_2 l1_2.length c1_2]) (t := 26) ?hr ?_; (case hd => rfl); (case hg => rfl); (case hr => first | (go_simp; done) | (go_simp; rfl)); intro gb336 hg w8 hbox hb; have n0_ := Za.mk (Zad (by repeat (first | (with_reducible first | exact HB.out | apply Zab | apply Zaa | apply Zac) | exact HB.out)) hb); have n1_ := Za.mk (hbox); have n2_ := Za.mk ((by rw [hg]; exact (Zaj (by repeat (first | (with_reducible first | exact HB.out | apply Zab | apply Zaa | apply Zac) | exact HB.out))) : w.heap.size ≤ gb336)); have n3_ := Za.mk ((by rw [hg]; exact (Zaj (by repeat (first | (with_reducible first | exact HB.out | apply Zab | apply Zaa | apply Zac) | exact HB.out))) : w.heap.size ≤ gb336)); clear HB; have HB := n0_; have BK336 := n1_; have GW336 := n2_; have GE336 := n3_; clear n0_ n1_ n2_ n3_; clear hb hbox hg; obtain ⟨hcz9_0, hcz9_1, hcz9_2, hfz9_0, hfz9_1, hfz9_2⟩ := blks3 BK336.out))
   go_ret
   exact ⟨by first | rfl | (simp [Zam, Zan] <;> rfl) | (simp [*, Zam, Zan] <;> rfl), by repeat (first | (with_reducible first | exact HB.out | apply Zab | apply Zaa | apply Zac | refine Zae ?_ GE336.out) | exact HB.out)⟩
  rw [if_neg c7] at H
  have c7b0 : decide (0 < (l1_2.length : Int)) = false := decide_eq_false c7
  have c7b1 : decide (0 < l1_2.length) = false := decide_eq_false (by omega)
  clear c7
  obtain rfl := Option.some.inj H
  go_enter Try.func19, Try.ntmps19
  go_wp2_with (first | ((with_reducible refine Zaz (N := 3) rfl ?_); (try (refine Zck (by rfl) ?_; dsimp only)); refine Za5 ?hg (N := 3) ?hd (cs := #[.int .i64 a1_0, .slice A1_1 l1_1.length c1_1, .slice A1_2 l1_2.length c1_2]) (t := 26) ?hr ?_; (case hd => rfl); (case hg => rfl); (case hr => first | (go_simp; done) | (go_simp; rfl)); intro gb336 hg w10 hbox hb; have n0_ := Za.mk (Zad (by repeat (first | (with_reducible first | exact HB.out | apply Zab | apply Zaa | apply Zac) | exact HB.out)) hb); have n1_ := Za.mk (hbox); have n2_ := Za.mk ((by rw [hg]; exact (Zaj (by repeat (first | (with_reducible first | exact HB.out | apply Zab | apply Zaa | apply Zac) | exact HB.out))) : w.heap.size ≤ gb336)); have n3_ := Za.mk ((by rw [hg]; exact (Zaj (by repeat (first | (with_reducible first | exact HB.out | apply Zab | apply Zaa | apply Zac) | exact HB.out))) : w.heap.size ≤ gb336)); clear HB; have HB := n0_; have BK336 := n1_; have GW336 := n2_; have GE336 := n3_; clear n0_ n1_ n2_ n3_; clear hb hbox hg; obtain ⟨hcz11_0, hcz11_1, hcz11_2, hfz11_0, hfz11_1, hfz11_2⟩ := blks3 BK336.out))
  go_ret
  exact ⟨by first | rfl | (simp [Zam, Zan] <;> rfl) | (simp [*, Zam, Zan] <;> rfl), by repeat (first | (with_reducible first | exact HB.out | apply Zab | apply Zaa | apply Zac | refine Zae ?_ GE336.out) | exact HB.out)⟩
 rw [if_neg c3] at H
 have c3b0 : (a1_0 == 0) = false := beq_eq_false_iff_ne.mpr c3
 have c3b1 : (a1_0 != 0) = true := bne_iff_ne.mpr c3
 by_cases c12 : a1_0 = 1
 ·rw [if_pos c12] at H
  have c12b0 : (a1_0 == 1) = true := beq_iff_eq.mpr c12
  have c12b1 : (a1_0 != 1) = false := bne_eq_false_iff_eq.mpr c12
  clear c12
  replace H := Option.bind_eq_some_iff.mp H
  obtain ⟨t337, A130, H⟩ := H
  replace H : (some t337) = some r := H
  have A13 := Za.mk A130
  clear A130
  obtain rfl := Option.some.inj H
  go_enter Try.func19, Try.ntmps19
  go_wp2_with (first | ((with_reducible refine Zaz (N := 3) rfl ?_); (try (refine Zck (by rfl) ?_; dsimp only)); refine Za5 ?hg (N := 3) ?hd (cs := #[.int .i64 a1_0, .slice A1_1 l1_1.length c1_1, .slice A1_2 l1_2.length c1_2]) (t := 26) ?hr ?_; (case hd => rfl); (case hg => rfl); (case hr => first | (go_simp; done) | (go_simp; rfl)); intro gb336 hg w14 hbox hb; have n0_ := Za.mk (Zad (by repeat (first | (with_reducible first | exact HB.out | apply Zab | apply Zaa | apply Zac) | exact HB.out)) hb); have n1_ := Za.mk (hbox); have n2_ := Za.mk ((by rw [hg]; exact (Zaj (by repeat (first | (with_reducible first | exact HB.out | apply Zab | apply Zaa | apply Zac) | exact HB.out))) : w.heap.size ≤ gb336)); have n3_ := Za.mk ((by rw [hg]; exact (Zaj (by repeat (first | (with_reducible first | exact HB.out | apply Zab | apply Zaa | apply Zac) | exact HB.out))) : w.heap.size ≤ gb336)); clear HB; have HB := n0_; have BK336 := n1_; have GW336 := n2_; have GE336 := n3_; clear n0_ n1_ n2_ n3_; clear hb hbox hg; obtain ⟨hcz15_0, hcz15_1, hcz15_2, hfz15_0, hfz15_1, hfz15_2⟩ := blks3 BK336.out) | ((with_reducible refine Zaw (f := 14) rfl ?_); refine Zbk (some 28) rfl rfl Try.func14 (by kernel_rfl) rfl #[.slice A0 l0.length c0, .agg #[.int .i64 0, .slice A1_1 l1_1.length c1_1, .slice A1_2 l1_2.length c1_2, .int .i64 0, .int .i64 0, .slice none 0 0, .int .i64 0]] rfl (by (try simp only [List.map_toArray, List.map_cons, List.map_nil]); first | done | rfl | (simp only [List.length_drop, List.length_take]; rfl)) ?_; (refine (Zbl.calls k _ _ l0 0 _ _ l1_1 _ _ l1_2 0 0 _ _ ([] : List (List Int)) 0 t337 _ ?side1 ?side2 ?side3 ?side4 ?side5 ?side6 ?side7 ?side8 A13.out).mono ?_); (case side1 => repeat (first | exact (Kd.Zak HR0.out HB.out) | (with_reducible refine Kd.C_alloc ?_ _) | (with_reducible refine Kd.C_drewN ?_ _) | (with_reducible refine Kd.C_drew ?_))); (case side2 => exact HC0.out); (case side3 => repeat (first | exact (Kd.Zak HR1_1.out HB.out) | (with_reducible refine Kd.C_alloc ?_ _) | (with_reducible refine Kd.C_drewN ?_ _) | (with_reducible refine Kd.C_drew ?_))); (case side4 => exact HC1_1.out); (case side5 => repeat (first | exact (Kd.Zak HR1_2.out HB.out) | (with_reducible refine Kd.C_alloc ?_ _) | (with_reducible refine Kd.C_drewN ?_ _) | (with_reducible refine Kd.C_drew ?_))); (case side6 => exact HC1_2.out); (case side7 => exact Kd.Zem _ _); (case side8 => exact Nat.le_refl _); rintro e w16 ⟨rfl, hb⟩; refine ⟨_, rfl, ?_⟩; have n0_ := Za.mk (Zau (g := gb336) (o := .cells #[.int .i64 a1_0, .slice A1_1 l1_1.length c1_1, .slice A1_2 l1_2.length c1_2] 26 (0, 0)) (by (with_reducible repeat (first | refine blk_drewN ?_ _ | refine Zag ?_ | refine Zaf ?_ _)); exact BK336.out) hb); have n1_ := Za.mk (Zad (by repeat (first | (with_reducible first | exact HB.out | apply Zab | apply Zaa | apply Zac | refine Zae ?_ GE336.out) | exact HB.out)) hb); clear BK336; clear HB; have BK336 := n0_; have HB := n1_; clear n0_ n1_; (try clear hb); (try clear hb2); (try clear hk); (try clear hi)))
  go_ret
  exact ⟨by first | rfl | (simp [Zam, Zan] <;> rfl) | (simp [*, Zam, Zan] <;> rfl), by repeat (first | (with_reducible first | exact HB.out | apply Zab | apply Zaa | apply Zac | refine Zae ?_ GE336.out) | exact HB.out)⟩
 rw [if_neg c12] at H
 have c12b0 : (a1_0 == 1) = false := beq_eq_false_iff_ne.mpr c12
 have c12b1 : (a1_0 != 1) = true := bne_iff_ne.mpr c12
 by_cases c17 : a1_0 = 2
 rotate_left
 ·rw [if_neg c17] at H
  have c17b0 : (a1_0 == 2) = false := beq_eq_false_iff_ne.mpr c17
  have c17b1 : (a1_0 != 2) = true := bne_iff_ne.mpr c17
  obtain rfl := Option.some.inj H
  go_enter Try.func19, Try.ntmps19
  go_wp2_with (first | ((with_reducible refine Zaz (N := 3) rfl ?_); (try (refine Zck (by rfl) ?_; dsimp only)); refine Za5 ?hg (N := 3) ?hd (cs := #[.int .i64 a1_0, .slice A1_1 l1_1.length c1_1, .slice A1_2 l1_2.length c1_2]) (t := 26) ?hr ?_; (case hd => rfl); (case hg => rfl); (case hr => first | (go_simp; done) | (go_simp; rfl)); intro gb336 hg w22 hbox hb; have n0_ := Za.mk (Zad (by repeat (first | (with_reducible first | exact HB.out | apply Zab | apply Zaa | apply Zac) | exact HB.out)) hb); have n1_ := Za.mk (hbox); have n2_ := Za.mk ((by rw [hg]; exact (Zaj (by repeat (first | (with_reducible first | exact HB.out | apply Zab | apply Zaa | apply Zac) | exact HB.out))) : w.heap.size ≤ gb336)); have n3_ := Za.mk ((by rw [hg]; exact (Zaj (by repeat (first | (with_reducible first | exact HB.out | apply Zab | apply Zaa | apply Zac) | exact HB.out))) : w.heap.size ≤ gb336)); clear HB; have HB := n0_; have BK336 := n1_; have GW336 := n2_; have GE336 := n3_; clear n0_ n1_ n2_ n3_; clear hb hbox hg; obtain ⟨hcz23_0, hcz23_1, hcz23_2, hfz23_0, hfz23_1, hfz23_2⟩ := blks3 BK336.out))
  go_ret
  exact ⟨by first | rfl | (simp [Zam, Zan] <;> rfl) | (simp [*, Zam, Zan] <;> rfl), by repeat (first | (with_reducible first | exact HB.out | apply Zab | apply Zaa | apply Zac | refine Zae ?_ GE336.out) | exact HB.out)⟩
 rw [if_pos c17] at H
 have c17b0 : (a1_0 == 2) = true := beq_iff_eq.mpr c17
 have c17b1 : (a1_0 != 2) = false := bne_eq_false_iff_eq.mpr c17
 clear c17
 replace H := Option.bind_eq_some_iff.mp H
 obtain ⟨t338, A180, H⟩ := H
 replace H : (some t338) = some r := H
 have A18 := Za.mk A180
 clear A180
 obtain rfl := Option.some.inj H
 go_enter Try.func19, Try.ntmps19
 go_wp2_with (first | ((with_reducible refine Zaz (N := 3) rfl ?_); (try (refine Zck (by rfl) ?_; dsimp only)); refine Za5 ?hg (N := 3) ?hd (cs := #[.int .i64 a1_0, .slice A1_1 l1_1.length c1_1, .slice A1_2 l1_2.length c1_2]) (t := 26) ?hr ?_; (case hd => rfl); (case hg => rfl); (case hr => first | (go_simp; done) | (go_simp; rfl)); intro gb336 hg w19 hbox hb; have n0_ := Za.mk (Zad (by repeat (first | (with_reducible first | exact HB.out | apply Zab | apply Zaa | apply Zac) | exact HB.out)) hb); have n1_ := Za.mk (hbox); have n2_ := Za.mk ((by rw [hg]; exact (Zaj (by repeat (first | (with_reducible first | exact HB.out | apply Zab | apply Zaa | apply Zac) | exact HB.out))) : w.heap.size ≤ gb336)); have n3_ := Za.mk ((by rw [hg]; exact (Zaj (by repeat (first | (with_reducible first | exact HB.out | apply Zab | apply Zaa | apply Zac) | exact HB.out))) : w.heap.size ≤ gb336)); clear HB; have HB := n0_; have BK336 := n1_; have GW336 := n2_; have GE336 := n3_; clear n0_ n1_ n2_ n3_; clear hb hbox hg; obtain ⟨hcz20_0, hcz20_1, hcz20_2, hfz20_0, hfz20_1, hfz20_2⟩ := blks3 BK336.out) | ((with_reducible refine Zaw (f := 14) rfl ?_); refine Zbk (some 28) rfl rfl Try.func14 (by kernel_rfl) rfl #[.slice A0 l0.length c0, .agg #[.int .i64 0, .slice A1_1 l1_1.length c1_1, .slice A1_2 l1_2.length c1_2, .int .i64 0, .int .i64 0, .slice none 0 0, .int .i64 0]] rfl (by (try simp only [List.map_toArray, List.map_cons, List.map_nil]); first | done | rfl | (simp only [List.length_drop, List.length_take]; rfl)) ?_; (refine (Zbl.calls k _ _ l0 0 _ _ l1_1 _ _ l1_2 0 0 _ _ ([] : List (List Int)) 0 t338 _ ?side1 ?side2 ?side3 ?side4 ?side5 ?side6 ?side7 ?side8 A18.out).mono ?_); (case side1 => repeat (first | exact (Kd.Zak HR0.out HB.out) | (with_reducible refine Kd.C_alloc ?_ _) | (with_reducible refine Kd.C_drewN ?_ _) | (with_reducible refine Kd.C_drew ?_))); (case side2 => exact HC0.out); (case side3 => repeat (first | exact (Kd.Zak HR1_1.out HB.out) | (with_reducible refine Kd.C_alloc ?_ _) | (with_reducible refine Kd.C_drewN ?_ _) | (with_reducible refine Kd.C_drew ?_))); (case side4 => exact HC1_1.out); (case side5 => repeat (first | exact (Kd.Zak HR1_2.out HB.out) | (with_reducible refine Kd.C_alloc ?_ _) | (with_reducible refine Kd.C_drewN ?_ _) | (with_reducible refine Kd.C_drew ?_))); (case side6 => exact HC1_2.out); (case side7 => exact Kd.Zem _ _); (case side8 => exact Nat.le_refl _); rintro e w21 ⟨rfl, hb⟩; refine ⟨_, rfl, ?_⟩; have n0_ := Za.mk (Zau (g := gb336) (o := .cells #[.int .i64 a1_0, .slice A1_1 l1_1.length c1_1, .slice A1_2 l1_2.length c1_2] 26 (0, 0)) (by (with_reducible repeat (first | refine blk_drewN ?_ _ | refine Zag ?_ | refine Zaf ?_ _)); exact BK336.out) hb); have n1_ := Za.mk (Zad (by repeat (first | (with_reducible first | exact HB.out | apply Zab | apply Zaa | apply Zac | refine Zae ?_ GE336.out) | exact HB.out)) hb); clear BK336; clear HB; have BK336 := n0_; have HB := n1_; clear n0_ n1_; (try clear hb); (try clear hb2); (try clear hk); (try clear hi)))
 go_ret
 exact ⟨by first | rfl | (simp [Zam, Zan] <;> rfl) | (simp [*, Zam, Zan] <;> rfl), by repeat (first | (with_reducible first | exact HB.out | apply Zab | apply Zaa | apply Zac | refine Zae ?_ GE336.out) | exact HB.out)⟩
end Go.Proofs.Ytkgjaklnbgdmiaa.P
/- model.Check: may a model be? -/
namespace Go.Proofs.Ytkgjaklnbgdmiaa.P
open Go.RowKit Go.Proofs.YtkgjaklnbgdmiaaW.PrintWords Go.Proofs.YtkgjaklnbgdmiaaW.PrintLast Go.Proofs.YtkgjaklnbgdmiaaW.PrintMore
set_option linter.unusedVariables false
set_option linter.unusedSimpArgs false
def Zd9 (k : Nat) : List S50 → List ByteArray → Option Int
  | [], _ => some 0
  | v :: vs, had => (Zbz.f v.f0).bind fun nm => if nm = false then some 40 else if hasN had v.f0 = true then some 41 else if v.f1.length = 0 then some 42 else (Zdu.f k v.f1).bind fun e => if e = 0 then Zd9 k vs (had ++ [v.f0]) else some 42
def Zd8 (k : Nat) (d : List (List S48)) : List S31 → Option Int
  | [] => some 0
  | c :: cs => (Zbl.f k d c.f0 c.f1 c.f2 c.f3 c.f4 c.f5 c.f6).bind fun e => if e = 0 then Zd8 k d cs else some e
def Zbp.f (k : Nat) (vars : List S50) (cons : List S31) (gkd : Int) (gv gc : List Int) : Option Int :=
  if 64 < vars.length ∨ 256 < cons.length then some 2 else
    (Zd9 k vars []).bind fun e => if e = 0 then (Zbx.f k vars cons gkd gv gc).bind fun d => (Zd8 k d cons).bind fun e2 => if e2 = 0 then Zdx.f k d gkd gv gc else some e2 else some e
theorem SetN.step {w w' : World} {b : Nat} {L : List ByteArray} (h : SetN w b L) (hk : w'.heap[b]? = w.heap[b]?) : SetN w' b L := by
  obtain ⟨es, clock, h1, F, hs, hD⟩ := h
  exact ⟨es, clock, hk.trans h1, F, hs, hD⟩
theorem SetN.far {w : World} {b g i j : Nat} {u v : Value} {L : List ByteArray} (h : SetN w b L) (hne : b ≠ g) : SetN ((w.setCell ⟨g, i, none⟩ u).setCell ⟨g, j, none⟩ v) b L :=
  h.step ((Below.heap_setCell _ ⟨g, j, none⟩ v b hne).trans (Below.heap_setCell _ ⟨g, i, none⟩ u b hne))
theorem name_size {s : ByteArray} (h : Zbz.f s = some true) : s.size ≤ maxLen := by
  have h1 := Option.some.inj h
  simp only [Bool.and_eq_true, decide_eq_true_eq] at h1
  have h2 : (16 : Nat) ≤ maxLen := by decide
  omega
theorem drop_rd {vars : List S50} {i : Nat} (hi : i < vars.length) : vars.drop i = Zbg vars (i : Int) :: vars.drop (i + 1) := by
  rw [List.drop_eq_getElem_cons hi]
  simp [Zbg, List.getD_eq_getElem?_getD, List.getElem?_eq_getElem hi]
theorem take_rd {vars : List S50} {i : Nat} (hi : i < vars.length) : (vars.take (i + 1)).map (·.f0) = (vars.take i).map (·.f0) ++ [(Zbg vars (i : Int)).f0] := by
  rw [List.take_succ_eq_append_getElem hi, List.map_append]
  simp [Zbg, List.getD_eq_getElem?_getD, List.getElem?_eq_getElem hi]
theorem drop_rdC {cons : List S31} {i : Nat} (hi : i < cons.length) : cons.drop i = Zai cons (i : Int) :: cons.drop (i + 1) := by
  rw [List.drop_eq_getElem_cons hi]
  simp [Zai, List.getD_eq_getElem?_getD, List.getElem?_eq_getElem hi]
set_option maxHeartbeats 4000000 in
set_option maxRecDepth 1000000 in
theorem Zbp.calls (k : Nat) (A0 : Option Addr) (c0 : Nat) (vars : List S50) (A1 : Option Addr) (c1 : Nat) (cons : List S31) (gkd : Int) (A3 : Option Addr) (c3 : Nat) (gv : List Int) (A4 : Option Addr) (c4 : Nat) (gc : List Int) (r : Int) (w : World)
    (hr0 : Kd.C k50 w A0 vars.length vars) (hc0 : vars.length ≤ c0) (hr1 : Kd.C k31 w A1 cons.length cons) (hc1 : cons.length ≤ c1) (hr3 : Kd.C (Kd.int .i64) w A3 gv.length gv) (hc3 : gv.length ≤ c3) (hr4 : Kd.C (Kd.int .i64) w A4 gc.length gc) (hc4 : gc.length ≤ c4)
    (h : Zbp.f k vars cons gkd gv gc = some r) :
    Calls Try.prog 30 #[.agg #[.slice A0 vars.length c0, .slice A1 cons.length c1, .int .i64 gkd, .slice A3 gv.length c3, .slice A4 gc.length c4]] w fun e w' => e = .returned (.int .i64 r) ∧ Below w.heap.size w w' := by
  have HR0 := Za.mk hr0
  have HR1 := Za.mk hr1
  have HR3 := Za.mk hr3
  have HR4 := Za.mk hr4
  clear hr0 hr1 hr3 hr4
  have HBw := Za.mk (Below.refl w.heap.size w)
  unfold Zbp.f at h
  by_cases h64 : 64 < vars.length
  · rw [if_pos (Or.inl h64)] at h
    obtain rfl := Option.some.inj h
    clear h
    have d64a : decide (64 < (vars.length : Int)) = true := decide_eq_true (by omega)
    have d64b : decide (64 < vars.length) = true := decide_eq_true (by omega)
    clear h64
    go_enter Try.func30, Try.ntmps30
    go_wp2_with (first | ((with_reducible refine Zaz (N := 1) rfl ?_); refine Za5 ?hg (N := 1) ?hd (cs := #[.slice A0 vars.length c0, .slice A1 cons.length c1, .int .i64 gkd, .slice A3 gv.length c3, .slice A4 gc.length c4]) (t := 28) ?hr ?_; (case hd => rfl); (case hg => rfl); (case hr => first | (go_simp; done) | (go_simp; rfl)); intro gm hg wb hbox hb; have HB := Za.mk (Zad (mvB HBw.out) hb); have BK := Za.mk hbox; clear hb hg; have hm0 : wb.cell? ⟨gm, 0, none⟩ = some (.slice A0 vars.length c0) := (Zah hbox 0).trans rfl; have hm1 : wb.cell? ⟨gm, 1, none⟩ = some (.slice A1 cons.length c1) := (Zah hbox 1).trans rfl; have hm2 : wb.cell? ⟨gm, 2, none⟩ = some (.int .i64 gkd) := (Zah hbox 2).trans rfl; have hm3 : wb.cell? ⟨gm, 3, none⟩ = some (.slice A3 gv.length c3) := (Zah hbox 3).trans rfl; have hm4 : wb.cell? ⟨gm, 4, none⟩ = some (.slice A4 gc.length c4) := (Zah hbox 4).trans rfl; have hn0 : (wb.alloc (.map #[] 0)).cell? ⟨gm, 0, none⟩ = some (.slice A0 vars.length c0) := (Zah (Zaf hbox _) 0).trans rfl; have hn1 : (wb.alloc (.map #[] 0)).cell? ⟨gm, 1, none⟩ = some (.slice A1 cons.length c1) := (Zah (Zaf hbox _) 1).trans rfl; have hn2 : (wb.alloc (.map #[] 0)).cell? ⟨gm, 2, none⟩ = some (.int .i64 gkd) := (Zah (Zaf hbox _) 2).trans rfl; have hn3 : (wb.alloc (.map #[] 0)).cell? ⟨gm, 3, none⟩ = some (.slice A3 gv.length c3) := (Zah (Zaf hbox _) 3).trans rfl; have hn4 : (wb.alloc (.map #[] 0)).cell? ⟨gm, 4, none⟩ = some (.slice A4 gc.length c4) := (Zah (Zaf hbox _) 4).trans rfl; clear hbox))
    go_ret
    exact ⟨rfl, mvB HB.out⟩
  have d64a : decide (64 < (vars.length : Int)) = false := decide_eq_false (by omega)
  have d64b : decide (64 < vars.length) = false := decide_eq_false (by omega)
  by_cases h256 : 256 < cons.length
  · rw [if_pos (Or.inr h256)] at h
    obtain rfl := Option.some.inj h
    clear h
    have d256a : decide (256 < (cons.length : Int)) = true := decide_eq_true (by omega)
    have d256b : decide (256 < cons.length) = true := decide_eq_true (by omega)
    clear h64 h256
    go_enter Try.func30, Try.ntmps30
    go_wp2_with (first | ((with_reducible refine Zaz (N := 1) rfl ?_); refine Za5 ?hg (N := 1) ?hd (cs := #[.slice A0 vars.length c0, .slice A1 cons.length c1, .int .i64 gkd, .slice A3 gv.length c3, .slice A4 gc.length c4]) (t := 28) ?hr ?_; (case hd => rfl); (case hg => rfl); (case hr => first | (go_simp; done) | (go_simp; rfl)); intro gm hg wb hbox hb; have HB := Za.mk (Zad (mvB HBw.out) hb); have BK := Za.mk hbox; clear hb hg; have hm0 : wb.cell? ⟨gm, 0, none⟩ = some (.slice A0 vars.length c0) := (Zah hbox 0).trans rfl; have hm1 : wb.cell? ⟨gm, 1, none⟩ = some (.slice A1 cons.length c1) := (Zah hbox 1).trans rfl; have hm2 : wb.cell? ⟨gm, 2, none⟩ = some (.int .i64 gkd) := (Zah hbox 2).trans rfl; have hm3 : wb.cell? ⟨gm, 3, none⟩ = some (.slice A3 gv.length c3) := (Zah hbox 3).trans rfl; have hm4 : wb.cell? ⟨gm, 4, none⟩ = some (.slice A4 gc.length c4) := (Zah hbox 4).trans rfl; have hn0 : (wb.alloc (.map #[] 0)).cell? ⟨gm, 0, none⟩ = some (.slice A0 vars.length c0) := (Zah (Zaf hbox _) 0).trans rfl; have hn1 : (wb.alloc (.map #[] 0)).cell? ⟨gm, 1, none⟩ = some (.slice A1 cons.length c1) := (Zah (Zaf hbox _) 1).trans rfl; have hn2 : (wb.alloc (.map #[] 0)).cell? ⟨gm, 2, none⟩ = some (.int .i64 gkd) := (Zah (Zaf hbox _) 2).trans rfl; have hn3 : (wb.alloc (.map #[] 0)).cell? ⟨gm, 3, none⟩ = some (.slice A3 gv.length c3) := (Zah (Zaf hbox _) 3).trans rfl; have hn4 : (wb.alloc (.map #[] 0)).cell? ⟨gm, 4, none⟩ = some (.slice A4 gc.length c4) := (Zah (Zaf hbox _) 4).trans rfl; clear hbox))
    go_ret
    exact ⟨rfl, mvB HB.out⟩
  have d256a : decide (256 < (cons.length : Int)) = false := decide_eq_false (by omega)
  have d256b : decide (256 < cons.length) = false := decide_eq_false (by omega)
  have L64 : Za (vars.length ≤ 64) := ⟨by omega⟩
  have L256 : Za (cons.length ≤ 256) := ⟨by omega⟩
  rw [if_neg (fun h_ => h_.elim h64 h256)] at h
  clear h64 h256
  obtain ⟨e1, he1, h2_⟩ := Option.bind_eq_some_iff.1 h
  have H1 := Za.mk he1
  have H2 := Za.mk h2_
  clear h he1 h2_
  have hmm := @run_makeMap Try.prog
  go_enter Try.func30, Try.ntmps30
  go_wp2_with (first | ((with_reducible refine Zaz (N := 1) rfl ?_); refine Za5 ?hg (N := 1) ?hd (cs := #[.slice A0 vars.length c0, .slice A1 cons.length c1, .int .i64 gkd, .slice A3 gv.length c3, .slice A4 gc.length c4]) (t := 28) ?hr ?_; (case hd => rfl); (case hg => rfl); (case hr => first | (go_simp; done) | (go_simp; rfl)); intro gm hg wb hbox hb; have HB := Za.mk (Zad (mvB HBw.out) hb); have BK := Za.mk hbox; clear hb hg; have hm0 : wb.cell? ⟨gm, 0, none⟩ = some (.slice A0 vars.length c0) := (Zah hbox 0).trans rfl; have hm1 : wb.cell? ⟨gm, 1, none⟩ = some (.slice A1 cons.length c1) := (Zah hbox 1).trans rfl; have hm2 : wb.cell? ⟨gm, 2, none⟩ = some (.int .i64 gkd) := (Zah hbox 2).trans rfl; have hm3 : wb.cell? ⟨gm, 3, none⟩ = some (.slice A3 gv.length c3) := (Zah hbox 3).trans rfl; have hm4 : wb.cell? ⟨gm, 4, none⟩ = some (.slice A4 gc.length c4) := (Zah hbox 4).trans rfl; have hn0 : (wb.alloc (.map #[] 0)).cell? ⟨gm, 0, none⟩ = some (.slice A0 vars.length c0) := (Zah (Zaf hbox _) 0).trans rfl; have hn1 : (wb.alloc (.map #[] 0)).cell? ⟨gm, 1, none⟩ = some (.slice A1 cons.length c1) := (Zah (Zaf hbox _) 1).trans rfl; have hn2 : (wb.alloc (.map #[] 0)).cell? ⟨gm, 2, none⟩ = some (.int .i64 gkd) := (Zah (Zaf hbox _) 2).trans rfl; have hn3 : (wb.alloc (.map #[] 0)).cell? ⟨gm, 3, none⟩ = some (.slice A3 gv.length c3) := (Zah (Zaf hbox _) 3).trans rfl; have hn4 : (wb.alloc (.map #[] 0)).cell? ⟨gm, 4, none⟩ = some (.slice A4 gc.length c4) := (Zah (Zaf hbox _) 4).trans rfl; clear hbox))
  go_loopg [24] vars.length (fun gg s24 w' => ∃ i : Nat, s24 = .int .i64 i ∧ i ≤ vars.length ∧ vars.length - i ≤ gg ∧ Za (Below wb.heap.size wb w') ∧ Za (SetN w' wb.heap.size ((vars.take i).map (·.f0))) ∧ Za (Zd9 k (vars.drop i) ((vars.take i).map (·.f0)) = some e1))
  case atStart => exact ⟨0, rfl, Nat.zero_le _, Nat.le_refl _, ⟨Zab (Below.refl _ _) _⟩, ⟨SetN.made wb⟩, ⟨by simpa using H1.out⟩⟩
  case round =>
    clear hmm hm0 hm1 hm2 hm3 hm4 hn0 hn1 hn2 hn3 hn4
    obtain ⟨i, rfl, hi, hg, BW, HS, HA⟩ := hrel
    have hmb := HS.out.lt
    have HMB := Za.mk hmb
    clear hmb
    have HWR := Za.mk (Zad HB.out BW.out)
    have BKr := Za.mk (Zau BK.out BW.out)
    have hr0 : wr.cell? ⟨gm, 0, none⟩ = some (.slice A0 vars.length c0) := (Zah BKr.out 0).trans rfl
    have hr1 : wr.cell? ⟨gm, 1, none⟩ = some (.slice A1 cons.length c1) := (Zah BKr.out 1).trans rfl
    have hr2 : wr.cell? ⟨gm, 2, none⟩ = some (.int .i64 gkd) := (Zah BKr.out 2).trans rfl
    have hr3 : wr.cell? ⟨gm, 3, none⟩ = some (.slice A3 gv.length c3) := (Zah BKr.out 3).trans rfl
    have hr4 : wr.cell? ⟨gm, 4, none⟩ = some (.slice A4 gc.length c4) := (Zah BKr.out 4).trans rfl
    by_cases hlt : i < vars.length
    rotate_left
    · obtain rfl : i = vars.length := by omega
      have HA1 := HA.out
      rw [List.drop_length, Zd9] at HA1
      obtain rfl := Option.some.inj HA1
      clear HA HA1 HS HMB hi hg hlt
      have p1_ : decide ((vars.length : Int) < (vars.length : Int)) = false := decide_eq_false (by omega)
      have H3 := H2.out
      rw [if_pos rfl] at H3
      clear H2
      obtain ⟨d, hd, H4⟩ := Option.bind_eq_some_iff.1 H3
      obtain ⟨e2, he2, H5⟩ := Option.bind_eq_some_iff.1 H4
      have HDm := Za.mk hd
      have HE2 := Za.mk he2
      have HR := Za.mk H5
      clear H3 H4 H5 hd he2
      go_wp2_with (first | (go_at_call 25; go_loud (refine (Zbx.calls k A0 c0 vars A1 c1 cons gkd A3 c3 gv A4 c4 gc d _ (Kd.Zak HR0.out (mvB HWR.out)) hc0 (Kd.Zak HR1.out (mvB HWR.out)) hc1 (Kd.Zak HR3.out (mvB HWR.out)) hc3 (Kd.Zak HR4.out (mvB HWR.out)) hc4 HDm.out).mono ?_; rintro e_ wd ⟨vd, rfl, ho, hb⟩; replace ho := Kd.S_N ho; obtain ⟨Ad, cd, ed⟩ := Kd.Zce ho; subst ed; have HCd := Za.mk (Kd.Zbt ho); have BD := Za.mk (Zad (mvB HWR.out) hb); have BKd := Za.mk (Zau (mvK BKr.out) hb); have hd0 : wd.cell? ⟨gm, 0, none⟩ = some (.slice A0 vars.length c0) := (Zah BKd.out 0).trans rfl; have hd1 : wd.cell? ⟨gm, 1, none⟩ = some (.slice A1 cons.length c1) := (Zah BKd.out 1).trans rfl; have hd2 : wd.cell? ⟨gm, 2, none⟩ = some (.int .i64 gkd) := (Zah BKd.out 2).trans rfl; have hd3 : wd.cell? ⟨gm, 3, none⟩ = some (.slice A3 gv.length c3) := (Zah BKd.out 3).trans rfl; have hd4 : wd.cell? ⟨gm, 4, none⟩ = some (.slice A4 gc.length c4) := (Zah BKd.out 4).trans rfl; clear ho hb)))
      go_loopg [58] cons.length (fun gg s58 w' => ∃ j : Nat, s58 = .int .i64 j ∧ j ≤ cons.length ∧ cons.length - j ≤ gg ∧ Za (Below wd.heap.size wd w') ∧ Za (Zd8 k d (cons.drop j) = some e2))
      case atStart => exact ⟨0, rfl, Nat.zero_le _, Nat.le_refl _, ⟨mvB (Below.refl wd.heap.size wd)⟩, ⟨by simpa using HE2.out⟩⟩
      case round =>
        clear hd0 hd1 hd2 hd3 hd4 hr0 hr1 hr2 hr3 hr4
        obtain ⟨j, rfl, hj, hg, BW2, HA⟩ := hrel
        obtain ⟨wq, rfl⟩ : ∃ x : World, x = wr := ⟨_, rfl⟩
        have HWQ := Za.mk (Zad BD.out BW2.out)
        have BKq := Za.mk (Zau BKd.out BW2.out)
        have hq0 : wq.cell? ⟨gm, 0, none⟩ = some (.slice A0 vars.length c0) := (Zah BKq.out 0).trans rfl
        have hq1 : wq.cell? ⟨gm, 1, none⟩ = some (.slice A1 cons.length c1) := (Zah BKq.out 1).trans rfl
        have hq2 : wq.cell? ⟨gm, 2, none⟩ = some (.int .i64 gkd) := (Zah BKq.out 2).trans rfl
        have hq3 : wq.cell? ⟨gm, 3, none⟩ = some (.slice A3 gv.length c3) := (Zah BKq.out 3).trans rfl
        have hq4 : wq.cell? ⟨gm, 4, none⟩ = some (.slice A4 gc.length c4) := (Zah BKq.out 4).trans rfl
        by_cases hlt : j < cons.length
        rotate_left
        · obtain rfl : j = cons.length := by omega
          have HA1 := HA.out
          rw [List.drop_length, Zd8] at HA1
          obtain rfl := Option.some.inj HA1
          clear HA HA1 hj hg hlt
          have p3_ : decide ((cons.length : Int) < (cons.length : Int)) = false := decide_eq_false (by omega)
          have H6 := HR.out
          rw [if_pos rfl] at H6
          have HG := Za.mk H6
          clear HR H6
          go_wp2_with (first | (go_at_call 19; go_loud (refine (Zdx.calls k Ad cd d gkd A3 c3 gv A4 c4 gc r _ (Kd.Zak HCd.out.2.2 (mvB BW2.out)) HCd.out.2.1 (Kd.Zak HR3.out (mvB HWQ.out)) hc3 (Kd.Zak HR4.out (mvB HWQ.out)) hc4 HG.out).mono ?_; rintro e_ w12 ⟨rfl, hb⟩; have BV2 := Za.mk (Zad (mvB HWQ.out) hb); clear hb)))
          go_ret
          exact ⟨rfl, mvB BV2.out⟩
        have hltz : (j : Int) < (cons.length : Int) := by omega
        have p3_ : decide ((j : Int) < (cons.length : Int)) = true := decide_eq_true hltz
        have p4_ : decide ((0 : Int) ≤ (j : Int)) = true := decide_eq_true (by omega)
        obtain ⟨ad, B1, b1, B2, b2, B5, b5, e_, hx0, hx1, hx2, hx3, hx4, hx5, hx6, hl1, hi1, hl2, hi2, hl5, hi5⟩ := at_T31 (Kd.Zak HR1.out HWQ.out) (j : Int) (by omega) hltz
        cases e_
        simp only [Int.toNat_natCast] at hx0 hx1 hx2 hx3 hx4 hx5 hx6
        have HA1 := HA.out
        rw [drop_rdC hlt, Zd8] at HA1
        generalize Zai cons (j : Int) = x at hx0 hx1 hx2 hx3 hx4 hx5 hx6 hl1 hi1 hl2 hi2 hl5 hi5 HA1
        have HI1 := Za.mk hi1
        have HL1 := Za.mk hl1
        clear hi1 hl1
        have HI2 := Za.mk hi2
        have HL2 := Za.mk hl2
        clear hi2 hl2
        have HI5 := Za.mk hi5
        have HL5 := Za.mk hl5
        clear hi5 hl5
        obtain ⟨e, he, HA2⟩ := Option.bind_eq_some_iff.1 HA1
        have HE := Za.mk he
        clear HA HA1 he
        by_cases he0 : e = 0
        · subst he0
          rw [if_pos rfl] at HA2
          go_wp2_with (first | ((with_reducible refine Zaz (N := 8) rfl ?_); refine Za5 ?hg (N := 8) ?hd (cs := #[.int .i64 0, .slice none 0 0, .slice none 0 0, .int .i64 0, .int .i64 0, .slice none 0 0, .int .i64 0]) (t := 31) ?hr ?_; (case hd => rfl); (case hg => rfl); (case hr => first | (go_simp; done) | (go_simp; rfl)); intro g8 hg8 w9 hbox hb; have BX := Za.mk hbox; have hcz0 : w9.cell? ⟨g8, 0, none⟩ = some (.int .i64 0) := (Zah hbox 0).trans rfl; have hfz0 := Zap hbox 0; have hcz1 : w9.cell? ⟨g8, 1, none⟩ = some (.slice none 0 0) := (Zah hbox 1).trans rfl; have hfz1 := Zap hbox 1; have hcz2 : w9.cell? ⟨g8, 2, none⟩ = some (.slice none 0 0) := (Zah hbox 2).trans rfl; have hfz2 := Zap hbox 2; have hcz3 : w9.cell? ⟨g8, 3, none⟩ = some (.int .i64 0) := (Zah hbox 3).trans rfl; have hfz3 := Zap hbox 3; have hcz4 : w9.cell? ⟨g8, 4, none⟩ = some (.int .i64 0) := (Zah hbox 4).trans rfl; have hfz4 := Zap hbox 4; have hcz5 : w9.cell? ⟨g8, 5, none⟩ = some (.slice none 0 0) := (Zah hbox 5).trans rfl; have hfz5 := Zap hbox 5; have hcz6 : w9.cell? ⟨g8, 6, none⟩ = some (.int .i64 0) := (Zah hbox 6).trans rfl; have hfz6 := Zap hbox 6; have BV := Za.mk (Zad (mvB (Below.refl wq.heap.size wq)) hb); have HG8 : Za (wq.heap.size ≤ g8) := ⟨by rw [hg8]; exact (mvB (Below.refl wq.heap.size wq)).size⟩; clear hbox hb hg8) | (go_at_call 14; go_loud (have B7 := Za.mk (show Below wq.heap.size wq (((((((w9.setCell ⟨g8, 0, none⟩ (.int .i64 x.f0)).setCell ⟨g8, 1, none⟩ (.slice B1 x.f1.length b1)).setCell ⟨g8, 2, none⟩ (.slice B2 x.f2.length b2)).setCell ⟨g8, 3, none⟩ (.int .i64 x.f3)).setCell ⟨g8, 4, none⟩ (.int .i64 x.f4)).setCell ⟨g8, 5, none⟩ (.slice B5 x.f5.length b5)).setCell ⟨g8, 6, none⟩ (.int .i64 x.f6)) from Zae (Zae (Zae (Zae (Zae (Zae (Zae BV.out HG8.out) HG8.out) HG8.out) HG8.out) HG8.out) HG8.out) HG8.out); refine (Zbl.calls k Ad cd d x.f0 B1 b1 x.f1 B2 b2 x.f2 x.f3 x.f4 B5 b5 x.f5 x.f6 _ _ (Kd.Zak HCd.out.2.2 (Zad BW2.out (mvB B7.out))) HCd.out.2.1 (Kd.Zak HI1.out (mvB B7.out)) HL1.out (Kd.Zak HI2.out (mvB B7.out)) HL2.out (Kd.Zak HI5.out (mvB B7.out)) HL5.out HE.out).mono ?_; rintro e_ w12 ⟨rfl, hb⟩; have BV2 := Za.mk (Zad (mvB B7.out) hb); clear hb)))
          have h256_ := L256.out
          go_roundg (cons.length - (j + 1))
          case measure => omega
          case rel => exact ⟨j + 1, (by rw [show wrap64 ((j : Int) + 1) = ((j + 1 : Nat) : Int) from by unfold wrap64; omega]), by omega, Nat.le_refl _, ⟨Zad BW2.out (mvB BV2.out)⟩, ⟨HA2⟩⟩
        rw [if_neg he0] at HA2
        obtain rfl := Option.some.inj HA2
        have h4 := HR.out
        rw [if_neg he0] at h4
        obtain rfl := Option.some.inj h4
        clear h4 HA2
        have de1 : (e == 0) = false := beq_eq_false_iff_ne.2 he0
        have de2 : (e != 0) = true := by simp only [bne, de1, Bool.not_false]
        have de3 : decide (e = 0) = false := decide_eq_false he0
        clear he0
        go_wp2_with (first | ((with_reducible refine Zaz (N := 8) rfl ?_); refine Za5 ?hg (N := 8) ?hd (cs := #[.int .i64 0, .slice none 0 0, .slice none 0 0, .int .i64 0, .int .i64 0, .slice none 0 0, .int .i64 0]) (t := 31) ?hr ?_; (case hd => rfl); (case hg => rfl); (case hr => first | (go_simp; done) | (go_simp; rfl)); intro g8 hg8 w9 hbox hb; have BX := Za.mk hbox; have hcz0 : w9.cell? ⟨g8, 0, none⟩ = some (.int .i64 0) := (Zah hbox 0).trans rfl; have hfz0 := Zap hbox 0; have hcz1 : w9.cell? ⟨g8, 1, none⟩ = some (.slice none 0 0) := (Zah hbox 1).trans rfl; have hfz1 := Zap hbox 1; have hcz2 : w9.cell? ⟨g8, 2, none⟩ = some (.slice none 0 0) := (Zah hbox 2).trans rfl; have hfz2 := Zap hbox 2; have hcz3 : w9.cell? ⟨g8, 3, none⟩ = some (.int .i64 0) := (Zah hbox 3).trans rfl; have hfz3 := Zap hbox 3; have hcz4 : w9.cell? ⟨g8, 4, none⟩ = some (.int .i64 0) := (Zah hbox 4).trans rfl; have hfz4 := Zap hbox 4; have hcz5 : w9.cell? ⟨g8, 5, none⟩ = some (.slice none 0 0) := (Zah hbox 5).trans rfl; have hfz5 := Zap hbox 5; have hcz6 : w9.cell? ⟨g8, 6, none⟩ = some (.int .i64 0) := (Zah hbox 6).trans rfl; have hfz6 := Zap hbox 6; have BV := Za.mk (Zad (mvB (Below.refl wq.heap.size wq)) hb); have HG8 : Za (wq.heap.size ≤ g8) := ⟨by rw [hg8]; exact (mvB (Below.refl wq.heap.size wq)).size⟩; clear hbox hb hg8) | (go_at_call 14; go_loud (have B7 := Za.mk (show Below wq.heap.size wq (((((((w9.setCell ⟨g8, 0, none⟩ (.int .i64 x.f0)).setCell ⟨g8, 1, none⟩ (.slice B1 x.f1.length b1)).setCell ⟨g8, 2, none⟩ (.slice B2 x.f2.length b2)).setCell ⟨g8, 3, none⟩ (.int .i64 x.f3)).setCell ⟨g8, 4, none⟩ (.int .i64 x.f4)).setCell ⟨g8, 5, none⟩ (.slice B5 x.f5.length b5)).setCell ⟨g8, 6, none⟩ (.int .i64 x.f6)) from Zae (Zae (Zae (Zae (Zae (Zae (Zae BV.out HG8.out) HG8.out) HG8.out) HG8.out) HG8.out) HG8.out) HG8.out); refine (Zbl.calls k Ad cd d x.f0 B1 b1 x.f1 B2 b2 x.f2 x.f3 x.f4 B5 b5 x.f5 x.f6 _ _ (Kd.Zak HCd.out.2.2 (Zad BW2.out (mvB B7.out))) HCd.out.2.1 (Kd.Zak HI1.out (mvB B7.out)) HL1.out (Kd.Zak HI2.out (mvB B7.out)) HL2.out (Kd.Zak HI5.out (mvB B7.out)) HL5.out HE.out).mono ?_; rintro e_ w12 ⟨rfl, hb⟩; have BV2 := Za.mk (Zad (mvB B7.out) hb); clear hb)))
        go_ret
        exact ⟨rfl, Zad HWQ.out (mvB BV2.out)⟩
    have hltz : (i : Int) < (vars.length : Int) := by omega
    have p1_ : decide ((i : Int) < (vars.length : Int)) = true := decide_eq_true hltz
    have p2_ : decide ((0 : Int) ≤ (i : Int)) = true := decide_eq_true (by omega)
    obtain ⟨ad, A5, c5, e_, hx0, hx1, hl1, hi1⟩ := at_T50 (Kd.Zak HR0.out HWR.out) (i : Int) (by omega) hltz
    cases e_
    simp only [Int.toNat_natCast] at hx0 hx1
    have HA1 := HA.out
    rw [drop_rd hlt, Zd9] at HA1
    have HTK := Za.mk (take_rd hlt)
    generalize Zbg vars (i : Int) = x at hx0 hx1 hl1 hi1 HA1 HTK
    have HI1 := Za.mk hi1
    have HL1 := Za.mk hl1
    clear hi1 hl1 HA
    obtain ⟨nm, hnm, HA2⟩ := Option.bind_eq_some_iff.1 HA1
    have HN := Za.mk hnm
    clear HA1 hnm
    have HGB : Za (wb.heap.size ≤ wr.heap.size) := ⟨BW.out.size⟩
    cases nm with
    | false =>
      rw [if_pos rfl] at HA2
      obtain rfl := Option.some.inj HA2
      have h4 := H2.out
      rw [if_neg (by decide)] at h4
      obtain rfl := Option.some.inj h4
      clear h4 HA2
      go_wp2_with (first | ((with_reducible refine Zaz (N := 5) rfl ?_); refine Za5 ?hg (N := 5) ?hd (cs := #[.string (⟨#[]⟩ : ByteArray), .slice none 0 0]) (t := 50) ?hr ?_; (case hd => rfl); (case hg => rfl); (case hr => first | (go_simp; done) | (go_simp; rfl)); intro g5 hg5 w9 hbox hb; have BX := Za.mk hbox; have hcz0 : w9.cell? ⟨g5, 0, none⟩ = some (.string (⟨#[]⟩ : ByteArray)) := (Zah hbox 0).trans rfl; have hcz1 : w9.cell? ⟨g5, 1, none⟩ = some (.slice none 0 0) := (Zah hbox 1).trans rfl; have hfz0 := Zap hbox 0; have hfz1 := Zap hbox 1; have BV := Za.mk (Zad (mvB (Below.refl wr.heap.size wr)) hb); have HG5 : Za (wr.heap.size ≤ g5) := ⟨by rw [hg5]; exact (mvB (Below.refl wr.heap.size wr)).size⟩; have HM5 : Za (wb.heap.size ≠ g5) := ⟨by rw [hg5]; exact Nat.ne_of_lt (Nat.lt_of_lt_of_le HMB.out (mvB (Below.refl wr.heap.size wr)).size)⟩; have HS9 := Za.mk (SetN.below (SetN.below HS.out (mvB (Below.refl wr.heap.size wr))) hb); clear hbox hb hg5) | (go_at_call 21; go_loud (refine (Zbz.calls x.f0 _ _ HN.out).mono ?_; rintro e w12 ⟨rfl, hb⟩; have BX2 := Za.mk (Zau (mvK (Zax (cs' := #[.string x.f0, .slice A5 x.f1.length c5]) (Zax (cs' := #[.string x.f0, .slice none 0 0]) BX.out 0 (.string x.f0) rfl) 1 (.slice A5 x.f1.length c5) rfl)) hb); have BV2 := Za.mk (Zad (mvB (show Below wr.heap.size wr ((w9.setCell ⟨g5, 0, none⟩ (.string x.f0)).setCell ⟨g5, 1, none⟩ (.slice A5 x.f1.length c5)) from Zae (Zae BV.out HG5.out) HG5.out)) hb); have HS2 := Za.mk (SetN.below (SetN.below (show SetN ((w9.setCell ⟨g5, 0, none⟩ (.string x.f0)).setCell ⟨g5, 1, none⟩ (.slice A5 x.f1.length c5)) _ _ from SetN.far HS9.out HM5.out) (mvB (Below.refl ((w9.setCell ⟨g5, 0, none⟩ (.string x.f0)).setCell ⟨g5, 1, none⟩ (.slice A5 x.f1.length c5)).heap.size ((w9.setCell ⟨g5, 0, none⟩ (.string x.f0)).setCell ⟨g5, 1, none⟩ (.slice A5 x.f1.length c5))))) hb); have hcy0 : w12.cell? ⟨g5, 0, none⟩ = some (.string x.f0) := (Zah BX2.out 0).trans rfl; have hcy1 : w12.cell? ⟨g5, 1, none⟩ = some (.slice A5 x.f1.length c5) := (Zah BX2.out 1).trans rfl; clear hb)))
      go_ret
      exact ⟨rfl, Zad HWR.out (mvB BV2.out)⟩
    | true =>
      rw [if_neg (by decide)] at HA2
      have HSZ := Za.mk (name_size HN.out)
      generalize hhad : hasN ((vars.take i).map (·.f0)) x.f0 = had at HA2
      have HD := Za.mk hhad
      clear hhad
      cases had with
      | true =>
        rw [if_pos rfl] at HA2
        obtain rfl := Option.some.inj HA2
        have h4 := H2.out
        rw [if_neg (by decide)] at h4
        obtain rfl := Option.some.inj h4
        clear h4 HA2
        go_wp2_with (first | ((with_reducible refine Zaz (N := 5) rfl ?_); refine Za5 ?hg (N := 5) ?hd (cs := #[.string (⟨#[]⟩ : ByteArray), .slice none 0 0]) (t := 50) ?hr ?_; (case hd => rfl); (case hg => rfl); (case hr => first | (go_simp; done) | (go_simp; rfl)); intro g5 hg5 w9 hbox hb; have BX := Za.mk hbox; have hcz0 : w9.cell? ⟨g5, 0, none⟩ = some (.string (⟨#[]⟩ : ByteArray)) := (Zah hbox 0).trans rfl; have hcz1 : w9.cell? ⟨g5, 1, none⟩ = some (.slice none 0 0) := (Zah hbox 1).trans rfl; have hfz0 := Zap hbox 0; have hfz1 := Zap hbox 1; have BV := Za.mk (Zad (mvB (Below.refl wr.heap.size wr)) hb); have HG5 : Za (wr.heap.size ≤ g5) := ⟨by rw [hg5]; exact (mvB (Below.refl wr.heap.size wr)).size⟩; have HM5 : Za (wb.heap.size ≠ g5) := ⟨by rw [hg5]; exact Nat.ne_of_lt (Nat.lt_of_lt_of_le HMB.out (mvB (Below.refl wr.heap.size wr)).size)⟩; have HS9 := Za.mk (SetN.below (SetN.below HS.out (mvB (Below.refl wr.heap.size wr))) hb); clear hbox hb hg5) | (go_at_call 21; go_loud (refine (Zbz.calls x.f0 _ _ HN.out).mono ?_; rintro e w12 ⟨rfl, hb⟩; have BX2 := Za.mk (Zau (mvK (Zax (cs' := #[.string x.f0, .slice A5 x.f1.length c5]) (Zax (cs' := #[.string x.f0, .slice none 0 0]) BX.out 0 (.string x.f0) rfl) 1 (.slice A5 x.f1.length c5) rfl)) hb); have BV2 := Za.mk (Zad (mvB (show Below wr.heap.size wr ((w9.setCell ⟨g5, 0, none⟩ (.string x.f0)).setCell ⟨g5, 1, none⟩ (.slice A5 x.f1.length c5)) from Zae (Zae BV.out HG5.out) HG5.out)) hb); have HS2 := Za.mk (SetN.below (SetN.below (show SetN ((w9.setCell ⟨g5, 0, none⟩ (.string x.f0)).setCell ⟨g5, 1, none⟩ (.slice A5 x.f1.length c5)) _ _ from SetN.far HS9.out HM5.out) (mvB (Below.refl ((w9.setCell ⟨g5, 0, none⟩ (.string x.f0)).setCell ⟨g5, 1, none⟩ (.slice A5 x.f1.length c5)).heap.size ((w9.setCell ⟨g5, 0, none⟩ (.string x.f0)).setCell ⟨g5, 1, none⟩ (.slice A5 x.f1.length c5))))) hb); have hcy0 : w12.cell? ⟨g5, 0, none⟩ = some (.string x.f0) := (Zah BX2.out 0).trans rfl; have hcy1 : w12.cell? ⟨g5, 1, none⟩ = some (.slice A5 x.f1.length c5) := (Zah BX2.out 1).trans rfl; clear hb)) | (refine Zdk rfl (.tmp 34) (.tmp 36) rfl rfl HS2.out rfl HSZ.out ?_; rw [HD.out]))
        go_ret
        exact ⟨rfl, Zad HWR.out (mvB BV2.out)⟩
      | false =>
        rw [if_neg (by decide)] at HA2
        by_cases hl0 : x.f1.length = 0
        · rw [if_pos hl0] at HA2
          obtain rfl := Option.some.inj HA2
          have h4 := H2.out
          rw [if_neg (by decide)] at h4
          obtain rfl := Option.some.inj h4
          clear h4 HA2
          have dl1 : ((x.f1.length : Int) == 0) = true := beq_iff_eq.2 (by omega)
          have dl2 : decide ((x.f1.length : Int) = 0) = true := decide_eq_true (by omega)
          have dl3 : decide (x.f1.length = 0) = true := decide_eq_true hl0
          have dl4 : (x.f1.length == 0) = true := beq_iff_eq.2 hl0
          clear hl0
          go_wp2_with (first | ((with_reducible refine Zaz (N := 5) rfl ?_); refine Za5 ?hg (N := 5) ?hd (cs := #[.string (⟨#[]⟩ : ByteArray), .slice none 0 0]) (t := 50) ?hr ?_; (case hd => rfl); (case hg => rfl); (case hr => first | (go_simp; done) | (go_simp; rfl)); intro g5 hg5 w9 hbox hb; have BX := Za.mk hbox; have hcz0 : w9.cell? ⟨g5, 0, none⟩ = some (.string (⟨#[]⟩ : ByteArray)) := (Zah hbox 0).trans rfl; have hcz1 : w9.cell? ⟨g5, 1, none⟩ = some (.slice none 0 0) := (Zah hbox 1).trans rfl; have hfz0 := Zap hbox 0; have hfz1 := Zap hbox 1; have BV := Za.mk (Zad (mvB (Below.refl wr.heap.size wr)) hb); have HG5 : Za (wr.heap.size ≤ g5) := ⟨by rw [hg5]; exact (mvB (Below.refl wr.heap.size wr)).size⟩; have HM5 : Za (wb.heap.size ≠ g5) := ⟨by rw [hg5]; exact Nat.ne_of_lt (Nat.lt_of_lt_of_le HMB.out (mvB (Below.refl wr.heap.size wr)).size)⟩; have HS9 := Za.mk (SetN.below (SetN.below HS.out (mvB (Below.refl wr.heap.size wr))) hb); clear hbox hb hg5) | (go_at_call 21; go_loud (refine (Zbz.calls x.f0 _ _ HN.out).mono ?_; rintro e w12 ⟨rfl, hb⟩; have BX2 := Za.mk (Zau (mvK (Zax (cs' := #[.string x.f0, .slice A5 x.f1.length c5]) (Zax (cs' := #[.string x.f0, .slice none 0 0]) BX.out 0 (.string x.f0) rfl) 1 (.slice A5 x.f1.length c5) rfl)) hb); have BV2 := Za.mk (Zad (mvB (show Below wr.heap.size wr ((w9.setCell ⟨g5, 0, none⟩ (.string x.f0)).setCell ⟨g5, 1, none⟩ (.slice A5 x.f1.length c5)) from Zae (Zae BV.out HG5.out) HG5.out)) hb); have HS2 := Za.mk (SetN.below (SetN.below (show SetN ((w9.setCell ⟨g5, 0, none⟩ (.string x.f0)).setCell ⟨g5, 1, none⟩ (.slice A5 x.f1.length c5)) _ _ from SetN.far HS9.out HM5.out) (mvB (Below.refl ((w9.setCell ⟨g5, 0, none⟩ (.string x.f0)).setCell ⟨g5, 1, none⟩ (.slice A5 x.f1.length c5)).heap.size ((w9.setCell ⟨g5, 0, none⟩ (.string x.f0)).setCell ⟨g5, 1, none⟩ (.slice A5 x.f1.length c5))))) hb); have hcy0 : w12.cell? ⟨g5, 0, none⟩ = some (.string x.f0) := (Zah BX2.out 0).trans rfl; have hcy1 : w12.cell? ⟨g5, 1, none⟩ = some (.slice A5 x.f1.length c5) := (Zah BX2.out 1).trans rfl; clear hb)) | (refine Zdk rfl (.tmp 34) (.tmp 36) rfl rfl HS2.out rfl HSZ.out ?_; rw [HD.out]))
          go_ret
          exact ⟨rfl, Zad HWR.out (mvB BV2.out)⟩
        rw [if_neg hl0] at HA2
        obtain ⟨e, he, HA3⟩ := Option.bind_eq_some_iff.1 HA2
        have HE := Za.mk he
        clear HA2 he
        have dl1 : ((x.f1.length : Int) == 0) = false := beq_eq_false_iff_ne.2 (by omega)
        have dl2 : decide ((x.f1.length : Int) = 0) = false := decide_eq_false (by omega)
        have dl3 : decide (x.f1.length = 0) = false := decide_eq_false hl0
        have dl4 : (x.f1.length == 0) = false := beq_eq_false_iff_ne.2 hl0
        clear hl0
        by_cases he0 : e = 0
        rotate_left
        · rw [if_neg he0] at HA3
          obtain rfl := Option.some.inj HA3
          have h4 := H2.out
          rw [if_neg (by decide)] at h4
          obtain rfl := Option.some.inj h4
          clear h4 HA3
          have de1 : (e == 0) = false := beq_eq_false_iff_ne.2 he0
          have de2 : (e != 0) = true := by simp only [bne, de1, Bool.not_false]
          have de3 : decide (e = 0) = false := decide_eq_false he0
          clear he0
          go_wp2_with (first | ((with_reducible refine Zaz (N := 5) rfl ?_); refine Za5 ?hg (N := 5) ?hd (cs := #[.string (⟨#[]⟩ : ByteArray), .slice none 0 0]) (t := 50) ?hr ?_; (case hd => rfl); (case hg => rfl); (case hr => first | (go_simp; done) | (go_simp; rfl)); intro g5 hg5 w9 hbox hb; have BX := Za.mk hbox; have hcz0 : w9.cell? ⟨g5, 0, none⟩ = some (.string (⟨#[]⟩ : ByteArray)) := (Zah hbox 0).trans rfl; have hcz1 : w9.cell? ⟨g5, 1, none⟩ = some (.slice none 0 0) := (Zah hbox 1).trans rfl; have hfz0 := Zap hbox 0; have hfz1 := Zap hbox 1; have BV := Za.mk (Zad (mvB (Below.refl wr.heap.size wr)) hb); have HG5 : Za (wr.heap.size ≤ g5) := ⟨by rw [hg5]; exact (mvB (Below.refl wr.heap.size wr)).size⟩; have HM5 : Za (wb.heap.size ≠ g5) := ⟨by rw [hg5]; exact Nat.ne_of_lt (Nat.lt_of_lt_of_le HMB.out (mvB (Below.refl wr.heap.size wr)).size)⟩; have HS9 := Za.mk (SetN.below (SetN.below HS.out (mvB (Below.refl wr.heap.size wr))) hb); clear hbox hb hg5) | (go_at_call 21; go_loud (refine (Zbz.calls x.f0 _ _ HN.out).mono ?_; rintro e w12 ⟨rfl, hb⟩; have BX2 := Za.mk (Zau (mvK (Zax (cs' := #[.string x.f0, .slice A5 x.f1.length c5]) (Zax (cs' := #[.string x.f0, .slice none 0 0]) BX.out 0 (.string x.f0) rfl) 1 (.slice A5 x.f1.length c5) rfl)) hb); have BV2 := Za.mk (Zad (mvB (show Below wr.heap.size wr ((w9.setCell ⟨g5, 0, none⟩ (.string x.f0)).setCell ⟨g5, 1, none⟩ (.slice A5 x.f1.length c5)) from Zae (Zae BV.out HG5.out) HG5.out)) hb); have HS2 := Za.mk (SetN.below (SetN.below (show SetN ((w9.setCell ⟨g5, 0, none⟩ (.string x.f0)).setCell ⟨g5, 1, none⟩ (.slice A5 x.f1.length c5)) _ _ from SetN.far HS9.out HM5.out) (mvB (Below.refl ((w9.setCell ⟨g5, 0, none⟩ (.string x.f0)).setCell ⟨g5, 1, none⟩ (.slice A5 x.f1.length c5)).heap.size ((w9.setCell ⟨g5, 0, none⟩ (.string x.f0)).setCell ⟨g5, 1, none⟩ (.slice A5 x.f1.length c5))))) hb); have hcy0 : w12.cell? ⟨g5, 0, none⟩ = some (.string x.f0) := (Zah BX2.out 0).trans rfl; have hcy1 : w12.cell? ⟨g5, 1, none⟩ = some (.slice A5 x.f1.length c5) := (Zah BX2.out 1).trans rfl; clear hb)) | (refine Zdk rfl (.tmp 34) (.tmp 36) rfl rfl HS2.out rfl HSZ.out ?_; rw [HD.out]) | (go_at_call 57; go_loud (refine (Zdu.calls k A5 c5 x.f1 _ _ (Kd.Zak HI1.out (mvB BV2.out)) HL1.out HE.out).mono ?_; rintro e_ w13 ⟨rfl, hb⟩; have BV3 := Za.mk (Zad (mvB BV2.out) hb); have HS3 := Za.mk (SetN.below (SetN.below HS2.out (mvB (Below.refl w12.heap.size w12))) hb); have hcw0 : w13.cell? ⟨g5, 0, none⟩ = some (.string x.f0) := (Zah (Zau (mvK BX2.out) hb) 0).trans rfl; have hcw1 : w13.cell? ⟨g5, 1, none⟩ = some (.slice A5 x.f1.length c5) := (Zah (Zau (mvK BX2.out) hb) 1).trans rfl; clear hb)))
          go_ret
          exact ⟨rfl, Zad HWR.out (mvB BV3.out)⟩
        subst he0
        rw [if_pos rfl] at HA3
        have HLN : Za (((vars.take i).map (·.f0)).length < maxLen) := ⟨Nat.lt_of_le_of_lt (Nat.le_trans (by simp; omega) L64.out) (by decide)⟩
        go_wp2_with (first | ((with_reducible refine Zaz (N := 5) rfl ?_); refine Za5 ?hg (N := 5) ?hd (cs := #[.string (⟨#[]⟩ : ByteArray), .slice none 0 0]) (t := 50) ?hr ?_; (case hd => rfl); (case hg => rfl); (case hr => first | (go_simp; done) | (go_simp; rfl)); intro g5 hg5 w9 hbox hb; have BX := Za.mk hbox; have hcz0 : w9.cell? ⟨g5, 0, none⟩ = some (.string (⟨#[]⟩ : ByteArray)) := (Zah hbox 0).trans rfl; have hcz1 : w9.cell? ⟨g5, 1, none⟩ = some (.slice none 0 0) := (Zah hbox 1).trans rfl; have hfz0 := Zap hbox 0; have hfz1 := Zap hbox 1; have BV := Za.mk (Zad (mvB (Below.refl wr.heap.size wr)) hb); have HG5 : Za (wr.heap.size ≤ g5) := ⟨by rw [hg5]; exact (mvB (Below.refl wr.heap.size wr)).size⟩; have HM5 : Za (wb.heap.size ≠ g5) := ⟨by rw [hg5]; exact Nat.ne_of_lt (Nat.lt_of_lt_of_le HMB.out (mvB (Below.refl wr.heap.size wr)).size)⟩; have HS9 := Za.mk (SetN.below (SetN.below HS.out (mvB (Below.refl wr.heap.size wr))) hb); clear hbox hb hg5) | (go_at_call 21; go_loud (refine (Zbz.calls x.f0 _ _ HN.out).mono ?_; rintro e w12 ⟨rfl, hb⟩; have BX2 := Za.mk (Zau (mvK (Zax (cs' := #[.string x.f0, .slice A5 x.f1.length c5]) (Zax (cs' := #[.string x.f0, .slice none 0 0]) BX.out 0 (.string x.f0) rfl) 1 (.slice A5 x.f1.length c5) rfl)) hb); have BV2 := Za.mk (Zad (mvB (show Below wr.heap.size wr ((w9.setCell ⟨g5, 0, none⟩ (.string x.f0)).setCell ⟨g5, 1, none⟩ (.slice A5 x.f1.length c5)) from Zae (Zae BV.out HG5.out) HG5.out)) hb); have HS2 := Za.mk (SetN.below (SetN.below (show SetN ((w9.setCell ⟨g5, 0, none⟩ (.string x.f0)).setCell ⟨g5, 1, none⟩ (.slice A5 x.f1.length c5)) _ _ from SetN.far HS9.out HM5.out) (mvB (Below.refl ((w9.setCell ⟨g5, 0, none⟩ (.string x.f0)).setCell ⟨g5, 1, none⟩ (.slice A5 x.f1.length c5)).heap.size ((w9.setCell ⟨g5, 0, none⟩ (.string x.f0)).setCell ⟨g5, 1, none⟩ (.slice A5 x.f1.length c5))))) hb); have hcy0 : w12.cell? ⟨g5, 0, none⟩ = some (.string x.f0) := (Zah BX2.out 0).trans rfl; have hcy1 : w12.cell? ⟨g5, 1, none⟩ = some (.slice A5 x.f1.length c5) := (Zah BX2.out 1).trans rfl; clear hb)) | (refine Zdk rfl (.tmp 34) (.tmp 36) rfl rfl HS2.out rfl HSZ.out ?_; rw [HD.out]) | (go_at_call 57; go_loud (refine (Zdu.calls k A5 c5 x.f1 _ _ (Kd.Zak HI1.out (mvB BV2.out)) HL1.out HE.out).mono ?_; rintro e_ w13 ⟨rfl, hb⟩; have BV3 := Za.mk (Zad (mvB BV2.out) hb); have HS3 := Za.mk (SetN.below (SetN.below HS2.out (mvB (Below.refl w12.heap.size w12))) hb); have hcw0 : w13.cell? ⟨g5, 0, none⟩ = some (.string x.f0) := (Zah (Zau (mvK BX2.out) hb) 0).trans rfl; have hcw1 : w13.cell? ⟨g5, 1, none⟩ = some (.slice A5 x.f1.length c5) := (Zah (Zau (mvK BX2.out) hb) 1).trans rfl; clear hb)) | (refine wpList_putN rfl (.tmp 49) (.tmp 51) (.const (.bool true)) rfl rfl HS3.out rfl rfl HSZ.out HLN.out ?_; intro w14 hm14 hg14; have HS4 := Za.mk hm14; have BV4 := Za.mk (hg14.size); have BW4 := Za.mk ((Zad BW.out (mvB BV3.out)).grown hg14 (Nat.le_trans HGB.out (mvB BV3.out).size) (fun k_ e_ => by injection e_ with e_; rw [← e_]; exact Nat.le_refl _)); clear hm14 hg14))
        have h64_ := L64.out
        go_roundg (vars.length - (i + 1))
        case measure => omega
        case rel => exact ⟨i + 1, (by rw [show wrap64 ((i : Int) + 1) = ((i + 1 : Nat) : Int) from by unfold wrap64; omega]), by omega, Nat.le_refl _, ⟨mvB BW4.out⟩, ⟨by rw [HTK.out]; exact SetN.below HS4.out (mvB (Below.refl w14.heap.size w14))⟩, ⟨by rw [HTK.out]; exact HA3⟩⟩
end Go.Proofs.Ytkgjaklnbgdmiaa.P
/- slices.EqualFunc: over lists of numbers, over variables, over constraints. -/
namespace Go.Proofs.Ytkgjaklnbgdmiaa.P
open Go.RowKit Go.Shelf Go.Proofs.YtkgjaklnbgdmiaaW.PrintWords Go.Proofs.YtkgjaklnbgdmiaaW.PrintLast Go.Proofs.YtkgjaklnbgdmiaaW.PrintMore
set_option linter.unusedVariables false
set_option linter.unusedSimpArgs false
def eqF {α : Type} (f : α → α → Option Bool) : List α → List α → Option Bool
  | x :: xs, y :: ys => (f x y).bind fun b => if b = true then eqF f xs ys else some false
  | _, _ => some true
def equalF {α : Type} (f : α → α → Option Bool) (xs ys : List α) : Option Bool := if xs.length = ys.length then eqF f xs ys else some false
theorem eqF_nil {α : Type} (f : α → α → Option Bool) (ys : List α) : eqF f [] ys = some true := by
  unfold eqF
  rfl
theorem cellE {W W' : World} {a : Addr} {v : Value} (hb : Below W.heap.size W W') (hc : W.cell? a = some v) : W'.cell? a = some v := (hb.cell (World.block_lt_of_cell? W _ hc)).trans hc
theorem Zdw {α : Type} (z : α) {xs : List α} {i : Nat} (hi : i < xs.length) : xs.drop i = xs.getD i z :: xs.drop (i + 1) := by
  rw [List.drop_eq_getElem_cons hi]
  simp [List.getD_eq_getElem?_getD, List.getElem?_eq_getElem hi]
set_option maxHeartbeats 4000000 in
set_option maxRecDepth 100000 in
theorem equalFunc_L (f : List Int → List Int → Option Bool) (g : Nat) (lb : Array Value) (eg : ∀ args w, (callFunc g args).run Try.prog w = .ok (.enter g args) w) (A0 : Option Addr) (c0 : Nat) (xs : List (List Int)) (A1 : Option Addr) (c1 : Nat) (ys : List (List Int)) (r : Bool) (w : World) (hr0 : Kd.C (Kd.slice 3 (Kd.int .i64)) w A0 xs.length xs) (hr1 : Kd.C (Kd.slice 3 (Kd.int .i64)) w A1 ys.length ys)
    (hp : ∀ (x y : List Int) (b : Bool) (W : World) (A1A : Option Addr) (c1A : Nat) (A1B : Option Addr) (c1B : Nat), f x y = some b → Below w.heap.size w W → x.length ≤ c1A → Kd.C (Kd.int .i64) W A1A x.length x → y.length ≤ c1B → Kd.C (Kd.int .i64) W A1B y.length y → Calls Try.prog g (#[.slice A1A x.length c1A, .slice A1B y.length c1B] ++ lb) W fun e w' => e = .returned (.bool b) ∧ Below W.heap.size W w')
    (h : equalF f xs ys = some r) : Calls Try.prog 84 #[.slice A0 xs.length c0, .slice A1 ys.length c1, .func (.func g) #[] lb] w fun e w' => e = .returned (.bool r) ∧ Below w.heap.size w w' := by
  have hlen : xs.length ≤ 9223372036854775807 := hr0.2.1
  have HR0 := Za.mk hr0
  have HR1 := Za.mk hr1
  have HP := Za.mk hp
  clear hr0 hr1 hp
  unfold equalF at h
  obtain ⟨wo, rfl⟩ : ∃ wo : World, wo = w := ⟨_, rfl⟩
  by_cases hl : xs.length = ys.length
  rotate_left
  · rw [if_neg hl] at h
    obtain rfl := Option.some.inj h
    clear h
    have n1_ : ((xs.length : Int) == (ys.length : Int)) = false := beq_eq_false_iff_ne.2 (by omega)
    have n2_ : ((xs.length : Int) != (ys.length : Int)) = true := by simp only [bne, n1_, Bool.not_false]
    have n3_ : decide ((xs.length : Int) = (ys.length : Int)) = false := decide_eq_false (by omega)
    have n4_ : decide (xs.length = ys.length) = false := decide_eq_false hl
    clear hl
    go_enter Try.func84, Try.ntmps84
    go_wp2
    go_ret
    exact ⟨rfl, Below.refl _ _⟩
  rw [if_pos hl] at h
  have HL := Za.mk hl
  have H0 := Za.mk h
  clear h
  have n1_ : ((xs.length : Int) == (ys.length : Int)) = true := beq_iff_eq.2 (by omega)
  have n2_ : ((xs.length : Int) != (ys.length : Int)) = false := by simp only [bne, n1_, Bool.not_true]
  have n3_ : decide ((xs.length : Int) = (ys.length : Int)) = true := decide_eq_true (by omega)
  have n4_ : decide (xs.length = ys.length) = true := decide_eq_true hl
  clear hl
  go_enter Try.func84, Try.ntmps84
  go_wp2
  go_loopg [17] xs.length (fun gg s17 wr => ∃ i : Nat, i ≤ xs.length ∧ xs.length - i ≤ gg ∧ s17 = .int .i64 i ∧ Za (Below wo.heap.size wo wr) ∧ Za (eqF f (xs.drop i) (ys.drop i) = some r))
  case atStart => exact ⟨0, Nat.zero_le _, by omega, rfl, ⟨Below.refl _ _⟩, ⟨by simpa using H0.out⟩⟩
  case round =>
    obtain ⟨i, hi, hg, rfl, BW, HA⟩ := hrel
    by_cases hlt : i < xs.length
    rotate_left
    · obtain rfl : i = xs.length := by omega
      have HA1 := HA.out
      rw [List.drop_length, eqF_nil] at HA1
      obtain rfl := Option.some.inj HA1
      clear HA HA1 hlt
      have p0_ : decide ((xs.length : Int) < (xs.length : Int)) = false := decide_eq_false (by omega)
      go_wp2
      go_ret
      exact ⟨rfl, BW.out⟩
    have hlt2 : i < ys.length := by have := HL.out; omega
    obtain ⟨ad, A1A, c1A, e0_, hx0, lA1A, gA1A⟩ := at_L1 (Kd.Zak HR0.out BW.out) (i : Int) (by omega) (by omega)
    obtain ⟨ad2, A1B, c1B, e1_, hy0, lA1B, gA1B⟩ := at_L1 (Kd.Zak HR1.out BW.out) (i : Int) (by omega) (by omega)
    subst e0_
    subst e1_
    simp only [Int.toNat_natCast] at hx0 hy0
    have HA1 := HA.out
    rw [Zdw ([] : List Int) hlt, Zdw ([] : List Int) hlt2, eqF] at HA1
    have q0_ : Zdz xs (i : Int) = xs.getD i ([] : List Int) := by simp [Zdz]
    have q1_ : Zdz ys (i : Int) = ys.getD i ([] : List Int) := by simp [Zdz]
    rw [q0_] at hx0 lA1A gA1A
    rw [q1_] at hy0 lA1B gA1B
    clear q0_ q1_
    generalize xs.getD i ([] : List Int) = x at hx0 lA1A gA1A HA1
    generalize ys.getD i ([] : List Int) = y at hy0 lA1B gA1B HA1
    obtain ⟨b, hb1, HA2⟩ := Option.bind_eq_some_iff.1 HA1
    have hcall := fun (W : World) (hW : Below wr.heap.size wr W) => HP.out x y b W A1A c1A A1B c1B hb1 (Zad BW.out hW) lA1A (Kd.Zak gA1A hW) lA1B (Kd.Zak gA1B hW)
    have CC := Za.mk hcall
    clear hcall HA HA1 hb1 lA1A gA1A lA1B gA1B
    have p0_ : decide ((i : Int) < (xs.length : Int)) = true := decide_eq_true (by omega)
    have p1_ : decide ((0 : Int) ≤ (i : Int)) = true := decide_eq_true (by omega)
    have p2_ : decide ((i : Int) < (ys.length : Int)) = true := decide_eq_true (by omega)
    cases b with
    | false =>
      rw [if_neg (by decide)] at HA2
      obtain rfl := Option.some.inj HA2
      clear HA2
      go_wp2_with (first | (go_at_fn g; go_loud (have B9 := Za.mk (Below.refl wr.heap.size wr); refine (CC.out _ (mvB B9.out)).mono ?_; rintro e_ w12 ⟨rfl, hb⟩; have BE := Za.mk (Zad (mvB B9.out) hb); clear hb)))
      go_ret
      exact ⟨rfl, Zad BW.out (mvB BE.out)⟩
    | true =>
      rw [if_pos rfl] at HA2
      go_wp2_with (first | (go_at_fn g; go_loud (have B9 := Za.mk (Below.refl wr.heap.size wr); refine (CC.out _ (mvB B9.out)).mono ?_; rintro e_ w12 ⟨rfl, hb⟩; have BE := Za.mk (Zad (mvB B9.out) hb); clear hb)))
      go_roundg (xs.length - (i + 1))
      case measure => omega
      case rel => exact ⟨i + 1, by omega, by omega, (by first | go_num | (rw [show wrap64 ((i : Int) + 1) = ((i + 1 : Nat) : Int) from by unfold wrap64; omega])), ⟨Zad BW.out (mvB BE.out)⟩, ⟨HA2⟩⟩
set_option maxHeartbeats 4000000 in
set_option maxRecDepth 100000 in
theorem equalFunc_V (f : S50 → S50 → Option Bool) (g : Nat) (lb : Array Value) (eg : ∀ args w, (callFunc g args).run Try.prog w = .ok (.enter g args) w) (A0 : Option Addr) (c0 : Nat) (xs : List (S50)) (A1 : Option Addr) (c1 : Nat) (ys : List (S50)) (r : Bool) (w : World) (hr0 : Kd.C k50 w A0 xs.length xs) (hr1 : Kd.C k50 w A1 ys.length ys)
    (hp : ∀ (x y : S50) (b : Bool) (W : World) (A1A : Option Addr) (c1A : Nat) (A1B : Option Addr) (c1B : Nat), f x y = some b → Below w.heap.size w W → x.f1.length ≤ c1A → Kd.C k48 W A1A x.f1.length x.f1 → y.f1.length ≤ c1B → Kd.C k48 W A1B y.f1.length y.f1 → Calls Try.prog g (#[.agg #[.string x.f0, .slice A1A x.f1.length c1A], .agg #[.string y.f0, .slice A1B y.f1.length c1B]] ++ lb) W fun e w' => e = .returned (.bool b) ∧ Below W.heap.size W w')
    (h : equalF f xs ys = some r) : Calls Try.prog 51 #[.slice A0 xs.length c0, .slice A1 ys.length c1, .func (.func g) #[] lb] w fun e w' => e = .returned (.bool r) ∧ Below w.heap.size w w' := by
  have hlen : xs.length ≤ 9223372036854775807 := hr0.2.1
  have HR0 := Za.mk hr0
  have HR1 := Za.mk hr1
  have HP := Za.mk hp
  clear hr0 hr1 hp
  unfold equalF at h
  obtain ⟨wo, rfl⟩ : ∃ wo : World, wo = w := ⟨_, rfl⟩
  by_cases hl : xs.length = ys.length
  rotate_left
  · rw [if_neg hl] at h
    obtain rfl := Option.some.inj h
    clear h
    have n1_ : ((xs.length : Int) == (ys.length : Int)) = false := beq_eq_false_iff_ne.2 (by omega)
    have n2_ : ((xs.length : Int) != (ys.length : Int)) = true := by simp only [bne, n1_, Bool.not_false]
    have n3_ : decide ((xs.length : Int) = (ys.length : Int)) = false := decide_eq_false (by omega)
    have n4_ : decide (xs.length = ys.length) = false := decide_eq_false hl
    clear hl
    go_enter Try.func51, Try.ntmps51
    go_wp2
    go_ret
    exact ⟨rfl, Below.refl _ _⟩
  rw [if_pos hl] at h
  have HL := Za.mk hl
  have H0 := Za.mk h
  clear h
  have n1_ : ((xs.length : Int) == (ys.length : Int)) = true := beq_iff_eq.2 (by omega)
  have n2_ : ((xs.length : Int) != (ys.length : Int)) = false := by simp only [bne, n1_, Bool.not_true]
  have n3_ : decide ((xs.length : Int) = (ys.length : Int)) = true := decide_eq_true (by omega)
  have n4_ : decide (xs.length = ys.length) = true := decide_eq_true hl
  clear hl
  go_enter Try.func51, Try.ntmps51
  go_wp2
  go_loopg [17] xs.length (fun gg s17 wr => ∃ i : Nat, i ≤ xs.length ∧ xs.length - i ≤ gg ∧ s17 = .int .i64 i ∧ Za (Below wo.heap.size wo wr) ∧ Za (eqF f (xs.drop i) (ys.drop i) = some r))
  case atStart => exact ⟨0, Nat.zero_le _, by omega, rfl, ⟨Below.refl _ _⟩, ⟨by simpa using H0.out⟩⟩
  case round =>
    obtain ⟨i, hi, hg, rfl, BW, HA⟩ := hrel
    by_cases hlt : i < xs.length
    rotate_left
    · obtain rfl : i = xs.length := by omega
      have HA1 := HA.out
      rw [List.drop_length, eqF_nil] at HA1
      obtain rfl := Option.some.inj HA1
      clear HA HA1 hlt
      have p0_ : decide ((xs.length : Int) < (xs.length : Int)) = false := decide_eq_false (by omega)
      go_wp2
      go_ret
      exact ⟨rfl, BW.out⟩
    have hlt2 : i < ys.length := by have := HL.out; omega
    obtain ⟨ad, A1A, c1A, e0_, hx0, hx1, lA1A, gA1A⟩ := at_T50 (Kd.Zak HR0.out BW.out) (i : Int) (by omega) (by omega)
    obtain ⟨ad2, A1B, c1B, e1_, hy0, hy1, lA1B, gA1B⟩ := at_T50 (Kd.Zak HR1.out BW.out) (i : Int) (by omega) (by omega)
    subst e0_
    subst e1_
    simp only [Int.toNat_natCast] at hx0 hy0 hx1 hy1
    have HA1 := HA.out
    rw [Zdw z50 hlt, Zdw z50 hlt2, eqF] at HA1
    have q0_ : Zbg xs (i : Int) = xs.getD i z50 := by simp [Zbg]
    have q1_ : Zbg ys (i : Int) = ys.getD i z50 := by simp [Zbg]
    rw [q0_] at hx0 hx1 lA1A gA1A
    rw [q1_] at hy0 hy1 lA1B gA1B
    clear q0_ q1_
    generalize xs.getD i z50 = x at hx0 hx1 lA1A gA1A HA1
    generalize ys.getD i z50 = y at hy0 hy1 lA1B gA1B HA1
    obtain ⟨b, hb1, HA2⟩ := Option.bind_eq_some_iff.1 HA1
    have hcall := fun (W : World) (hW : Below wr.heap.size wr W) => HP.out x y b W A1A c1A A1B c1B hb1 (Zad BW.out hW) lA1A (Kd.Zak gA1A hW) lA1B (Kd.Zak gA1B hW)
    have CC := Za.mk hcall
    clear hcall HA HA1 hb1 lA1A gA1A lA1B gA1B
    have p0_ : decide ((i : Int) < (xs.length : Int)) = true := decide_eq_true (by omega)
    have p1_ : decide ((0 : Int) ≤ (i : Int)) = true := decide_eq_true (by omega)
    have p2_ : decide ((i : Int) < (ys.length : Int)) = true := decide_eq_true (by omega)
    cases b with
    | false =>
      rw [if_neg (by decide)] at HA2
      obtain rfl := Option.some.inj HA2
      clear HA2
      go_wp2_with (first | ((with_reducible refine Zaz (N := 8) rfl ?_); refine Za5 ?hg (N := 8) ?hd (cs := #[.string (⟨#[]⟩ : ByteArray), .slice none 0 0]) (t := 50) ?hr ?_; (case hd => rfl); (case hg => rfl); (case hr => first | (go_simp; done) | (go_simp; rfl)); intro g8 hgg8 w8 hbox hb; have BXg8 := Za.mk hbox; have hzg80 : w8.cell? ⟨g8, 0, none⟩ = some (.string (⟨#[]⟩ : ByteArray)) := (Zah hbox 0).trans rfl; have hfg80 := Zap hbox 0; have hzg81 : w8.cell? ⟨g8, 1, none⟩ = some (.slice none 0 0) := (Zah hbox 1).trans rfl; have hfg81 := Zap hbox 1; have BV := Za.mk (Zad (mvB (Below.refl wr.heap.size wr)) hb); have HG8 : Za (wr.heap.size ≤ g8) := ⟨by rw [hgg8]; exact (mvB (Below.refl wr.heap.size wr)).size⟩; have B8_ := Za.mk (show Below wr.heap.size wr ((w8.setCell ⟨g8, 0, none⟩ (.string x.f0)).setCell ⟨g8, 1, none⟩ (.slice A1A x.f1.length c1A)) from (Zae (Zae BV.out HG8.out) HG8.out)); have hv0 := cellE B8_.out hy0; have hv1 := cellE B8_.out hy1; clear hbox hb hgg8) | ((with_reducible refine Zaz (N := 9) rfl ?_); refine Za5 ?hg (N := 9) ?hd (cs := #[.string (⟨#[]⟩ : ByteArray), .slice none 0 0]) (t := 50) ?hr ?_; (case hd => rfl); (case hg => rfl); (case hr => first | (go_simp; done) | (go_simp; rfl)); intro g9 hgg9 w9 hbox hb; have BXg9 := Za.mk hbox; have hzg90 : w9.cell? ⟨g9, 0, none⟩ = some (.string (⟨#[]⟩ : ByteArray)) := (Zah hbox 0).trans rfl; have hfg90 := Zap hbox 0; have hzg91 : w9.cell? ⟨g9, 1, none⟩ = some (.slice none 0 0) := (Zah hbox 1).trans rfl; have hfg91 := Zap hbox 1; have B8 := Za.mk (show Below wr.heap.size wr ((w8.setCell ⟨g8, 0, none⟩ (.string x.f0)).setCell ⟨g8, 1, none⟩ (.slice A1A x.f1.length c1A)) from (Zae (Zae BV.out HG8.out) HG8.out)); have BV9 := Za.mk (Zad (mvB B8.out) hb); have BY8 := Za.mk (Zau (mvK (Zax (cs' := #[.string x.f0, .slice A1A x.f1.length c1A]) (Zax (cs' := #[.string x.f0, .slice none 0 0]) BXg8.out 0 (.string x.f0) rfl) 1 (.slice A1A x.f1.length c1A) rfl)) hb); have HG9 : Za (wr.heap.size ≤ g9) := ⟨by rw [hgg9]; exact (mvB B8.out).size⟩; have NE98 : Za (g8 ≠ g9) := ⟨by rw [hgg9]; exact Nat.ne_of_lt (Nat.lt_of_lt_of_le (Zbv (Zax (cs' := #[.string x.f0, .slice A1A x.f1.length c1A]) (Zax (cs' := #[.string x.f0, .slice none 0 0]) BXg8.out 0 (.string x.f0) rfl) 1 (.slice A1A x.f1.length c1A) rfl)) (mvB (Below.refl ((w8.setCell ⟨g8, 0, none⟩ (.string x.f0)).setCell ⟨g8, 1, none⟩ (.slice A1A x.f1.length c1A)).heap.size ((w8.setCell ⟨g8, 0, none⟩ (.string x.f0)).setCell ⟨g8, 1, none⟩ (.slice A1A x.f1.length c1A)))).size)⟩; have ne1_ := NE98.out; have ne2_ := Ne.symm NE98.out; have hw0 : w9.cell? ⟨g8, 0, none⟩ = some (.string x.f0) := (Zah BY8.out 0).trans rfl; have hw1 : w9.cell? ⟨g8, 1, none⟩ = some (.slice A1A x.f1.length c1A) := (Zah BY8.out 1).trans rfl; clear hbox hb hgg9) | (go_at_fn g; go_loud (have B9 := Za.mk (show Below wr.heap.size wr ((w9.setCell ⟨g9, 0, none⟩ (.string y.f0)).setCell ⟨g9, 1, none⟩ (.slice A1B y.f1.length c1B)) from (Zae (Zae BV9.out HG9.out) HG9.out)); refine (CC.out _ (mvB B9.out)).mono ?_; rintro e_ w12 ⟨rfl, hb⟩; have BE := Za.mk (Zad (mvB B9.out) hb); clear hb)))
      go_ret
      exact ⟨rfl, Zad BW.out (mvB BE.out)⟩
    | true =>
      rw [if_pos rfl] at HA2
      go_wp2_with (first | ((with_reducible refine Zaz (N := 8) rfl ?_); refine Za5 ?hg (N := 8) ?hd (cs := #[.string (⟨#[]⟩ : ByteArray), .slice none 0 0]) (t := 50) ?hr ?_; (case hd => rfl); (case hg => rfl); (case hr => first | (go_simp; done) | (go_simp; rfl)); intro g8 hgg8 w8 hbox hb; have BXg8 := Za.mk hbox; have hzg80 : w8.cell? ⟨g8, 0, none⟩ = some (.string (⟨#[]⟩ : ByteArray)) := (Zah hbox 0).trans rfl; have hfg80 := Zap hbox 0; have hzg81 : w8.cell? ⟨g8, 1, none⟩ = some (.slice none 0 0) := (Zah hbox 1).trans rfl; have hfg81 := Zap hbox 1; have BV := Za.mk (Zad (mvB (Below.refl wr.heap.size wr)) hb); have HG8 : Za (wr.heap.size ≤ g8) := ⟨by rw [hgg8]; exact (mvB (Below.refl wr.heap.size wr)).size⟩; have B8_ := Za.mk (show Below wr.heap.size wr ((w8.setCell ⟨g8, 0, none⟩ (.string x.f0)).setCell ⟨g8, 1, none⟩ (.slice A1A x.f1.length c1A)) from (Zae (Zae BV.out HG8.out) HG8.out)); have hv0 := cellE B8_.out hy0; have hv1 := cellE B8_.out hy1; clear hbox hb hgg8) | ((with_reducible refine Zaz (N := 9) rfl ?_); refine Za5 ?hg (N := 9) ?hd (cs := #[.string (⟨#[]⟩ : ByteArray), .slice none 0 0]) (t := 50) ?hr ?_; (case hd => rfl); (case hg => rfl); (case hr => first | (go_simp; done) | (go_simp; rfl)); intro g9 hgg9 w9 hbox hb; have BXg9 := Za.mk hbox; have hzg90 : w9.cell? ⟨g9, 0, none⟩ = some (.string (⟨#[]⟩ : ByteArray)) := (Zah hbox 0).trans rfl; have hfg90 := Zap hbox 0; have hzg91 : w9.cell? ⟨g9, 1, none⟩ = some (.slice none 0 0) := (Zah hbox 1).trans rfl; have hfg91 := Zap hbox 1; have B8 := Za.mk (show Below wr.heap.size wr ((w8.setCell ⟨g8, 0, none⟩ (.string x.f0)).setCell ⟨g8, 1, none⟩ (.slice A1A x.f1.length c1A)) from (Zae (Zae BV.out HG8.out) HG8.out)); have BV9 := Za.mk (Zad (mvB B8.out) hb); have BY8 := Za.mk (Zau (mvK (Zax (cs' := #[.string x.f0, .slice A1A x.f1.length c1A]) (Zax (cs' := #[.string x.f0, .slice none 0 0]) BXg8.out 0 (.string x.f0) rfl) 1 (.slice A1A x.f1.length c1A) rfl)) hb); have HG9 : Za (wr.heap.size ≤ g9) := ⟨by rw [hgg9]; exact (mvB B8.out).size⟩; have NE98 : Za (g8 ≠ g9) := ⟨by rw [hgg9]; exact Nat.ne_of_lt (Nat.lt_of_lt_of_le (Zbv (Zax (cs' := #[.string x.f0, .slice A1A x.f1.length c1A]) (Zax (cs' := #[.string x.f0, .slice none 0 0]) BXg8.out 0 (.string x.f0) rfl) 1 (.slice A1A x.f1.length c1A) rfl)) (mvB (Below.refl ((w8.setCell ⟨g8, 0, none⟩ (.string x.f0)).setCell ⟨g8, 1, none⟩ (.slice A1A x.f1.length c1A)).heap.size ((w8.setCell ⟨g8, 0, none⟩ (.string x.f0)).setCell ⟨g8, 1, none⟩ (.slice A1A x.f1.length c1A)))).size)⟩; have ne1_ := NE98.out; have ne2_ := Ne.symm NE98.out; have hw0 : w9.cell? ⟨g8, 0, none⟩ = some (.string x.f0) := (Zah BY8.out 0).trans rfl; have hw1 : w9.cell? ⟨g8, 1, none⟩ = some (.slice A1A x.f1.length c1A) := (Zah BY8.out 1).trans rfl; clear hbox hb hgg9) | (go_at_fn g; go_loud (have B9 := Za.mk (show Below wr.heap.size wr ((w9.setCell ⟨g9, 0, none⟩ (.string y.f0)).setCell ⟨g9, 1, none⟩ (.slice A1B y.f1.length c1B)) from (Zae (Zae BV9.out HG9.out) HG9.out)); refine (CC.out _ (mvB B9.out)).mono ?_; rintro e_ w12 ⟨rfl, hb⟩; have BE := Za.mk (Zad (mvB B9.out) hb); clear hb)))
      go_roundg (xs.length - (i + 1))
      case measure => omega
      case rel => exact ⟨i + 1, by omega, by omega, (by first | go_num | (rw [show wrap64 ((i : Int) + 1) = ((i + 1 : Nat) : Int) from by unfold wrap64; omega])), ⟨Zad BW.out (mvB BE.out)⟩, ⟨HA2⟩⟩
set_option maxHeartbeats 4000000 in
set_option maxRecDepth 100000 in
theorem equalFunc_C (f : S31 → S31 → Option Bool) (g : Nat) (lb : Array Value) (eg : ∀ args w, (callFunc g args).run Try.prog w = .ok (.enter g args) w) (A0 : Option Addr) (c0 : Nat) (xs : List (S31)) (A1 : Option Addr) (c1 : Nat) (ys : List (S31)) (r : Bool) (w : World) (hr0 : Kd.C k31 w A0 xs.length xs) (hr1 : Kd.C k31 w A1 ys.length ys)
    (hp : ∀ (x y : S31) (b : Bool) (W : World) (A1A : Option Addr) (c1A : Nat) (A2A : Option Addr) (c2A : Nat) (A5A : Option Addr) (c5A : Nat) (A1B : Option Addr) (c1B : Nat) (A2B : Option Addr) (c2B : Nat) (A5B : Option Addr) (c5B : Nat), f x y = some b → Below w.heap.size w W → x.f1.length ≤ c1A → Kd.C (Kd.int .i64) W A1A x.f1.length x.f1 → x.f2.length ≤ c2A → Kd.C (Kd.int .i64) W A2A x.f2.length x.f2 → x.f5.length ≤ c5A → Kd.C (Kd.slice 3 (Kd.int .i64)) W A5A x.f5.length x.f5 → y.f1.length ≤ c1B → Kd.C (Kd.int .i64) W A1B y.f1.length y.f1 → y.f2.length ≤ c2B → Kd.C (Kd.int .i64) W A2B y.f2.length y.f2 → y.f5.length ≤ c5B → Kd.C (Kd.slice 3 (Kd.int .i64)) W A5B y.f5.length y.f5 → Calls Try.prog g (#[.agg #[.int .i64 x.f0, .slice A1A x.f1.length c1A, .slice A2A x.f2.length c2A, .int .i64 x.f3, .int .i64 x.f4, .slice A5A x.f5.length c5A, .int .i64 x.f6], .agg #[.int .i64 y.f0, .slice A1B y.f1.length c1B, .slice A2B y.f2.length c2B, .int .i64 y.f3, .int .i64 y.f4, .slice A5B y.f5.length c5B, .int .i64 y.f6]] ++ lb) W fun e w' => e = .returned (.bool b) ∧ Below W.heap.size W w')
    (h : equalF f xs ys = some r) : Calls Try.prog 55 #[.slice A0 xs.length c0, .slice A1 ys.length c1, .func (.func g) #[] lb] w fun e w' => e = .returned (.bool r) ∧ Below w.heap.size w w' := by
  have hlen : xs.length ≤ 9223372036854775807 := hr0.2.1
  have HR0 := Za.mk hr0
  have HR1 := Za.mk hr1
  have HP := Za.mk hp
  clear hr0 hr1 hp
  unfold equalF at h
  obtain ⟨wo, rfl⟩ : ∃ wo : World, wo = w := ⟨_, rfl⟩
  by_cases hl : xs.length = ys.length
  rotate_left
  · rw [if_neg hl] at h
    obtain rfl := Option.some.inj h
    clear h
    have n1_ : ((xs.length : Int) == (ys.length : Int)) = false := beq_eq_false_iff_ne.2 (by omega)
    have n2_ : ((xs.length : Int) != (ys.length : Int)) = true := by simp only [bne, n1_, Bool.not_false]
    have n3_ : decide ((xs.length : Int) = (ys.length : Int)) = false := decide_eq_false (by omega)
    have n4_ : decide (xs.length = ys.length) = false := decide_eq_false hl
    clear hl
    go_enter Try.func55, Try.ntmps55
    go_wp2
    go_ret
    exact ⟨rfl, Below.refl _ _⟩
  rw [if_pos hl] at h
  have HL := Za.mk hl
  have H0 := Za.mk h
  clear h
  have n1_ : ((xs.length : Int) == (ys.length : Int)) = true := beq_iff_eq.2 (by omega)
  have n2_ : ((xs.length : Int) != (ys.length : Int)) = false := by simp only [bne, n1_, Bool.not_true]
  have n3_ : decide ((xs.length : Int) = (ys.length : Int)) = true := decide_eq_true (by omega)
  have n4_ : decide (xs.length = ys.length) = true := decide_eq_true hl
  clear hl
  go_enter Try.func55, Try.ntmps55
  go_wp2
  go_loopg [17] xs.length (fun gg s17 wr => ∃ i : Nat, i ≤ xs.length ∧ xs.length - i ≤ gg ∧ s17 = .int .i64 i ∧ Za (Below wo.heap.size wo wr) ∧ Za (eqF f (xs.drop i) (ys.drop i) = some r))
  case atStart => exact ⟨0, Nat.zero_le _, by omega, rfl, ⟨Below.refl _ _⟩, ⟨by simpa using H0.out⟩⟩
  case round =>
    obtain ⟨i, hi, hg, rfl, BW, HA⟩ := hrel
    by_cases hlt : i < xs.length
    rotate_left
    · obtain rfl : i = xs.length := by omega
      have HA1 := HA.out
      rw [List.drop_length, eqF_nil] at HA1
      obtain rfl := Option.some.inj HA1
      clear HA HA1 hlt
      have p0_ : decide ((xs.length : Int) < (xs.length : Int)) = false := decide_eq_false (by omega)
      go_wp2
      go_ret
      exact ⟨rfl, BW.out⟩
    have hlt2 : i < ys.length := by have := HL.out; omega
    obtain ⟨ad, A1A, c1A, A2A, c2A, A5A, c5A, e0_, hx0, hx1, hx2, hx3, hx4, hx5, hx6, lA1A, gA1A, lA2A, gA2A, lA5A, gA5A⟩ := at_T31 (Kd.Zak HR0.out BW.out) (i : Int) (by omega) (by omega)
    obtain ⟨ad2, A1B, c1B, A2B, c2B, A5B, c5B, e1_, hy0, hy1, hy2, hy3, hy4, hy5, hy6, lA1B, gA1B, lA2B, gA2B, lA5B, gA5B⟩ := at_T31 (Kd.Zak HR1.out BW.out) (i : Int) (by omega) (by omega)
    subst e0_
    subst e1_
    simp only [Int.toNat_natCast] at hx0 hy0 hx1 hy1 hx2 hy2 hx3 hy3 hx4 hy4 hx5 hy5 hx6 hy6
    have HA1 := HA.out
    rw [Zdw z31 hlt, Zdw z31 hlt2, eqF] at HA1
    have q0_ : Zai xs (i : Int) = xs.getD i z31 := by simp [Zai]
    have q1_ : Zai ys (i : Int) = ys.getD i z31 := by simp [Zai]
    rw [q0_] at hx0 hx1 hx2 hx3 hx4 hx5 hx6 lA1A gA1A lA2A gA2A lA5A gA5A
    rw [q1_] at hy0 hy1 hy2 hy3 hy4 hy5 hy6 lA1B gA1B lA2B gA2B lA5B gA5B
    clear q0_ q1_
    generalize xs.getD i z31 = x at hx0 hx1 hx2 hx3 hx4 hx5 hx6 lA1A gA1A lA2A gA2A lA5A gA5A HA1
    generalize ys.getD i z31 = y at hy0 hy1 hy2 hy3 hy4 hy5 hy6 lA1B gA1B lA2B gA2B lA5B gA5B HA1
    obtain ⟨b, hb1, HA2⟩ := Option.bind_eq_some_iff.1 HA1
    have hcall := fun (W : World) (hW : Below wr.heap.size wr W) => HP.out x y b W A1A c1A A2A c2A A5A c5A A1B c1B A2B c2B A5B c5B hb1 (Zad BW.out hW) lA1A (Kd.Zak gA1A hW) lA2A (Kd.Zak gA2A hW) lA5A (Kd.Zak gA5A hW) lA1B (Kd.Zak gA1B hW) lA2B (Kd.Zak gA2B hW) lA5B (Kd.Zak gA5B hW)
    have CC := Za.mk hcall
    clear hcall HA HA1 hb1 lA1A gA1A lA2A gA2A lA5A gA5A lA1B gA1B lA2B gA2B lA5B gA5B
    have p0_ : decide ((i : Int) < (xs.length : Int)) = true := decide_eq_true (by omega)
    have p1_ : decide ((0 : Int) ≤ (i : Int)) = true := decide_eq_true (by omega)
    have p2_ : decide ((i : Int) < (ys.length : Int)) = true := decide_eq_true (by omega)
    cases b with
    | false =>
      rw [if_neg (by decide)] at HA2
      obtain rfl := Option.some.inj HA2
      clear HA2
      go_wp2_with (first | ((with_reducible refine Zaz (N := 8) rfl ?_); refine Za5 ?hg (N := 8) ?hd (cs := #[.int .i64 0, .slice none 0 0, .slice none 0 0, .int .i64 0, .int .i64 0, .slice none 0 0, .int .i64 0]) (t := 31) ?hr ?_; (case hd => rfl); (case hg => rfl); (case hr => first | (go_simp; done) | (go_simp; rfl)); intro g8 hgg8 w8 hbox hb; have BXg8 := Za.mk hbox; have hzg80 : w8.cell? ⟨g8, 0, none⟩ = some (.int .i64 0) := (Zah hbox 0).trans rfl; have hfg80 := Zap hbox 0; have hzg81 : w8.cell? ⟨g8, 1, none⟩ = some (.slice none 0 0) := (Zah hbox 1).trans rfl; have hfg81 := Zap hbox 1; have hzg82 : w8.cell? ⟨g8, 2, none⟩ = some (.slice none 0 0) := (Zah hbox 2).trans rfl; have hfg82 := Zap hbox 2; have hzg83 : w8.cell? ⟨g8, 3, none⟩ = some (.int .i64 0) := (Zah hbox 3).trans rfl; have hfg83 := Zap hbox 3; have hzg84 : w8.cell? ⟨g8, 4, none⟩ = some (.int .i64 0) := (Zah hbox 4).trans rfl; have hfg84 := Zap hbox 4; have hzg85 : w8.cell? ⟨g8, 5, none⟩ = some (.slice none 0 0) := (Zah hbox 5).trans rfl; have hfg85 := Zap hbox 5; have hzg86 : w8.cell? ⟨g8, 6, none⟩ = some (.int .i64 0) := (Zah hbox 6).trans rfl; have hfg86 := Zap hbox 6; have BV := Za.mk (Zad (mvB (Below.refl wr.heap.size wr)) hb); have HG8 : Za (wr.heap.size ≤ g8) := ⟨by rw [hgg8]; exact (mvB (Below.refl wr.heap.size wr)).size⟩; have B8_ := Za.mk (show Below wr.heap.size wr (((((((w8.setCell ⟨g8, 0, none⟩ (.int .i64 x.f0)).setCell ⟨g8, 1, none⟩ (.slice A1A x.f1.length c1A)).setCell ⟨g8, 2, none⟩ (.slice A2A x.f2.length c2A)).setCell ⟨g8, 3, none⟩ (.int .i64 x.f3)).setCell ⟨g8, 4, none⟩ (.int .i64 x.f4)).setCell ⟨g8, 5, none⟩ (.slice A5A x.f5.length c5A)).setCell ⟨g8, 6, none⟩ (.int .i64 x.f6)) from (Zae (Zae (Zae (Zae (Zae (Zae (Zae BV.out HG8.out) HG8.out) HG8.out) HG8.out) HG8.out) HG8.out) HG8.out)); have hv0 := cellE B8_.out hy0; have hv1 := cellE B8_.out hy1; have hv2 := cellE B8_.out hy2; have hv3 := cellE B8_.out hy3; have hv4 := cellE B8_.out hy4; have hv5 := cellE B8_.out hy5; have hv6 := cellE B8_.out hy6; clear hbox hb hgg8) | ((with_reducible refine Zaz (N := 9) rfl ?_); refine Za5 ?hg (N := 9) ?hd (cs := #[.int .i64 0, .slice none 0 0, .slice none 0 0, .int .i64 0, .int .i64 0, .slice none 0 0, .int .i64 0]) (t := 31) ?hr ?_; (case hd => rfl); (case hg => rfl); (case hr => first | (go_simp; done) | (go_simp; rfl)); intro g9 hgg9 w9 hbox hb; have BXg9 := Za.mk hbox; have hzg90 : w9.cell? ⟨g9, 0, none⟩ = some (.int .i64 0) := (Zah hbox 0).trans rfl; have hfg90 := Zap hbox 0; have hzg91 : w9.cell? ⟨g9, 1, none⟩ = some (.slice none 0 0) := (Zah hbox 1).trans rfl; have hfg91 := Zap hbox 1; have hzg92 : w9.cell? ⟨g9, 2, none⟩ = some (.slice none 0 0) := (Zah hbox 2).trans rfl; have hfg92 := Zap hbox 2; have hzg93 : w9.cell? ⟨g9, 3, none⟩ = some (.int .i64 0) := (Zah hbox 3).trans rfl; have hfg93 := Zap hbox 3; have hzg94 : w9.cell? ⟨g9, 4, none⟩ = some (.int .i64 0) := (Zah hbox 4).trans rfl; have hfg94 := Zap hbox 4; have hzg95 : w9.cell? ⟨g9, 5, none⟩ = some (.slice none 0 0) := (Zah hbox 5).trans rfl; have hfg95 := Zap hbox 5; have hzg96 : w9.cell? ⟨g9, 6, none⟩ = some (.int .i64 0) := (Zah hbox 6).trans rfl; have hfg96 := Zap hbox 6; have B8 := Za.mk (show Below wr.heap.size wr (((((((w8.setCell ⟨g8, 0, none⟩ (.int .i64 x.f0)).setCell ⟨g8, 1, none⟩ (.slice A1A x.f1.length c1A)).setCell ⟨g8, 2, none⟩ (.slice A2A x.f2.length c2A)).setCell ⟨g8, 3, none⟩ (.int .i64 x.f3)).setCell ⟨g8, 4, none⟩ (.int .i64 x.f4)).setCell ⟨g8, 5, none⟩ (.slice A5A x.f5.length c5A)).setCell ⟨g8, 6, none⟩ (.int .i64 x.f6)) from (Zae (Zae (Zae (Zae (Zae (Zae (Zae BV.out HG8.out) HG8.out) HG8.out) HG8.out) HG8.out) HG8.out) HG8.out)); have BV9 := Za.mk (Zad (mvB B8.out) hb); have BY8 := Za.mk (Zau (mvK (Zax (cs' := #[.int .i64 x.f0, .slice A1A x.f1.length c1A, .slice A2A x.f2.length c2A, .int .i64 x.f3, .int .i64 x.f4, .slice A5A x.f5.length c5A, .int .i64 x.f6]) (Zax (cs' := #[.int .i64 x.f0, .slice A1A x.f1.length c1A, .slice A2A x.f2.length c2A, .int .i64 x.f3, .int .i64 x.f4, .slice A5A x.f5.length c5A, .int .i64 0]) (Zax (cs' := #[.int .i64 x.f0, .slice A1A x.f1.length c1A, .slice A2A x.f2.length c2A, .int .i64 x.f3, .int .i64 x.f4, .slice none 0 0, .int .i64 0]) (Zax (cs' := #[.int .i64 x.f0, .slice A1A x.f1.length c1A, .slice A2A x.f2.length c2A, .int .i64 x.f3, .int .i64 0, .slice none 0 0, .int .i64 0]) (Zax (cs' := #[.int .i64 x.f0, .slice A1A x.f1.length c1A, .slice A2A x.f2.length c2A, .int .i64 0, .int .i64 0, .slice none 0 0, .int .i64 0]) (Zax (cs' := #[.int .i64 x.f0, .slice A1A x.f1.length c1A, .slice none 0 0, .int .i64 0, .int .i64 0, .slice none 0 0, .int .i64 0]) (Zax (cs' := #[.int .i64 x.f0, .slice none 0 0, .slice none 0 0, .int .i64 0, .int .i64 0, .slice none 0 0, .int .i64 0]) BXg8.out 0 (.int .i64 x.f0) rfl) 1 (.slice A1A x.f1.length c1A) rfl) 2 (.slice A2A x.f2.length c2A) rfl) 3 (.int .i64 x.f3) rfl) 4 (.int .i64 x.f4) rfl) 5 (.slice A5A x.f5.length c5A) rfl) 6 (.int .i64 x.f6) rfl)) hb); have HG9 : Za (wr.heap.size ≤ g9) := ⟨by rw [hgg9]; exact (mvB B8.out).size⟩; have NE98 : Za (g8 ≠ g9) := ⟨by rw [hgg9]; exact Nat.ne_of_lt (Nat.lt_of_lt_of_le (Zbv (Zax (cs' := #[.int .i64 x.f0, .slice A1A x.f1.length c1A, .slice A2A x.f2.length c2A, .int .i64 x.f3, .int .i64 x.f4, .slice A5A x.f5.length c5A, .int .i64 x.f6]) (Zax (cs' := #[.int .i64 x.f0, .slice A1A x.f1.length c1A, .slice A2A x.f2.length c2A, .int .i64 x.f3, .int .i64 x.f4, .slice A5A x.f5.length c5A, .int .i64 0]) (Zax (cs' := #[.int .i64 x.f0, .slice A1A x.f1.length c1A, .slice A2A x.f2.length c2A, .int .i64 x.f3, .int .i64 x.f4, .slice none 0 0, .int .i64 0]) (Zax (cs' := #[.int .i64 x.f0, .slice A1A x.f1.length c1A, .slice A2A x.f2.length c2A, .int .i64 x.f3, .int .i64 0, .slice none 0 0, .int .i64 0]) (Zax (cs' := #[.int .i64 x.f0, .slice A1A x.f1.length c1A, .slice A2A x.f2.length c2A, .int .i64 0, .int .i64 0, .slice none 0 0, .int .i64 0]) (Zax (cs' := #[.int .i64 x.f0, .slice A1A x.f1.length c1A, .slice none 0 0, .int .i64 0, .int .i64 0, .slice none 0 0, .int .i64 0]) (Zax (cs' := #[.int .i64 x.f0, .slice none 0 0, .slice none 0 0, .int .i64 0, .int .i64 0, .slice none 0 0, .int .i64 0]) BXg8.out 0 (.int .i64 x.f0) rfl) 1 (.slice A1A x.f1.length c1A) rfl) 2 (.slice A2A x.f2.length c2A) rfl) 3 (.int .i64 x.f3) rfl) 4 (.int .i64 x.f4) rfl) 5 (.slice A5A x.f5.length c5A) rfl) 6 (.int .i64 x.f6) rfl)) (mvB (Below.refl (((((((w8.setCell ⟨g8, 0, none⟩ (.int .i64 x.f0)).setCell ⟨g8, 1, none⟩ (.slice A1A x.f1.length c1A)).setCell ⟨g8, 2, none⟩ (.slice A2A x.f2.length c2A)).setCell ⟨g8, 3, none⟩ (.int .i64 x.f3)).setCell ⟨g8, 4, none⟩ (.int .i64 x.f4)).setCell ⟨g8, 5, none⟩ (.slice A5A x.f5.length c5A)).setCell ⟨g8, 6, none⟩ (.int .i64 x.f6)).heap.size (((((((w8.setCell ⟨g8, 0, none⟩ (.int .i64 x.f0)).setCell ⟨g8, 1, none⟩ (.slice A1A x.f1.length c1A)).setCell ⟨g8, 2, none⟩ (.slice A2A x.f2.length c2A)).setCell ⟨g8, 3, none⟩ (.int .i64 x.f3)).setCell ⟨g8, 4, none⟩ (.int .i64 x.f4)).setCell ⟨g8, 5, none⟩ (.slice A5A x.f5.length c5A)).setCell ⟨g8, 6, none⟩ (.int .i64 x.f6)))).size)⟩; have ne1_ := NE98.out; have ne2_ := Ne.symm NE98.out; have hw0 : w9.cell? ⟨g8, 0, none⟩ = some (.int .i64 x.f0) := (Zah BY8.out 0).trans rfl; have hw1 : w9.cell? ⟨g8, 1, none⟩ = some (.slice A1A x.f1.length c1A) := (Zah BY8.out 1).trans rfl; have hw2 : w9.cell? ⟨g8, 2, none⟩ = some (.slice A2A x.f2.length c2A) := (Zah BY8.out 2).trans rfl; have hw3 : w9.cell? ⟨g8, 3, none⟩ = some (.int .i64 x.f3) := (Zah BY8.out 3).trans rfl; have hw4 : w9.cell? ⟨g8, 4, none⟩ = some (.int .i64 x.f4) := (Zah BY8.out 4).trans rfl; have hw5 : w9.cell? ⟨g8, 5, none⟩ = some (.slice A5A x.f5.length c5A) := (Zah BY8.out 5).trans rfl; have hw6 : w9.cell? ⟨g8, 6, none⟩ = some (.int .i64 x.f6) := (Zah BY8.out 6).trans rfl; clear hbox hb hgg9) | (go_at_fn g; go_loud (have B9 := Za.mk (show Below wr.heap.size wr (((((((w9.setCell ⟨g9, 0, none⟩ (.int .i64 y.f0)).setCell ⟨g9, 1, none⟩ (.slice A1B y.f1.length c1B)).setCell ⟨g9, 2, none⟩ (.slice A2B y.f2.length c2B)).setCell ⟨g9, 3, none⟩ (.int .i64 y.f3)).setCell ⟨g9, 4, none⟩ (.int .i64 y.f4)).setCell ⟨g9, 5, none⟩ (.slice A5B y.f5.length c5B)).setCell ⟨g9, 6, none⟩ (.int .i64 y.f6)) from (Zae (Zae (Zae (Zae (Zae (Zae (Zae BV9.out HG9.out) HG9.out) HG9.out) HG9.out) HG9.out) HG9.out) HG9.out)); refine (CC.out _ (mvB B9.out)).mono ?_; rintro e_ w12 ⟨rfl, hb⟩; have BE := Za.mk (Zad (mvB B9.out) hb); clear hb)))
      go_ret
      exact ⟨rfl, Zad BW.out (mvB BE.out)⟩
    | true =>
      rw [if_pos rfl] at HA2
      go_wp2_with (first | ((with_reducible refine Zaz (N := 8) rfl ?_); refine Za5 ?hg (N := 8) ?hd (cs := #[.int .i64 0, .slice none 0 0, .slice none 0 0, .int .i64 0, .int .i64 0, .slice none 0 0, .int .i64 0]) (t := 31) ?hr ?_; (case hd => rfl); (case hg => rfl); (case hr => first | (go_simp; done) | (go_simp; rfl)); intro g8 hgg8 w8 hbox hb; have BXg8 := Za.mk hbox; have hzg80 : w8.cell? ⟨g8, 0, none⟩ = some (.int .i64 0) := (Zah hbox 0).trans rfl; have hfg80 := Zap hbox 0; have hzg81 : w8.cell? ⟨g8, 1, none⟩ = some (.slice none 0 0) := (Zah hbox 1).trans rfl; have hfg81 := Zap hbox 1; have hzg82 : w8.cell? ⟨g8, 2, none⟩ = some (.slice none 0 0) := (Zah hbox 2).trans rfl; have hfg82 := Zap hbox 2; have hzg83 : w8.cell? ⟨g8, 3, none⟩ = some (.int .i64 0) := (Zah hbox 3).trans rfl; have hfg83 := Zap hbox 3; have hzg84 : w8.cell? ⟨g8, 4, none⟩ = some (.int .i64 0) := (Zah hbox 4).trans rfl; have hfg84 := Zap hbox 4; have hzg85 : w8.cell? ⟨g8, 5, none⟩ = some (.slice none 0 0) := (Zah hbox 5).trans rfl; have hfg85 := Zap hbox 5; have hzg86 : w8.cell? ⟨g8, 6, none⟩ = some (.int .i64 0) := (Zah hbox 6).trans rfl; have hfg86 := Zap hbox 6; have BV := Za.mk (Zad (mvB (Below.refl wr.heap.size wr)) hb); have HG8 : Za (wr.heap.size ≤ g8) := ⟨by rw [hgg8]; exact (mvB (Below.refl wr.heap.size wr)).size⟩; have B8_ := Za.mk (show Below wr.heap.size wr (((((((w8.setCell ⟨g8, 0, none⟩ (.int .i64 x.f0)).setCell ⟨g8, 1, none⟩ (.slice A1A x.f1.length c1A)).setCell ⟨g8, 2, none⟩ (.slice A2A x.f2.length c2A)).setCell ⟨g8, 3, none⟩ (.int .i64 x.f3)).setCell ⟨g8, 4, none⟩ (.int .i64 x.f4)).setCell ⟨g8, 5, none⟩ (.slice A5A x.f5.length c5A)).setCell ⟨g8, 6, none⟩ (.int .i64 x.f6)) from (Zae (Zae (Zae (Zae (Zae (Zae (Zae BV.out HG8.out) HG8.out) HG8.out) HG8.out) HG8.out) HG8.out) HG8.out)); have hv0 := cellE B8_.out hy0; have hv1 := cellE B8_.out hy1; have hv2 := cellE B8_.out hy2; have hv3 := cellE B8_.out hy3; have hv4 := cellE B8_.out hy4; have hv5 := cellE B8_.out hy5; have hv6 := cellE B8_.out hy6; clear hbox hb hgg8) | ((with_reducible refine Zaz (N := 9) rfl ?_); refine Za5 ?hg (N := 9) ?hd (cs := #[.int .i64 0, .slice none 0 0, .slice none 0 0, .int .i64 0, .int .i64 0, .slice none 0 0, .int .i64 0]) (t := 31) ?hr ?_; (case hd => rfl); (case hg => rfl); (case hr => first | (go_simp; done) | (go_simp; rfl)); intro g9 hgg9 w9 hbox hb; have BXg9 := Za.mk hbox; have hzg90 : w9.cell? ⟨g9, 0, none⟩ = some (.int .i64 0) := (Zah hbox 0).trans rfl; have hfg90 := Zap hbox 0; have hzg91 : w9.cell? ⟨g9, 1, none⟩ = some (.slice none 0 0) := (Zah hbox 1).trans rfl; have hfg91 := Zap hbox 1; have hzg92 : w9.cell? ⟨g9, 2, none⟩ = some (.slice none 0 0) := (Zah hbox 2).trans rfl; have hfg92 := Zap hbox 2; have hzg93 : w9.cell? ⟨g9, 3, none⟩ = some (.int .i64 0) := (Zah hbox 3).trans rfl; have hfg93 := Zap hbox 3; have hzg94 : w9.cell? ⟨g9, 4, none⟩ = some (.int .i64 0) := (Zah hbox 4).trans rfl; have hfg94 := Zap hbox 4; have hzg95 : w9.cell? ⟨g9, 5, none⟩ = some (.slice none 0 0) := (Zah hbox 5).trans rfl; have hfg95 := Zap hbox 5; have hzg96 : w9.cell? ⟨g9, 6, none⟩ = some (.int .i64 0) := (Zah hbox 6).trans rfl; have hfg96 := Zap hbox 6; have B8 := Za.mk (show Below wr.heap.size wr (((((((w8.setCell ⟨g8, 0, none⟩ (.int .i64 x.f0)).setCell ⟨g8, 1, none⟩ (.slice A1A x.f1.length c1A)).setCell ⟨g8, 2, none⟩ (.slice A2A x.f2.length c2A)).setCell ⟨g8, 3, none⟩ (.int .i64 x.f3)).setCell ⟨g8, 4, none⟩ (.int .i64 x.f4)).setCell ⟨g8, 5, none⟩ (.slice A5A x.f5.length c5A)).setCell ⟨g8, 6, none⟩ (.int .i64 x.f6)) from (Zae (Zae (Zae (Zae (Zae (Zae (Zae BV.out HG8.out) HG8.out) HG8.out) HG8.out) HG8.out) HG8.out) HG8.out)); have BV9 := Za.mk (Zad (mvB B8.out) hb); have BY8 := Za.mk (Zau (mvK (Zax (cs' := #[.int .i64 x.f0, .slice A1A x.f1.length c1A, .slice A2A x.f2.length c2A, .int .i64 x.f3, .int .i64 x.f4, .slice A5A x.f5.length c5A, .int .i64 x.f6]) (Zax (cs' := #[.int .i64 x.f0, .slice A1A x.f1.length c1A, .slice A2A x.f2.length c2A, .int .i64 x.f3, .int .i64 x.f4, .slice A5A x.f5.length c5A, .int .i64 0]) (Zax (cs' := #[.int .i64 x.f0, .slice A1A x.f1.length c1A, .slice A2A x.f2.length c2A, .int .i64 x.f3, .int .i64 x.f4, .slice none 0 0, .int .i64 0]) (Zax (cs' := #[.int .i64 x.f0, .slice A1A x.f1.length c1A, .slice A2A x.f2.length c2A, .int .i64 x.f3, .int .i64 0, .slice none 0 0, .int .i64 0]) (Zax (cs' := #[.int .i64 x.f0, .slice A1A x.f1.length c1A, .slice A2A x.f2.length c2A, .int .i64 0, .int .i64 0, .slice none 0 0, .int .i64 0]) (Zax (cs' := #[.int .i64 x.f0, .slice A1A x.f1.length c1A, .slice none 0 0, .int .i64 0, .int .i64 0, .slice none 0 0, .int .i64 0]) (Zax (cs' := #[.int .i64 x.f0, .slice none 0 0, .slice none 0 0, .int .i64 0, .int .i64 0, .slice none 0 0, .int .i64 0]) BXg8.out 0 (.int .i64 x.f0) rfl) 1 (.slice A1A x.f1.length c1A) rfl) 2 (.slice A2A x.f2.length c2A) rfl) 3 (.int .i64 x.f3) rfl) 4 (.int .i64 x.f4) rfl) 5 (.slice A5A x.f5.length c5A) rfl) 6 (.int .i64 x.f6) rfl)) hb); have HG9 : Za (wr.heap.size ≤ g9) := ⟨by rw [hgg9]; exact (mvB B8.out).size⟩; have NE98 : Za (g8 ≠ g9) := ⟨by rw [hgg9]; exact Nat.ne_of_lt (Nat.lt_of_lt_of_le (Zbv (Zax (cs' := #[.int .i64 x.f0, .slice A1A x.f1.length c1A, .slice A2A x.f2.length c2A, .int .i64 x.f3, .int .i64 x.f4, .slice A5A x.f5.length c5A, .int .i64 x.f6]) (Zax (cs' := #[.int .i64 x.f0, .slice A1A x.f1.length c1A, .slice A2A x.f2.length c2A, .int .i64 x.f3, .int .i64 x.f4, .slice A5A x.f5.length c5A, .int .i64 0]) (Zax (cs' := #[.int .i64 x.f0, .slice A1A x.f1.length c1A, .slice A2A x.f2.length c2A, .int .i64 x.f3, .int .i64 x.f4, .slice none 0 0, .int .i64 0]) (Zax (cs' := #[.int .i64 x.f0, .slice A1A x.f1.length c1A, .slice A2A x.f2.length c2A, .int .i64 x.f3, .int .i64 0, .slice none 0 0, .int .i64 0]) (Zax (cs' := #[.int .i64 x.f0, .slice A1A x.f1.length c1A, .slice A2A x.f2.length c2A, .int .i64 0, .int .i64 0, .slice none 0 0, .int .i64 0]) (Zax (cs' := #[.int .i64 x.f0, .slice A1A x.f1.length c1A, .slice none 0 0, .int .i64 0, .int .i64 0, .slice none 0 0, .int .i64 0]) (Zax (cs' := #[.int .i64 x.f0, .slice none 0 0, .slice none 0 0, .int .i64 0, .int .i64 0, .slice none 0 0, .int .i64 0]) BXg8.out 0 (.int .i64 x.f0) rfl) 1 (.slice A1A x.f1.length c1A) rfl) 2 (.slice A2A x.f2.length c2A) rfl) 3 (.int .i64 x.f3) rfl) 4 (.int .i64 x.f4) rfl) 5 (.slice A5A x.f5.length c5A) rfl) 6 (.int .i64 x.f6) rfl)) (mvB (Below.refl (((((((w8.setCell ⟨g8, 0, none⟩ (.int .i64 x.f0)).setCell ⟨g8, 1, none⟩ (.slice A1A x.f1.length c1A)).setCell ⟨g8, 2, none⟩ (.slice A2A x.f2.length c2A)).setCell ⟨g8, 3, none⟩ (.int .i64 x.f3)).setCell ⟨g8, 4, none⟩ (.int .i64 x.f4)).setCell ⟨g8, 5, none⟩ (.slice A5A x.f5.length c5A)).setCell ⟨g8, 6, none⟩ (.int .i64 x.f6)).heap.size (((((((w8.setCell ⟨g8, 0, none⟩ (.int .i64 x.f0)).setCell ⟨g8, 1, none⟩ (.slice A1A x.f1.length c1A)).setCell ⟨g8, 2, none⟩ (.slice A2A x.f2.length c2A)).setCell ⟨g8, 3, none⟩ (.int .i64 x.f3)).setCell ⟨g8, 4, none⟩ (.int .i64 x.f4)).setCell ⟨g8, 5, none⟩ (.slice A5A x.f5.length c5A)).setCell ⟨g8, 6, none⟩ (.int .i64 x.f6)))).size)⟩; have ne1_ := NE98.out; have ne2_ := Ne.symm NE98.out; have hw0 : w9.cell? ⟨g8, 0, none⟩ = some (.int .i64 x.f0) := (Zah BY8.out 0).trans rfl; have hw1 : w9.cell? ⟨g8, 1, none⟩ = some (.slice A1A x.f1.length c1A) := (Zah BY8.out 1).trans rfl; have hw2 : w9.cell? ⟨g8, 2, none⟩ = some (.slice A2A x.f2.length c2A) := (Zah BY8.out 2).trans rfl; have hw3 : w9.cell? ⟨g8, 3, none⟩ = some (.int .i64 x.f3) := (Zah BY8.out 3).trans rfl; have hw4 : w9.cell? ⟨g8, 4, none⟩ = some (.int .i64 x.f4) := (Zah BY8.out 4).trans rfl; have hw5 : w9.cell? ⟨g8, 5, none⟩ = some (.slice A5A x.f5.length c5A) := (Zah BY8.out 5).trans rfl; have hw6 : w9.cell? ⟨g8, 6, none⟩ = some (.int .i64 x.f6) := (Zah BY8.out 6).trans rfl; clear hbox hb hgg9) | (go_at_fn g; go_loud (have B9 := Za.mk (show Below wr.heap.size wr (((((((w9.setCell ⟨g9, 0, none⟩ (.int .i64 y.f0)).setCell ⟨g9, 1, none⟩ (.slice A1B y.f1.length c1B)).setCell ⟨g9, 2, none⟩ (.slice A2B y.f2.length c2B)).setCell ⟨g9, 3, none⟩ (.int .i64 y.f3)).setCell ⟨g9, 4, none⟩ (.int .i64 y.f4)).setCell ⟨g9, 5, none⟩ (.slice A5B y.f5.length c5B)).setCell ⟨g9, 6, none⟩ (.int .i64 y.f6)) from (Zae (Zae (Zae (Zae (Zae (Zae (Zae BV9.out HG9.out) HG9.out) HG9.out) HG9.out) HG9.out) HG9.out) HG9.out)); refine (CC.out _ (mvB B9.out)).mono ?_; rintro e_ w12 ⟨rfl, hb⟩; have BE := Za.mk (Zad (mvB B9.out) hb); clear hb)))
      go_roundg (xs.length - (i + 1))
      case measure => omega
      case rel => exact ⟨i + 1, by omega, by omega, (by first | go_num | (rw [show wrap64 ((i : Int) + 1) = ((i + 1 : Nat) : Int) from by unfold wrap64; omega])), ⟨Zad BW.out (mvB BE.out)⟩, ⟨HA2⟩⟩
end Go.Proofs.Ytkgjaklnbgdmiaa.P
namespace Go.Proofs.Ytkgjaklnbgdmiaa.P
open Go.RowKit Go.Proofs.YtkgjaklnbgdmiaaW.PrintWords Go.Proofs.YtkgjaklnbgdmiaaW.PrintLast Go.Proofs.YtkgjaklnbgdmiaaW.PrintMore
attribute [local go_sem] Zcm Zco Zc0 Zc1 Zcb Zcc Zcn Zcp
set_option linter.unusedVariables false
set_option linter.unusedSimpArgs false
theorem eqA48 (d : Nat) (w : World) (x0 y0 : Int) (x1 y1 : Int) :
  (Op.equalIn (d + 2) 48 (.agg #[.int .i64 x0, .int .i64 x1]) (.agg #[.int .i64 y0, .int .i64 y1])).run Try.prog w = .ok (x0 == y0 && (x1 == y1)) w := by
 refine eqA_of Try.underlying48 (by kernel_rfl) ?_
 refine eqf_cons (by rfl) (by go_simp; rfl) (by go_simp; rfl) (by go_simp) ?_
 exact eqf_last (by rfl) (by go_simp; rfl) (by go_simp; rfl) (by go_simp)
end Go.Proofs.Ytkgjaklnbgdmiaa.P
namespace Go.Proofs.Ytkgjaklnbgdmiaa.P
open Go.RowKit Go.Proofs.YtkgjaklnbgdmiaaW.PrintWords Go.Proofs.YtkgjaklnbgdmiaaW.PrintLast Go.Proofs.YtkgjaklnbgdmiaaW.PrintMore
attribute [local go_sem] Zcm Zco Zc0 Zc1 Zcb Zcc Zcn Zcp
set_option linter.unusedVariables false
set_option linter.unusedSimpArgs false
attribute [local go_sem high] eqA48
def Za3.l0 : Nat → List (S48) → List (S48) → Int → Int → Option (Bool)
 | 0, _, _, _, _ => none
 | k + 1, x0, x1, x12, x13 => if x13 < x12 then (if 0 ≤ x13 then (if x13 < (x0.length : Int) then (if x13 < (x1.length : Int) then (if (!(((Zao x0 x13).f0) == ((Zao x1 x13).f0)) || (!(((Zao x0 x13).f1) == ((Zao x1 x13).f1)))) = true then (some false) else (Za3.l0 k x0 x1 x12 (wrap64 (x13 + 1)))) else (none)) else (none)) else (none)) else (some true)
def Za3.f (k : Nat) (l0 : List (S48)) (l1 : List (S48)) : Option (Bool) := if (l0.length : Int) = (l1.length : Int) then (Za3.l0 k l0 l1 (l0.length : Int) 0) else (some false)
theorem Za3.Zej : ∀ k, (∀ y0 y1 y2 y3, LeO (Za3.l0 k y0 y1 y2 y3) (Za3.l0 (k + 1) y0 y1 y2 y3))
 | 0 => fun _ _ _ _ r h => by simp [Za3.l0] at h
 | k + 1 => by
  have ih0 := Za3.Zej k
  intro y0 y1 y2 y3
  unfold Za3.l0
  repeat' first
  | (with_reducible exact ih0 _ _ _ _)
  | (with_reducible exact LeO.refl _)
  | (with_reducible exact LeO.none _)
  | (with_reducible refine LeO.ite ?_ ?_)
  | (with_reducible refine LeO.bind ?_ (fun _ => ?_))
  | exact ih0 _ _ _ _
  | exact LeO.none _
  | refine LeO.ite ?_ ?_
  | refine LeO.bind ?_ (fun _ => ?_)
theorem Za3.mono : ∀ a0 a1 k, LeO (Za3.f k a0 a1) (Za3.f (k + 1) a0 a1) := by
 intro a0 a1 k
 have ih0 := Za3.Zej k
 unfold Za3.f
 repeat' first
   | (with_reducible exact ih0 _ _ _ _)
   | (with_reducible exact LeO.refl _)
   | (with_reducible exact LeO.none _)
   | (with_reducible refine LeO.ite ?_ ?_)
   | (with_reducible refine LeO.bind ?_ (fun _ => ?_))
   | exact ih0 _ _ _ _
   | exact LeO.none _
   | refine LeO.ite ?_ ?_
   | refine LeO.bind ?_ (fun _ => ?_)
set_option maxHeartbeats 8000000 in
set_option maxRecDepth 100000 in
theorem Za3.calls (k : Nat) (A0 : Option Addr) (c0 : Nat) (l0 : List (S48)) (A1 : Option Addr) (c1 : Nat) (l1 : List (S48)) (r : Bool) (w : World) (hr0 : Kd.C k48 w A0 l0.length l0) (hc0 : l0.length ≤ c0) (hr1 : Kd.C k48 w A1 l1.length l1) (hc1 : l1.length ≤ c1) (h : Za3.f k l0 l1 = some r) :
  Calls Try.prog 83 #[.slice A0 l0.length c0, .slice A1 l1.length c1] w fun e w' => e = .returned (.bool r) ∧ Zbb w w' := by
 have hu48 := Try.underlying48
 have HR0 := Za.mk hr0
 have HC0 := Za.mk hc0
 clear hr0 hc0
 have HR1 := Za.mk hr1
 have HC1 := Za.mk hc1
 clear hr1 hc1
 have H : (if (l0.length : Int) = (l1.length : Int) then (Za3.l0 k l0 l1 (l0.length : Int) 0) else (some false)) = some r := h
 clear h
 by_cases c3 : (l0.length : Int) = (l1.length : Int)
 rotate_left
 ·rw [if_neg c3] at H
  have c3b0 : ((l0.length : Int) == (l1.length : Int)) = false := beq_eq_false_iff_ne.mpr c3
  have c3b1 : ((l0.length : Int) != (l1.length : Int)) = true := bne_iff_ne.mpr c3
  have c3b2 : (l0.length == l1.length) = false := by first | simpa using c3 | (simp at c3 ⊢; omega)
  obtain rfl := Option.some.inj H
  go_enter Try.func83, Try.ntmps83
  go_wp2
  repeat (go_quiet (fail); try go_wp2)
  go_ret
  exact ⟨by first | rfl | (simp; done) | (simp [*]; done), by repeat (first | exact Zbb.refl _ | apply Zbb.step)⟩
 rw [if_pos c3] at H
 have c3b0 : ((l0.length : Int) == (l1.length : Int)) = true := beq_iff_eq.mpr c3
 have c3b1 : ((l0.length : Int) != (l1.length : Int)) = false := bne_eq_false_iff_eq.mpr c3
 have c3b2 : (l0.length == l1.length) = true := by first | simpa using c3 | (simp at c3 ⊢; omega)
 clear c3
 have H' := Za.mk H
 clear H
 go_enter Try.func83, Try.ntmps83
 go_wp2
 repeat (go_quiet (fail); try go_wp2)
 go_loopg [13] k (fun kq v13 w' => ∃ (x13_1 : Int), v13 = .int .i64 x13_1 ∧ Za (Za3.l0 kq l0 l1 (l0.length : Int) x13_1 = some r) ∧ Za (kq ≤ k) ∧ Zbb w w')
 case atStart => exact ⟨(0), (by first | rfl | (simp; done) | (simp [*]; done)), H', ⟨Nat.le_refl _⟩, by repeat (first | exact Zbb.refl _ | apply Zbb.step)⟩
 case round =>
  clear H'
  try clear c1
  try clear p2
  try clear c3
  try clear c3b0
  try clear c3b1
  try clear c3b2
  obtain ⟨x13_1, rfl, HA, HK1, ⟨m1, rfl⟩⟩ := hrel
  cases gk with
  | zero => exact absurd HA.out (by simp [Za3.l0])
  | succ k1 =>
   have H := HA.out
   clear HA
   simp only [Za3.l0] at H
   by_cases c4 : x13_1 < (l0.length : Int)
   rotate_left
   ·rw [if_neg c4] at H
    have c4b0 : decide (x13_1 < (l0.length : Int)) = false := decide_eq_false c4
    clear c4
    obtain rfl := Option.some.inj H
    go_wp2
    repeat (go_quiet (fail); try go_wp2)
    go_ret
    exact ⟨by first | rfl | (simp; done) | (simp [*]; done), by repeat (first | exact Zbb.refl _ | apply Zbb.step)⟩
   rw [if_pos c4] at H
   have c4b0 : decide (x13_1 < (l0.length : Int)) = true := decide_eq_true c4
   clear c4
   by_cases c5 : 0 ≤ x13_1
   rotate_left
   ·rw [if_neg c5] at H
    exact absurd H (by simp)
   rw [if_pos c5] at H
   have c5b0 : decide (0 ≤ x13_1) = true := decide_eq_true c5
   clear c5
   by_cases c6 : x13_1 < (l0.length : Int)
   rotate_left
   ·rw [if_neg c6] at H
    exact absurd H (by simp)
   rw [if_pos c6] at H
   have c6b0 : decide (x13_1 < (l0.length : Int)) = true := decide_eq_true c6
   clear c6
   by_cases c7 : x13_1 < (l1.length : Int)
   rotate_left
   ·rw [if_neg c7] at H
    exact absurd H (by simp)
   rw [if_pos c7] at H
   have c7b0 : decide (x13_1 < (l1.length : Int)) = true := decide_eq_true c7
   clear c7
   by_cases c8 : (!(((Zao l0 x13_1).f0) == ((Zao l1 x13_1).f0)) || (!(((Zao l0 x13_1).f1) == ((Zao l1 x13_1).f1)))) = true
   ·rw [if_pos c8] at H
    have c8b0 : (!(((Zao l0 x13_1).f0) == ((Zao l1 x13_1).f0)) || (!(((Zao l0 x13_1).f1) == ((Zao l1 x13_1).f1)))) = true := c8
    clear c8
    obtain rfl := Option.some.inj H
    have p263 : 0 ≤ (x13_1 : Int) := of_decide_eq_true (by first | (with_reducible assumption) | assumption)
    have q263 : x13_1 < (l0.length : Int) := of_decide_eq_true (by first | (with_reducible assumption) | assumption)
    obtain ⟨ad263, e263, hx263_0, hx263_1⟩ := Zdf HR0.out x13_1 p263 q263
    cases e263
    replace p263 := eq_true p263
    replace q263 := eq_true q263
    have p264 : 0 ≤ (x13_1 : Int) := of_decide_eq_true (by first | (with_reducible assumption) | assumption)
    have q264 : x13_1 < (l1.length : Int) := of_decide_eq_true (by first | (with_reducible assumption) | assumption)
    obtain ⟨ad264, e264, hx264_0, hx264_1⟩ := Zdf HR1.out x13_1 p264 q264
    cases e264
    replace p264 := eq_true p264
    replace q264 := eq_true q264
    go_wp2
    repeat (go_quiet (fail); try go_wp2)
    go_ret
    exact ⟨by first | rfl | (simp; done) | (simp [*]; done), by repeat (first | exact Zbb.refl _ | apply Zbb.step)⟩
   rw [if_neg c8] at H
   have c8b0 : (!(((Zao l0 x13_1).f0) == ((Zao l1 x13_1).f0)) || (!(((Zao l0 x13_1).f1) == ((Zao l1 x13_1).f1)))) = false := by simpa using c8
   clear c8
   have H' := Za.mk H
   clear H
   have p263 : 0 ≤ (x13_1 : Int) := of_decide_eq_true (by first | (with_reducible assumption) | assumption)
   have q263 : x13_1 < (l0.length : Int) := of_decide_eq_true (by first | (with_reducible assumption) | assumption)
   obtain ⟨ad263, e263, hx263_0, hx263_1⟩ := Zdf HR0.out x13_1 p263 q263
   cases e263
   replace p263 := eq_true p263
   replace q263 := eq_true q263
   have p264 : 0 ≤ (x13_1 : Int) := of_decide_eq_true (by first | (with_reducible assumption) | assumption)
   have q264 : x13_1 < (l1.length : Int) := of_decide_eq_true (by first | (with_reducible assumption) | assumption)
   obtain ⟨ad264, e264, hx264_0, hx264_1⟩ := Zdf HR1.out x13_1 p264 q264
   cases e264
   replace p264 := eq_true p264
   replace q264 := eq_true q264
   go_wp2
   repeat (go_quiet (fail); try go_wp2)
   go_roundg k1
   case measure => have := HK1.out; omega
   case rel => exact ⟨(wrap64 (x13_1 + 1)), (by first | rfl | (simp; done) | (simp [*]; done)), H', ⟨by have := HK1.out; omega⟩, by repeat (first | exact Zbb.refl _ | apply Zbb.step)⟩
end Go.Proofs.Ytkgjaklnbgdmiaa.P
namespace Go.Proofs.Ytkgjaklnbgdmiaa.P
open Go.RowKit Go.Proofs.YtkgjaklnbgdmiaaW.PrintWords Go.Proofs.YtkgjaklnbgdmiaaW.PrintLast Go.Proofs.YtkgjaklnbgdmiaaW.PrintMore
attribute [local go_sem] Zcm Zco Zc0 Zc1 Zcb Zcc Zcn Zcp
set_option linter.unusedVariables false
set_option linter.unusedSimpArgs false
def Zdc.f (k : Nat) (l0 : List (S48)) (l1 : List (S48)) : Option (Bool) := (Za3.f k l0 l1).bind fun t265 => (some t265)
theorem Zdc.mono : ∀ a0 a1 k, LeO (Zdc.f k a0 a1) (Zdc.f (k + 1) a0 a1) := by
 intro a0 a1 k
 unfold Zdc.f
 repeat' first
   | (with_reducible exact Za3.mono _ _ _)
   | (with_reducible exact LeO.refl _)
   | (with_reducible exact LeO.none _)
   | (with_reducible refine LeO.ite ?_ ?_)
   | (with_reducible refine LeO.bind ?_ (fun _ => ?_))
   | exact Za3.mono _ _ _
   | exact LeO.none _
   | refine LeO.ite ?_ ?_
   | refine LeO.bind ?_ (fun _ => ?_)
set_option maxHeartbeats 8000000 in
set_option maxRecDepth 100000 in
theorem Zdc.calls (k : Nat) (A0 : Option Addr) (c0 : Nat) (l0 : List (S48)) (A1 : Option Addr) (c1 : Nat) (l1 : List (S48)) (r : Bool) (w : World) (hr0 : Kd.C k48 w A0 l0.length l0) (hc0 : l0.length ≤ c0) (hr1 : Kd.C k48 w A1 l1.length l1) (hc1 : l1.length ≤ c1) (h : Zdc.f k l0 l1 = some r) :
  Calls Try.prog 53 #[.slice A0 l0.length c0, .slice A1 l1.length c1] w fun e w' => e = .returned (.bool r) ∧ Zbb w w' := by
 have HR0 := Za.mk hr0
 have HC0 := Za.mk hc0
 clear hr0 hc0
 have HR1 := Za.mk hr1
 have HC1 := Za.mk hc1
 clear hr1 hc1
 have H : ((Za3.f k l0 l1).bind fun t265 => (some t265)) = some r := h
 clear h
 replace H := Option.bind_eq_some_iff.mp H
 obtain ⟨t265, A30, H⟩ := H
 replace H : (some t265) = some r := H
 have A3 := Za.mk A30
 clear A30
 obtain rfl := Option.some.inj H
 go_enter Try.func53, Try.ntmps53
 go_wp2_with (first | ((with_reducible refine Zaw (f := 83) rfl ?_); refine Zbk (some 7) rfl rfl Try.func83 (by kernel_rfl) rfl #[.slice A0 l0.length c0, .slice A1 l1.length c1] rfl (by (try simp only [List.map_toArray, List.map_cons, List.map_nil]); first | done | rfl | (simp only [List.length_drop, List.length_take]; rfl)) ?_; (with_reducible refine (Za3.calls k _ _ l0 _ _ l1 t265 _ ?side1 ?side2 ?side3 ?side4 A3.out).mono ?_); (case side1 => repeat (first | exact HR0.out | (with_reducible refine Kd.C_alloc ?_ _) | (with_reducible refine Kd.C_drewN ?_ _) | (with_reducible refine Kd.C_drew ?_))); (case side2 => exact HC0.out); (case side3 => repeat (first | exact HR1.out | (with_reducible refine Kd.C_alloc ?_ _) | (with_reducible refine Kd.C_drewN ?_ _) | (with_reducible refine Kd.C_drew ?_))); (case side4 => exact HC1.out); rintro e w' ⟨rfl, ⟨nd, rfl⟩⟩; refine ⟨_, rfl, ?_⟩))
 go_ret
 exact ⟨by first | rfl | (simp; done) | (simp [*]; done), by repeat (first | exact Zbb.refl _ | apply Zbb.step)⟩
def slices_Equal_int.l0 : Nat → List Int → List Int → Int → Int → Option (Bool)
 | 0, _, _, _, _ => none
 | k + 1, x0, x1, x12, x13 => if x13 < x12 then (if 0 ≤ x13 then (if x13 < (x0.length : Int) then (if x13 < (x1.length : Int) then (if (rd x0 x13) = (rd x1 x13) then (slices_Equal_int.l0 k x0 x1 x12 (wrap64 (x13 + 1))) else (some false)) else (none)) else (none)) else (none)) else (some true)
def slices_Equal_int.f (k : Nat) (l0 : List Int) (l1 : List Int) : Option (Bool) := if (l0.length : Int) = (l1.length : Int) then (slices_Equal_int.l0 k l0 l1 (l0.length : Int) 0) else (some false)
set_option maxHeartbeats 8000000 in
set_option maxRecDepth 100000 in
theorem slices_Equal_int.calls (k : Nat) (A0 : Option Addr) (c0 : Nat) (l0 : List Int) (A1 : Option Addr) (c1 : Nat) (l1 : List Int) (r : Bool) (w : World) (hr0 : Kd.C (Kd.int .i64) w A0 l0.length l0) (hc0 : l0.length ≤ c0) (hr1 : Kd.C (Kd.int .i64) w A1 l1.length l1) (hc1 : l1.length ≤ c1) (h : slices_Equal_int.f k l0 l1 = some r) :
  Calls Try.prog 54 #[.slice A0 l0.length c0, .slice A1 l1.length c1] w fun e w' => e = .returned (.bool r) ∧ Zbb w w' := by
 have HR0 := Za.mk hr0
 have HC0 := Za.mk hc0
 clear hr0 hc0
 have HR1 := Za.mk hr1
 have HC1 := Za.mk hc1
 clear hr1 hc1
 have H : (if (l0.length : Int) = (l1.length : Int) then (slices_Equal_int.l0 k l0 l1 (l0.length : Int) 0) else (some false)) = some r := h
 clear h
 by_cases c3 : (l0.length : Int) = (l1.length : Int)
 rotate_left
 ·rw [if_neg c3] at H
  have c3b0 : ((l0.length : Int) == (l1.length : Int)) = false := beq_eq_false_iff_ne.mpr c3
  have c3b1 : ((l0.length : Int) != (l1.length : Int)) = true := bne_iff_ne.mpr c3
  have c3b2 : (l0.length == l1.length) = false := by first | simpa using c3 | (simp at c3 ⊢; omega)
  obtain rfl := Option.some.inj H
  go_enter Try.func54, Try.ntmps54
  go_wp2
  repeat (go_quiet (fail); try go_wp2)
  go_ret
  exact ⟨by first | rfl | (simp; done) | (simp [*]; done), by repeat (first | exact Zbb.refl _ | apply Zbb.step)⟩
 rw [if_pos c3] at H
 have c3b0 : ((l0.length : Int) == (l1.length : Int)) = true := beq_iff_eq.mpr c3
 have c3b1 : ((l0.length : Int) != (l1.length : Int)) = false := bne_eq_false_iff_eq.mpr c3
 have c3b2 : (l0.length == l1.length) = true := by first | simpa using c3 | (simp at c3 ⊢; omega)
 clear c3
 have H' := Za.mk H
 clear H
 go_enter Try.func54, Try.ntmps54
 go_wp2
 repeat (go_quiet (fail); try go_wp2)
 go_loopg [13] k (fun kq v13 w' => ∃ (x13_1 : Int), v13 = .int .i64 x13_1 ∧ Za (slices_Equal_int.l0 kq l0 l1 (l0.length : Int) x13_1 = some r) ∧ Za (kq ≤ k) ∧ Zbb w w')
 case atStart => exact ⟨(0), (by first | rfl | (simp; done) | (simp [*]; done)), H', ⟨Nat.le_refl _⟩, by repeat (first | exact Zbb.refl _ | apply Zbb.step)⟩
 case round =>
  clear H'
  try clear c1
  try clear p2
  try clear c3
  try clear c3b0
  try clear c3b1
  try clear c3b2
  obtain ⟨x13_1, rfl, HA, HK1, ⟨m1, rfl⟩⟩ := hrel
  cases gk with
  | zero => exact absurd HA.out (by simp [slices_Equal_int.l0])
  | succ k1 =>
   have H := HA.out
   clear HA
   simp only [slices_Equal_int.l0] at H
   by_cases c4 : x13_1 < (l0.length : Int)
   rotate_left
   ·rw [if_neg c4] at H
    have c4b0 : decide (x13_1 < (l0.length : Int)) = false := decide_eq_false c4
    clear c4
    obtain rfl := Option.some.inj H
    go_wp2
    repeat (go_quiet (fail); try go_wp2)
    go_ret
    exact ⟨by first | rfl | (simp; done) | (simp [*]; done), by repeat (first | exact Zbb.refl _ | apply Zbb.step)⟩
   rw [if_pos c4] at H
   have c4b0 : decide (x13_1 < (l0.length : Int)) = true := decide_eq_true c4
   clear c4
   by_cases c5 : 0 ≤ x13_1
   rotate_left
   ·rw [if_neg c5] at H
    exact absurd H (by simp)
   rw [if_pos c5] at H
   have c5b0 : decide (0 ≤ x13_1) = true := decide_eq_true c5
   clear c5
   by_cases c6 : x13_1 < (l0.length : Int)
   rotate_left
   ·rw [if_neg c6] at H
    exact absurd H (by simp)
   rw [if_pos c6] at H
   have c6b0 : decide (x13_1 < (l0.length : Int)) = true := decide_eq_true c6
   clear c6
   by_cases c7 : x13_1 < (l1.length : Int)
   rotate_left
   ·rw [if_neg c7] at H
    exact absurd H (by simp)
   rw [if_pos c7] at H
   have c7b0 : decide (x13_1 < (l1.length : Int)) = true := decide_eq_true c7
   clear c7
   by_cases c8 : (rd l0 x13_1) = (rd l1 x13_1)
   rotate_left
   ·rw [if_neg c8] at H
    have c8b0 : ((rd l0 x13_1) == (rd l1 x13_1)) = false := beq_eq_false_iff_ne.mpr c8
    have c8b1 : ((rd l0 x13_1) != (rd l1 x13_1)) = true := bne_iff_ne.mpr c8
    obtain rfl := Option.some.inj H
    have p266 : 0 ≤ (x13_1 : Int) := of_decide_eq_true (by first | (with_reducible assumption) | assumption)
    have q266 : x13_1 < (l0.length : Int) := of_decide_eq_true (by first | (with_reducible assumption) | assumption)
    obtain ⟨ad266, e266, hx266_0⟩ := Kd.Zcy HR0.out x13_1 p266 q266
    cases e266
    replace p266 := eq_true p266
    replace q266 := eq_true q266
    have p267 : 0 ≤ (x13_1 : Int) := of_decide_eq_true (by first | (with_reducible assumption) | assumption)
    have q267 : x13_1 < (l1.length : Int) := of_decide_eq_true (by first | (with_reducible assumption) | assumption)
    obtain ⟨ad267, e267, hx267_0⟩ := Kd.Zcy HR1.out x13_1 p267 q267
    cases e267
    replace p267 := eq_true p267
    replace q267 := eq_true q267
    go_wp2
    repeat (go_quiet (fail); try go_wp2)
    go_ret
    exact ⟨by first | rfl | (simp; done) | (simp [*]; done), by repeat (first | exact Zbb.refl _ | apply Zbb.step)⟩
   rw [if_pos c8] at H
   have c8b0 : ((rd l0 x13_1) == (rd l1 x13_1)) = true := beq_iff_eq.mpr c8
   have c8b1 : ((rd l0 x13_1) != (rd l1 x13_1)) = false := bne_eq_false_iff_eq.mpr c8
   clear c8
   have H' := Za.mk H
   clear H
   have p266 : 0 ≤ (x13_1 : Int) := of_decide_eq_true (by first | (with_reducible assumption) | assumption)
   have q266 : x13_1 < (l0.length : Int) := of_decide_eq_true (by first | (with_reducible assumption) | assumption)
   obtain ⟨ad266, e266, hx266_0⟩ := Kd.Zcy HR0.out x13_1 p266 q266
   cases e266
   replace p266 := eq_true p266
   replace q266 := eq_true q266
   have p267 : 0 ≤ (x13_1 : Int) := of_decide_eq_true (by first | (with_reducible assumption) | assumption)
   have q267 : x13_1 < (l1.length : Int) := of_decide_eq_true (by first | (with_reducible assumption) | assumption)
   obtain ⟨ad267, e267, hx267_0⟩ := Kd.Zcy HR1.out x13_1 p267 q267
   cases e267
   replace p267 := eq_true p267
   replace q267 := eq_true q267
   go_wp2
   repeat (go_quiet (fail); try go_wp2)
   go_roundg k1
   case measure => have := HK1.out; omega
   case rel => exact ⟨(wrap64 (x13_1 + 1)), (by first | rfl | (simp; done) | (simp [*]; done)), H', ⟨by have := HK1.out; omega⟩, by repeat (first | exact Zbb.refl _ | apply Zbb.step)⟩
end Go.Proofs.Ytkgjaklnbgdmiaa.P
/- model.Same: are two models the same? -/
namespace Go.Proofs.Ytkgjaklnbgdmiaa.P
open Go.RowKit Go.Shelf Go.Proofs.YtkgjaklnbgdmiaaW.PrintWords Go.Proofs.YtkgjaklnbgdmiaaW.PrintLast Go.Proofs.YtkgjaklnbgdmiaaW.PrintMore
set_option linter.unusedVariables false
set_option linter.unusedSimpArgs false
def varSame.f (k : Nat) (x y : S50) : Option Bool := if (x.f0.toList == y.f0.toList) = true then Zdc.f k x.f1 y.f1 else some false
def Zc7.f (k : Nat) (x y : S31) : Option Bool :=
  if (x.f0 ≠ y.f0 ∨ x.f3 ≠ y.f3) ∨ (x.f4 ≠ y.f4 ∨ x.f6 ≠ y.f6) then some false else (slices_Equal_int.f k x.f1 y.f1).bind fun p => if p = true then (slices_Equal_int.f k x.f2 y.f2).bind fun q => if q = true then equalF (slices_Equal_int.f k) x.f5 y.f5 else some false else some false
def Zct.f (k : Nat) (v0 : List S50) (n0 : List S31) (g0 : Int) (p0 q0 : List Int) (v1 : List S50) (n1 : List S31) (g1 : Int) (p1 q1 : List Int) : Option Bool :=
  (equalF (varSame.f k) v0 v1).bind fun a => (if g0 = g1 then (slices_Equal_int.f k p0 p1).bind fun p => if p = true then slices_Equal_int.f k q0 q1 else some false else some false).bind fun g => if a = true then if g = true then equalF (Zc7.f k) n0 n1 else some false else some false
theorem varSame.mono (k : Nat) (x y : S50) : LeO (varSame.f k x y) (varSame.f (k + 1) x y) := by
  unfold varSame.f
  exact LeO.ite (Zdc.mono _ _ _) (LeO.refl _)
set_option maxHeartbeats 2000000 in
set_option maxRecDepth 100000 in
theorem varSame_calls (k : Nat) (x y : S50) (r : Bool) (A1 : Option Addr) (c1 : Nat) (B1 : Option Addr) (b1 : Nat) (w : World) (h : varSame.f k x y = some r) (hx : x.f1.length ≤ c1) (gx : Kd.C k48 w A1 x.f1.length x.f1) (hy : y.f1.length ≤ b1) (gy : Kd.C k48 w B1 y.f1.length y.f1) :
    Calls Try.prog 52 #[.agg #[.string x.f0, .slice A1 x.f1.length c1], .agg #[.string y.f0, .slice B1 y.f1.length b1]] w fun e w' => e = .returned (.bool r) ∧ Below w.heap.size w w' := by
  have HB := Za.mk (show Below w.heap.size w ((w.alloc (.cells #[.string x.f0, .slice A1 x.f1.length c1] 50)).alloc (.cells #[.string y.f0, .slice B1 y.f1.length b1] 50)) from Zab (Zab (Below.refl _ _) _) _)
  have GX := Za.mk gx
  have GY := Za.mk gy
  clear gx gy
  unfold varSame.f at h
  cases hn : (x.f0.toList == y.f0.toList) with
  | false =>
    rw [hn, if_neg (by decide)] at h
    obtain rfl := Option.some.inj h
    clear h
    go_enter Try.func52, Try.ntmps52
    go_wp2
    go_ret
    exact ⟨by first | rfl | (simp [*]; done), mvB HB.out⟩
  | true =>
    rw [hn, if_pos rfl] at h
    have H := Za.mk h
    clear h
    go_enter Try.func52, Try.ntmps52
    go_wp2_with (first | (go_at_call 53; go_loud (refine (Zdc.calls k A1 c1 x.f1 B1 b1 y.f1 r _ (Kd.Zak GX.out (mvB HB.out)) hx (Kd.Zak GY.out (mvB HB.out)) hy H.out).mono ?_; rintro e_ w' ⟨rfl, ⟨nd0, rfl⟩⟩)))
    go_ret
    exact ⟨by first | rfl | (simp [*]; done), mvB HB.out⟩
theorem eqPred (k : Nat) (w : World) (u v : List Int) (b : Bool) (W : World) (P1 : Option Addr) (p1 : Nat) (P2 : Option Addr) (p2 : Nat) (hf : slices_Equal_int.f k u v = some b) (_ : Below w.heap.size w W) (hl1 : u.length ≤ p1) (hc1 : Kd.C (Kd.int .i64) W P1 u.length u) (hl2 : v.length ≤ p2) (hc2 : Kd.C (Kd.int .i64) W P2 v.length v) :
    Calls Try.prog 54 (#[.slice P1 u.length p1, .slice P2 v.length p2] ++ #[]) W fun e w' => e = .returned (.bool b) ∧ Below W.heap.size W w' := by
  have h1 : Calls Try.prog 54 #[.slice P1 u.length p1, .slice P2 v.length p2] W (fun e w' => e = .returned (.bool b) ∧ Below W.heap.size W w') := (slices_Equal_int.calls k P1 p1 u P2 p2 v b W hc1 hl1 hc2 hl2 hf).mono (fun _ _ h_ => ⟨h_.1, h_.2.below⟩)
  simpa using h1
theorem varPred (k : Nat) (w : World) (u v : S50) (b : Bool) (W : World) (P1 : Option Addr) (p1 : Nat) (P2 : Option Addr) (p2 : Nat) (hf : varSame.f k u v = some b) (_ : Below w.heap.size w W) (hl1 : u.f1.length ≤ p1) (hc1 : Kd.C k48 W P1 u.f1.length u.f1) (hl2 : v.f1.length ≤ p2) (hc2 : Kd.C k48 W P2 v.f1.length v.f1) :
    Calls Try.prog 52 (#[.agg #[.string u.f0, .slice P1 u.f1.length p1], .agg #[.string v.f0, .slice P2 v.f1.length p2]] ++ #[]) W fun e w' => e = .returned (.bool b) ∧ Below W.heap.size W w' := by
  have h1 := varSame_calls k u v b P1 p1 P2 p2 W hf hl1 hc1 hl2 hc2
  simpa using h1
set_option maxHeartbeats 4000000 in
set_option maxRecDepth 100000 in
theorem alike_calls (k : Nat) (x y : S31) (r : Bool) (A1 : Option Addr) (a1 : Nat) (A2 : Option Addr) (a2 : Nat) (A5 : Option Addr) (a5 : Nat) (B1 : Option Addr) (b1 : Nat) (B2 : Option Addr) (b2 : Nat) (B5 : Option Addr) (b5 : Nat) (w : World) (h : Zc7.f k x y = some r) (hx1 : x.f1.length ≤ a1) (gx1 : Kd.C (Kd.int .i64) w A1 x.f1.length x.f1) (hx2 : x.f2.length ≤ a2) (gx2 : Kd.C (Kd.int .i64) w A2 x.f2.length x.f2) (hx5 : x.f5.length ≤ a5) (gx5 : Kd.C (Kd.slice 3 (Kd.int .i64)) w A5 x.f5.length x.f5) (hy1 : y.f1.length ≤ b1) (gy1 : Kd.C (Kd.int .i64) w B1 y.f1.length y.f1) (hy2 : y.f2.length ≤ b2) (gy2 : Kd.C (Kd.int .i64) w B2 y.f2.length y.f2) (hy5 : y.f5.length ≤ b5) (gy5 : Kd.C (Kd.slice 3 (Kd.int .i64)) w B5 y.f5.length y.f5) :
    Calls Try.prog 56 #[.agg #[.int .i64 x.f0, .slice A1 x.f1.length a1, .slice A2 x.f2.length a2, .int .i64 x.f3, .int .i64 x.f4, .slice A5 x.f5.length a5, .int .i64 x.f6], .agg #[.int .i64 y.f0, .slice B1 y.f1.length b1, .slice B2 y.f2.length b2, .int .i64 y.f3, .int .i64 y.f4, .slice B5 y.f5.length b5, .int .i64 y.f6]] w fun e w' => e = .returned (.bool r) ∧ Below w.heap.size w w' := by
  have HB := Za.mk (show Below w.heap.size w ((w.alloc (.cells #[.int .i64 x.f0, .slice A1 x.f1.length a1, .slice A2 x.f2.length a2, .int .i64 x.f3, .int .i64 x.f4, .slice A5 x.f5.length a5, .int .i64 x.f6] 31)).alloc (.cells #[.int .i64 y.f0, .slice B1 y.f1.length b1, .slice B2 y.f2.length b2, .int .i64 y.f3, .int .i64 y.f4, .slice B5 y.f5.length b5, .int .i64 y.f6] 31)) from Zab (Zab (Below.refl _ _) _) _)
  have Gx1 := Za.mk gx1
  clear gx1
  have Gx2 := Za.mk gx2
  clear gx2
  have Gx5 := Za.mk gx5
  clear gx5
  have Gy1 := Za.mk gy1
  clear gy1
  have Gy2 := Za.mk gy2
  clear gy2
  have Gy5 := Za.mk gy5
  clear gy5
  unfold Zc7.f at h
  have CQ := Za.mk (fun (W : World) (hW : Below w.heap.size w W) (hq : equalF (slices_Equal_int.f k) x.f5 y.f5 = some r) => equalFunc_L (slices_Equal_int.f k) 54 #[] (enters_of Try.func54 (by kernel_rfl) rfl) A5 a5 x.f5 B5 b5 y.f5 r W (Kd.Zak Gx5.out hW) (Kd.Zak Gy5.out hW) (eqPred k W) hq)
  by_cases hq_ : x.f0 = y.f0
  case neg =>
    rw [if_pos (Or.inl (Or.inl hq_))] at h
    obtain rfl := Option.some.inj h
    clear h
    have m0a : (x.f0 == y.f0) = false := beq_eq_false_iff_ne.2 hq_
    have m0b : (x.f0 != y.f0) = true := by simp only [bne, m0a, Bool.not_false]
    have m0c : decide (x.f0 = y.f0) = false := decide_eq_false hq_
    clear hq_
    go_enter Try.func56, Try.ntmps56
    go_wp2
    go_ret
    exact ⟨by first | rfl | (simp [*]; done), mvB HB.out⟩
  have m0a : (x.f0 == y.f0) = true := beq_iff_eq.2 hq_
  have m0b : (x.f0 != y.f0) = false := by simp only [bne, m0a, Bool.not_true]
  have m0c : decide (x.f0 = y.f0) = true := decide_eq_true hq_
  have Q0 := Za.mk hq_
  clear hq_
  by_cases hq_ : x.f3 = y.f3
  case neg =>
    rw [if_pos (Or.inl (Or.inr hq_))] at h
    obtain rfl := Option.some.inj h
    clear h
    have m3a : (x.f3 == y.f3) = false := beq_eq_false_iff_ne.2 hq_
    have m3b : (x.f3 != y.f3) = true := by simp only [bne, m3a, Bool.not_false]
    have m3c : decide (x.f3 = y.f3) = false := decide_eq_false hq_
    clear hq_
    go_enter Try.func56, Try.ntmps56
    go_wp2
    go_ret
    exact ⟨by first | rfl | (simp [*]; done), mvB HB.out⟩
  have m3a : (x.f3 == y.f3) = true := beq_iff_eq.2 hq_
  have m3b : (x.f3 != y.f3) = false := by simp only [bne, m3a, Bool.not_true]
  have m3c : decide (x.f3 = y.f3) = true := decide_eq_true hq_
  have Q3 := Za.mk hq_
  clear hq_
  by_cases hq_ : x.f4 = y.f4
  case neg =>
    rw [if_pos (Or.inr (Or.inl hq_))] at h
    obtain rfl := Option.some.inj h
    clear h
    have m4a : (x.f4 == y.f4) = false := beq_eq_false_iff_ne.2 hq_
    have m4b : (x.f4 != y.f4) = true := by simp only [bne, m4a, Bool.not_false]
    have m4c : decide (x.f4 = y.f4) = false := decide_eq_false hq_
    clear hq_
    go_enter Try.func56, Try.ntmps56
    go_wp2
    go_ret
    exact ⟨by first | rfl | (simp [*]; done), mvB HB.out⟩
  have m4a : (x.f4 == y.f4) = true := beq_iff_eq.2 hq_
  have m4b : (x.f4 != y.f4) = false := by simp only [bne, m4a, Bool.not_true]
  have m4c : decide (x.f4 = y.f4) = true := decide_eq_true hq_
  have Q4 := Za.mk hq_
  clear hq_
  by_cases hq_ : x.f6 = y.f6
  case neg =>
    rw [if_pos (Or.inr (Or.inr hq_))] at h
    obtain rfl := Option.some.inj h
    clear h
    have m6a : (x.f6 == y.f6) = false := beq_eq_false_iff_ne.2 hq_
    have m6b : (x.f6 != y.f6) = true := by simp only [bne, m6a, Bool.not_false]
    have m6c : decide (x.f6 = y.f6) = false := decide_eq_false hq_
    clear hq_
    go_enter Try.func56, Try.ntmps56
    go_wp2
    go_ret
    exact ⟨by first | rfl | (simp [*]; done), mvB HB.out⟩
  have m6a : (x.f6 == y.f6) = true := beq_iff_eq.2 hq_
  have m6b : (x.f6 != y.f6) = false := by simp only [bne, m6a, Bool.not_true]
  have m6c : decide (x.f6 = y.f6) = true := decide_eq_true hq_
  have Q6 := Za.mk hq_
  clear hq_
  rw [if_neg (fun h_ => h_.elim (fun h_ => h_.elim (fun h_ => h_ Q0.out) (fun h_ => h_ Q3.out)) (fun h_ => h_.elim (fun h_ => h_ Q4.out) (fun h_ => h_ Q6.out)))] at h
  obtain ⟨p, hp, h2_⟩ := Option.bind_eq_some_iff.1 h
  have E1 := Za.mk hp
  clear h hp
  cases p with
  | false =>
    rw [if_neg (by decide)] at h2_
    obtain rfl := Option.some.inj h2_
    clear h2_
    go_enter Try.func56, Try.ntmps56
    go_wp2_with (first | (go_at_call 54; (with_reducible refine (slices_Equal_int.calls k A1 a1 x.f1 B1 b1 y.f1 _ _ ?s1 hx1 ?s2 hy1 E1.out).mono ?_); (case s1 => exact Kd.Zak Gx1.out (mvB HB.out)); (case s2 => exact Kd.Zak Gy1.out (mvB HB.out)); rintro e_ w2 ⟨rfl, ⟨nd0, rfl⟩⟩))
    go_ret
    exact ⟨by first | rfl | (simp [*]; done), mvB HB.out⟩
  | true =>
    rw [if_pos rfl] at h2_
    obtain ⟨q, hq, h3_⟩ := Option.bind_eq_some_iff.1 h2_
    have E2 := Za.mk hq
    clear h2_ hq
    cases q with
    | false =>
      rw [if_neg (by decide)] at h3_
      obtain rfl := Option.some.inj h3_
      clear h3_
      go_enter Try.func56, Try.ntmps56
      go_wp2_with (first | (go_at_call 54; (with_reducible refine (slices_Equal_int.calls k A1 a1 x.f1 B1 b1 y.f1 _ _ ?s1 hx1 ?s2 hy1 E1.out).mono ?_); (case s1 => exact Kd.Zak Gx1.out (mvB HB.out)); (case s2 => exact Kd.Zak Gy1.out (mvB HB.out)); rintro e_ w2 ⟨rfl, ⟨nd0, rfl⟩⟩) | (go_at_call 54; (with_reducible refine (slices_Equal_int.calls k A2 a2 x.f2 B2 b2 y.f2 _ _ ?s1 hx2 ?s2 hy2 E2.out).mono ?_); (case s1 => exact Kd.Zak Gx2.out (mvB HB.out)); (case s2 => exact Kd.Zak Gy2.out (mvB HB.out)); rintro e_ w2 ⟨rfl, ⟨nd1, rfl⟩⟩))
      go_ret
      exact ⟨by first | rfl | (simp [*]; done), mvB HB.out⟩
    | true =>
      rw [if_pos rfl] at h3_
      have E5 := Za.mk h3_
      clear h3_
      go_enter Try.func56, Try.ntmps56
      go_wp2_with (first | (go_at_call 54; (with_reducible refine (slices_Equal_int.calls k A1 a1 x.f1 B1 b1 y.f1 _ _ ?s1 hx1 ?s2 hy1 E1.out).mono ?_); (case s1 => exact Kd.Zak Gx1.out (mvB HB.out)); (case s2 => exact Kd.Zak Gy1.out (mvB HB.out)); rintro e_ w2 ⟨rfl, ⟨nd0, rfl⟩⟩) | (go_at_call 54; (with_reducible refine (slices_Equal_int.calls k A2 a2 x.f2 B2 b2 y.f2 _ _ ?s1 hx2 ?s2 hy2 E2.out).mono ?_); (case s1 => exact Kd.Zak Gx2.out (mvB HB.out)); (case s2 => exact Kd.Zak Gy2.out (mvB HB.out)); rintro e_ w2 ⟨rfl, ⟨nd1, rfl⟩⟩) | (go_at_call 84; go_loud (refine (CQ.out _ (mvB HB.out) E5.out).mono ?_; rintro e_ w' ⟨rfl, hb⟩; have BE := Za.mk (Zad (mvB HB.out) hb); clear hb)))
      go_ret
      exact ⟨by first | rfl | (simp [*]; done), mvB BE.out⟩
theorem conPred (k : Nat) (w : World) (u v : S31) (b : Bool) (W : World) (P1 : Option Addr) (p1 : Nat) (P2 : Option Addr) (p2 : Nat) (P5 : Option Addr) (p5 : Nat) (Q1 : Option Addr) (q1 : Nat) (Q2 : Option Addr) (q2 : Nat) (Q5 : Option Addr) (q5 : Nat) (hf : Zc7.f k u v = some b) (_ : Below w.heap.size w W)
    (l1 : u.f1.length ≤ p1) (d1 : Kd.C (Kd.int .i64) W P1 u.f1.length u.f1) (l2 : u.f2.length ≤ p2) (d2 : Kd.C (Kd.int .i64) W P2 u.f2.length u.f2) (l5 : u.f5.length ≤ p5) (d5 : Kd.C (Kd.slice 3 (Kd.int .i64)) W P5 u.f5.length u.f5)
    (m1 : v.f1.length ≤ q1) (e1 : Kd.C (Kd.int .i64) W Q1 v.f1.length v.f1) (m2 : v.f2.length ≤ q2) (e2 : Kd.C (Kd.int .i64) W Q2 v.f2.length v.f2) (m5 : v.f5.length ≤ q5) (e5 : Kd.C (Kd.slice 3 (Kd.int .i64)) W Q5 v.f5.length v.f5) :
    Calls Try.prog 56 (#[.agg #[.int .i64 u.f0, .slice P1 u.f1.length p1, .slice P2 u.f2.length p2, .int .i64 u.f3, .int .i64 u.f4, .slice P5 u.f5.length p5, .int .i64 u.f6], .agg #[.int .i64 v.f0, .slice Q1 v.f1.length q1, .slice Q2 v.f2.length q2, .int .i64 v.f3, .int .i64 v.f4, .slice Q5 v.f5.length q5, .int .i64 v.f6]] ++ #[]) W fun e w' => e = .returned (.bool b) ∧ Below W.heap.size W w' := by
  have h1 := alike_calls k u v b P1 p1 P2 p2 P5 p5 Q1 q1 Q2 q2 Q5 q5 W hf l1 d1 l2 d2 l5 d5 m1 e1 m2 e2 m5 e5
  simpa using h1
set_option maxHeartbeats 4000000 in
set_option maxRecDepth 100000 in
theorem Zct.calls (k : Nat) (A00 : Option Addr) (c00 : Nat) (v0 : List S50) (A01 : Option Addr) (c01 : Nat) (n0 : List S31) (g0 : Int) (A03 : Option Addr) (c03 : Nat) (p0 : List Int) (A04 : Option Addr) (c04 : Nat) (q0 : List Int) (A10 : Option Addr) (c10 : Nat) (v1 : List S50) (A11 : Option Addr) (c11 : Nat) (n1 : List S31) (g1 : Int) (A13 : Option Addr) (c13 : Nat) (p1 : List Int) (A14 : Option Addr) (c14 : Nat) (q1 : List Int) (r : Bool) (w : World) (hr00 : Kd.C k50 w A00 v0.length v0) (hc00 : v0.length ≤ c00) (hr01 : Kd.C k31 w A01 n0.length n0) (hc01 : n0.length ≤ c01) (hr03 : Kd.C (Kd.int .i64) w A03 p0.length p0) (hc03 : p0.length ≤ c03) (hr04 : Kd.C (Kd.int .i64) w A04 q0.length q0) (hc04 : q0.length ≤ c04) (hr10 : Kd.C k50 w A10 v1.length v1) (hc10 : v1.length ≤ c10) (hr11 : Kd.C k31 w A11 n1.length n1) (hc11 : n1.length ≤ c11) (hr13 : Kd.C (Kd.int .i64) w A13 p1.length p1) (hc13 : p1.length ≤ c13) (hr14 : Kd.C (Kd.int .i64) w A14 q1.length q1) (hc14 : q1.length ≤ c14) (h : Zct.f k v0 n0 g0 p0 q0 v1 n1 g1 p1 q1 = some r) :
    Calls Try.prog 27 #[.agg #[.slice A00 v0.length c00, .slice A01 n0.length c01, .int .i64 g0, .slice A03 p0.length c03, .slice A04 q0.length c04], .agg #[.slice A10 v1.length c10, .slice A11 n1.length c11, .int .i64 g1, .slice A13 p1.length c13, .slice A14 q1.length c14]] w fun e w' => e = .returned (.bool r) ∧ Below w.heap.size w w' := by
  have HB := Za.mk (show Below w.heap.size w ((w.alloc (.cells #[.slice A00 v0.length c00, .slice A01 n0.length c01, .int .i64 g0, .slice A03 p0.length c03, .slice A04 q0.length c04] 28)).alloc (.cells #[.slice A10 v1.length c10, .slice A11 n1.length c11, .int .i64 g1, .slice A13 p1.length c13, .slice A14 q1.length c14] 28)) from Zab (Zab (Below.refl _ _) _) _)
  have R00 := Za.mk hr00
  clear hr00
  have R01 := Za.mk hr01
  clear hr01
  have R03 := Za.mk hr03
  clear hr03
  have R04 := Za.mk hr04
  clear hr04
  have R10 := Za.mk hr10
  clear hr10
  have R11 := Za.mk hr11
  clear hr11
  have R13 := Za.mk hr13
  clear hr13
  have R14 := Za.mk hr14
  clear hr14
  have K00 := Za.mk (fun (W : World) (hW : Below ((w.alloc (.cells #[.slice A00 v0.length c00, .slice A01 n0.length c01, .int .i64 g0, .slice A03 p0.length c03, .slice A04 q0.length c04] 28)).alloc (.cells #[.slice A10 v1.length c10, .slice A11 n1.length c11, .int .i64 g1, .slice A13 p1.length c13, .slice A14 q1.length c14] 28)).heap.size ((w.alloc (.cells #[.slice A00 v0.length c00, .slice A01 n0.length c01, .int .i64 g0, .slice A03 p0.length c03, .slice A04 q0.length c04] 28)).alloc (.cells #[.slice A10 v1.length c10, .slice A11 n1.length c11, .int .i64 g1, .slice A13 p1.length c13, .slice A14 q1.length c14] 28)) W) => (hW.cell (p := ⟨w.heap.size, 0, none⟩) (by simp <;> omega)).trans (by simp) : ∀ W, Below ((w.alloc (.cells #[.slice A00 v0.length c00, .slice A01 n0.length c01, .int .i64 g0, .slice A03 p0.length c03, .slice A04 q0.length c04] 28)).alloc (.cells #[.slice A10 v1.length c10, .slice A11 n1.length c11, .int .i64 g1, .slice A13 p1.length c13, .slice A14 q1.length c14] 28)).heap.size ((w.alloc (.cells #[.slice A00 v0.length c00, .slice A01 n0.length c01, .int .i64 g0, .slice A03 p0.length c03, .slice A04 q0.length c04] 28)).alloc (.cells #[.slice A10 v1.length c10, .slice A11 n1.length c11, .int .i64 g1, .slice A13 p1.length c13, .slice A14 q1.length c14] 28)) W → W.cell? ⟨w.heap.size, 0, none⟩ = some (.slice A00 v0.length c00))
  have K01 := Za.mk (fun (W : World) (hW : Below ((w.alloc (.cells #[.slice A00 v0.length c00, .slice A01 n0.length c01, .int .i64 g0, .slice A03 p0.length c03, .slice A04 q0.length c04] 28)).alloc (.cells #[.slice A10 v1.length c10, .slice A11 n1.length c11, .int .i64 g1, .slice A13 p1.length c13, .slice A14 q1.length c14] 28)).heap.size ((w.alloc (.cells #[.slice A00 v0.length c00, .slice A01 n0.length c01, .int .i64 g0, .slice A03 p0.length c03, .slice A04 q0.length c04] 28)).alloc (.cells #[.slice A10 v1.length c10, .slice A11 n1.length c11, .int .i64 g1, .slice A13 p1.length c13, .slice A14 q1.length c14] 28)) W) => (hW.cell (p := ⟨w.heap.size, 1, none⟩) (by simp <;> omega)).trans (by simp) : ∀ W, Below ((w.alloc (.cells #[.slice A00 v0.length c00, .slice A01 n0.length c01, .int .i64 g0, .slice A03 p0.length c03, .slice A04 q0.length c04] 28)).alloc (.cells #[.slice A10 v1.length c10, .slice A11 n1.length c11, .int .i64 g1, .slice A13 p1.length c13, .slice A14 q1.length c14] 28)).heap.size ((w.alloc (.cells #[.slice A00 v0.length c00, .slice A01 n0.length c01, .int .i64 g0, .slice A03 p0.length c03, .slice A04 q0.length c04] 28)).alloc (.cells #[.slice A10 v1.length c10, .slice A11 n1.length c11, .int .i64 g1, .slice A13 p1.length c13, .slice A14 q1.length c14] 28)) W → W.cell? ⟨w.heap.size, 1, none⟩ = some (.slice A01 n0.length c01))
  have K02 := Za.mk (fun (W : World) (hW : Below ((w.alloc (.cells #[.slice A00 v0.length c00, .slice A01 n0.length c01, .int .i64 g0, .slice A03 p0.length c03, .slice A04 q0.length c04] 28)).alloc (.cells #[.slice A10 v1.length c10, .slice A11 n1.length c11, .int .i64 g1, .slice A13 p1.length c13, .slice A14 q1.length c14] 28)).heap.size ((w.alloc (.cells #[.slice A00 v0.length c00, .slice A01 n0.length c01, .int .i64 g0, .slice A03 p0.length c03, .slice A04 q0.length c04] 28)).alloc (.cells #[.slice A10 v1.length c10, .slice A11 n1.length c11, .int .i64 g1, .slice A13 p1.length c13, .slice A14 q1.length c14] 28)) W) => (hW.cell (p := ⟨w.heap.size, 2, none⟩) (by simp <;> omega)).trans (by simp) : ∀ W, Below ((w.alloc (.cells #[.slice A00 v0.length c00, .slice A01 n0.length c01, .int .i64 g0, .slice A03 p0.length c03, .slice A04 q0.length c04] 28)).alloc (.cells #[.slice A10 v1.length c10, .slice A11 n1.length c11, .int .i64 g1, .slice A13 p1.length c13, .slice A14 q1.length c14] 28)).heap.size ((w.alloc (.cells #[.slice A00 v0.length c00, .slice A01 n0.length c01, .int .i64 g0, .slice A03 p0.length c03, .slice A04 q0.length c04] 28)).alloc (.cells #[.slice A10 v1.length c10, .slice A11 n1.length c11, .int .i64 g1, .slice A13 p1.length c13, .slice A14 q1.length c14] 28)) W → W.cell? ⟨w.heap.size, 2, none⟩ = some (.int .i64 g0))
  have K03 := Za.mk (fun (W : World) (hW : Below ((w.alloc (.cells #[.slice A00 v0.length c00, .slice A01 n0.length c01, .int .i64 g0, .slice A03 p0.length c03, .slice A04 q0.length c04] 28)).alloc (.cells #[.slice A10 v1.length c10, .slice A11 n1.length c11, .int .i64 g1, .slice A13 p1.length c13, .slice A14 q1.length c14] 28)).heap.size ((w.alloc (.cells #[.slice A00 v0.length c00, .slice A01 n0.length c01, .int .i64 g0, .slice A03 p0.length c03, .slice A04 q0.length c04] 28)).alloc (.cells #[.slice A10 v1.length c10, .slice A11 n1.length c11, .int .i64 g1, .slice A13 p1.length c13, .slice A14 q1.length c14] 28)) W) => (hW.cell (p := ⟨w.heap.size, 3, none⟩) (by simp <;> omega)).trans (by simp) : ∀ W, Below ((w.alloc (.cells #[.slice A00 v0.length c00, .slice A01 n0.length c01, .int .i64 g0, .slice A03 p0.length c03, .slice A04 q0.length c04] 28)).alloc (.cells #[.slice A10 v1.length c10, .slice A11 n1.length c11, .int .i64 g1, .slice A13 p1.length c13, .slice A14 q1.length c14] 28)).heap.size ((w.alloc (.cells #[.slice A00 v0.length c00, .slice A01 n0.length c01, .int .i64 g0, .slice A03 p0.length c03, .slice A04 q0.length c04] 28)).alloc (.cells #[.slice A10 v1.length c10, .slice A11 n1.length c11, .int .i64 g1, .slice A13 p1.length c13, .slice A14 q1.length c14] 28)) W → W.cell? ⟨w.heap.size, 3, none⟩ = some (.slice A03 p0.length c03))
  have K04 := Za.mk (fun (W : World) (hW : Below ((w.alloc (.cells #[.slice A00 v0.length c00, .slice A01 n0.length c01, .int .i64 g0, .slice A03 p0.length c03, .slice A04 q0.length c04] 28)).alloc (.cells #[.slice A10 v1.length c10, .slice A11 n1.length c11, .int .i64 g1, .slice A13 p1.length c13, .slice A14 q1.length c14] 28)).heap.size ((w.alloc (.cells #[.slice A00 v0.length c00, .slice A01 n0.length c01, .int .i64 g0, .slice A03 p0.length c03, .slice A04 q0.length c04] 28)).alloc (.cells #[.slice A10 v1.length c10, .slice A11 n1.length c11, .int .i64 g1, .slice A13 p1.length c13, .slice A14 q1.length c14] 28)) W) => (hW.cell (p := ⟨w.heap.size, 4, none⟩) (by simp <;> omega)).trans (by simp) : ∀ W, Below ((w.alloc (.cells #[.slice A00 v0.length c00, .slice A01 n0.length c01, .int .i64 g0, .slice A03 p0.length c03, .slice A04 q0.length c04] 28)).alloc (.cells #[.slice A10 v1.length c10, .slice A11 n1.length c11, .int .i64 g1, .slice A13 p1.length c13, .slice A14 q1.length c14] 28)).heap.size ((w.alloc (.cells #[.slice A00 v0.length c00, .slice A01 n0.length c01, .int .i64 g0, .slice A03 p0.length c03, .slice A04 q0.length c04] 28)).alloc (.cells #[.slice A10 v1.length c10, .slice A11 n1.length c11, .int .i64 g1, .slice A13 p1.length c13, .slice A14 q1.length c14] 28)) W → W.cell? ⟨w.heap.size, 4, none⟩ = some (.slice A04 q0.length c04))
  have K10 := Za.mk (fun (W : World) (hW : Below ((w.alloc (.cells #[.slice A00 v0.length c00, .slice A01 n0.length c01, .int .i64 g0, .slice A03 p0.length c03, .slice A04 q0.length c04] 28)).alloc (.cells #[.slice A10 v1.length c10, .slice A11 n1.length c11, .int .i64 g1, .slice A13 p1.length c13, .slice A14 q1.length c14] 28)).heap.size ((w.alloc (.cells #[.slice A00 v0.length c00, .slice A01 n0.length c01, .int .i64 g0, .slice A03 p0.length c03, .slice A04 q0.length c04] 28)).alloc (.cells #[.slice A10 v1.length c10, .slice A11 n1.length c11, .int .i64 g1, .slice A13 p1.length c13, .slice A14 q1.length c14] 28)) W) => (hW.cell (p := ⟨w.heap.size + 1, 0, none⟩) (by simp <;> omega)).trans (by simp) : ∀ W, Below ((w.alloc (.cells #[.slice A00 v0.length c00, .slice A01 n0.length c01, .int .i64 g0, .slice A03 p0.length c03, .slice A04 q0.length c04] 28)).alloc (.cells #[.slice A10 v1.length c10, .slice A11 n1.length c11, .int .i64 g1, .slice A13 p1.length c13, .slice A14 q1.length c14] 28)).heap.size ((w.alloc (.cells #[.slice A00 v0.length c00, .slice A01 n0.length c01, .int .i64 g0, .slice A03 p0.length c03, .slice A04 q0.length c04] 28)).alloc (.cells #[.slice A10 v1.length c10, .slice A11 n1.length c11, .int .i64 g1, .slice A13 p1.length c13, .slice A14 q1.length c14] 28)) W → W.cell? ⟨w.heap.size + 1, 0, none⟩ = some (.slice A10 v1.length c10))
  have K11 := Za.mk (fun (W : World) (hW : Below ((w.alloc (.cells #[.slice A00 v0.length c00, .slice A01 n0.length c01, .int .i64 g0, .slice A03 p0.length c03, .slice A04 q0.length c04] 28)).alloc (.cells #[.slice A10 v1.length c10, .slice A11 n1.length c11, .int .i64 g1, .slice A13 p1.length c13, .slice A14 q1.length c14] 28)).heap.size ((w.alloc (.cells #[.slice A00 v0.length c00, .slice A01 n0.length c01, .int .i64 g0, .slice A03 p0.length c03, .slice A04 q0.length c04] 28)).alloc (.cells #[.slice A10 v1.length c10, .slice A11 n1.length c11, .int .i64 g1, .slice A13 p1.length c13, .slice A14 q1.length c14] 28)) W) => (hW.cell (p := ⟨w.heap.size + 1, 1, none⟩) (by simp <;> omega)).trans (by simp) : ∀ W, Below ((w.alloc (.cells #[.slice A00 v0.length c00, .slice A01 n0.length c01, .int .i64 g0, .slice A03 p0.length c03, .slice A04 q0.length c04] 28)).alloc (.cells #[.slice A10 v1.length c10, .slice A11 n1.length c11, .int .i64 g1, .slice A13 p1.length c13, .slice A14 q1.length c14] 28)).heap.size ((w.alloc (.cells #[.slice A00 v0.length c00, .slice A01 n0.length c01, .int .i64 g0, .slice A03 p0.length c03, .slice A04 q0.length c04] 28)).alloc (.cells #[.slice A10 v1.length c10, .slice A11 n1.length c11, .int .i64 g1, .slice A13 p1.length c13, .slice A14 q1.length c14] 28)) W → W.cell? ⟨w.heap.size + 1, 1, none⟩ = some (.slice A11 n1.length c11))
  have K12 := Za.mk (fun (W : World) (hW : Below ((w.alloc (.cells #[.slice A00 v0.length c00, .slice A01 n0.length c01, .int .i64 g0, .slice A03 p0.length c03, .slice A04 q0.length c04] 28)).alloc (.cells #[.slice A10 v1.length c10, .slice A11 n1.length c11, .int .i64 g1, .slice A13 p1.length c13, .slice A14 q1.length c14] 28)).heap.size ((w.alloc (.cells #[.slice A00 v0.length c00, .slice A01 n0.length c01, .int .i64 g0, .slice A03 p0.length c03, .slice A04 q0.length c04] 28)).alloc (.cells #[.slice A10 v1.length c10, .slice A11 n1.length c11, .int .i64 g1, .slice A13 p1.length c13, .slice A14 q1.length c14] 28)) W) => (hW.cell (p := ⟨w.heap.size + 1, 2, none⟩) (by simp <;> omega)).trans (by simp) : ∀ W, Below ((w.alloc (.cells #[.slice A00 v0.length c00, .slice A01 n0.length c01, .int .i64 g0, .slice A03 p0.length c03, .slice A04 q0.length c04] 28)).alloc (.cells #[.slice A10 v1.length c10, .slice A11 n1.length c11, .int .i64 g1, .slice A13 p1.length c13, .slice A14 q1.length c14] 28)).heap.size ((w.alloc (.cells #[.slice A00 v0.length c00, .slice A01 n0.length c01, .int .i64 g0, .slice A03 p0.length c03, .slice A04 q0.length c04] 28)).alloc (.cells #[.slice A10 v1.length c10, .slice A11 n1.length c11, .int .i64 g1, .slice A13 p1.length c13, .slice A14 q1.length c14] 28)) W → W.cell? ⟨w.heap.size + 1, 2, none⟩ = some (.int .i64 g1))
  have K13 := Za.mk (fun (W : World) (hW : Below ((w.alloc (.cells #[.slice A00 v0.length c00, .slice A01 n0.length c01, .int .i64 g0, .slice A03 p0.length c03, .slice A04 q0.length c04] 28)).alloc (.cells #[.slice A10 v1.length c10, .slice A11 n1.length c11, .int .i64 g1, .slice A13 p1.length c13, .slice A14 q1.length c14] 28)).heap.size ((w.alloc (.cells #[.slice A00 v0.length c00, .slice A01 n0.length c01, .int .i64 g0, .slice A03 p0.length c03, .slice A04 q0.length c04] 28)).alloc (.cells #[.slice A10 v1.length c10, .slice A11 n1.length c11, .int .i64 g1, .slice A13 p1.length c13, .slice A14 q1.length c14] 28)) W) => (hW.cell (p := ⟨w.heap.size + 1, 3, none⟩) (by simp <;> omega)).trans (by simp) : ∀ W, Below ((w.alloc (.cells #[.slice A00 v0.length c00, .slice A01 n0.length c01, .int .i64 g0, .slice A03 p0.length c03, .slice A04 q0.length c04] 28)).alloc (.cells #[.slice A10 v1.length c10, .slice A11 n1.length c11, .int .i64 g1, .slice A13 p1.length c13, .slice A14 q1.length c14] 28)).heap.size ((w.alloc (.cells #[.slice A00 v0.length c00, .slice A01 n0.length c01, .int .i64 g0, .slice A03 p0.length c03, .slice A04 q0.length c04] 28)).alloc (.cells #[.slice A10 v1.length c10, .slice A11 n1.length c11, .int .i64 g1, .slice A13 p1.length c13, .slice A14 q1.length c14] 28)) W → W.cell? ⟨w.heap.size + 1, 3, none⟩ = some (.slice A13 p1.length c13))
  have K14 := Za.mk (fun (W : World) (hW : Below ((w.alloc (.cells #[.slice A00 v0.length c00, .slice A01 n0.length c01, .int .i64 g0, .slice A03 p0.length c03, .slice A04 q0.length c04] 28)).alloc (.cells #[.slice A10 v1.length c10, .slice A11 n1.length c11, .int .i64 g1, .slice A13 p1.length c13, .slice A14 q1.length c14] 28)).heap.size ((w.alloc (.cells #[.slice A00 v0.length c00, .slice A01 n0.length c01, .int .i64 g0, .slice A03 p0.length c03, .slice A04 q0.length c04] 28)).alloc (.cells #[.slice A10 v1.length c10, .slice A11 n1.length c11, .int .i64 g1, .slice A13 p1.length c13, .slice A14 q1.length c14] 28)) W) => (hW.cell (p := ⟨w.heap.size + 1, 4, none⟩) (by simp <;> omega)).trans (by simp) : ∀ W, Below ((w.alloc (.cells #[.slice A00 v0.length c00, .slice A01 n0.length c01, .int .i64 g0, .slice A03 p0.length c03, .slice A04 q0.length c04] 28)).alloc (.cells #[.slice A10 v1.length c10, .slice A11 n1.length c11, .int .i64 g1, .slice A13 p1.length c13, .slice A14 q1.length c14] 28)).heap.size ((w.alloc (.cells #[.slice A00 v0.length c00, .slice A01 n0.length c01, .int .i64 g0, .slice A03 p0.length c03, .slice A04 q0.length c04] 28)).alloc (.cells #[.slice A10 v1.length c10, .slice A11 n1.length c11, .int .i64 g1, .slice A13 p1.length c13, .slice A14 q1.length c14] 28)) W → W.cell? ⟨w.heap.size + 1, 4, none⟩ = some (.slice A14 q1.length c14))
  have BW := Za.mk (Below.refl ((w.alloc (.cells #[.slice A00 v0.length c00, .slice A01 n0.length c01, .int .i64 g0, .slice A03 p0.length c03, .slice A04 q0.length c04] 28)).alloc (.cells #[.slice A10 v1.length c10, .slice A11 n1.length c11, .int .i64 g1, .slice A13 p1.length c13, .slice A14 q1.length c14] 28)).heap.size ((w.alloc (.cells #[.slice A00 v0.length c00, .slice A01 n0.length c01, .int .i64 g0, .slice A03 p0.length c03, .slice A04 q0.length c04] 28)).alloc (.cells #[.slice A10 v1.length c10, .slice A11 n1.length c11, .int .i64 g1, .slice A13 p1.length c13, .slice A14 q1.length c14] 28)))
  unfold Zct.f at h
  obtain ⟨a, ha, h2_⟩ := Option.bind_eq_some_iff.1 h
  obtain ⟨g, hg, h3_⟩ := Option.bind_eq_some_iff.1 h2_
  have EA := Za.mk ha
  have EH := Za.mk h3_
  clear h h2_ ha h3_
  have CV := Za.mk (fun (W : World) (hW : Below w.heap.size w W) (b : Bool) (hq : equalF (varSame.f k) v0 v1 = some b) => equalFunc_V (varSame.f k) 52 #[] (enters_of Try.func52 (by kernel_rfl) rfl) A00 c00 v0 A10 c10 v1 b W (Kd.Zak R00.out hW) (Kd.Zak R10.out hW) (varPred k W) hq)
  have CC := Za.mk (fun (W : World) (hW : Below w.heap.size w W) (b : Bool) (hq : equalF (Zc7.f k) n0 n1 = some b) => equalFunc_C (Zc7.f k) 56 #[] (enters_of Try.func56 (by kernel_rfl) rfl) A01 c01 n0 A11 c11 n1 b W (Kd.Zak R01.out hW) (Kd.Zak R11.out hW) (conPred k W) hq)
  by_cases hq_ : g0 = g1
  case neg =>
    rw [if_neg hq_] at hg
    obtain rfl := Option.some.inj hg
    clear hg
    have ma : (g0 == g1) = false := beq_eq_false_iff_ne.2 hq_
    have mb : (g0 != g1) = true := by simp only [bne, ma, Bool.not_false]
    have mc : decide (g0 = g1) = false := decide_eq_false hq_
    clear hq_
    cases a with
    | false =>
      have h4 := EH.out
      rw [if_neg (by decide)] at h4
      obtain rfl := Option.some.inj h4
      clear h4
      go_enter Try.func27, Try.ntmps27
      go_wp2_with (first | (go_at_call 51; go_loud (refine (CV.out _ (mvB HB.out) _ EA.out).mono ?_; rintro e_ w1 ⟨rfl, hb⟩; have BE := Za.mk (Zad (mvB BW.out) hb); clear hb; have e00 := K00.out _ BE.out; have e01 := K01.out _ BE.out; have e02 := K02.out _ BE.out; have e03 := K03.out _ BE.out; have e04 := K04.out _ BE.out; have e10 := K10.out _ BE.out; have e11 := K11.out _ BE.out; have e12 := K12.out _ BE.out; have e13 := K13.out _ BE.out; have e14 := K14.out _ BE.out)))
      go_ret
      exact ⟨by first | rfl | (simp [*]; done), mvB (Zad HB.out BE.out)⟩
    | true =>
      have h4 := EH.out
      rw [if_pos rfl, if_neg (by decide)] at h4
      obtain rfl := Option.some.inj h4
      clear h4
      go_enter Try.func27, Try.ntmps27
      go_wp2_with (first | (go_at_call 51; go_loud (refine (CV.out _ (mvB HB.out) _ EA.out).mono ?_; rintro e_ w1 ⟨rfl, hb⟩; have BE := Za.mk (Zad (mvB BW.out) hb); clear hb; have e00 := K00.out _ BE.out; have e01 := K01.out _ BE.out; have e02 := K02.out _ BE.out; have e03 := K03.out _ BE.out; have e04 := K04.out _ BE.out; have e10 := K10.out _ BE.out; have e11 := K11.out _ BE.out; have e12 := K12.out _ BE.out; have e13 := K13.out _ BE.out; have e14 := K14.out _ BE.out)))
      go_ret
      exact ⟨by first | rfl | (simp [*]; done), mvB (Zad HB.out BE.out)⟩
  rw [if_pos hq_] at hg
  have ma : (g0 == g1) = true := beq_iff_eq.2 hq_
  have mb : (g0 != g1) = false := by simp only [bne, ma, Bool.not_true]
  have mc : decide (g0 = g1) = true := decide_eq_true hq_
  clear hq_
  obtain ⟨p, hp, hg2⟩ := Option.bind_eq_some_iff.1 hg
  have EP := Za.mk hp
  clear hp hg
  cases p with
  | false =>
    rw [if_neg (by decide)] at hg2
    obtain rfl := Option.some.inj hg2
    clear hg2
    cases a with
    | false =>
      have h4 := EH.out
      rw [if_neg (by decide)] at h4
      obtain rfl := Option.some.inj h4
      clear h4
      go_enter Try.func27, Try.ntmps27
      go_wp2_with (first | (go_at_call 51; go_loud (refine (CV.out _ (mvB HB.out) _ EA.out).mono ?_; rintro e_ w1 ⟨rfl, hb⟩; have BE := Za.mk (Zad (mvB BW.out) hb); clear hb; have e00 := K00.out _ BE.out; have e01 := K01.out _ BE.out; have e02 := K02.out _ BE.out; have e03 := K03.out _ BE.out; have e04 := K04.out _ BE.out; have e10 := K10.out _ BE.out; have e11 := K11.out _ BE.out; have e12 := K12.out _ BE.out; have e13 := K13.out _ BE.out; have e14 := K14.out _ BE.out)) | (go_at_call 54; (with_reducible refine (slices_Equal_int.calls k A03 c03 p0 A13 c13 p1 _ _ ?s1 hc03 ?s2 hc13 EP.out).mono ?_); (case s1 => exact Kd.Zak R03.out (mvB (Zad HB.out BE.out))); (case s2 => exact Kd.Zak R13.out (mvB (Zad HB.out BE.out))); rintro e_ w2 ⟨rfl, ⟨nd0, rfl⟩⟩))
      go_ret
      exact ⟨by first | rfl | (simp [*]; done), mvB (Zad HB.out BE.out)⟩
    | true =>
      have h4 := EH.out
      rw [if_pos rfl, if_neg (by decide)] at h4
      obtain rfl := Option.some.inj h4
      clear h4
      go_enter Try.func27, Try.ntmps27
      go_wp2_with (first | (go_at_call 51; go_loud (refine (CV.out _ (mvB HB.out) _ EA.out).mono ?_; rintro e_ w1 ⟨rfl, hb⟩; have BE := Za.mk (Zad (mvB BW.out) hb); clear hb; have e00 := K00.out _ BE.out; have e01 := K01.out _ BE.out; have e02 := K02.out _ BE.out; have e03 := K03.out _ BE.out; have e04 := K04.out _ BE.out; have e10 := K10.out _ BE.out; have e11 := K11.out _ BE.out; have e12 := K12.out _ BE.out; have e13 := K13.out _ BE.out; have e14 := K14.out _ BE.out)) | (go_at_call 54; (with_reducible refine (slices_Equal_int.calls k A03 c03 p0 A13 c13 p1 _ _ ?s1 hc03 ?s2 hc13 EP.out).mono ?_); (case s1 => exact Kd.Zak R03.out (mvB (Zad HB.out BE.out))); (case s2 => exact Kd.Zak R13.out (mvB (Zad HB.out BE.out))); rintro e_ w2 ⟨rfl, ⟨nd0, rfl⟩⟩))
      go_ret
      exact ⟨by first | rfl | (simp [*]; done), mvB (Zad HB.out BE.out)⟩
  | true =>
    rw [if_pos rfl] at hg2
    have EQ2 := Za.mk hg2
    clear hg2
    cases a with
    | false =>
      have h4 := EH.out
      rw [if_neg (by decide)] at h4
      obtain rfl := Option.some.inj h4
      clear h4
      go_enter Try.func27, Try.ntmps27
      go_wp2_with (first | (go_at_call 51; go_loud (refine (CV.out _ (mvB HB.out) _ EA.out).mono ?_; rintro e_ w1 ⟨rfl, hb⟩; have BE := Za.mk (Zad (mvB BW.out) hb); clear hb; have e00 := K00.out _ BE.out; have e01 := K01.out _ BE.out; have e02 := K02.out _ BE.out; have e03 := K03.out _ BE.out; have e04 := K04.out _ BE.out; have e10 := K10.out _ BE.out; have e11 := K11.out _ BE.out; have e12 := K12.out _ BE.out; have e13 := K13.out _ BE.out; have e14 := K14.out _ BE.out)) | (go_at_call 54; (with_reducible refine (slices_Equal_int.calls k A03 c03 p0 A13 c13 p1 _ _ ?s1 hc03 ?s2 hc13 EP.out).mono ?_); (case s1 => exact Kd.Zak R03.out (mvB (Zad HB.out BE.out))); (case s2 => exact Kd.Zak R13.out (mvB (Zad HB.out BE.out))); rintro e_ w2 ⟨rfl, ⟨nd0, rfl⟩⟩) | (go_at_call 54; (with_reducible refine (slices_Equal_int.calls k A04 c04 q0 A14 c14 q1 _ _ ?s1 hc04 ?s2 hc14 EQ2.out).mono ?_); (case s1 => exact Kd.Zak R04.out (mvB (Zad HB.out BE.out))); (case s2 => exact Kd.Zak R14.out (mvB (Zad HB.out BE.out))); rintro e_ w2 ⟨rfl, ⟨nd1, rfl⟩⟩))
      go_ret
      exact ⟨by first | rfl | (simp [*]; done), mvB (Zad HB.out BE.out)⟩
    | true =>
      cases g with
      | false =>
        have h4 := EH.out
        rw [if_pos rfl, if_neg (by decide)] at h4
        obtain rfl := Option.some.inj h4
        clear h4
        go_enter Try.func27, Try.ntmps27
        go_wp2_with (first | (go_at_call 51; go_loud (refine (CV.out _ (mvB HB.out) _ EA.out).mono ?_; rintro e_ w1 ⟨rfl, hb⟩; have BE := Za.mk (Zad (mvB BW.out) hb); clear hb; have e00 := K00.out _ BE.out; have e01 := K01.out _ BE.out; have e02 := K02.out _ BE.out; have e03 := K03.out _ BE.out; have e04 := K04.out _ BE.out; have e10 := K10.out _ BE.out; have e11 := K11.out _ BE.out; have e12 := K12.out _ BE.out; have e13 := K13.out _ BE.out; have e14 := K14.out _ BE.out)) | (go_at_call 54; (with_reducible refine (slices_Equal_int.calls k A03 c03 p0 A13 c13 p1 _ _ ?s1 hc03 ?s2 hc13 EP.out).mono ?_); (case s1 => exact Kd.Zak R03.out (mvB (Zad HB.out BE.out))); (case s2 => exact Kd.Zak R13.out (mvB (Zad HB.out BE.out))); rintro e_ w2 ⟨rfl, ⟨nd0, rfl⟩⟩) | (go_at_call 54; (with_reducible refine (slices_Equal_int.calls k A04 c04 q0 A14 c14 q1 _ _ ?s1 hc04 ?s2 hc14 EQ2.out).mono ?_); (case s1 => exact Kd.Zak R04.out (mvB (Zad HB.out BE.out))); (case s2 => exact Kd.Zak R14.out (mvB (Zad HB.out BE.out))); rintro e_ w2 ⟨rfl, ⟨nd1, rfl⟩⟩))
        go_ret
        exact ⟨by first | rfl | (simp [*]; done), mvB (Zad HB.out BE.out)⟩
      | true =>
        have EC := Za.mk EH.out
        rw [if_pos rfl, if_pos rfl] at EC
        clear EH
        go_enter Try.func27, Try.ntmps27
        go_wp2_with (first | (go_at_call 51; go_loud (refine (CV.out _ (mvB HB.out) _ EA.out).mono ?_; rintro e_ w1 ⟨rfl, hb⟩; have BE := Za.mk (Zad (mvB BW.out) hb); clear hb; have e00 := K00.out _ BE.out; have e01 := K01.out _ BE.out; have e02 := K02.out _ BE.out; have e03 := K03.out _ BE.out; have e04 := K04.out _ BE.out; have e10 := K10.out _ BE.out; have e11 := K11.out _ BE.out; have e12 := K12.out _ BE.out; have e13 := K13.out _ BE.out; have e14 := K14.out _ BE.out)) | (go_at_call 54; (with_reducible refine (slices_Equal_int.calls k A03 c03 p0 A13 c13 p1 _ _ ?s1 hc03 ?s2 hc13 EP.out).mono ?_); (case s1 => exact Kd.Zak R03.out (mvB (Zad HB.out BE.out))); (case s2 => exact Kd.Zak R13.out (mvB (Zad HB.out BE.out))); rintro e_ w2 ⟨rfl, ⟨nd0, rfl⟩⟩) | (go_at_call 54; (with_reducible refine (slices_Equal_int.calls k A04 c04 q0 A14 c14 q1 _ _ ?s1 hc04 ?s2 hc14 EQ2.out).mono ?_); (case s1 => exact Kd.Zak R04.out (mvB (Zad HB.out BE.out))); (case s2 => exact Kd.Zak R14.out (mvB (Zad HB.out BE.out))); rintro e_ w2 ⟨rfl, ⟨nd1, rfl⟩⟩) | (go_at_call 55; go_loud (refine (CC.out _ (mvB (Zad HB.out BE.out)) _ EC.out).mono ?_; rintro e_ w2 ⟨rfl, hb⟩; have BF := Za.mk (Zad (mvB (Zad HB.out BE.out)) hb); clear hb)))
        go_ret
        exact ⟨by first | rfl | (simp [*]; done), mvB BF.out⟩
end Go.Proofs.Ytkgjaklnbgdmiaa.P
/- model.Uses: the variables of a constraint, rising, each once. -/
namespace Go.Proofs.Ytkgjaklnbgdmiaa.P
open Go.RowKit Go.Shelf Go.Proofs.YtkgjaklnbgdmiaaW.PrintWords Go.Proofs.YtkgjaklnbgdmiaaW.PrintLast Go.Proofs.YtkgjaklnbgdmiaaW.PrintMore
set_option linter.unusedVariables false
set_option linter.unusedSimpArgs false
def Zc6.f (kd : Int) (vars coefs : List Int) (op rhs : Int) (rows : List (List Int)) (b : Int) : Option (List Int) :=
  if vars.length < 1000000 then some (sd (if kd = 4 then vars ++ [b] else vars)) else none
theorem row_ofU {W W' : World} {base : Nat} {v : Value} {xs ys : List Int} (hb : Below W.heap.size W W') (hn : ys.length = xs.length) (h : W.ownsRow base 3 1 v xs.length (ys.map (Value.int .i64))) : W'.ownsRow base 3 1 v ys.length (ys.map (Value.int .i64)) := by
  rw [hn]
  exact pw_own_below h hb
set_option maxRecDepth 100000 in
set_option maxHeartbeats 2000000 in
theorem Zc6.calls (kd : Int) (A1 : Option Addr) (c1 : Nat) (vars : List Int) (A2 : Option Addr) (c2 : Nat) (coefs : List Int) (op rhs : Int) (A5 : Option Addr) (c5 : Nat) (rows : List (List Int)) (b : Int) (r : List Int) (w : World)
    (hr1 : Kd.C (Kd.int .i64) w A1 vars.length vars) (hc1 : vars.length ≤ c1) (hr2 : Kd.C (Kd.int .i64) w A2 coefs.length coefs) (hc2 : coefs.length ≤ c2) (hr5 : Kd.C (Kd.slice 3 (Kd.int .i64)) w A5 rows.length rows) (hc5 : rows.length ≤ c5)
    (h : Zc6.f kd vars coefs op rhs rows b = some r) :
    Calls Try.prog 17 #[.agg #[.int .i64 kd, .slice A1 vars.length c1, .slice A2 coefs.length c2, .int .i64 op, .int .i64 rhs, .slice A5 rows.length c5, .int .i64 b]] w fun e w' => ∃ v0_ : Value, e = .returned v0_ ∧ Kd.R (Kd.int .i64) 3 w' w.heap.size (fun _ => True) v0_ r ∧ Below w.heap.size w w' := by
  unfold Zc6.f at h
  split at h
  case isFalse => cases h
  case isTrue hl =>
  obtain rfl := Option.some.inj h
  clear h
  have hb0 : Below w.heap.size w (w.alloc (.cells #[.int .i64 kd, .slice A1 vars.length c1, .slice A2 coefs.length c2, .int .i64 op, .int .i64 rhs, .slice A5 rows.length c5, .int .i64 b] 31)) := Zab (Below.refl _ _) _
  have HB0 := Za.mk hb0
  have kC := fun (a : Addr) (v : Value) (W : World) (hW : Below (w.heap.size + 1) (w.alloc (.cells #[.int .i64 kd, .slice A1 vars.length c1, .slice A2 coefs.length c2, .int .i64 op, .int .i64 rhs, .slice A5 rows.length c5, .int .i64 b] 31)) W) => True.intro
  clear kC hb0
  have HL := Za.mk hl
  have CL := Za.mk (fun (W : World) (hW : Below w.heap.size w W) => cloneI.calls A1 c1 vars vars W (Kd.Zak hr1 hW) hc1 (by unfold cloneI.f; rw [if_pos (by omega)]))
  clear hr1 hr2 hr5 hl
  have BW := Za.mk (Below.refl (w.alloc (.cells #[.int .i64 kd, .slice A1 vars.length c1, .slice A2 coefs.length c2, .int .i64 op, .int .i64 rhs, .slice A5 rows.length c5, .int .i64 b] 31)).heap.size (w.alloc (.cells #[.int .i64 kd, .slice A1 vars.length c1, .slice A2 coefs.length c2, .int .i64 op, .int .i64 rhs, .slice A5 rows.length c5, .int .i64 b] 31)))
  have k0 : ∀ W, Below (w.alloc (.cells #[.int .i64 kd, .slice A1 vars.length c1, .slice A2 coefs.length c2, .int .i64 op, .int .i64 rhs, .slice A5 rows.length c5, .int .i64 b] 31)).heap.size (w.alloc (.cells #[.int .i64 kd, .slice A1 vars.length c1, .slice A2 coefs.length c2, .int .i64 op, .int .i64 rhs, .slice A5 rows.length c5, .int .i64 b] 31)) W → W.cell? ⟨w.heap.size, 0, none⟩ = some (.int .i64 kd) ∧ W.cell? ⟨w.heap.size, 6, none⟩ = some (.int .i64 b) := fun W hW => ⟨(hW.cell (by simp)).trans (by simp), (hW.cell (by simp)).trans (by simp)⟩
  have K0 := Za.mk k0
  clear k0
  by_cases h4 : kd = 4
  rotate_left
  · rw [if_neg h4]
    have d4_ : decide (kd = 4) = false := decide_eq_false h4
    have e4_ : (kd == 4) = false := beq_eq_false_iff_ne.2 h4
    clear h4
    have hcs := Za.mk (Zdp (vars))
    have HX : Za ((vars).length < 4611686018427387904) := ⟨by have := HL.out; simp; omega⟩
    have HY : Za ((sortI (vars)).length < 4611686018427387904) := ⟨by rw [Zcr]; exact HX.out⟩
    go_enter Try.func17, Try.ntmps17
    go_wp2_with (first | (go_at_call 44; go_loud (refine (CL.out _ (by first | exact HB0.out | exact mvB HB0.out)).mono ?_; rintro e W1 ⟨v1, rfl, ho, hb⟩; obtain ⟨e0, e6⟩ := K0.out _ (Zad (mvB BW.out) hb); have HO := Za.mk (Kd.Zbq ho (by simp) : Kd.R (Kd.int .i64) 3 W1 w.heap.size (fun _ => True) v1 vars); have BV := Za.mk (Zad HB0.out (Zad (mvB BW.out) hb)); clear ho hb)) | (go_at_call 45; go_loud (refine (Zeg v1 (vars) w _ HX.out (mvB BV.out).size (Kd.own_of_R (mvR HO.out)) (mvB BV.out)).mono ?_; rintro e W3 ⟨rfl, hr3, hb3⟩; have HO3 := Za.mk hr3; have BV3 := Za.mk hb3; clear hr3 hb3 HO BV)) | (go_at_call 46; go_loud (refine (Zet v1 (sortI (vars)) w _ (mvB BV3.out).size HY.out (row_ofU (mvB (Below.refl _ _)) (Zcr _) HO3.out) (mvB BV3.out)).mono ?_; rintro e W4 ⟨v4, rfl, hr4, hb4⟩)))
    go_ret
    rw [← hcs.out]
    exact ⟨v4, rfl, Kd.R_of_own (enc := Value.int .i64) hr4 (fun _ _ => trivial), hb4⟩
  subst h4
  rw [if_pos rfl]
  have hcs := Za.mk (Zdp (vars ++ [b]))
  have HX : Za ((vars ++ [b]).length < 4611686018427387904) := ⟨by have := HL.out; simp; omega⟩
  have HY : Za ((sortI (vars ++ [b])).length < 4611686018427387904) := ⟨by rw [Zcr]; exact HX.out⟩
  go_enter Try.func17, Try.ntmps17
  go_wp2_with (first | (go_at_call 44; go_loud (refine (CL.out _ (by first | exact HB0.out | exact mvB HB0.out)).mono ?_; rintro e W1 ⟨v1, rfl, ho, hb⟩; obtain ⟨e0, e6⟩ := K0.out _ (Zad (mvB BW.out) hb); have HO := Za.mk (Kd.Zbq ho (by simp) : Kd.R (Kd.int .i64) 3 W1 w.heap.size (fun _ => True) v1 vars); have BV := Za.mk (Zad HB0.out (Zad (mvB BW.out) hb)); clear ho hb)) | ((with_reducible refine Zci (b := .append) (xs := #[.tmp 10, .tmp 13]) rfl ?_); at_builtin; refine Kd.Zd5 (Kd.int .i64) (w0 := w) w.heap.size rfl (.tmp 10) (.tmp 13) 24 3 (.int .i64 0) 8 rfl Try.underlying24 info3 rfl (by decide) (by omega) v1 vars b [.int .i64 b] (fun _ => True) (fun _ => False) rfl rfl ?aP (fun _ hk => hk.elim) (fun _ _ => trivial) ?aO ?aB ?aS ?aL ?_; (case aP => exact rfl); (case aO => exact mvR HO.out); (case aB => exact mvB BV.out); (case aS => exact (mvB BV.out).size); (case aL => have := HL.out; omega); rintro v2 W2 ho hb2 hg2 hat2; have HO2 := Za.mk ho; have BV2 := Za.mk hb2; clear ho hb2 hg2 hat2 HO BV; have HO := HO2; have BV := BV2; clear HO2 BV2) | (go_at_call 45; go_loud (refine (Zeg v2 (vars ++ [b]) w _ HX.out (mvB BV.out).size (Kd.own_of_R (mvR HO.out)) (mvB BV.out)).mono ?_; rintro e W3 ⟨rfl, hr3, hb3⟩; have HO3 := Za.mk hr3; have BV3 := Za.mk hb3; clear hr3 hb3 HO BV)) | (go_at_call 46; go_loud (refine (Zet v2 (sortI (vars ++ [b])) w _ (mvB BV3.out).size HY.out (row_ofU (mvB (Below.refl _ _)) (Zcr _) HO3.out) (mvB BV3.out)).mono ?_; rintro e W4 ⟨v4, rfl, hr4, hb4⟩)))
  go_ret
  rw [← hcs.out]
  exact ⟨v4, rfl, Kd.R_of_own (enc := Value.int .i64) hr4 (fun _ _ => trivial), hb4⟩
end Go.Proofs.Ytkgjaklnbgdmiaa.P
/- secateurlaw04.fixed: its calls, each by its contract. -/
namespace Go.Proofs.Ytkgjaklnbgdmiaa.P
open Go.RowKit Go.Proofs.YtkgjaklnbgdmiaaW.PrintWords Go.Proofs.YtkgjaklnbgdmiaaW.PrintLast Go.Proofs.YtkgjaklnbgdmiaaW.PrintMore
set_option linter.unusedVariables false
set_option linter.unusedSimpArgs false
def Za2.T7 : Bool × List (List Nat × List Nat) := (true, [([], []), ([0], [0]), ([1], [1]), ([2], [2]), ([3, 2], [2, 3]), ([2, 4], [2, 4]), ([5, 2], [5]), ([6], [6]), ([7, 6], [6, 7]), ([6, 8], [6, 8]), ([9, 6], [9]), ([10], [10]), ([11, 10], [10, 11]), ([10, 12], [10, 12]), ([13, 10], [13]), ([14], [14]), ([15, 14], [14, 15]), ([14, 16], [14, 16]), ([17, 14], [17]), ([18, 18], [18]), ([18, 19], [18, 19]), ([20, 19], [20]), ([21, 21], [21]), ([22, 21], [21, 22]), ([21, 23], [21, 23]), ([24, 22], [24]), ([25], [25]), ([26, 25], [25, 26]), ([27, 25], [25, 27]), ([28, 25], [25, 28]), ([29, 25, 25], [25, 29]), ([25], [25]), ([30, 31, 30, 25], [25, 30, 31]), ([25, 32], [25, 32]), ([33, 32], [33]), ([34], [34]), ([34], [34]), ([36, 34, 34], [34, 36]), ([35, 37, 37, 34], [34, 35, 37]), ([34, 38], [34, 38]), ([39, 38], [39]), ([40], [40]), ([40], [40]), ([41, 42, 40, 40], [40, 41, 42]), ([43, 40], [40, 43]), ([40, 44], [40, 44]), ([45, 43], [45]), ([46], [46]), ([47, 46, 46], [46, 47]), ([48, 46], [46, 48]), ([49, 46], [46, 49]), ([46, 50], [46, 50]), ([51, 48, 0, 1, 2, 3, 4, 5, 6, 7, 8, 9, 10, 11, 12, 13, 14, 15, 16, 17, 18, 19, 20, 21, 22, 23, 24, 25, 26, 27, 28, 29, 30, 31, 32, 33, 34, 35, 36, 37, 38, 39, 40, 41, 42, 43, 44, 45, 46, 47, 48, 49, 50, 51], [51])])
def Za2.B7 : List Nat := [0, 1, 3, 7, 15, 31, 63, 127, 255, 511, 1023, 2047, 4095, 8191, 16383, 32767, 65535, 131071, 262143, 524287, 1048575, 2097151, 4194303, 8388607, 16777215, 33554431, 67108863, 134217727, 268435455, 536870911, 1073741823, 67108863, 4294967295, 8589934591, 17179869183, 34359738367, 34359738367, 103079215103, 274877906943, 549755813887, 1099511627775, 2199023255551, 2199023255551, 8796093022207, 17592186044415, 35184372088831, 70368744177663, 140737488355327, 281474976710655, 562949953421311, 1125899906842623, 2251799813685247, 4503599627370495]
theorem Za2.tab7 : rtab .any (opsOf Try.f13 7) = Za2.T7 := by kernel_rfl
theorem Za2.bits7 : waitsOk Za2.T7.2 Za2.B7 = true := by kernel_rfl
set_option maxHeartbeats 8000000 in
set_option maxRecDepth 1000000 in
theorem fixed04_go (k : Nat) (v1 : List S50) (n1 : List S31) (g1 : Int) (p1 q1 : List Int) (v2 : List S50) (n2 : List S31) (g2 : Int) (p2 q2 : List Int) (v3 : List S50) (n3 : List S31) (g3 : Int) (p3 q3 : List Int) (v4 : List S50) (n4 : List S31) (g4 : Int) (p4 q4 : List Int) (v5 : List S50) (n5 : List S31) (g5 : Int) (p5 q5 : List Int) (v6 : List S50) (n6 : List S31) (g6 : Int) (p6 q6 : List Int) (t476 : List Int) (t483 : List S50) (t486 : List S31) (t489 : Int) (t490 t493 : List Int) (t498 : List (List S48)) (w : World)
    (a1 : Zbe.f 0 ([0] : List Int) ([2] : List Int) 0 5 ([] : List (List Int)) 0 = some (v1, n1, g1, p1, q1))
    (e1 : Zbp.f k v1 n1 g1 p1 q1 = some 0)
    (a2 : Zbe.f 0 ([0] : List Int) ([0] : List Int) 0 0 ([] : List (List Int)) 0 = some (v2, n2, g2, p2, q2))
    (e2 : Zbp.f k v2 n2 g2 p2 q2 = some 44)
    (a3 : Zbe.f 5 ([0] : List Int) ([1] : List Int) 0 0 ([] : List (List Int)) 0 = some (v3, n3, g3, p3, q3))
    (e3 : Zbp.f k v3 n3 g3 p3 q3 = some 44)
    (a4 : Zbe.f 1 ([1] : List Int) ([] : List Int) 0 0 ([] : List (List Int)) 0 = some (v4, n4, g4, p4, q4))
    (e4 : Zbp.f k v4 n4 g4 p4 q4 = some 43)
    (a5 : Zbe.f 0 ([0] : List Int) ([4398046511104] : List Int) 0 1 ([] : List (List Int)) 0 = some (v5, n5, g5, p5, q5))
    (e5 : Zbp.f k v5 n5 g5 p5 q5 = some 45)
    (a6 : Zbe.f 4 ([2, 1] : List Int) ([] : List Int) 0 0 ([] : List (List Int)) 0 = some (v6, n6, g6, p6, q6))
    (a17 : Zbz.f (⟨#[120, 95, 49]⟩ : ByteArray) = some true)
    (a19 : Zbz.f (⟨#[49, 120]⟩ : ByteArray) = some false)
    (c21 : 0 < n6.length)
    (a22 : Zc6.f (Zai n6 0).f0 (Zai n6 0).f1 (Zai n6 0).f2 (Zai n6 0).f3 (Zai n6 0).f4 (Zai n6 0).f5 (Zai n6 0).f6 = some t476)
    (a23 : Zbh.f k t476 [0, 1, 2] = some true)
    (a25 : Za1.f k v6 n6 g6 p6 q6 = some (t483, t486, t489, t490, t493))
    (a26 : Zct.f k v6 n6 g6 p6 q6 t483 t486 t489 t490 t493 = some true)
    (a28 : Zct.f k v6 n6 g6 p6 q6 [] [] 0 [] [] = some false)
    (a30 : Zbx.f k v6 n6 g6 p6 q6 = some t498) :
    Calls Try.prog 13 #[] w fun e w' => e = .returned (.bool ((t498.length : Int) == 1)) ∧ Below w.heap.size w w' := by
  have A1 := Za.mk a1; clear a1; have E1 := Za.mk e1; clear e1; have A2 := Za.mk a2; clear a2; have E2 := Za.mk e2; clear e2; have A3 := Za.mk a3; clear a3; have E3 := Za.mk e3; clear e3; have A4 := Za.mk a4; clear a4; have E4 := Za.mk e4; clear e4; have A5 := Za.mk a5; clear a5; have E5 := Za.mk e5; clear e5; have A6 := Za.mk a6; clear a6; have A17 := Za.mk a17; clear a17; have A19 := Za.mk a19; clear a19; have A22 := Za.mk a22; clear a22; have A23 := Za.mk a23; clear a23; have A25 := Za.mk a25; clear a25; have A26 := Za.mk a26; clear a26; have A28 := Za.mk a28; clear a28; have A30 := Za.mk a30; clear a30
  have HB := Za.mk (Below.refl w.heap.size w)
  go_enter Try.func13, Try.ntmps13
  go_wp2_with (first | ((with_reducible refine Zaz (N := 7) rfl ?_); refine Kd.Zcs (Kd.int .i64) _ 3 ?hg (N := 7) ?hd (xs := ([0] : List Int)) (inner := [.int .i64 0]) (ok := fun _ => True) (okp := fun _ => True) ?hr ?hp (fun _ hk => hk) trivial (Below.refl _ _) (Nat.le_refl _) (by simp) ?_; (case hd => rfl); (case hg => rfl); (case hr => first | (go_simp; done) | (go_simp; rfl)); (case hp => exact (Reps.one (show Kd.M (Kd.int .i64) _ _ _ 0 [.int .i64 0] from rfl) (Reps.none _ _))); intro u7 x7 ho hb hg_ hnew_; clear hg_ hnew_; have HB1 := Za.mk (Zad (mvB HB.out) hb); clear HB; have HB := HB1; clear HB1; obtain ⟨Y7, y7, ey_⟩ := Kd.Za9 ho; subst ey_; have L7 := Za.mk ho; clear ho hb) | ((with_reducible refine Zaz (N := 8) rfl ?_); refine Kd.Zcs (Kd.int .i64) _ 3 ?hg (N := 8) ?hd (xs := ([2] : List Int)) (inner := [.int .i64 2]) (ok := fun _ => True) (okp := fun _ => True) ?hr ?hp (fun _ hk => hk) trivial (Below.refl _ _) (Nat.le_refl _) (by simp) ?_; (case hd => rfl); (case hg => rfl); (case hr => first | (go_simp; done) | (go_simp; rfl)); (case hp => exact (Reps.one (show Kd.M (Kd.int .i64) _ _ _ 2 [.int .i64 2] from rfl) (Reps.none _ _))); intro u8 x8 ho hb hg_ hnew_; clear hg_ hnew_; have HB1 := Za.mk (Zad (mvB HB.out) hb); clear HB; have HB := HB1; clear HB1; have L7_ := Za.mk (Kd.Zbi (mvR L7.out) hb); clear L7; have L7 := L7_; clear L7_; obtain ⟨Y8, y8, ey_⟩ := Kd.Za9 ho; subst ey_; have L8 := Za.mk ho; clear ho hb) | ((with_reducible refine Zaw (f := 37) rfl ?_); refine Zbk (some 10) rfl rfl Try.func37 (by kernel_rfl) rfl #[.agg #[.int .i64 0, .slice Y7 1 y7, .slice Y8 1 y8, .int .i64 0, .int .i64 5, .slice none 0 0, .int .i64 0]] rfl (by (try simp only [List.map_toArray, List.map_cons, List.map_nil]); first | done | rfl) ?_; (refine (Zbe.calls 0 (fun k_ => some k_ = (.slice Y7 1 y7 : Value).ownBlock) _ _ ([0] : List Int) (fun k_ => some k_ = (.slice Y8 1 y8 : Value).ownBlock) _ _ ([2] : List Int) 0 5 (fun k_ => False) _ _ ([] : List (List Int)) 0 v1 n1 g1 p1 q1 _ ?side1 ?side2 ?side3 A1.out).mono ?_); (case side1 => exact Kd.R_V (Kd.Zcz rfl (mvR L7.out))); (case side2 => exact Kd.R_V (Kd.Zcz rfl (mvR L8.out))); (case side3 => exact Kd.Zd2 _ _ _ _ _); rintro e z1 ⟨r0, r1, r3, r4, rfl, ho0, ho1, ho2, ho3, hb⟩; refine ⟨_, rfl, ?_⟩; have HB1 := Za.mk (Zad (mvB HB.out) hb); clear HB; have HB := HB1; clear HB1; clear L7 L8; obtain ⟨M10, m10, em_⟩ := Kd.Zce ho0; subst em_; have K10 := Za.mk (Kd.Zbt ho0); clear ho0; obtain ⟨M11, m11, em_⟩ := Kd.Zce ho1; subst em_; have K11 := Za.mk (Kd.Zbt ho1); clear ho1; obtain ⟨M12, m12, em_⟩ := Kd.Za9 ho2; subst em_; have K12 := Za.mk (Kd.Za4 ho2); clear ho2; obtain ⟨M13, m13, em_⟩ := Kd.Za9 ho3; subst em_; have K13 := Za.mk (Kd.Za4 ho3); clear ho3; clear hb) | ((with_reducible refine Zaw (f := 30) rfl ?_); refine Zbk (some 11) rfl rfl Try.func30 (by kernel_rfl) rfl #[.agg #[.slice M10 v1.length m10, .slice M11 n1.length m11, .int .i64 g1, .slice M12 p1.length m12, .slice M13 q1.length m13]] rfl (by (try simp only [List.map_toArray, List.map_cons, List.map_nil]); first | done | rfl) ?_; (with_reducible refine (Zbp.calls k _ _ v1 _ _ n1 g1 _ _ p1 _ _ q1 _ _ ?side1 ?side2 ?side3 ?side4 ?side5 ?side6 ?side7 ?side8 E1.out).mono ?_); (case side1 => exact Kd.Zak K10.out.2.2 (mvB (Below.refl z1.heap.size z1))); (case side2 => exact K10.out.2.1); (case side3 => exact Kd.Zak K11.out.2.2 (mvB (Below.refl z1.heap.size z1))); (case side4 => exact K11.out.2.1); (case side5 => exact Kd.Zak K12.out.2.2 (mvB (Below.refl z1.heap.size z1))); (case side6 => exact K12.out.2.1); (case side7 => exact Kd.Zak K13.out.2.2 (mvB (Below.refl z1.heap.size z1))); (case side8 => exact K13.out.2.1); rintro e x_ ⟨rfl, hb⟩; refine ⟨_, rfl, ?_⟩; have HB1 := Za.mk (Zad (mvB HB.out) hb); clear HB; have HB := HB1; clear HB1; clear hb K10 K11 K12 K13) | ((with_reducible refine Zaz (N := 12) rfl ?_); refine Kd.Zcs (Kd.int .i64) _ 3 ?hg (N := 12) ?hd (xs := ([0] : List Int)) (inner := [.int .i64 0]) (ok := fun _ => True) (okp := fun _ => True) ?hr ?hp (fun _ hk => hk) trivial (Below.refl _ _) (Nat.le_refl _) (by simp) ?_; (case hd => rfl); (case hg => rfl); (case hr => first | (go_simp; done) | (go_simp; rfl)); (case hp => exact (Reps.one (show Kd.M (Kd.int .i64) _ _ _ 0 [.int .i64 0] from rfl) (Reps.none _ _))); intro u12 x12 ho hb hg_ hnew_; clear hg_ hnew_; have HB1 := Za.mk (Zad (mvB HB.out) hb); clear HB; have HB := HB1; clear HB1; obtain ⟨Y12, y12, ey_⟩ := Kd.Za9 ho; subst ey_; have L12 := Za.mk ho; clear ho hb) | ((with_reducible refine Zaz (N := 13) rfl ?_); refine Kd.Zcs (Kd.int .i64) _ 3 ?hg (N := 13) ?hd (xs := ([0] : List Int)) (inner := [.int .i64 0]) (ok := fun _ => True) (okp := fun _ => True) ?hr ?hp (fun _ hk => hk) trivial (Below.refl _ _) (Nat.le_refl _) (by simp) ?_; (case hd => rfl); (case hg => rfl); (case hr => first | (go_simp; done) | (go_simp; rfl)); (case hp => exact (Reps.one (show Kd.M (Kd.int .i64) _ _ _ 0 [.int .i64 0] from rfl) (Reps.none _ _))); intro u13 x13 ho hb hg_ hnew_; clear hg_ hnew_; have HB1 := Za.mk (Zad (mvB HB.out) hb); clear HB; have HB := HB1; clear HB1; have L12_ := Za.mk (Kd.Zbi (mvR L12.out) hb); clear L12; have L12 := L12_; clear L12_; obtain ⟨Y13, y13, ey_⟩ := Kd.Za9 ho; subst ey_; have L13 := Za.mk ho; clear ho hb) | ((with_reducible refine Zaw (f := 37) rfl ?_); refine Zbk (some 15) rfl rfl Try.func37 (by kernel_rfl) rfl #[.agg #[.int .i64 0, .slice Y12 1 y12, .slice Y13 1 y13, .int .i64 0, .int .i64 0, .slice none 0 0, .int .i64 0]] rfl (by (try simp only [List.map_toArray, List.map_cons, List.map_nil]); first | done | rfl) ?_; (refine (Zbe.calls 0 (fun k_ => some k_ = (.slice Y12 1 y12 : Value).ownBlock) _ _ ([0] : List Int) (fun k_ => some k_ = (.slice Y13 1 y13 : Value).ownBlock) _ _ ([0] : List Int) 0 0 (fun k_ => False) _ _ ([] : List (List Int)) 0 v2 n2 g2 p2 q2 _ ?side1 ?side2 ?side3 A2.out).mono ?_); (case side1 => exact Kd.R_V (Kd.Zcz rfl (mvR L12.out))); (case side2 => exact Kd.R_V (Kd.Zcz rfl (mvR L13.out))); (case side3 => exact Kd.Zd2 _ _ _ _ _); rintro e z2 ⟨r0, r1, r3, r4, rfl, ho0, ho1, ho2, ho3, hb⟩; refine ⟨_, rfl, ?_⟩; have HB1 := Za.mk (Zad (mvB HB.out) hb); clear HB; have HB := HB1; clear HB1; clear L12 L13; obtain ⟨M20, m20, em_⟩ := Kd.Zce ho0; subst em_; have K20 := Za.mk (Kd.Zbt ho0); clear ho0; obtain ⟨M21, m21, em_⟩ := Kd.Zce ho1; subst em_; have K21 := Za.mk (Kd.Zbt ho1); clear ho1; obtain ⟨M22, m22, em_⟩ := Kd.Za9 ho2; subst em_; have K22 := Za.mk (Kd.Za4 ho2); clear ho2; obtain ⟨M23, m23, em_⟩ := Kd.Za9 ho3; subst em_; have K23 := Za.mk (Kd.Za4 ho3); clear ho3; clear hb) | ((with_reducible refine Zaw (f := 30) rfl ?_); refine Zbk (some 16) rfl rfl Try.func30 (by kernel_rfl) rfl #[.agg #[.slice M20 v2.length m20, .slice M21 n2.length m21, .int .i64 g2, .slice M22 p2.length m22, .slice M23 q2.length m23]] rfl (by (try simp only [List.map_toArray, List.map_cons, List.map_nil]); first | done | rfl) ?_; (with_reducible refine (Zbp.calls k _ _ v2 _ _ n2 g2 _ _ p2 _ _ q2 _ _ ?side1 ?side2 ?side3 ?side4 ?side5 ?side6 ?side7 ?side8 E2.out).mono ?_); (case side1 => exact Kd.Zak K20.out.2.2 (mvB (Below.refl z2.heap.size z2))); (case side2 => exact K20.out.2.1); (case side3 => exact Kd.Zak K21.out.2.2 (mvB (Below.refl z2.heap.size z2))); (case side4 => exact K21.out.2.1); (case side5 => exact Kd.Zak K22.out.2.2 (mvB (Below.refl z2.heap.size z2))); (case side6 => exact K22.out.2.1); (case side7 => exact Kd.Zak K23.out.2.2 (mvB (Below.refl z2.heap.size z2))); (case side8 => exact K23.out.2.1); rintro e x_ ⟨rfl, hb⟩; refine ⟨_, rfl, ?_⟩; have HB1 := Za.mk (Zad (mvB HB.out) hb); clear HB; have HB := HB1; clear HB1; clear hb K20 K21 K22 K23) | ((with_reducible refine Zaz (N := 17) rfl ?_); refine Kd.Zcs (Kd.int .i64) _ 3 ?hg (N := 17) ?hd (xs := ([0] : List Int)) (inner := [.int .i64 0]) (ok := fun _ => True) (okp := fun _ => True) ?hr ?hp (fun _ hk => hk) trivial (Below.refl _ _) (Nat.le_refl _) (by simp) ?_; (case hd => rfl); (case hg => rfl); (case hr => first | (go_simp; done) | (go_simp; rfl)); (case hp => exact (Reps.one (show Kd.M (Kd.int .i64) _ _ _ 0 [.int .i64 0] from rfl) (Reps.none _ _))); intro u17 x17 ho hb hg_ hnew_; clear hg_ hnew_; have HB1 := Za.mk (Zad (mvB HB.out) hb); clear HB; have HB := HB1; clear HB1; obtain ⟨Y17, y17, ey_⟩ := Kd.Za9 ho; subst ey_; have L17 := Za.mk ho; clear ho hb) | ((with_reducible refine Zaz (N := 18) rfl ?_); refine Kd.Zcs (Kd.int .i64) _ 3 ?hg (N := 18) ?hd (xs := ([1] : List Int)) (inner := [.int .i64 1]) (ok := fun _ => True) (okp := fun _ => True) ?hr ?hp (fun _ hk => hk) trivial (Below.refl _ _) (Nat.le_refl _) (by simp) ?_; (case hd => rfl); (case hg => rfl); (case hr => first | (go_simp; done) | (go_simp; rfl)); (case hp => exact (Reps.one (show Kd.M (Kd.int .i64) _ _ _ 1 [.int .i64 1] from rfl) (Reps.none _ _))); intro u18 x18 ho hb hg_ hnew_; clear hg_ hnew_; have HB1 := Za.mk (Zad (mvB HB.out) hb); clear HB; have HB := HB1; clear HB1; have L17_ := Za.mk (Kd.Zbi (mvR L17.out) hb); clear L17; have L17 := L17_; clear L17_; obtain ⟨Y18, y18, ey_⟩ := Kd.Za9 ho; subst ey_; have L18 := Za.mk ho; clear ho hb) | ((with_reducible refine Zaw (f := 37) rfl ?_); refine Zbk (some 20) rfl rfl Try.func37 (by kernel_rfl) rfl #[.agg #[.int .i64 5, .slice Y17 1 y17, .slice Y18 1 y18, .int .i64 0, .int .i64 0, .slice none 0 0, .int .i64 0]] rfl (by (try simp only [List.map_toArray, List.map_cons, List.map_nil]); first | done | rfl) ?_; (refine (Zbe.calls 5 (fun k_ => some k_ = (.slice Y17 1 y17 : Value).ownBlock) _ _ ([0] : List Int) (fun k_ => some k_ = (.slice Y18 1 y18 : Value).ownBlock) _ _ ([1] : List Int) 0 0 (fun k_ => False) _ _ ([] : List (List Int)) 0 v3 n3 g3 p3 q3 _ ?side1 ?side2 ?side3 A3.out).mono ?_); (case side1 => exact Kd.R_V (Kd.Zcz rfl (mvR L17.out))); (case side2 => exact Kd.R_V (Kd.Zcz rfl (mvR L18.out))); (case side3 => exact Kd.Zd2 _ _ _ _ _); rintro e z3 ⟨r0, r1, r3, r4, rfl, ho0, ho1, ho2, ho3, hb⟩; refine ⟨_, rfl, ?_⟩; have HB1 := Za.mk (Zad (mvB HB.out) hb); clear HB; have HB := HB1; clear HB1; clear L17 L18; obtain ⟨M30, m30, em_⟩ := Kd.Zce ho0; subst em_; have K30 := Za.mk (Kd.Zbt ho0); clear ho0; obtain ⟨M31, m31, em_⟩ := Kd.Zce ho1; subst em_; have K31 := Za.mk (Kd.Zbt ho1); clear ho1; obtain ⟨M32, m32, em_⟩ := Kd.Za9 ho2; subst em_; have K32 := Za.mk (Kd.Za4 ho2); clear ho2; obtain ⟨M33, m33, em_⟩ := Kd.Za9 ho3; subst em_; have K33 := Za.mk (Kd.Za4 ho3); clear ho3; clear hb) | ((with_reducible refine Zaw (f := 30) rfl ?_); refine Zbk (some 21) rfl rfl Try.func30 (by kernel_rfl) rfl #[.agg #[.slice M30 v3.length m30, .slice M31 n3.length m31, .int .i64 g3, .slice M32 p3.length m32, .slice M33 q3.length m33]] rfl (by (try simp only [List.map_toArray, List.map_cons, List.map_nil]); first | done | rfl) ?_; (with_reducible refine (Zbp.calls k _ _ v3 _ _ n3 g3 _ _ p3 _ _ q3 _ _ ?side1 ?side2 ?side3 ?side4 ?side5 ?side6 ?side7 ?side8 E3.out).mono ?_); (case side1 => exact Kd.Zak K30.out.2.2 (mvB (Below.refl z3.heap.size z3))); (case side2 => exact K30.out.2.1); (case side3 => exact Kd.Zak K31.out.2.2 (mvB (Below.refl z3.heap.size z3))); (case side4 => exact K31.out.2.1); (case side5 => exact Kd.Zak K32.out.2.2 (mvB (Below.refl z3.heap.size z3))); (case side6 => exact K32.out.2.1); (case side7 => exact Kd.Zak K33.out.2.2 (mvB (Below.refl z3.heap.size z3))); (case side8 => exact K33.out.2.1); rintro e x_ ⟨rfl, hb⟩; refine ⟨_, rfl, ?_⟩; have HB1 := Za.mk (Zad (mvB HB.out) hb); clear HB; have HB := HB1; clear HB1; clear hb K30 K31 K32 K33) | ((with_reducible refine Zaz (N := 22) rfl ?_); refine Kd.Zcs (Kd.int .i64) _ 3 ?hg (N := 22) ?hd (xs := ([1] : List Int)) (inner := [.int .i64 1]) (ok := fun _ => True) (okp := fun _ => True) ?hr ?hp (fun _ hk => hk) trivial (Below.refl _ _) (Nat.le_refl _) (by simp) ?_; (case hd => rfl); (case hg => rfl); (case hr => first | (go_simp; done) | (go_simp; rfl)); (case hp => exact (Reps.one (show Kd.M (Kd.int .i64) _ _ _ 1 [.int .i64 1] from rfl) (Reps.none _ _))); intro u22 x22 ho hb hg_ hnew_; clear hg_ hnew_; have HB1 := Za.mk (Zad (mvB HB.out) hb); clear HB; have HB := HB1; clear HB1; obtain ⟨Y22, y22, ey_⟩ := Kd.Za9 ho; subst ey_; have L22 := Za.mk ho; clear ho hb) | ((with_reducible refine Zaw (f := 37) rfl ?_); refine Zbk (some 24) rfl rfl Try.func37 (by kernel_rfl) rfl #[.agg #[.int .i64 1, .slice Y22 1 y22, .slice none 0 0, .int .i64 0, .int .i64 0, .slice none 0 0, .int .i64 0]] rfl (by (try simp only [List.map_toArray, List.map_cons, List.map_nil]); first | done | rfl) ?_; (refine (Zbe.calls 1 (fun k_ => some k_ = (.slice Y22 1 y22 : Value).ownBlock) _ _ ([1] : List Int) (fun k_ => False) _ _ ([] : List Int) 0 0 (fun k_ => False) _ _ ([] : List (List Int)) 0 v4 n4 g4 p4 q4 _ ?side1 ?side2 ?side3 A4.out).mono ?_); (case side1 => exact Kd.R_V (Kd.Zcz rfl (mvR L22.out))); (case side2 => exact Kd.Zd2 _ _ _ _ _); (case side3 => exact Kd.Zd2 _ _ _ _ _); rintro e z4 ⟨r0, r1, r3, r4, rfl, ho0, ho1, ho2, ho3, hb⟩; refine ⟨_, rfl, ?_⟩; have HB1 := Za.mk (Zad (mvB HB.out) hb); clear HB; have HB := HB1; clear HB1; clear L22; obtain ⟨M40, m40, em_⟩ := Kd.Zce ho0; subst em_; have K40 := Za.mk (Kd.Zbt ho0); clear ho0; obtain ⟨M41, m41, em_⟩ := Kd.Zce ho1; subst em_; have K41 := Za.mk (Kd.Zbt ho1); clear ho1; obtain ⟨M42, m42, em_⟩ := Kd.Za9 ho2; subst em_; have K42 := Za.mk (Kd.Za4 ho2); clear ho2; obtain ⟨M43, m43, em_⟩ := Kd.Za9 ho3; subst em_; have K43 := Za.mk (Kd.Za4 ho3); clear ho3; clear hb) | ((with_reducible refine Zaw (f := 30) rfl ?_); refine Zbk (some 25) rfl rfl Try.func30 (by kernel_rfl) rfl #[.agg #[.slice M40 v4.length m40, .slice M41 n4.length m41, .int .i64 g4, .slice M42 p4.length m42, .slice M43 q4.length m43]] rfl (by (try simp only [List.map_toArray, List.map_cons, List.map_nil]); first | done | rfl) ?_; (with_reducible refine (Zbp.calls k _ _ v4 _ _ n4 g4 _ _ p4 _ _ q4 _ _ ?side1 ?side2 ?side3 ?side4 ?side5 ?side6 ?side7 ?side8 E4.out).mono ?_); (case side1 => exact Kd.Zak K40.out.2.2 (mvB (Below.refl z4.heap.size z4))); (case side2 => exact K40.out.2.1); (case side3 => exact Kd.Zak K41.out.2.2 (mvB (Below.refl z4.heap.size z4))); (case side4 => exact K41.out.2.1); (case side5 => exact Kd.Zak K42.out.2.2 (mvB (Below.refl z4.heap.size z4))); (case side6 => exact K42.out.2.1); (case side7 => exact Kd.Zak K43.out.2.2 (mvB (Below.refl z4.heap.size z4))); (case side8 => exact K43.out.2.1); rintro e x_ ⟨rfl, hb⟩; refine ⟨_, rfl, ?_⟩; have HB1 := Za.mk (Zad (mvB HB.out) hb); clear HB; have HB := HB1; clear HB1; clear hb K40 K41 K42 K43) | ((with_reducible refine Zaz (N := 26) rfl ?_); refine Kd.Zcs (Kd.int .i64) _ 3 ?hg (N := 26) ?hd (xs := ([0] : List Int)) (inner := [.int .i64 0]) (ok := fun _ => True) (okp := fun _ => True) ?hr ?hp (fun _ hk => hk) trivial (Below.refl _ _) (Nat.le_refl _) (by simp) ?_; (case hd => rfl); (case hg => rfl); (case hr => first | (go_simp; done) | (go_simp; rfl)); (case hp => exact (Reps.one (show Kd.M (Kd.int .i64) _ _ _ 0 [.int .i64 0] from rfl) (Reps.none _ _))); intro u26 x26 ho hb hg_ hnew_; clear hg_ hnew_; have HB1 := Za.mk (Zad (mvB HB.out) hb); clear HB; have HB := HB1; clear HB1; obtain ⟨Y26, y26, ey_⟩ := Kd.Za9 ho; subst ey_; have L26 := Za.mk ho; clear ho hb) | ((with_reducible refine Zaz (N := 27) rfl ?_); refine Kd.Zcs (Kd.int .i64) _ 3 ?hg (N := 27) ?hd (xs := ([4398046511104] : List Int)) (inner := [.int .i64 4398046511104]) (ok := fun _ => True) (okp := fun _ => True) ?hr ?hp (fun _ hk => hk) trivial (Below.refl _ _) (Nat.le_refl _) (by simp) ?_; (case hd => rfl); (case hg => rfl); (case hr => first | (go_simp; done) | (go_simp; rfl)); (case hp => exact (Reps.one (show Kd.M (Kd.int .i64) _ _ _ 4398046511104 [.int .i64 4398046511104] from rfl) (Reps.none _ _))); intro u27 x27 ho hb hg_ hnew_; clear hg_ hnew_; have HB1 := Za.mk (Zad (mvB HB.out) hb); clear HB; have HB := HB1; clear HB1; have L26_ := Za.mk (Kd.Zbi (mvR L26.out) hb); clear L26; have L26 := L26_; clear L26_; obtain ⟨Y27, y27, ey_⟩ := Kd.Za9 ho; subst ey_; have L27 := Za.mk ho; clear ho hb) | ((with_reducible refine Zaw (f := 37) rfl ?_); refine Zbk (some 29) rfl rfl Try.func37 (by kernel_rfl) rfl #[.agg #[.int .i64 0, .slice Y26 1 y26, .slice Y27 1 y27, .int .i64 0, .int .i64 1, .slice none 0 0, .int .i64 0]] rfl (by (try simp only [List.map_toArray, List.map_cons, List.map_nil]); first | done | rfl) ?_; (refine (Zbe.calls 0 (fun k_ => some k_ = (.slice Y26 1 y26 : Value).ownBlock) _ _ ([0] : List Int) (fun k_ => some k_ = (.slice Y27 1 y27 : Value).ownBlock) _ _ ([4398046511104] : List Int) 0 1 (fun k_ => False) _ _ ([] : List (List Int)) 0 v5 n5 g5 p5 q5 _ ?side1 ?side2 ?side3 A5.out).mono ?_); (case side1 => exact Kd.R_V (Kd.Zcz rfl (mvR L26.out))); (case side2 => exact Kd.R_V (Kd.Zcz rfl (mvR L27.out))); (case side3 => exact Kd.Zd2 _ _ _ _ _); rintro e z5 ⟨r0, r1, r3, r4, rfl, ho0, ho1, ho2, ho3, hb⟩; refine ⟨_, rfl, ?_⟩; have HB1 := Za.mk (Zad (mvB HB.out) hb); clear HB; have HB := HB1; clear HB1; clear L26 L27; obtain ⟨M50, m50, em_⟩ := Kd.Zce ho0; subst em_; have K50 := Za.mk (Kd.Zbt ho0); clear ho0; obtain ⟨M51, m51, em_⟩ := Kd.Zce ho1; subst em_; have K51 := Za.mk (Kd.Zbt ho1); clear ho1; obtain ⟨M52, m52, em_⟩ := Kd.Za9 ho2; subst em_; have K52 := Za.mk (Kd.Za4 ho2); clear ho2; obtain ⟨M53, m53, em_⟩ := Kd.Za9 ho3; subst em_; have K53 := Za.mk (Kd.Za4 ho3); clear ho3; clear hb) | ((with_reducible refine Zaw (f := 30) rfl ?_); refine Zbk (some 30) rfl rfl Try.func30 (by kernel_rfl) rfl #[.agg #[.slice M50 v5.length m50, .slice M51 n5.length m51, .int .i64 g5, .slice M52 p5.length m52, .slice M53 q5.length m53]] rfl (by (try simp only [List.map_toArray, List.map_cons, List.map_nil]); first | done | rfl) ?_; (with_reducible refine (Zbp.calls k _ _ v5 _ _ n5 g5 _ _ p5 _ _ q5 _ _ ?side1 ?side2 ?side3 ?side4 ?side5 ?side6 ?side7 ?side8 E5.out).mono ?_); (case side1 => exact Kd.Zak K50.out.2.2 (mvB (Below.refl z5.heap.size z5))); (case side2 => exact K50.out.2.1); (case side3 => exact Kd.Zak K51.out.2.2 (mvB (Below.refl z5.heap.size z5))); (case side4 => exact K51.out.2.1); (case side5 => exact Kd.Zak K52.out.2.2 (mvB (Below.refl z5.heap.size z5))); (case side6 => exact K52.out.2.1); (case side7 => exact Kd.Zak K53.out.2.2 (mvB (Below.refl z5.heap.size z5))); (case side8 => exact K53.out.2.1); rintro e x_ ⟨rfl, hb⟩; refine ⟨_, rfl, ?_⟩; have HB1 := Za.mk (Zad (mvB HB.out) hb); clear HB; have HB := HB1; clear HB1; clear hb K50 K51 K52 K53) | ((with_reducible refine Zaz (N := 31) rfl ?_); refine Kd.Zcs (Kd.int .i64) _ 3 ?hg (N := 31) ?hd (xs := ([2, 1] : List Int)) (inner := [.int .i64 2, .int .i64 1]) (ok := fun _ => True) (okp := fun _ => True) ?hr ?hp (fun _ hk => hk) trivial (Below.refl _ _) (Nat.le_refl _) (by simp) ?_; (case hd => rfl); (case hg => rfl); (case hr => first | (go_simp; done) | (go_simp; rfl)); (case hp => exact (Reps.one (show Kd.M (Kd.int .i64) _ _ _ 2 [.int .i64 2] from rfl) (Reps.one (show Kd.M (Kd.int .i64) _ _ _ 1 [.int .i64 1] from rfl) (Reps.none _ _)))); intro u31 x31 ho hb hg_ hnew_; clear hg_ hnew_; have HB1 := Za.mk (Zad (mvB HB.out) hb); clear HB; have HB := HB1; clear HB1; obtain ⟨Y31, y31, ey_⟩ := Kd.Za9 ho; subst ey_; have L31 := Za.mk ho; clear ho hb) | ((with_reducible refine Zaw (f := 37) rfl ?_); refine Zbk (some 33) rfl rfl Try.func37 (by kernel_rfl) rfl #[.agg #[.int .i64 4, .slice Y31 2 y31, .slice none 0 0, .int .i64 0, .int .i64 0, .slice none 0 0, .int .i64 0]] rfl (by (try simp only [List.map_toArray, List.map_cons, List.map_nil]); first | done | rfl) ?_; (refine (Zbe.calls 4 (fun k_ => some k_ = (.slice Y31 2 y31 : Value).ownBlock) _ _ ([2, 1] : List Int) (fun k_ => False) _ _ ([] : List Int) 0 0 (fun k_ => False) _ _ ([] : List (List Int)) 0 v6 n6 g6 p6 q6 _ ?side1 ?side2 ?side3 A6.out).mono ?_); (case side1 => exact Kd.R_V (Kd.Zcz rfl (mvR L31.out))); (case side2 => exact Kd.Zd2 _ _ _ _ _); (case side3 => exact Kd.Zd2 _ _ _ _ _); rintro e z6 ⟨r0, r1, r3, r4, rfl, ho0, ho1, ho2, ho3, hb⟩; refine ⟨_, rfl, ?_⟩; have HB1 := Za.mk (Zad (mvB HB.out) hb); clear HB; have HB := HB1; clear HB1; clear L31; obtain ⟨M60, m60, em_⟩ := Kd.Zce ho0; subst em_; have K60 := Za.mk (Kd.Zbt ho0); clear ho0; obtain ⟨M61, m61, em_⟩ := Kd.Zce ho1; subst em_; have K61 := Za.mk (Kd.Zbt ho1); clear ho1; obtain ⟨M62, m62, em_⟩ := Kd.Za9 ho2; subst em_; have K62 := Za.mk (Kd.Za4 ho2); clear ho2; obtain ⟨M63, m63, em_⟩ := Kd.Za9 ho3; subst em_; have K63 := Za.mk (Kd.Za4 ho3); clear ho3; clear hb) | ((with_reducible refine Zaz (N := 6) rfl ?_); refine Za5 ?hg (N := 6) ?hd (cs := #[.slice none 0 0, .slice none 0 0, .int .i64 0, .slice none 0 0, .slice none 0 0]) (t := 28) ?hr ?_; (case hd => rfl); (case hg => rfl); (case hr => first | (go_simp; done) | (go_simp; rfl)); intro gm hgm wx hbox hb; have BX := Za.mk hbox; have hz0 : wx.cell? ⟨gm, 0, none⟩ = some (.slice none 0 0) := (Zah hbox 0).trans rfl; have hf0 := Zap hbox 0; have hz1 : wx.cell? ⟨gm, 1, none⟩ = some (.slice none 0 0) := (Zah hbox 1).trans rfl; have hf1 := Zap hbox 1; have hz2 : wx.cell? ⟨gm, 2, none⟩ = some (.int .i64 0) := (Zah hbox 2).trans rfl; have hf2 := Zap hbox 2; have hz3 : wx.cell? ⟨gm, 3, none⟩ = some (.slice none 0 0) := (Zah hbox 3).trans rfl; have hf3 := Zap hbox 3; have hz4 : wx.cell? ⟨gm, 4, none⟩ = some (.slice none 0 0) := (Zah hbox 4).trans rfl; have hf4 := Zap hbox 4; have HG : Za (z6.heap.size ≤ gm) := ⟨by rw [hgm]; exact (mvB (Below.refl z6.heap.size z6)).size⟩; have BX6 := Za.mk (Zad (mvB (Below.refl z6.heap.size z6)) hb); clear hbox hb hgm))
  have BZ := Za.mk (show Below z6.heap.size z6 (((((wx.setCell ⟨gm, 0, none⟩ (.slice M60 v6.length m60)).setCell ⟨gm, 1, none⟩ (.slice M61 n6.length m61)).setCell ⟨gm, 2, none⟩ (.int .i64 g6)).setCell ⟨gm, 3, none⟩ (.slice M62 p6.length m62)).setCell ⟨gm, 4, none⟩ (.slice M63 q6.length m63)) from (Zae (Zae (Zae (Zae (Zae BX6.out HG.out) HG.out) HG.out) HG.out) HG.out))
  have BK := Za.mk (show ((((((wx.setCell ⟨gm, 0, none⟩ (.slice M60 v6.length m60)).setCell ⟨gm, 1, none⟩ (.slice M61 n6.length m61)).setCell ⟨gm, 2, none⟩ (.int .i64 g6)).setCell ⟨gm, 3, none⟩ (.slice M62 p6.length m62)).setCell ⟨gm, 4, none⟩ (.slice M63 q6.length m63))).heap[gm]? = some (.cells #[.slice M60 v6.length m60, .slice M61 n6.length m61, .int .i64 g6, .slice M62 p6.length m62, .slice M63 q6.length m63] 28 (0, 0)) from (Zax (cs' := #[.slice M60 v6.length m60, .slice M61 n6.length m61, .int .i64 g6, .slice M62 p6.length m62, .slice M63 q6.length m63]) (Zax (cs' := #[.slice M60 v6.length m60, .slice M61 n6.length m61, .int .i64 g6, .slice M62 p6.length m62, .slice none 0 0]) (Zax (cs' := #[.slice M60 v6.length m60, .slice M61 n6.length m61, .int .i64 g6, .slice none 0 0, .slice none 0 0]) (Zax (cs' := #[.slice M60 v6.length m60, .slice M61 n6.length m61, .int .i64 0, .slice none 0 0, .slice none 0 0]) (Zax (cs' := #[.slice M60 v6.length m60, .slice none 0 0, .int .i64 0, .slice none 0 0, .slice none 0 0]) BX.out 0 (.slice M60 v6.length m60) rfl) 1 (.slice M61 n6.length m61) rfl) 2 (.int .i64 g6) rfl) 3 (.slice M62 p6.length m62) rfl) 4 (.slice M63 q6.length m63) rfl))
  have HBz := Za.mk (show Below w.heap.size w (((((wx.setCell ⟨gm, 0, none⟩ (.slice M60 v6.length m60)).setCell ⟨gm, 1, none⟩ (.slice M61 n6.length m61)).setCell ⟨gm, 2, none⟩ (.int .i64 g6)).setCell ⟨gm, 3, none⟩ (.slice M62 p6.length m62)).setCell ⟨gm, 4, none⟩ (.slice M63 q6.length m63)) from Zad HB.out BZ.out)
  clear BX BX6 HG HB
  generalize (((((wx.setCell ⟨gm, 0, none⟩ (.slice M60 v6.length m60)).setCell ⟨gm, 1, none⟩ (.slice M61 n6.length m61)).setCell ⟨gm, 2, none⟩ (.int .i64 g6)).setCell ⟨gm, 3, none⟩ (.slice M62 p6.length m62)).setCell ⟨gm, 4, none⟩ (.slice M63 q6.length m63)) = wz at BZ BK HBz ⊢
  have Q0 := Za.mk (Kd.Zak K60.out.2.2 BZ.out)
  have Q1 := Za.mk (Kd.Zak K61.out.2.2 BZ.out)
  have Q2 := Za.mk (Kd.Zak K62.out.2.2 BZ.out)
  have Q3 := Za.mk (Kd.Zak K63.out.2.2 BZ.out)
  have p475 : (0 : Int) ≤ (0 : Int) := (by omega)
  have q475 : (0 : Int) < (n6.length : Int) := by omega
  obtain ⟨ad475, S1, s1, S2, s2, S5, s5, e475, hx0, hx1, hx2, hx3, hx4, hx5, hx6, hl1, hi1, hl2, hi2, hl5, hi5⟩ := at_T31 Q1.out 0 p475 q475
  subst e475
  (try rw [show ((0 : Int)).toNat = 0 from rfl] at hx0)
  (try rw [show 0 * 7 = 0 from rfl] at hx0)
  (try rw [Addr.add_zero'] at hx0)
  (try rw [show ((0 : Int)).toNat = 0 from rfl] at hx1)
  (try rw [show 0 * 7 = 0 from rfl] at hx1)
  (try rw [Addr.add_zero'] at hx1)
  (try rw [show ((0 : Int)).toNat = 0 from rfl] at hx2)
  (try rw [show 0 * 7 = 0 from rfl] at hx2)
  (try rw [Addr.add_zero'] at hx2)
  (try rw [show ((0 : Int)).toNat = 0 from rfl] at hx3)
  (try rw [show 0 * 7 = 0 from rfl] at hx3)
  (try rw [Addr.add_zero'] at hx3)
  (try rw [show ((0 : Int)).toNat = 0 from rfl] at hx4)
  (try rw [show 0 * 7 = 0 from rfl] at hx4)
  (try rw [Addr.add_zero'] at hx4)
  (try rw [show ((0 : Int)).toNat = 0 from rfl] at hx5)
  (try rw [show 0 * 7 = 0 from rfl] at hx5)
  (try rw [Addr.add_zero'] at hx5)
  (try rw [show ((0 : Int)).toNat = 0 from rfl] at hx6)
  (try rw [show 0 * 7 = 0 from rfl] at hx6)
  (try rw [Addr.add_zero'] at hx6)
  have qi475 : (0 < n6.length) = True := eq_true c21
  have qd475 : decide (0 < n6.length) = true := decide_eq_true c21
  have qe475 : decide (0 < (n6.length : Int)) = true := decide_eq_true q475
  replace p475 := eq_true p475
  replace q475 := eq_true q475
  clear c21
  have HI1 := Za.mk hi1; have HL1 := Za.mk hl1; clear hi1 hl1
  have HI2 := Za.mk hi2; have HL2 := Za.mk hl2; clear hi2 hl2
  have HI5 := Za.mk hi5; have HL5 := Za.mk hl5; clear hi5 hl5
  have HSA : Za (∀ w' : World, Below wz.heap.size wz w' → w'.cell? ⟨gm, 0, none⟩ = some (.slice M60 v6.length m60) ∧ w'.cell? ⟨gm, 1, none⟩ = some (.slice (some ad475) n6.length m61) ∧ w'.cell? ⟨gm, 2, none⟩ = some (.int .i64 g6) ∧ w'.cell? ⟨gm, 3, none⟩ = some (.slice M62 p6.length m62) ∧ w'.cell? ⟨gm, 4, none⟩ = some (.slice M63 q6.length m63) ∧ w'.cell? ad475 = some (.int .i64 (Zai n6 0).f0) ∧ w'.cell? ⟨ad475.block, ad475.off + 1, none⟩ = some (.slice S1 (Zai n6 0).f1.length s1) ∧ w'.cell? ⟨ad475.block, ad475.off + 2, none⟩ = some (.slice S2 (Zai n6 0).f2.length s2) ∧ w'.cell? ⟨ad475.block, ad475.off + 3, none⟩ = some (.int .i64 (Zai n6 0).f3) ∧ w'.cell? ⟨ad475.block, ad475.off + 4, none⟩ = some (.int .i64 (Zai n6 0).f4) ∧ w'.cell? ⟨ad475.block, ad475.off + 5, none⟩ = some (.slice S5 (Zai n6 0).f5.length s5) ∧ w'.cell? ⟨ad475.block, ad475.off + 6, none⟩ = some (.int .i64 (Zai n6 0).f6)) := ⟨fun w' hW => ⟨cellE hW ((Zah BK.out 0).trans rfl), cellE hW ((Zah BK.out 1).trans rfl), cellE hW ((Zah BK.out 2).trans rfl), cellE hW ((Zah BK.out 3).trans rfl), cellE hW ((Zah BK.out 4).trans rfl), cellE hW hx0, cellE hW hx1, cellE hW hx2, cellE hW hx3, cellE hW hx4, cellE hW hx5, cellE hW hx6⟩⟩
  have BW := Za.mk (Below.refl wz.heap.size wz)
  clear hx0 hx1 hx2 hx3 hx4 hx5 hx6
  refine Zd0 (n := 53) (S := fun w' => w'.cell? ⟨gm, 0, none⟩ = some (.slice M60 v6.length m60) ∧ w'.cell? ⟨gm, 1, none⟩ = some (.slice (some ad475) n6.length m61) ∧ w'.cell? ⟨gm, 2, none⟩ = some (.int .i64 g6) ∧ w'.cell? ⟨gm, 3, none⟩ = some (.slice M62 p6.length m62) ∧ w'.cell? ⟨gm, 4, none⟩ = some (.slice M63 q6.length m63) ∧ w'.cell? ad475 = some (.int .i64 (Zai n6 0).f0) ∧ w'.cell? ⟨ad475.block, ad475.off + 1, none⟩ = some (.slice S1 (Zai n6 0).f1.length s1) ∧ w'.cell? ⟨ad475.block, ad475.off + 2, none⟩ = some (.slice S2 (Zai n6 0).f2.length s2) ∧ w'.cell? ⟨ad475.block, ad475.off + 3, none⟩ = some (.int .i64 (Zai n6 0).f3) ∧ w'.cell? ⟨ad475.block, ad475.off + 4, none⟩ = some (.int .i64 (Zai n6 0).f4) ∧ w'.cell? ⟨ad475.block, ad475.off + 5, none⟩ = some (.slice S5 (Zai n6 0).f5.length s5) ∧ w'.cell? ⟨ad475.block, ad475.off + 6, none⟩ = some (.int .i64 (Zai n6 0).f6)) (ds := []) #[false, false, false, false, false, false, false, false, false, false, false, false, false, false, false, false, false, false, false, false, false, false, false, false, false, false, false, false, false, false, false, false, false, false, false, false, false, false, false, false, false, false, false, false, false, false, false, false, false, false, false, false, false] (by kernel_rfl) rfl rfl (HSA.out _ (mvB BW.out)) (fun hHeld => ?_); refine Zcu Za2.tab7 Za2.bits7 (fun HT_ HW_ => ?_)
  refine Za0 (i := 0) (N := some 34) (v := ?_) (a' := ?_) #[true, false, false, false, false, false, false, false, false, false, false, false, false, false, false, false, false, false, false, false, false, false, false, false, false, false, false, false, false, false, false, false, false, false, false, false, false, false, false, false, false, false, false, false, false, false, false, false, false, false, false, false, false] rfl rfl (Zal HT_.out (by kernel_rfl)) (fun _ _ _ h => h) (Or.inl ⟨by rfl, ?_⟩) ?_ ?_
  rotate_left
  ·intro w'
   go_simp
   with_reducible rfl
  rotate_left
  ·simp only [Act.put, List.setIfInBounds_toArray, List.set_cons_zero, List.set_cons_succ, Zas, Zat]
   rfl
  refine Za0 (i := 1) (N := some 35) (v := ?_) (a' := ?_) #[true, true, false, false, false, false, false, false, false, false, false, false, false, false, false, false, false, false, false, false, false, false, false, false, false, false, false, false, false, false, false, false, false, false, false, false, false, false, false, false, false, false, false, false, false, false, false, false, false, false, false, false, false] rfl rfl (Zal HT_.out (by kernel_rfl)) (fun _ _ _ h => h) (Or.inl ⟨by rfl, ?_⟩) ?_ ?_
  rotate_left
  ·intro w'
   go_simp
   with_reducible rfl
  rotate_left
  ·simp only [Act.put, List.setIfInBounds_toArray, List.set_cons_zero, List.set_cons_succ, Zas, Zat]
   rfl
  refine Za0 (i := 2) (N := some 36) (v := ?_) (a' := ?_) #[true, true, true, false, false, false, false, false, false, false, false, false, false, false, false, false, false, false, false, false, false, false, false, false, false, false, false, false, false, false, false, false, false, false, false, false, false, false, false, false, false, false, false, false, false, false, false, false, false, false, false, false, false] rfl rfl (Zal HT_.out (by kernel_rfl)) (fun _ _ _ h => h) (Or.inl ⟨by rfl, ?_⟩) ?_ ?_
  rotate_left
  ·intro w'
   go_simp
   with_reducible rfl
  rotate_left
  ·simp only [Act.put, List.setIfInBounds_toArray, List.set_cons_zero, List.set_cons_succ, Zas, Zat]
   rfl
  refine Za0 (i := 3) (N := some 37) (v := ?_) (a' := ?_) #[true, true, true, true, false, false, false, false, false, false, false, false, false, false, false, false, false, false, false, false, false, false, false, false, false, false, false, false, false, false, false, false, false, false, false, false, false, false, false, false, false, false, false, false, false, false, false, false, false, false, false, false, false] rfl rfl (Zal HT_.out (by kernel_rfl)) (fun _ _ _ h => h) (Or.inl ⟨by rfl, ?_⟩) ?_ ?_
  rotate_left
  ·intro w'
   go_simp
   with_reducible rfl
  rotate_left
  ·simp only [Act.put, List.setIfInBounds_toArray, List.set_cons_zero, List.set_cons_succ, Zas, Zat]
   rfl
  refine Za0 (i := 4) (N := some 38) (v := ?_) (a' := ?_) #[true, true, true, true, true, false, false, false, false, false, false, false, false, false, false, false, false, false, false, false, false, false, false, false, false, false, false, false, false, false, false, false, false, false, false, false, false, false, false, false, false, false, false, false, false, false, false, false, false, false, false, false, false] rfl rfl (Zal HT_.out (by kernel_rfl)) (fun _ _ _ h => h) (Or.inl ⟨by rfl, ?_⟩) ?_ ?_
  rotate_left
  ·intro w'
   go_simp
   with_reducible rfl
  rotate_left
  ·simp only [Act.put, List.setIfInBounds_toArray, List.set_cons_zero, List.set_cons_succ, Zas, Zat]
   rfl
  refine Za0 (i := 5) (N := some 39) (v := ?_) (a' := ?_) #[true, true, true, true, true, true, false, false, false, false, false, false, false, false, false, false, false, false, false, false, false, false, false, false, false, false, false, false, false, false, false, false, false, false, false, false, false, false, false, false, false, false, false, false, false, false, false, false, false, false, false, false, false] rfl rfl (Zal HT_.out (by kernel_rfl)) (fun _ _ _ h => h) (Or.inl ⟨by rfl, ?_⟩) ?_ ?_
  rotate_left
  ·intro w'
   go_simp
   with_reducible rfl
  rotate_left
  ·simp only [Act.put, List.setIfInBounds_toArray, List.set_cons_zero, List.set_cons_succ, Zas, Zat]
   rfl
  refine Za0 (i := 6) (N := some 40) (v := ?_) (a' := ?_) #[true, true, true, true, true, true, true, false, false, false, false, false, false, false, false, false, false, false, false, false, false, false, false, false, false, false, false, false, false, false, false, false, false, false, false, false, false, false, false, false, false, false, false, false, false, false, false, false, false, false, false, false, false] rfl rfl (Zal HT_.out (by kernel_rfl)) (fun _ _ _ h => h) (Or.inl ⟨by rfl, ?_⟩) ?_ ?_
  rotate_left
  ·intro w'
   go_simp
   with_reducible rfl
  rotate_left
  ·simp only [Act.put, List.setIfInBounds_toArray, List.set_cons_zero, List.set_cons_succ, Zas, Zat]
   rfl
  refine Za0 (i := 7) (N := some 41) (v := ?_) (a' := ?_) #[true, true, true, true, true, true, true, true, false, false, false, false, false, false, false, false, false, false, false, false, false, false, false, false, false, false, false, false, false, false, false, false, false, false, false, false, false, false, false, false, false, false, false, false, false, false, false, false, false, false, false, false, false] rfl rfl (Zal HT_.out (by kernel_rfl)) (fun _ _ _ h => h) (Or.inl ⟨by rfl, ?_⟩) ?_ ?_
  rotate_left
  ·intro w'
   go_simp
   with_reducible rfl
  rotate_left
  ·simp only [Act.put, List.setIfInBounds_toArray, List.set_cons_zero, List.set_cons_succ, Zas, Zat]
   rfl
  refine Za0 (i := 8) (N := some 42) (v := ?_) (a' := ?_) #[true, true, true, true, true, true, true, true, true, false, false, false, false, false, false, false, false, false, false, false, false, false, false, false, false, false, false, false, false, false, false, false, false, false, false, false, false, false, false, false, false, false, false, false, false, false, false, false, false, false, false, false, false] rfl rfl (Zal HT_.out (by kernel_rfl)) (fun _ _ _ h => h) (Or.inl ⟨by rfl, ?_⟩) ?_ ?_
  rotate_left
  ·intro w'
   go_simp
   with_reducible rfl
  rotate_left
  ·simp only [Act.put, List.setIfInBounds_toArray, List.set_cons_zero, List.set_cons_succ, Zas, Zat]
   rfl
  refine Za0 (i := 9) (N := some 43) (v := ?_) (a' := ?_) #[true, true, true, true, true, true, true, true, true, true, false, false, false, false, false, false, false, false, false, false, false, false, false, false, false, false, false, false, false, false, false, false, false, false, false, false, false, false, false, false, false, false, false, false, false, false, false, false, false, false, false, false, false] rfl rfl (Zal HT_.out (by kernel_rfl)) (fun _ _ _ h => h) (Or.inl ⟨by rfl, ?_⟩) ?_ ?_
  rotate_left
  ·intro w'
   go_simp
   with_reducible rfl
  rotate_left
  ·simp only [Act.put, List.setIfInBounds_toArray, List.set_cons_zero, List.set_cons_succ, Zas, Zat]
   rfl
  refine Za0 (i := 10) (N := some 44) (v := ?_) (a' := ?_) #[true, true, true, true, true, true, true, true, true, true, true, false, false, false, false, false, false, false, false, false, false, false, false, false, false, false, false, false, false, false, false, false, false, false, false, false, false, false, false, false, false, false, false, false, false, false, false, false, false, false, false, false, false] rfl rfl (Zal HT_.out (by kernel_rfl)) (fun _ _ _ h => h) (Or.inl ⟨by rfl, ?_⟩) ?_ ?_
  rotate_left
  ·intro w'
   go_simp
   with_reducible rfl
  rotate_left
  ·simp only [Act.put, List.setIfInBounds_toArray, List.set_cons_zero, List.set_cons_succ, Zas, Zat]
   rfl
  refine Za0 (i := 11) (N := some 45) (v := ?_) (a' := ?_) #[true, true, true, true, true, true, true, true, true, true, true, true, false, false, false, false, false, false, false, false, false, false, false, false, false, false, false, false, false, false, false, false, false, false, false, false, false, false, false, false, false, false, false, false, false, false, false, false, false, false, false, false, false] rfl rfl (Zal HT_.out (by kernel_rfl)) (fun _ _ _ h => h) (Or.inl ⟨by rfl, ?_⟩) ?_ ?_
  rotate_left
  ·intro w'
   go_simp
   with_reducible rfl
  rotate_left
  ·simp only [Act.put, List.setIfInBounds_toArray, List.set_cons_zero, List.set_cons_succ, Zas, Zat]
   rfl
  refine Za0 (i := 12) (N := some 46) (v := ?_) (a' := ?_) #[true, true, true, true, true, true, true, true, true, true, true, true, true, false, false, false, false, false, false, false, false, false, false, false, false, false, false, false, false, false, false, false, false, false, false, false, false, false, false, false, false, false, false, false, false, false, false, false, false, false, false, false, false] rfl rfl (Zal HT_.out (by kernel_rfl)) (fun _ _ _ h => h) (Or.inl ⟨by rfl, ?_⟩) ?_ ?_
  rotate_left
  ·intro w'
   go_simp
   with_reducible rfl
  rotate_left
  ·simp only [Act.put, List.setIfInBounds_toArray, List.set_cons_zero, List.set_cons_succ, Zas, Zat]
   rfl
  refine Za0 (i := 13) (N := some 47) (v := ?_) (a' := ?_) #[true, true, true, true, true, true, true, true, true, true, true, true, true, true, false, false, false, false, false, false, false, false, false, false, false, false, false, false, false, false, false, false, false, false, false, false, false, false, false, false, false, false, false, false, false, false, false, false, false, false, false, false, false] rfl rfl (Zal HT_.out (by kernel_rfl)) (fun _ _ _ h => h) (Or.inl ⟨by rfl, ?_⟩) ?_ ?_
  rotate_left
  ·intro w'
   go_simp
   with_reducible rfl
  rotate_left
  ·simp only [Act.put, List.setIfInBounds_toArray, List.set_cons_zero, List.set_cons_succ, Zas, Zat]
   rfl
  refine Za0 (i := 14) (N := some 48) (v := ?_) (a' := ?_) #[true, true, true, true, true, true, true, true, true, true, true, true, true, true, true, false, false, false, false, false, false, false, false, false, false, false, false, false, false, false, false, false, false, false, false, false, false, false, false, false, false, false, false, false, false, false, false, false, false, false, false, false, false] rfl rfl (Zal HT_.out (by kernel_rfl)) (fun _ _ _ h => h) (Or.inl ⟨by rfl, ?_⟩) ?_ ?_
  rotate_left
  ·intro w'
   go_simp
   with_reducible rfl
  rotate_left
  ·simp only [Act.put, List.setIfInBounds_toArray, List.set_cons_zero, List.set_cons_succ, Zas, Zat]
   rfl
  refine Za0 (i := 15) (N := some 49) (v := ?_) (a' := ?_) #[true, true, true, true, true, true, true, true, true, true, true, true, true, true, true, true, false, false, false, false, false, false, false, false, false, false, false, false, false, false, false, false, false, false, false, false, false, false, false, false, false, false, false, false, false, false, false, false, false, false, false, false, false] rfl rfl (Zal HT_.out (by kernel_rfl)) (fun _ _ _ h => h) (Or.inl ⟨by rfl, ?_⟩) ?_ ?_
  rotate_left
  ·intro w'
   go_simp
   with_reducible rfl
  rotate_left
  ·simp only [Act.put, List.setIfInBounds_toArray, List.set_cons_zero, List.set_cons_succ, Zas, Zat]
   rfl
  refine Za0 (i := 16) (N := some 50) (v := ?_) (a' := ?_) #[true, true, true, true, true, true, true, true, true, true, true, true, true, true, true, true, true, false, false, false, false, false, false, false, false, false, false, false, false, false, false, false, false, false, false, false, false, false, false, false, false, false, false, false, false, false, false, false, false, false, false, false, false] rfl rfl (Zal HT_.out (by kernel_rfl)) (fun _ _ _ h => h) (Or.inl ⟨by rfl, ?_⟩) ?_ ?_
  rotate_left
  ·intro w'
   go_simp
   with_reducible rfl
  rotate_left
  ·simp only [Act.put, List.setIfInBounds_toArray, List.set_cons_zero, List.set_cons_succ, Zas, Zat]
   rfl
  refine Za0 (i := 17) (N := some 51) (v := ?_) (a' := ?_) #[true, true, true, true, true, true, true, true, true, true, true, true, true, true, true, true, true, true, false, false, false, false, false, false, false, false, false, false, false, false, false, false, false, false, false, false, false, false, false, false, false, false, false, false, false, false, false, false, false, false, false, false, false] rfl rfl (Zal HT_.out (by kernel_rfl)) (fun _ _ _ h => h) (Or.inl ⟨by rfl, ?_⟩) ?_ ?_
  rotate_left
  ·intro w'
   go_simp
   with_reducible rfl
  rotate_left
  ·simp only [Act.put, List.setIfInBounds_toArray, List.set_cons_zero, List.set_cons_succ, Zas, Zat]
   rfl
  refine Za0 (i := 18) (N := some 52) (v := ?_) (a' := ?_) #[true, true, true, true, true, true, true, true, true, true, true, true, true, true, true, true, true, true, true, false, false, false, false, false, false, false, false, false, false, false, false, false, false, false, false, false, false, false, false, false, false, false, false, false, false, false, false, false, false, false, false, false, false] rfl rfl (Zal HT_.out (by kernel_rfl)) (fun _ _ _ h => h) (Or.inl ⟨by rfl, ?_⟩) ?_ ?_
  rotate_left
  ·intro w'
   go_simp
   with_reducible rfl
  rotate_left
  ·simp only [Act.put, List.setIfInBounds_toArray, List.set_cons_zero, List.set_cons_succ, Zas, Zat]
   rfl
  refine one_ (i := 19) (N := some 53) #[true, true, true, true, true, true, true, true, true, true, true, true, true, true, true, true, true, true, true, true, false, false, false, false, false, false, false, false, false, false, false, false, false, false, false, false, false, false, false, false, false, false, false, false, false, false, false, false, false, false, false, false, false] rfl rfl (Zb6 HT_.out (by kernel_rfl)) (by decide) (fun K hK => ?_)
  refine Zc2 Try.func21 (by kernel_rfl) rfl #[.string (⟨#[120, 95, 49]⟩ : ByteArray)] (by rfl) rfl rfl (by (try simp only [List.map_toArray, List.map_cons, List.map_nil]); first | done | rfl) ?_
  with_reducible refine (Zbz.calls (⟨#[120, 95, 49]⟩ : ByteArray) true _ A17.out).mono ?_
  rintro e x_ ⟨rfl, hb⟩
  have BW1 := Za.mk (Zad (mvB BW.out) hb)
  clear BW
  have BW := BW1
  clear BW1
  clear hb
  refine ⟨_, rfl, ?_⟩
  refine hK.out _ _ (HSA.out _ (mvB BW.out)) (fun hHeld => ?_)
  clear hK K
  refine Zcg (a' := ?_) ?_ ?_
  rotate_left
  · show Act.put _ (some 53) _ = _
    simp only [Act.put, List.setIfInBounds_toArray, List.set_cons_zero, List.set_cons_succ, Zas, Zat]
    rfl
  refine Za0 (i := 20) (N := some 54) (v := ?_) (a' := ?_) #[true, true, true, true, true, true, true, true, true, true, true, true, true, true, true, true, true, true, true, true, true, false, false, false, false, false, false, false, false, false, false, false, false, false, false, false, false, false, false, false, false, false, false, false, false, false, false, false, false, false, false, false, false] rfl rfl (Zal HT_.out (by kernel_rfl)) (fun _ _ _ h => h) (Or.inl ⟨by rfl, ?_⟩) ?_ ?_
  rotate_left
  ·intro w'
   go_simp
   with_reducible rfl
  rotate_left
  ·simp only [Act.put, List.setIfInBounds_toArray, List.set_cons_zero, List.set_cons_succ, Zas, Zat]
   rfl
  refine Za0 (i := 21) (N := some 55) (v := ?_) (a' := ?_) #[true, true, true, true, true, true, true, true, true, true, true, true, true, true, true, true, true, true, true, true, true, true, false, false, false, false, false, false, false, false, false, false, false, false, false, false, false, false, false, false, false, false, false, false, false, false, false, false, false, false, false, false, false] rfl rfl (Zal HT_.out (by kernel_rfl)) (fun _ _ _ h => h) (Or.inl ⟨by rfl, ?_⟩) ?_ ?_
  rotate_left
  ·intro w'
   go_simp
   with_reducible rfl
  rotate_left
  ·simp only [Act.put, List.setIfInBounds_toArray, List.set_cons_zero, List.set_cons_succ, Zas, Zat]
   rfl
  refine one_ (i := 22) (N := some 56) #[true, true, true, true, true, true, true, true, true, true, true, true, true, true, true, true, true, true, true, true, true, true, true, false, false, false, false, false, false, false, false, false, false, false, false, false, false, false, false, false, false, false, false, false, false, false, false, false, false, false, false, false, false] rfl rfl (Zb6 HT_.out (by kernel_rfl)) (by decide) (fun K hK => ?_)
  refine Zc2 Try.func21 (by kernel_rfl) rfl #[.string (⟨#[49, 120]⟩ : ByteArray)] (by rfl) rfl rfl (by (try simp only [List.map_toArray, List.map_cons, List.map_nil]); first | done | rfl) ?_
  with_reducible refine (Zbz.calls (⟨#[49, 120]⟩ : ByteArray) false _ A19.out).mono ?_
  rintro e x_ ⟨rfl, hb⟩
  have BW1 := Za.mk (Zad (mvB BW.out) hb)
  clear BW
  have BW := BW1
  clear BW1
  clear hb
  refine ⟨_, rfl, ?_⟩
  refine hK.out _ _ (HSA.out _ (mvB BW.out)) (fun hHeld => ?_)
  clear hK K
  refine Zcg (a' := ?_) ?_ ?_
  rotate_left
  · show Act.put _ (some 56) _ = _
    simp only [Act.put, List.setIfInBounds_toArray, List.set_cons_zero, List.set_cons_succ, Zas, Zat]
    rfl
  refine Za0 (i := 23) (N := some 57) (v := ?_) (a' := ?_) #[true, true, true, true, true, true, true, true, true, true, true, true, true, true, true, true, true, true, true, true, true, true, true, true, false, false, false, false, false, false, false, false, false, false, false, false, false, false, false, false, false, false, false, false, false, false, false, false, false, false, false, false, false] rfl rfl (Zal HT_.out (by kernel_rfl)) (fun _ _ _ h => h) (Or.inl ⟨by rfl, ?_⟩) ?_ ?_
  rotate_left
  ·intro w'
   go_simp
   with_reducible rfl
  rotate_left
  ·simp only [Act.put, List.setIfInBounds_toArray, List.set_cons_zero, List.set_cons_succ, Zas, Zat]
   rfl
  refine Za0 (i := 24) (N := some 58) (v := ?_) (a' := ?_) #[true, true, true, true, true, true, true, true, true, true, true, true, true, true, true, true, true, true, true, true, true, true, true, true, true, false, false, false, false, false, false, false, false, false, false, false, false, false, false, false, false, false, false, false, false, false, false, false, false, false, false, false, false] rfl rfl (Zal HT_.out (by kernel_rfl)) (fun _ _ _ h => h) (Or.inl ⟨by rfl, ?_⟩) ?_ ?_
  rotate_left
  ·intro w'
   go_simp
   with_reducible rfl
  rotate_left
  ·simp only [Act.put, List.setIfInBounds_toArray, List.set_cons_zero, List.set_cons_succ, Zas, Zat]
   rfl
  refine Za0 (i := 25) (N := some 59) (v := ?_) (a' := ?_) #[true, true, true, true, true, true, true, true, true, true, true, true, true, true, true, true, true, true, true, true, true, true, true, true, true, true, false, false, false, false, false, false, false, false, false, false, false, false, false, false, false, false, false, false, false, false, false, false, false, false, false, false, false] rfl rfl (Zal HT_.out (by kernel_rfl)) (fun _ _ _ h => h) (Or.inl ⟨by rfl, ?_⟩) ?_ ?_
  rotate_left
  ·intro w'
   go_simp
   with_reducible rfl
  rotate_left
  ·simp only [Act.put, List.setIfInBounds_toArray, List.set_cons_zero, List.set_cons_succ, Zas, Zat]
   rfl
  refine Za0 (i := 26) (N := some 60) (v := ?_) (a' := ?_) #[true, true, true, true, true, true, true, true, true, true, true, true, true, true, true, true, true, true, true, true, true, true, true, true, true, true, true, false, false, false, false, false, false, false, false, false, false, false, false, false, false, false, false, false, false, false, false, false, false, false, false, false, false] rfl rfl (Zal HT_.out (by kernel_rfl)) (fun _ _ _ h => h) (Or.inl ⟨by rfl, ?_⟩) ?_ ?_
  rotate_left
  ·intro w'
   go_simp
   with_reducible rfl
  rotate_left
  ·simp only [Act.put, List.setIfInBounds_toArray, List.set_cons_zero, List.set_cons_succ, Zas, Zat]
   rfl
  refine Zcl (i := 27) (N := some 61) (v := ?_) (a' := ?_) #[true, true, true, true, true, true, true, true, true, true, true, true, true, true, true, true, true, true, true, true, true, true, true, true, true, true, true, true, false, false, false, false, false, false, false, false, false, false, false, false, false, false, false, false, false, false, false, false, false, false, false, false, false] rfl rfl (Zbj HT_.out HW_.out (by kernel_rfl)) (fun _ _ _ h => h) (Or.inl ⟨by rfl, ?_⟩) hHeld ?_ ?_
  rotate_left
  ·rintro w' ⟨s0, s1, s2, s3, s4, s5, s6, s7, s8, s9, s10, s11⟩
   go_simp
   with_reducible rfl
  rotate_left
  ·simp only [Act.put, List.setIfInBounds_toArray, List.set_cons_zero, List.set_cons_succ, Zas, Zat]
   rfl
  refine Za0 (i := 28) (N := some 62) (v := ?_) (a' := ?_) #[true, true, true, true, true, true, true, true, true, true, true, true, true, true, true, true, true, true, true, true, true, true, true, true, true, true, true, true, true, false, false, false, false, false, false, false, false, false, false, false, false, false, false, false, false, false, false, false, false, false, false, false, false] rfl rfl (Zal HT_.out (by kernel_rfl)) (fun _ _ _ h => h) (Or.inl ⟨by rfl, ?_⟩) ?_ ?_
  rotate_left
  ·intro w'
   go_simp
   with_reducible rfl
  rotate_left
  ·simp only [Act.put, List.setIfInBounds_toArray, List.set_cons_zero, List.set_cons_succ, Zas, Zat]
   rfl
  refine Zcl (i := 29) (N := some 63) (v := ?_) (a' := ?_) #[true, true, true, true, true, true, true, true, true, true, true, true, true, true, true, true, true, true, true, true, true, true, true, true, true, true, true, true, true, true, false, false, false, false, false, false, false, false, false, false, false, false, false, false, false, false, false, false, false, false, false, false, false] rfl rfl (Zbj HT_.out HW_.out (by kernel_rfl)) (fun _ _ _ h => h) (Or.inl ⟨by rfl, ?_⟩) hHeld ?_ ?_
  rotate_left
  ·rintro w' ⟨s0, s1, s2, s3, s4, s5, s6, s7, s8, s9, s10, s11⟩
   go_simp
   with_reducible rfl
  rotate_left
  ·simp only [Act.put, List.setIfInBounds_toArray, List.set_cons_zero, List.set_cons_succ, Zas, Zat]
   rfl
  refine join_ (σ := Value × Value) 21 #[true, true, true, true, true, true, true, true, true, true, true, true, true, true, true, true, true, true, true, true, true, true, true, true, true, true, true, true, true, true, true, true, false, false, false, false, false, false, false, false, false, false, false, false, false, false, false, false, false, false, false, false, false] (fun s_ => [(64, s_.1), (65, s_.2)]) (fun s_ w' => (Below wz.heap.size wz w') ∧ (∃ A c, s_.1 = .slice A t476.length c ∧ t476.length ≤ c ∧ Kd.C (Kd.int .i64) w' A t476.length t476) ∧ (∃ A c, s_.2 = .slice A ([0, 1, 2] : List Int).length c ∧ ([0, 1, 2] : List Int).length ≤ c ∧ Kd.C (Kd.int .i64) w' A ([0, 1, 2] : List Int).length [0, 1, 2])) ?_ ?_
  rotate_left
  · intro hCont
    refine two_ (i := 30) (j := 31) (Ni := some 64) (Nj := some 65) #[true, true, true, true, true, true, true, true, true, true, true, true, true, true, true, true, true, true, true, true, true, true, true, true, true, true, true, true, true, true, true, false, false, false, false, false, false, false, false, false, false, false, false, false, false, false, false, false, false, false, false, false, false] #[true, true, true, true, true, true, true, true, true, true, true, true, true, true, true, true, true, true, true, true, true, true, true, true, true, true, true, true, true, true, false, true, false, false, false, false, false, false, false, false, false, false, false, false, false, false, false, false, false, false, false, false, false] rfl rfl rfl rfl (two_of HT_.out (by kernel_rfl)) (by decide) (by decide) (fun K hK => ?_) (fun K hK => ?_)
    · skip
      refine Zc2 Try.func17 (by kernel_rfl) rfl #[.agg #[.int .i64 (Zai n6 0).f0, .slice S1 (Zai n6 0).f1.length s1, .slice S2 (Zai n6 0).f2.length s2, .int .i64 (Zai n6 0).f3, .int .i64 (Zai n6 0).f4, .slice S5 (Zai n6 0).f5.length s5, .int .i64 (Zai n6 0).f6]] (by rfl) rfl rfl (by (try simp only [List.map_toArray, List.map_cons, List.map_nil]); first | done | rfl) ?_
      with_reducible refine (Zc6.calls (Zai n6 0).f0 _ _ (Zai n6 0).f1 _ _ (Zai n6 0).f2 (Zai n6 0).f3 (Zai n6 0).f4 _ _ (Zai n6 0).f5 (Zai n6 0).f6 t476 _ ?side1 ?side2 ?side3 ?side4 ?side5 ?side6 A22.out).mono ?_
      (case side1 => exact Kd.Zak HI1.out (mvB BW.out))
      (case side2 => exact HL1.out)
      (case side3 => exact Kd.Zak HI2.out (mvB BW.out))
      (case side4 => exact HL2.out)
      (case side5 => exact Kd.Zak HI5.out (mvB BW.out))
      (case side6 => exact HL5.out)
      rintro e x1_ ⟨v477, rfl, ho0, hb⟩
      have BW1 := Za.mk (Zad (mvB BW.out) hb)
      clear BW
      have BW := BW1
      clear BW1
      refine ⟨_, rfl, ?_⟩
      obtain ⟨U1, u1, eu_⟩ := Kd.Za9 ho0
      subst eu_
      have RU := Za.mk (Kd.Za4 ho0)
      clear ho0 hb
      refine hK.out _ _ (HSA.out _ (mvB BW.out)) (fun hHeld => ?_)
      clear hK K
      refine Zcg (a' := ?_) ?_ ?_
      rotate_left
      · show Act.put _ (some 64) _ = _
        simp only [Act.put, List.setIfInBounds_toArray, List.set_cons_zero, List.set_cons_succ, Zas, Zat]
        rfl
      refine one_ (i := 31) (N := some 65) #[true, true, true, true, true, true, true, true, true, true, true, true, true, true, true, true, true, true, true, true, true, true, true, true, true, true, true, true, true, true, true, true, false, false, false, false, false, false, false, false, false, false, false, false, false, false, false, false, false, false, false, false, false] rfl rfl (Zb6 HT_.out (by kernel_rfl)) (by decide) (fun K hK => ?_)
      refine Kd.Zfa (Kd.int .i64) _ 3 ?hg (N := 65) ?hd (xs := ([0, 1, 2] : List Int)) (inner := [.int .i64 0, .int .i64 1, .int .i64 2]) (ok := fun _ => True) (okp := fun _ => True) ?hr ?hp (fun _ hk => hk) trivial (Below.refl _ _) (Nat.le_refl _) (by simp) ?_; (case hd => rfl); (case hg => rfl); (case hr => first | (go_simp; done) | (go_simp; rfl)); (case hp => exact (Reps.one (show Kd.M (Kd.int .i64) _ _ _ 0 [.int .i64 0] from rfl) (Reps.one (show Kd.M (Kd.int .i64) _ _ _ 1 [.int .i64 1] from rfl) (Reps.one (show Kd.M (Kd.int .i64) _ _ _ 2 [.int .i64 2] from rfl) (Reps.none _ _)))))
      intro v480 x2_ ho1 hb hg_ hnew_
      clear hg_ hnew_
      have BW1 := Za.mk (Zad (mvB BW.out) hb)
      clear BW
      have BW := BW1
      clear BW1
      obtain ⟨U2, u2, eu_⟩ := Kd.Za9 ho1
      subst eu_
      have RL := Za.mk (Kd.Za4 ho1)
      have RU2 := Za.mk (Kd.Zak RU.out.2.2 (Zad (mvB (Below.refl x1_.heap.size x1_)) hb))
      clear ho1 hb
      refine hK.out _ _ (HSA.out _ (mvB BW.out)) (fun hHeld => ?_)
      clear hK K
      refine Zcg (a' := ?_) ?_ ?_
      rotate_left
      · show Act.put _ (some 65) _ = _
        simp only [Act.put, List.setIfInBounds_toArray, List.set_cons_zero, List.set_cons_succ, Zas, Zat]
        rfl
      exact Zcg (by simp only [putAll, Act.put, List.setIfInBounds_toArray, List.set_cons_zero, List.set_cons_succ]) (hCont (_, _) _ ⟨mvB BW.out, ⟨_, _, rfl, RU.out.2.1, Kd.Zak RU2.out (mvB (Below.refl x2_.heap.size x2_))⟩, ⟨_, _, rfl, RL.out.2.1, Kd.Zak RL.out.2.2 (mvB (Below.refl x2_.heap.size x2_))⟩⟩)
    skip
    refine Kd.Zfa (Kd.int .i64) _ 3 ?hg (N := 65) ?hd (xs := ([0, 1, 2] : List Int)) (inner := [.int .i64 0, .int .i64 1, .int .i64 2]) (ok := fun _ => True) (okp := fun _ => True) ?hr ?hp (fun _ hk => hk) trivial (Below.refl _ _) (Nat.le_refl _) (by simp) ?_; (case hd => rfl); (case hg => rfl); (case hr => first | (go_simp; done) | (go_simp; rfl)); (case hp => exact (Reps.one (show Kd.M (Kd.int .i64) _ _ _ 0 [.int .i64 0] from rfl) (Reps.one (show Kd.M (Kd.int .i64) _ _ _ 1 [.int .i64 1] from rfl) (Reps.one (show Kd.M (Kd.int .i64) _ _ _ 2 [.int .i64 2] from rfl) (Reps.none _ _)))))
    intro v480 x2_ ho1 hb hg_ hnew_
    clear hg_ hnew_
    have BW1 := Za.mk (Zad (mvB BW.out) hb)
    clear BW
    have BW := BW1
    clear BW1
    obtain ⟨U2, u2, eu_⟩ := Kd.Za9 ho1
    subst eu_
    have RL := Za.mk (Kd.Za4 ho1)
    clear ho1 hb
    refine hK.out _ _ (HSA.out _ (mvB BW.out)) (fun hHeld => ?_)
    clear hK K
    refine Zcg (a' := ?_) ?_ ?_
    rotate_left
    · show Act.put _ (some 65) _ = _
      simp only [Act.put, List.setIfInBounds_toArray, List.set_cons_zero, List.set_cons_succ, Zas, Zat]
      rfl
    refine one_ (i := 30) (N := some 64) #[true, true, true, true, true, true, true, true, true, true, true, true, true, true, true, true, true, true, true, true, true, true, true, true, true, true, true, true, true, true, true, true, false, false, false, false, false, false, false, false, false, false, false, false, false, false, false, false, false, false, false, false, false] rfl rfl (Zb6 HT_.out (by kernel_rfl)) (by decide) (fun K hK => ?_)
    refine Zc2 Try.func17 (by kernel_rfl) rfl #[.agg #[.int .i64 (Zai n6 0).f0, .slice S1 (Zai n6 0).f1.length s1, .slice S2 (Zai n6 0).f2.length s2, .int .i64 (Zai n6 0).f3, .int .i64 (Zai n6 0).f4, .slice S5 (Zai n6 0).f5.length s5, .int .i64 (Zai n6 0).f6]] (by rfl) rfl rfl (by (try simp only [List.map_toArray, List.map_cons, List.map_nil]); first | done | rfl) ?_
    with_reducible refine (Zc6.calls (Zai n6 0).f0 _ _ (Zai n6 0).f1 _ _ (Zai n6 0).f2 (Zai n6 0).f3 (Zai n6 0).f4 _ _ (Zai n6 0).f5 (Zai n6 0).f6 t476 _ ?side1 ?side2 ?side3 ?side4 ?side5 ?side6 A22.out).mono ?_
    (case side1 => exact Kd.Zak HI1.out (mvB BW.out))
    (case side2 => exact HL1.out)
    (case side3 => exact Kd.Zak HI2.out (mvB BW.out))
    (case side4 => exact HL2.out)
    (case side5 => exact Kd.Zak HI5.out (mvB BW.out))
    (case side6 => exact HL5.out)
    rintro e x1_ ⟨v477, rfl, ho0, hb⟩
    have BW1 := Za.mk (Zad (mvB BW.out) hb)
    clear BW
    have BW := BW1
    clear BW1
    refine ⟨_, rfl, ?_⟩
    obtain ⟨U1, u1, eu_⟩ := Kd.Za9 ho0
    subst eu_
    have RU := Za.mk (Kd.Za4 ho0)
    have RL2 := Za.mk (Kd.Zak RL.out.2.2 (Zad (mvB (Below.refl x2_.heap.size x2_)) hb))
    clear ho0 hb
    refine hK.out _ _ (HSA.out _ (mvB BW.out)) (fun hHeld => ?_)
    clear hK K
    refine Zcg (a' := ?_) ?_ ?_
    rotate_left
    · show Act.put _ (some 64) _ = _
      simp only [Act.put, List.setIfInBounds_toArray, List.set_cons_zero, List.set_cons_succ, Zas, Zat]
      rfl
    exact Zcg (by simp only [putAll, Act.put, List.setIfInBounds_toArray, List.set_cons_zero, List.set_cons_succ]) (hCont (_, _) _ ⟨mvB BW.out, ⟨_, _, rfl, RU.out.2.1, Kd.Zak RU.out.2.2 (mvB (Below.refl x1_.heap.size x1_))⟩, ⟨_, _, rfl, RL.out.2.1, Kd.Zak RL2.out (mvB (Below.refl x1_.heap.size x1_))⟩⟩)
  rintro ⟨v477, v480⟩ wj ⟨hbj, ⟨U1, u1, eu1, hlu, hcu⟩, ⟨U2, u2, eu2, hll, hcl⟩⟩
  dsimp only at eu1 eu2
  subst eu1 eu2
  clear BW
  have BW := Za.mk hbj
  have RU := Za.mk hcu
  have RL := Za.mk hcl
  clear hbj hcu hcl hHeld
  have hHeld := HSA.out wj BW.out
  refine Zcg (a' := ?_) ?_ ?_
  rotate_left
  · simp only [putAll, Act.put, List.setIfInBounds_toArray, List.set_cons_zero, List.set_cons_succ]
    rfl
  refine one_ (i := 32) (N := some 66) #[true, true, true, true, true, true, true, true, true, true, true, true, true, true, true, true, true, true, true, true, true, true, true, true, true, true, true, true, true, true, true, true, true, false, false, false, false, false, false, false, false, false, false, false, false, false, false, false, false, false, false, false, false] rfl rfl (Zb6 HT_.out (by kernel_rfl)) (by decide) (fun K hK => ?_)
  refine Zc2 Try.func16 (by kernel_rfl) rfl #[.slice U1 t476.length u1, .slice U2 ([0, 1, 2] : List Int).length u2] (by rfl) rfl rfl (by (try simp only [List.map_toArray, List.map_cons, List.map_nil]); first | done | rfl) ?_
  with_reducible refine (Zbh.calls k _ _ t476 _ _ [0, 1, 2] true _ ?side1 ?side2 ?side3 ?side4 A23.out).mono ?_
  (case side1 => exact Kd.Zak RU.out (mvB (Below.refl wj.heap.size wj)))
  (case side2 => exact hlu)
  (case side3 => exact Kd.Zak RL.out (mvB (Below.refl wj.heap.size wj)))
  (case side4 => exact hll)
  rintro e x_ ⟨rfl, ⟨nd, rfl⟩⟩
  refine ⟨_, rfl, ?_⟩
  refine hK.out _ _ (HSA.out _ (mvB BW.out)) (fun hHeld => ?_)
  clear hK K
  refine Zcg (a' := ?_) ?_ ?_
  rotate_left
  · show Act.put _ (some 66) _ = _
    simp only [Act.put, List.setIfInBounds_toArray, List.set_cons_zero, List.set_cons_succ, Zas, Zat]
    rfl
  refine Za0 (i := 33) (N := some 67) (v := ?_) (a' := ?_) #[true, true, true, true, true, true, true, true, true, true, true, true, true, true, true, true, true, true, true, true, true, true, true, true, true, true, true, true, true, true, true, true, true, true, false, false, false, false, false, false, false, false, false, false, false, false, false, false, false, false, false, false, false] rfl rfl (Zal HT_.out (by kernel_rfl)) (fun _ _ _ h => h) (Or.inl ⟨by rfl, ?_⟩) ?_ ?_
  rotate_left
  ·intro w'
   go_simp
   with_reducible rfl
  rotate_left
  ·simp only [Act.put, List.setIfInBounds_toArray, List.set_cons_zero, List.set_cons_succ, Zas, Zat]
   rfl
  refine Za0 (i := 34) (N := some 68) (v := ?_) (a' := ?_) #[true, true, true, true, true, true, true, true, true, true, true, true, true, true, true, true, true, true, true, true, true, true, true, true, true, true, true, true, true, true, true, true, true, true, true, false, false, false, false, false, false, false, false, false, false, false, false, false, false, false, false, false, false] rfl rfl (Zal HT_.out (by kernel_rfl)) (fun _ _ _ h => h) (Or.inl ⟨by rfl, ?_⟩) ?_ ?_
  rotate_left
  ·intro w'
   go_simp
   with_reducible rfl
  rotate_left
  ·simp only [Act.put, List.setIfInBounds_toArray, List.set_cons_zero, List.set_cons_succ, Zas, Zat]
   rfl
  refine Zcl (i := 35) (N := some 69) (v := ?_) (a' := ?_) #[true, true, true, true, true, true, true, true, true, true, true, true, true, true, true, true, true, true, true, true, true, true, true, true, true, true, true, true, true, true, true, true, true, true, true, true, false, false, false, false, false, false, false, false, false, false, false, false, false, false, false, false, false] rfl rfl (Zbj HT_.out HW_.out (by kernel_rfl)) (fun _ _ _ h => h) (Or.inl ⟨by rfl, ?_⟩) hHeld ?_ ?_
  rotate_left
  ·rintro w' ⟨s0, s1, s2, s3, s4, s5, s6, s7, s8, s9, s10, s11⟩
   go_simp
   with_reducible rfl
  rotate_left
  ·simp only [Act.put, List.setIfInBounds_toArray, List.set_cons_zero, List.set_cons_succ, Zas, Zat]
   rfl
  refine Zcl (i := 36) (N := some 70) (v := ?_) (a' := ?_) #[true, true, true, true, true, true, true, true, true, true, true, true, true, true, true, true, true, true, true, true, true, true, true, true, true, true, true, true, true, true, true, true, true, true, true, true, true, false, false, false, false, false, false, false, false, false, false, false, false, false, false, false, false] rfl rfl (Zbj HT_.out HW_.out (by kernel_rfl)) (fun _ _ _ h => h) (Or.inl ⟨by rfl, ?_⟩) hHeld ?_ ?_
  rotate_left
  ·rintro w' ⟨s0, s1, s2, s3, s4, s5, s6, s7, s8, s9, s10, s11⟩
   go_simp
   with_reducible rfl
  rotate_left
  ·simp only [Act.put, List.setIfInBounds_toArray, List.set_cons_zero, List.set_cons_succ, Zas, Zat]
   rfl
  refine one_ (i := 37) (N := some 71) #[true, true, true, true, true, true, true, true, true, true, true, true, true, true, true, true, true, true, true, true, true, true, true, true, true, true, true, true, true, true, true, true, true, true, true, true, true, true, false, false, false, false, false, false, false, false, false, false, false, false, false, false, false] rfl rfl (Zb6 HT_.out (by kernel_rfl)) (by decide) (fun K hK => ?_)
  refine Zc2 Try.func24 (by kernel_rfl) rfl #[.agg #[.slice M60 v6.length m60, .slice (some ad475) n6.length m61, .int .i64 g6, .slice M62 p6.length m62, .slice M63 q6.length m63]] (by rfl) rfl rfl (by (try simp only [List.map_toArray, List.map_cons, List.map_nil]); first | done | rfl) ?_
  with_reducible refine (Za1.calls k _ _ v6 _ _ n6 g6 _ _ p6 _ _ q6 t483 t486 t489 t490 t493 _ ?side1 ?side2 ?side3 ?side4 ?side5 ?side6 ?side7 ?side8 A25.out).mono ?_
  (case side1 => exact Kd.Zak Q0.out (mvB BW.out))
  (case side2 => exact K60.out.2.1)
  (case side3 => exact Kd.Zak Q1.out (mvB BW.out))
  (case side4 => exact K61.out.2.1)
  (case side5 => exact Kd.Zak Q2.out (mvB BW.out))
  (case side6 => exact K62.out.2.1)
  (case side7 => exact Kd.Zak Q3.out (mvB BW.out))
  (case side8 => exact K63.out.2.1)
  rintro e xc ⟨r0, r1, r3, r4, rfl, ho0, ho1, ho2, ho3, hb⟩
  have BW1 := Za.mk (Zad (mvB BW.out) hb)
  clear BW
  have BW := BW1
  clear BW1
  refine ⟨_, rfl, ?_⟩
  have ho0_ := (by first | exact Kd.S_N ho0 | exact Kd.R_N ho0 | exact ho0 : Kd.N _ _ _ _ _ _ _)
  obtain ⟨D0, d0, ed_⟩ := Kd.Zce ho0_
  subst ed_
  have KD0 := Za.mk (Kd.Zbt ho0_)
  clear ho0 ho0_
  have ho1_ := (by first | exact Kd.S_N ho1 | exact Kd.R_N ho1 | exact ho1 : Kd.N _ _ _ _ _ _ _)
  obtain ⟨D1, d1, ed_⟩ := Kd.Zce ho1_
  subst ed_
  have KD1 := Za.mk (Kd.Zbt ho1_)
  clear ho1 ho1_
  have ho2_ := (by first | exact Kd.S_N ho2 | exact Kd.R_N ho2 | exact ho2 : Kd.N _ _ _ _ _ _ _)
  obtain ⟨D2, d2, ed_⟩ := Kd.Zce ho2_
  subst ed_
  have KD2 := Za.mk (Kd.Zbt ho2_)
  clear ho2 ho2_
  have ho3_ := (by first | exact Kd.S_N ho3 | exact Kd.R_N ho3 | exact ho3 : Kd.N _ _ _ _ _ _ _)
  obtain ⟨D3, d3, ed_⟩ := Kd.Zce ho3_
  subst ed_
  have KD3 := Za.mk (Kd.Zbt ho3_)
  clear ho3 ho3_
  clear hb
  refine hK.out _ _ (HSA.out _ (mvB BW.out)) (fun hHeld => ?_)
  clear hK K
  refine Zcg (a' := ?_) ?_ ?_
  rotate_left
  · show Act.put _ (some 71) _ = _
    simp only [Act.put, List.setIfInBounds_toArray, List.set_cons_zero, List.set_cons_succ, Zas, Zat]
    rfl
  refine one_ (i := 38) (N := some 72) #[true, true, true, true, true, true, true, true, true, true, true, true, true, true, true, true, true, true, true, true, true, true, true, true, true, true, true, true, true, true, true, true, true, true, true, true, true, true, true, false, false, false, false, false, false, false, false, false, false, false, false, false, false] rfl rfl (Zb6 HT_.out (by kernel_rfl)) (by decide) (fun K hK => ?_)
  refine Zc2 Try.func27 (by kernel_rfl) rfl #[.agg #[.slice M60 v6.length m60, .slice (some ad475) n6.length m61, .int .i64 g6, .slice M62 p6.length m62, .slice M63 q6.length m63], .agg #[.slice D0 t483.length d0, .slice D1 t486.length d1, .int .i64 t489, .slice D2 t490.length d2, .slice D3 t493.length d3]] (by rfl) rfl rfl (by (try simp only [List.map_toArray, List.map_cons, List.map_nil]); first | done | rfl) ?_
  with_reducible refine (Zct.calls k _ _ v6 _ _ n6 g6 _ _ p6 _ _ q6 _ _ t483 _ _ t486 t489 _ _ t490 _ _ t493 true _ ?side1 ?side2 ?side3 ?side4 ?side5 ?side6 ?side7 ?side8 ?side9 ?side10 ?side11 ?side12 ?side13 ?side14 ?side15 ?side16 A26.out).mono ?_
  (case side1 => exact Kd.Zak Q0.out (mvB BW.out))
  (case side2 => exact K60.out.2.1)
  (case side3 => exact Kd.Zak Q1.out (mvB BW.out))
  (case side4 => exact K61.out.2.1)
  (case side5 => exact Kd.Zak Q2.out (mvB BW.out))
  (case side6 => exact K62.out.2.1)
  (case side7 => exact Kd.Zak Q3.out (mvB BW.out))
  (case side8 => exact K63.out.2.1)
  (case side9 => exact Kd.Zak KD0.out.2.2 (mvB (Below.refl xc.heap.size xc)))
  (case side10 => exact KD0.out.2.1)
  (case side11 => exact Kd.Zak KD1.out.2.2 (mvB (Below.refl xc.heap.size xc)))
  (case side12 => exact KD1.out.2.1)
  (case side13 => exact Kd.Zak KD2.out.2.2 (mvB (Below.refl xc.heap.size xc)))
  (case side14 => exact KD2.out.2.1)
  (case side15 => exact Kd.Zak KD3.out.2.2 (mvB (Below.refl xc.heap.size xc)))
  (case side16 => exact KD3.out.2.1)
  rintro e x_ ⟨rfl, hb⟩
  have BW1 := Za.mk (Zad (mvB BW.out) hb)
  clear BW
  have BW := BW1
  clear BW1
  clear hb
  refine ⟨_, rfl, ?_⟩
  refine hK.out _ _ (HSA.out _ (mvB BW.out)) (fun hHeld => ?_)
  clear hK K
  refine Zcg (a' := ?_) ?_ ?_
  rotate_left
  · show Act.put _ (some 72) _ = _
    simp only [Act.put, List.setIfInBounds_toArray, List.set_cons_zero, List.set_cons_succ, Zas, Zat]
    rfl
  refine Za0 (i := 39) (N := some 73) (v := ?_) (a' := ?_) #[true, true, true, true, true, true, true, true, true, true, true, true, true, true, true, true, true, true, true, true, true, true, true, true, true, true, true, true, true, true, true, true, true, true, true, true, true, true, true, true, false, false, false, false, false, false, false, false, false, false, false, false, false] rfl rfl (Zal HT_.out (by kernel_rfl)) (fun _ _ _ h => h) (Or.inl ⟨by rfl, ?_⟩) ?_ ?_
  rotate_left
  ·intro w'
   go_simp
   with_reducible rfl
  rotate_left
  ·simp only [Act.put, List.setIfInBounds_toArray, List.set_cons_zero, List.set_cons_succ, Zas, Zat]
   rfl
  refine Za0 (i := 40) (N := some 74) (v := ?_) (a' := ?_) #[true, true, true, true, true, true, true, true, true, true, true, true, true, true, true, true, true, true, true, true, true, true, true, true, true, true, true, true, true, true, true, true, true, true, true, true, true, true, true, true, true, false, false, false, false, false, false, false, false, false, false, false, false] rfl rfl (Zal HT_.out (by kernel_rfl)) (fun _ _ _ h => h) (Or.inl ⟨by rfl, ?_⟩) ?_ ?_
  rotate_left
  ·intro w'
   go_simp
   with_reducible rfl
  rotate_left
  ·simp only [Act.put, List.setIfInBounds_toArray, List.set_cons_zero, List.set_cons_succ, Zas, Zat]
   rfl
  refine Za0 (i := 42) (N := some 76) (v := ?_) (a' := ?_) #[true, true, true, true, true, true, true, true, true, true, true, true, true, true, true, true, true, true, true, true, true, true, true, true, true, true, true, true, true, true, true, true, true, true, true, true, true, true, true, true, true, false, true, false, false, false, false, false, false, false, false, false, false] rfl rfl (Zal HT_.out (by kernel_rfl)) (fun _ _ _ h => h) (Or.inl ⟨by rfl, ?_⟩) ?_ ?_
  rotate_left
  ·intro w'
   go_simp
   with_reducible rfl
  rotate_left
  ·simp only [Act.put, List.setIfInBounds_toArray, List.set_cons_zero, List.set_cons_succ, Zas, Zat]
   rfl
  refine Zcl (i := 41) (N := some 75) (v := ?_) (a' := ?_) #[true, true, true, true, true, true, true, true, true, true, true, true, true, true, true, true, true, true, true, true, true, true, true, true, true, true, true, true, true, true, true, true, true, true, true, true, true, true, true, true, true, true, true, false, false, false, false, false, false, false, false, false, false] rfl rfl (Zbj HT_.out HW_.out (by kernel_rfl)) (fun _ _ _ h => h) (Or.inl ⟨by rfl, ?_⟩) hHeld ?_ ?_
  rotate_left
  ·rintro w' ⟨s0, s1, s2, s3, s4, s5, s6, s7, s8, s9, s10, s11⟩
   go_simp
   with_reducible rfl
  rotate_left
  ·simp only [Act.put, List.setIfInBounds_toArray, List.set_cons_zero, List.set_cons_succ, Zas, Zat]
   rfl
  refine one_ (i := 43) (N := some 77) #[true, true, true, true, true, true, true, true, true, true, true, true, true, true, true, true, true, true, true, true, true, true, true, true, true, true, true, true, true, true, true, true, true, true, true, true, true, true, true, true, true, true, true, true, false, false, false, false, false, false, false, false, false] rfl rfl (Zb6 HT_.out (by kernel_rfl)) (by decide) (fun K hK => ?_)
  refine Zc2 Try.func27 (by kernel_rfl) rfl #[.agg #[.slice M60 v6.length m60, .slice (some ad475) n6.length m61, .int .i64 g6, .slice M62 p6.length m62, .slice M63 q6.length m63], .agg #[.slice none 0 0, .slice none 0 0, .int .i64 0, .slice none 0 0, .slice none 0 0]] (by rfl) rfl rfl (by (try simp only [List.map_toArray, List.map_cons, List.map_nil]); first | done | rfl) ?_
  refine (Zct.calls k _ _ v6 _ _ n6 g6 _ _ p6 _ _ q6 none 0 [] none 0 [] 0 none 0 [] none 0 [] false _ ?side1 ?side2 ?side3 ?side4 ?side5 ?side6 ?side7 ?side8 ?side9 ?side10 ?side11 ?side12 ?side13 ?side14 ?side15 ?side16 A28.out).mono ?_
  (case side1 => exact Kd.Zak Q0.out (mvB BW.out))
  (case side2 => exact K60.out.2.1)
  (case side3 => exact Kd.Zak Q1.out (mvB BW.out))
  (case side4 => exact K61.out.2.1)
  (case side5 => exact Kd.Zak Q2.out (mvB BW.out))
  (case side6 => exact K62.out.2.1)
  (case side7 => exact Kd.Zak Q3.out (mvB BW.out))
  (case side8 => exact K63.out.2.1)
  (case side9 => exact Kd.Zem _ _)
  (case side10 => exact Nat.le_refl _)
  (case side11 => exact Kd.Zem _ _)
  (case side12 => exact Nat.le_refl _)
  (case side13 => exact Kd.Zem _ _)
  (case side14 => exact Nat.le_refl _)
  (case side15 => exact Kd.Zem _ _)
  (case side16 => exact Nat.le_refl _)
  rintro e x_ ⟨rfl, hb⟩
  have BW1 := Za.mk (Zad (mvB BW.out) hb)
  clear BW
  have BW := BW1
  clear BW1
  clear hb
  refine ⟨_, rfl, ?_⟩
  refine hK.out _ _ (HSA.out _ (mvB BW.out)) (fun hHeld => ?_)
  clear hK K
  refine Zcg (a' := ?_) ?_ ?_
  rotate_left
  · show Act.put _ (some 77) _ = _
    simp only [Act.put, List.setIfInBounds_toArray, List.set_cons_zero, List.set_cons_succ, Zas, Zat]
    rfl
  refine Za0 (i := 44) (N := some 78) (v := ?_) (a' := ?_) #[true, true, true, true, true, true, true, true, true, true, true, true, true, true, true, true, true, true, true, true, true, true, true, true, true, true, true, true, true, true, true, true, true, true, true, true, true, true, true, true, true, true, true, true, true, false, false, false, false, false, false, false, false] rfl rfl (Zal HT_.out (by kernel_rfl)) (fun _ _ _ h => h) (Or.inl ⟨by rfl, ?_⟩) ?_ ?_
  rotate_left
  ·intro w'
   go_simp
   with_reducible rfl
  rotate_left
  ·simp only [Act.put, List.setIfInBounds_toArray, List.set_cons_zero, List.set_cons_succ, Zas, Zat]
   rfl
  refine Za0 (i := 45) (N := some 79) (v := ?_) (a' := ?_) #[true, true, true, true, true, true, true, true, true, true, true, true, true, true, true, true, true, true, true, true, true, true, true, true, true, true, true, true, true, true, true, true, true, true, true, true, true, true, true, true, true, true, true, true, true, true, false, false, false, false, false, false, false] rfl rfl (Zal HT_.out (by kernel_rfl)) (fun _ _ _ h => h) (Or.inl ⟨by rfl, ?_⟩) ?_ ?_
  rotate_left
  ·intro w'
   go_simp
   with_reducible rfl
  rotate_left
  ·simp only [Act.put, List.setIfInBounds_toArray, List.set_cons_zero, List.set_cons_succ, Zas, Zat]
   rfl
  refine Za0 (i := 46) (N := some 80) (v := ?_) (a' := ?_) #[true, true, true, true, true, true, true, true, true, true, true, true, true, true, true, true, true, true, true, true, true, true, true, true, true, true, true, true, true, true, true, true, true, true, true, true, true, true, true, true, true, true, true, true, true, true, true, false, false, false, false, false, false] rfl rfl (Zal HT_.out (by kernel_rfl)) (fun _ _ _ h => h) (Or.inl ⟨by rfl, ?_⟩) ?_ ?_
  rotate_left
  ·intro w'
   go_simp
   with_reducible rfl
  rotate_left
  ·simp only [Act.put, List.setIfInBounds_toArray, List.set_cons_zero, List.set_cons_succ, Zas, Zat]
   rfl
  refine Zcl (i := 47) (N := some 81) (v := ?_) (a' := ?_) #[true, true, true, true, true, true, true, true, true, true, true, true, true, true, true, true, true, true, true, true, true, true, true, true, true, true, true, true, true, true, true, true, true, true, true, true, true, true, true, true, true, true, true, true, true, true, true, true, false, false, false, false, false] rfl rfl (Zbj HT_.out HW_.out (by kernel_rfl)) (fun _ _ _ h => h) (Or.inl ⟨by rfl, ?_⟩) hHeld ?_ ?_
  rotate_left
  ·rintro w' ⟨s0, s1, s2, s3, s4, s5, s6, s7, s8, s9, s10, s11⟩
   go_simp
   with_reducible rfl
  rotate_left
  ·simp only [Act.put, List.setIfInBounds_toArray, List.set_cons_zero, List.set_cons_succ, Zas, Zat]
   rfl
  refine one_ (i := 48) (N := some 82) #[true, true, true, true, true, true, true, true, true, true, true, true, true, true, true, true, true, true, true, true, true, true, true, true, true, true, true, true, true, true, true, true, true, true, true, true, true, true, true, true, true, true, true, true, true, true, true, true, true, false, false, false, false] rfl rfl (Zb6 HT_.out (by kernel_rfl)) (by decide) (fun K hK => ?_)
  refine Zc2 Try.func25 (by kernel_rfl) rfl #[.agg #[.slice M60 v6.length m60, .slice (some ad475) n6.length m61, .int .i64 g6, .slice M62 p6.length m62, .slice M63 q6.length m63]] (by rfl) rfl rfl (by (try simp only [List.map_toArray, List.map_cons, List.map_nil]); first | done | rfl) ?_
  with_reducible refine (Zbx.calls k _ _ v6 _ _ n6 g6 _ _ p6 _ _ q6 t498 _ ?side1 ?side2 ?side3 ?side4 ?side5 ?side6 ?side7 ?side8 A30.out).mono ?_
  (case side1 => exact Kd.Zak Q0.out (mvB BW.out))
  (case side2 => exact K60.out.2.1)
  (case side3 => exact Kd.Zak Q1.out (mvB BW.out))
  (case side4 => exact K61.out.2.1)
  (case side5 => exact Kd.Zak Q2.out (mvB BW.out))
  (case side6 => exact K62.out.2.1)
  (case side7 => exact Kd.Zak Q3.out (mvB BW.out))
  (case side8 => exact K63.out.2.1)
  rintro e x_ ⟨v499, rfl, ho0, hb⟩
  have BW1 := Za.mk (Zad (mvB BW.out) hb)
  clear BW
  have BW := BW1
  clear BW1
  obtain ⟨T1, t1, et_⟩ := Kd.S_slice ho0
  subst et_
  clear ho0 hb
  refine ⟨_, rfl, ?_⟩
  refine hK.out _ _ (HSA.out _ (mvB BW.out)) (fun hHeld => ?_)
  clear hK K
  refine Zcg (a' := ?_) ?_ ?_
  rotate_left
  · show Act.put _ (some 82) _ = _
    simp only [Act.put, List.setIfInBounds_toArray, List.set_cons_zero, List.set_cons_succ, Zas, Zat]
    rfl
  refine Za0 (i := 49) (N := some 83) (v := ?_) (a' := ?_) #[true, true, true, true, true, true, true, true, true, true, true, true, true, true, true, true, true, true, true, true, true, true, true, true, true, true, true, true, true, true, true, true, true, true, true, true, true, true, true, true, true, true, true, true, true, true, true, true, true, true, false, false, false] rfl rfl (Zal HT_.out (by kernel_rfl)) (fun _ _ _ h => h) (Or.inl ⟨by rfl, ?_⟩) ?_ ?_
  rotate_left
  ·intro w'
   go_simp
   with_reducible rfl
  rotate_left
  ·simp only [Act.put, List.setIfInBounds_toArray, List.set_cons_zero, List.set_cons_succ, Zas, Zat]
   rfl
  refine Za0 (i := 50) (N := some 84) (v := ?_) (a' := ?_) #[true, true, true, true, true, true, true, true, true, true, true, true, true, true, true, true, true, true, true, true, true, true, true, true, true, true, true, true, true, true, true, true, true, true, true, true, true, true, true, true, true, true, true, true, true, true, true, true, true, true, true, false, false] rfl rfl (Zal HT_.out (by kernel_rfl)) (fun _ _ _ h => h) (Or.inl ⟨by rfl, ?_⟩) ?_ ?_
  rotate_left
  ·intro w'
   go_simp
   with_reducible rfl
  rotate_left
  ·simp only [Act.put, List.setIfInBounds_toArray, List.set_cons_zero, List.set_cons_succ, Zas, Zat]
   rfl
  refine Za0 (i := 51) (N := some 85) (v := ?_) (a' := ?_) #[true, true, true, true, true, true, true, true, true, true, true, true, true, true, true, true, true, true, true, true, true, true, true, true, true, true, true, true, true, true, true, true, true, true, true, true, true, true, true, true, true, true, true, true, true, true, true, true, true, true, true, true, false] rfl rfl (Zal HT_.out (by kernel_rfl)) (fun _ _ _ h => h) (Or.inl ⟨by rfl, ?_⟩) ?_ ?_
  rotate_left
  ·intro w'
   go_simp
   with_reducible rfl
  rotate_left
  ·simp only [Act.put, List.setIfInBounds_toArray, List.set_cons_zero, List.set_cons_succ, Zas, Zat]
   rfl
  refine Za0 (i := 52) (N := some 0) (v := ?_) (a' := ?_) #[true, true, true, true, true, true, true, true, true, true, true, true, true, true, true, true, true, true, true, true, true, true, true, true, true, true, true, true, true, true, true, true, true, true, true, true, true, true, true, true, true, true, true, true, true, true, true, true, true, true, true, true, true] rfl rfl (Zal HT_.out (by kernel_rfl)) (fun _ _ _ h => h) (Or.inl ⟨by rfl, ?_⟩) ?_ ?_
  rotate_left
  ·intro w'
   go_simp
   with_reducible rfl
  rotate_left
  ·simp only [Act.put, List.setIfInBounds_toArray, List.set_cons_zero, List.set_cons_succ, Zas, Zat]
   rfl
  refine Ze4 (Zdl HT_.out (by kernel_rfl)) ?_
  try go_wp2
  go_ret
  exact ⟨by first | rfl | (simp; done), Zad HBz.out (mvB BW.out)⟩
def vx04 : List S50 := [⟨(⟨#[120]⟩ : ByteArray), [⟨0, 3⟩]⟩]
def cx04 (kd : Int) (l1 l2 : List Int) (op rhs : Int) : List S31 := [⟨kd, l1, l2, op, rhs, [], 0⟩]
set_option maxRecDepth 100000 in
theorem fx04_1 : Zbp.f 40 vx04 (cx04 0 [0] [2] 0 5) 0 [] [] = some 0 := by decide +kernel
set_option maxRecDepth 100000 in
theorem fx04_2 : Zbp.f 40 vx04 (cx04 0 [0] [0] 0 0) 0 [] [] = some 44 := by decide +kernel
set_option maxRecDepth 100000 in
theorem fx04_3 : Zbp.f 40 vx04 (cx04 5 [0] [1] 0 0) 0 [] [] = some 44 := by decide +kernel
set_option maxRecDepth 100000 in
theorem fx04_4 : Zbp.f 40 vx04 (cx04 1 [1] [] 0 0) 0 [] [] = some 43 := by decide +kernel
set_option maxRecDepth 100000 in
theorem fx04_5 : Zbp.f 40 vx04 (cx04 0 [0] [4398046511104] 0 1) 0 [] [] = some 45 := by decide +kernel
set_option maxRecDepth 100000 in
theorem fx04_6 : Zbz.f (⟨#[120, 95, 49]⟩ : ByteArray) = some true := by decide +kernel
set_option maxRecDepth 100000 in
theorem fx04_7 : Zbz.f (⟨#[49, 120]⟩ : ByteArray) = some false := by decide +kernel
set_option maxRecDepth 100000 in
theorem fx04_8 : Zc6.f 4 [2, 1] [] 0 0 [] 0 = some [0, 1, 2] := by decide +kernel
set_option maxRecDepth 100000 in
theorem fx04_9 : Zbh.f 40 [0, 1, 2] [0, 1, 2] = some true := by decide +kernel
set_option maxRecDepth 100000 in
theorem fx04_10 : Za1.f 40 vx04 (cx04 4 [2, 1] [] 0 0) 0 [] [] = some (vx04, cx04 4 [2, 1] [] 0 0, 0, [], []) := by kernel_rfl
set_option maxRecDepth 100000 in
theorem fx04_11 : Zct.f 40 vx04 (cx04 4 [2, 1] [] 0 0) 0 [] [] vx04 (cx04 4 [2, 1] [] 0 0) 0 [] [] = some true := by decide +kernel
set_option maxRecDepth 100000 in
theorem fx04_12 : Zct.f 40 vx04 (cx04 4 [2, 1] [] 0 0) 0 [] [] [] [] 0 [] [] = some false := by decide +kernel
set_option maxRecDepth 100000 in
theorem fx04_13 : Zbx.f 40 vx04 (cx04 4 [2, 1] [] 0 0) 0 [] [] = some [[⟨0, 3⟩]] := by kernel_rfl
def Za2.f (_ : Nat) : Option Bool := some true
theorem Za2.calls (k : Nat) (r : Bool) (w : World) (h : Za2.f k = some r) : Calls Try.prog 13 #[] w fun e w' => e = .returned (.bool r) ∧ Below w.heap.size w w' := by
  obtain rfl := Option.some.inj h
  exact fixed04_go 40 vx04 (cx04 0 [0] [2] 0 5) 0 [] [] vx04 (cx04 0 [0] [0] 0 0) 0 [] [] vx04 (cx04 5 [0] [1] 0 0) 0 [] [] vx04 (cx04 1 [1] [] 0 0) 0 [] [] vx04 (cx04 0 [0] [4398046511104] 0 1) 0 [] [] vx04 (cx04 4 [2, 1] [] 0 0) 0 [] [] [0, 1, 2] vx04 (cx04 4 [2, 1] [] 0 0) 0 [] [] [[⟨0, 3⟩]] w
    rfl fx04_1 rfl fx04_2 rfl fx04_3 rfl fx04_4 rfl fx04_5 rfl fx04_6 fx04_7 (by decide) fx04_8 fx04_9 fx04_10 fx04_11 fx04_12 fx04_13
end Go.Proofs.Ytkgjaklnbgdmiaa.P
