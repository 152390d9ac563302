/- Proved: what each function of the program that the statements of this seat reach comes to, for whatever memory and arguments it is called with (on condition that its plain text tells a result). -/
import Derived.Test.YtkgjaklnbgdmiaaZ1
import Derived.Test.YtkgjaklnbgdmiaaZ2
namespace Go.Proofs.Ytkgjaklnbgdmiaa.P
open Go.RowKit Go.Proofs.YtkgjaklnbgdmiaaW.PrintWords Go.Proofs.YtkgjaklnbgdmiaaW.PrintLast Go.Proofs.YtkgjaklnbgdmiaaW.PrintMore
attribute [local go_sem] Zcm Zco Zc0 Zc1 Zcb Zcc Zcn Zcp
set_option linter.unusedVariables false
set_option linter.unusedSimpArgs false
def Zb5.f (k : Nat) (a0 : Int) (a1 : Int) : Option (Int × Bool) := (Za8.f k (([a0, a1] : List Int))).bind fun t276 => (if t276 = true then (if a0 > 0 then (if a1 > (wrap64 (4611686018427387904 - a0)) then (some (0, false)) else (if a0 < 0 then (if a1 < (wrap64 ((-4611686018427387904) - a0)) then (some (0, false)) else ((Zbm.f k (wrap64 (a0 + a1))).bind fun bt277 => (some (bt277.1, bt277.2)))) else ((Zbm.f k (wrap64 (a0 + a1))).bind fun bt279 => (some (bt279.1, bt279.2))))) else (if a0 < 0 then (if a1 < (wrap64 ((-4611686018427387904) - a0)) then (some (0, false)) else ((Zbm.f k (wrap64 (a0 + a1))).bind fun bt281 => (some (bt281.1, bt281.2)))) else ((Zbm.f k (wrap64 (a0 + a1))).bind fun bt283 => (some (bt283.1, bt283.2))))) else (some (0, false)))
set_option maxHeartbeats 8000000 in
set_option maxRecDepth 100000 in
theorem Zb5.calls (k : Nat) (a0 : Int) (a1 : Int) (r1 : Int) (r2 : Bool) (w : World) (h : Zb5.f k a0 a1 = some (r1, r2)) :
  Calls Try.prog 74 #[.int .i64 a0, .int .i64 a1] w fun e w' => e = .returned (.tuple #[.int .i64 r1, .bool r2]) ∧ Below w.heap.size w w' := by
 have HB := Za.mk (Below.refl w.heap.size w)
 have H : ((Za8.f k (([a0, a1] : List Int))).bind fun t276 => (if t276 = true then (if a0 > 0 then (if a1 > (wrap64 (4611686018427387904 - a0)) then (some (0, false)) else (if a0 < 0 then (if a1 < (wrap64 ((-4611686018427387904) - a0)) then (some (0, false)) else ((Zbm.f k (wrap64 (a0 + a1))).bind fun bt277 => (some (bt277.1, bt277.2)))) else ((Zbm.f k (wrap64 (a0 + a1))).bind fun bt279 => (some (bt279.1, bt279.2))))) else (if a0 < 0 then (if a1 < (wrap64 ((-4611686018427387904) - a0)) then (some (0, false)) else ((Zbm.f k (wrap64 (a0 + a1))).bind fun bt281 => (some (bt281.1, bt281.2)))) else ((Zbm.f k (wrap64 (a0 + a1))).bind fun bt283 => (some (bt283.1, bt283.2))))) else (some (0, false)))) = some (r1, r2) := h
 clear h
 obtain ⟨y273, hy273⟩ : ∃ y_ : List Int, y_ = (([a0, a1] : List Int)) := ⟨_, rfl⟩
 replace H : ((Za8.f k y273).bind fun t276 => (if t276 = true then (if a0 > 0 then (if a1 > (wrap64 (4611686018427387904 - a0)) then (some (0, false)) else (if a0 < 0 then (if a1 < (wrap64 ((-4611686018427387904) - a0)) then (some (0, false)) else ((Zbm.f k (wrap64 (a0 + a1))).bind fun bt277 => (some (bt277.1, bt277.2)))) else ((Zbm.f k (wrap64 (a0 + a1))).bind fun bt279 => (some (bt279.1, bt279.2))))) else (if a0 < 0 then (if a1 < (wrap64 ((-4611686018427387904) - a0)) then (some (0, false)) else ((Zbm.f k (wrap64 (a0 + a1))).bind fun bt281 => (some (bt281.1, bt281.2)))) else ((Zbm.f k (wrap64 (a0 + a1))).bind fun bt283 => (some (bt283.1, bt283.2))))) else (some (0, false)))) = some (r1, r2) := by first | (rw [hy273]; with_reducible exact H) | (have H2_ := (Option.bind_some _ _).symm.trans H; rw [hy273]; with_reducible exact H2_) | (have H2_ := (Option.bind_some _ _).symm.trans H; with_reducible exact H2_) | with_reducible exact H | (rw [hy273]; exact H) | exact H
 have Ny273 := Za.mk hy273
 clear hy273
 replace H := Option.bind_eq_some_iff.mp H
 obtain ⟨t276, A30, H⟩ := H
 replace H : (if t276 = true then (if a0 > 0 then (if a1 > (wrap64 (4611686018427387904 - a0)) then (some (0, false)) else (if a0 < 0 then (if a1 < (wrap64 ((-4611686018427387904) - a0)) then (some (0, false)) else ((Zbm.f k (wrap64 (a0 + a1))).bind fun bt277 => (some (bt277.1, bt277.2)))) else ((Zbm.f k (wrap64 (a0 + a1))).bind fun bt279 => (some (bt279.1, bt279.2))))) else (if a0 < 0 then (if a1 < (wrap64 ((-4611686018427387904) - a0)) then (some (0, false)) else ((Zbm.f k (wrap64 (a0 + a1))).bind fun bt281 => (some (bt281.1, bt281.2)))) else ((Zbm.f k (wrap64 (a0 + a1))).bind fun bt283 => (some (bt283.1, bt283.2))))) else (some (0, false))) = some (r1, r2) := H
 have A3 := Za.mk A30
 clear A30
 by_cases c4 : t276 = true
 rotate_left
 ·replace c4 := Bool.eq_false_iff.mpr c4
  subst c4
  have H1 : (some (0, false)) = some (r1, r2) := by rw [if_neg (show ¬ (false = true) by decide)] at H; exact H
  clear H
  have H := H1
  clear H1
  simp only [Option.some.injEq, Prod.mk.injEq] at H
  obtain ⟨rfl, rfl⟩ := H
  go_enter Try.func74, Try.ntmps74
  go_wp2_with (first | ((with_reducible refine Zaz (N := 8) rfl ?_); refine Kd.Zcs (Kd.int .i64) _ 3 ?hg (N := 8) ?hd (xs := ([a0, a1] : List Int)) (inner := [.int .i64 a0, .int .i64 a1]) (ok := fun _ => True) (okp := fun _ => True) ?hr ?hp (fun _ hk => hk) trivial (Below.refl _ _) (Nat.le_refl _) (by simp) ?_; (case hd => rfl); (case hg => rfl); (case hr => first | (go_simp; done) | (go_simp; rfl)); (case hp => exact (Reps.one (show Kd.M (Kd.int .i64) _ _ _ a0 [.int .i64 a0] from rfl) (Reps.one (show Kd.M (Kd.int .i64) _ _ _ a1 [.int .i64 a1] from rfl) (Reps.none _ _)))); intro v274 w40 ho41 hb hg_ hnew_; clear hg_ hnew_; (first | rw [← Ny273.out] at ho41 | (simp only [Int.reduceToNat] at ho41; rw [← Ny273.out] at ho41)); have n0_ := Za.mk (Kd.Zbq ho41 (Zaj (by repeat (first | (with_reducible first | exact HB.out | apply Zab | apply Zaa | apply Zac) | exact HB.out)))); have n1_ := Za.mk (Zad (by repeat (first | (with_reducible first | exact HB.out | apply Zab | apply Zaa | apply Zac) | exact HB.out)) hb); clear HB; have HO275 := n0_; have HB := n1_; clear n0_ n1_; clear hb ho41; obtain ⟨Ao42, co42, eo42⟩ := Kd.Za9 HO275.out; subst eo42) | ((with_reducible refine Zaw (f := 94) rfl ?_); refine Zbk (some 9) rfl rfl Try.func94 (by kernel_rfl) rfl #[.slice Ao42 y273.length co42] rfl (by (try simp only [List.map_toArray, List.map_cons, List.map_nil]); first | done | rfl | (simp only [List.length_drop, List.length_take]; rfl)) ?_; (with_reducible refine (Za8.calls k _ _ y273 false _ ?side1 ?side2 A3.out).mono ?_); (case side1 => repeat (first | exact (Kd.Za4 HO275.out).2.2 | (with_reducible refine Kd.C_alloc ?_ _) | (with_reducible refine Kd.C_drewN ?_ _) | (with_reducible refine Kd.C_drew ?_))); (case side2 => exact (Kd.Za4 HO275.out).2.1); rintro e w' ⟨rfl, ⟨nd, rfl⟩⟩; refine ⟨_, rfl, ?_⟩))
  go_ret2
  exact ⟨by first | rfl | (simp [Zam, Zan] <;> rfl) | (simp [*, Zam, Zan] <;> rfl), by repeat (first | (with_reducible first | exact HB.out | apply Zab | apply Zaa | apply Zac) | exact HB.out)⟩
 subst c4
 have H1 : (if a0 > 0 then (if a1 > (wrap64 (4611686018427387904 - a0)) then (some (0, false)) else (if a0 < 0 then (if a1 < (wrap64 ((-4611686018427387904) - a0)) then (some (0, false)) else ((Zbm.f k (wrap64 (a0 + a1))).bind fun bt277 => (some (bt277.1, bt277.2)))) else ((Zbm.f k (wrap64 (a0 + a1))).bind fun bt279 => (some (bt279.1, bt279.2))))) else (if a0 < 0 then (if a1 < (wrap64 ((-4611686018427387904) - a0)) then (some (0, false)) else ((Zbm.f k (wrap64 (a0 + a1))).bind fun bt281 => (some (bt281.1, bt281.2)))) else ((Zbm.f k (wrap64 (a0 + a1))).bind fun bt283 => (some (bt283.1, bt283.2))))) = some (r1, r2) := by rw [if_pos rfl] at H; exact H
 clear H
 have H := H1
 clear H1
 by_cases c5 : a0 > 0
 rotate_left
 ·rw [if_neg c5] at H
  have c5b0 : decide (0 < a0) = false := decide_eq_false c5
  clear c5
  by_cases c25 : a0 < 0
  rotate_left
  ·rw [if_neg c25] at H
   have c25b0 : decide (a0 < 0) = false := decide_eq_false c25
   clear c25
   replace H := Option.bind_eq_some_iff.mp H
   obtain ⟨⟨t283, t284⟩, A350, H⟩ := H
   replace H : (some (t283, t284)) = some (r1, r2) := H
   have A35 := Za.mk A350
   clear A350
   simp only [Option.some.injEq, Prod.mk.injEq] at H
   obtain ⟨rfl, rfl⟩ := H
   go_enter Try.func74, Try.ntmps74
   go_wp2_with (first | ((with_reducible refine Zaz (N := 8) rfl ?_); refine Kd.Zcs (Kd.int .i64) _ 3 ?hg (N := 8) ?hd (xs := ([a0, a1] : List Int)) (inner := [.int .i64 a0, .int .i64 a1]) (ok := fun _ => True) (okp := fun _ => True) ?hr ?hp (fun _ hk => hk) trivial (Below.refl _ _) (Nat.le_refl _) (by simp) ?_; (case hd => rfl); (case hg => rfl); (case hr => first | (go_simp; done) | (go_simp; rfl)); (case hp => exact (Reps.one (show Kd.M (Kd.int .i64) _ _ _ a0 [.int .i64 a0] from rfl) (Reps.one (show Kd.M (Kd.int .i64) _ _ _ a1 [.int .i64 a1] from rfl) (Reps.none _ _)))); intro v274 w36 ho37 hb hg_ hnew_; clear hg_ hnew_; (first | rw [← Ny273.out] at ho37 | (simp only [Int.reduceToNat] at ho37; rw [← Ny273.out] at ho37)); have n0_ := Za.mk (Kd.Zbq ho37 (Zaj (by repeat (first | (with_reducible first | exact HB.out | apply Zab | apply Zaa | apply Zac) | exact HB.out)))); have n1_ := Za.mk (Zad (by repeat (first | (with_reducible first | exact HB.out | apply Zab | apply Zaa | apply Zac) | exact HB.out)) hb); clear HB; have HO275 := n0_; have HB := n1_; clear n0_ n1_; clear hb ho37; obtain ⟨Ao38, co38, eo38⟩ := Kd.Za9 HO275.out; subst eo38) | ((with_reducible refine Zaw (f := 94) rfl ?_); refine Zbk (some 9) rfl rfl Try.func94 (by kernel_rfl) rfl #[.slice Ao38 y273.length co38] rfl (by (try simp only [List.map_toArray, List.map_cons, List.map_nil]); first | done | rfl | (simp only [List.length_drop, List.length_take]; rfl)) ?_; (with_reducible refine (Za8.calls k _ _ y273 true _ ?side1 ?side2 A3.out).mono ?_); (case side1 => repeat (first | exact (Kd.Za4 HO275.out).2.2 | (with_reducible refine Kd.C_alloc ?_ _) | (with_reducible refine Kd.C_drewN ?_ _) | (with_reducible refine Kd.C_drew ?_))); (case side2 => exact (Kd.Za4 HO275.out).2.1); rintro e w' ⟨rfl, ⟨nd, rfl⟩⟩; refine ⟨_, rfl, ?_⟩) | ((with_reducible refine Zaw (f := 97) rfl ?_); refine Zbk (some 34) rfl rfl Try.func97 (by kernel_rfl) rfl #[.int .i64 (wrap64 (a0 + a1))] rfl (by (try simp only [List.map_toArray, List.map_cons, List.map_nil]); first | done | rfl | (simp only [List.length_drop, List.length_take]; rfl)) ?_; (with_reducible refine (Zbm.calls k (wrap64 (a0 + a1)) t283 t284 _ A35.out).mono ?_); rintro e w39 ⟨rfl, hb⟩; refine ⟨_, rfl, ?_⟩; have n0_ := Za.mk (Kd.Zbi (by (with_reducible repeat (first | apply Kd.Zaq | apply Kd.Zar | apply Kd.Zay)); exact HO275.out) hb); have n1_ := Za.mk (Zad (by repeat (first | (with_reducible first | exact HB.out | apply Zab | apply Zaa | apply Zac) | exact HB.out)) hb); clear HO275; clear HB; have HO275 := n0_; have HB := n1_; clear n0_ n1_; (try clear hb); (try clear hb2); (try clear hk); (try clear hi)))
   go_ret2
   exact ⟨by first | rfl | (simp [Zam, Zan] <;> rfl) | (simp [*, Zam, Zan] <;> rfl), by repeat (first | (with_reducible first | exact HB.out | apply Zab | apply Zaa | apply Zac) | exact HB.out)⟩
  rw [if_pos c25] at H
  have c25b0 : decide (a0 < 0) = true := decide_eq_true c25
  clear c25
  by_cases c26 : a1 < (wrap64 ((-4611686018427387904) - a0))
  ·rw [if_pos c26] at H
   have c26b0 : decide (a1 < (wrap64 ((-4611686018427387904) - a0))) = true := decide_eq_true c26
   clear c26
   simp only [Option.some.injEq, Prod.mk.injEq] at H
   obtain ⟨rfl, rfl⟩ := H
   go_enter Try.func74, Try.ntmps74
   go_wp2_with (first | ((with_reducible refine Zaz (N := 8) rfl ?_); refine Kd.Zcs (Kd.int .i64) _ 3 ?hg (N := 8) ?hd (xs := ([a0, a1] : List Int)) (inner := [.int .i64 a0, .int .i64 a1]) (ok := fun _ => True) (okp := fun _ => True) ?hr ?hp (fun _ hk => hk) trivial (Below.refl _ _) (Nat.le_refl _) (by simp) ?_; (case hd => rfl); (case hg => rfl); (case hr => first | (go_simp; done) | (go_simp; rfl)); (case hp => exact (Reps.one (show Kd.M (Kd.int .i64) _ _ _ a0 [.int .i64 a0] from rfl) (Reps.one (show Kd.M (Kd.int .i64) _ _ _ a1 [.int .i64 a1] from rfl) (Reps.none _ _)))); intro v274 w27 ho28 hb hg_ hnew_; clear hg_ hnew_; (first | rw [← Ny273.out] at ho28 | (simp only [Int.reduceToNat] at ho28; rw [← Ny273.out] at ho28)); have n0_ := Za.mk (Kd.Zbq ho28 (Zaj (by repeat (first | (with_reducible first | exact HB.out | apply Zab | apply Zaa | apply Zac) | exact HB.out)))); have n1_ := Za.mk (Zad (by repeat (first | (with_reducible first | exact HB.out | apply Zab | apply Zaa | apply Zac) | exact HB.out)) hb); clear HB; have HO275 := n0_; have HB := n1_; clear n0_ n1_; clear hb ho28; obtain ⟨Ao29, co29, eo29⟩ := Kd.Za9 HO275.out; subst eo29) | ((with_reducible refine Zaw (f := 94) rfl ?_); refine Zbk (some 9) rfl rfl Try.func94 (by kernel_rfl) rfl #[.slice Ao29 y273.length co29] rfl (by (try simp only [List.map_toArray, List.map_cons, List.map_nil]); first | done | rfl | (simp only [List.length_drop, List.length_take]; rfl)) ?_; (with_reducible refine (Za8.calls k _ _ y273 true _ ?side1 ?side2 A3.out).mono ?_); (case side1 => repeat (first | exact (Kd.Za4 HO275.out).2.2 | (with_reducible refine Kd.C_alloc ?_ _) | (with_reducible refine Kd.C_drewN ?_ _) | (with_reducible refine Kd.C_drew ?_))); (case side2 => exact (Kd.Za4 HO275.out).2.1); rintro e w' ⟨rfl, ⟨nd, rfl⟩⟩; refine ⟨_, rfl, ?_⟩))
   go_ret2
   exact ⟨by first | rfl | (simp [Zam, Zan] <;> rfl) | (simp [*, Zam, Zan] <;> rfl), by repeat (first | (with_reducible first | exact HB.out | apply Zab | apply Zaa | apply Zac) | exact HB.out)⟩
  rw [if_neg c26] at H
  have c26b0 : decide (a1 < (wrap64 ((-4611686018427387904) - a0))) = false := decide_eq_false c26
  clear c26
  replace H := Option.bind_eq_some_iff.mp H
  obtain ⟨⟨t281, t282⟩, A300, H⟩ := H
  replace H : (some (t281, t282)) = some (r1, r2) := H
  have A30 := Za.mk A300
  clear A300
  simp only [Option.some.injEq, Prod.mk.injEq] at H
  obtain ⟨rfl, rfl⟩ := H
  go_enter Try.func74, Try.ntmps74
  go_wp2_with (first | ((with_reducible refine Zaz (N := 8) rfl ?_); refine Kd.Zcs (Kd.int .i64) _ 3 ?hg (N := 8) ?hd (xs := ([a0, a1] : List Int)) (inner := [.int .i64 a0, .int .i64 a1]) (ok := fun _ => True) (okp := fun _ => True) ?hr ?hp (fun _ hk => hk) trivial (Below.refl _ _) (Nat.le_refl _) (by simp) ?_; (case hd => rfl); (case hg => rfl); (case hr => first | (go_simp; done) | (go_simp; rfl)); (case hp => exact (Reps.one (show Kd.M (Kd.int .i64) _ _ _ a0 [.int .i64 a0] from rfl) (Reps.one (show Kd.M (Kd.int .i64) _ _ _ a1 [.int .i64 a1] from rfl) (Reps.none _ _)))); intro v274 w31 ho32 hb hg_ hnew_; clear hg_ hnew_; (first | rw [← Ny273.out] at ho32 | (simp only [Int.reduceToNat] at ho32; rw [← Ny273.out] at ho32)); have n0_ := Za.mk (Kd.Zbq ho32 (Zaj (by repeat (first | (with_reducible first | exact HB.out | apply Zab | apply Zaa | apply Zac) | exact HB.out)))); have n1_ := Za.mk (Zad (by repeat (first | (with_reducible first | exact HB.out | apply Zab | apply Zaa | apply Zac) | exact HB.out)) hb); clear HB; have HO275 := n0_; have HB := n1_; clear n0_ n1_; clear hb ho32; obtain ⟨Ao33, co33, eo33⟩ := Kd.Za9 HO275.out; subst eo33) | ((with_reducible refine Zaw (f := 94) rfl ?_); refine Zbk (some 9) rfl rfl Try.func94 (by kernel_rfl) rfl #[.slice Ao33 y273.length co33] rfl (by (try simp only [List.map_toArray, List.map_cons, List.map_nil]); first | done | rfl | (simp only [List.length_drop, List.length_take]; rfl)) ?_; (with_reducible refine (Za8.calls k _ _ y273 true _ ?side1 ?side2 A3.out).mono ?_); (case side1 => repeat (first | exact (Kd.Za4 HO275.out).2.2 | (with_reducible refine Kd.C_alloc ?_ _) | (with_reducible refine Kd.C_drewN ?_ _) | (with_reducible refine Kd.C_drew ?_))); (case side2 => exact (Kd.Za4 HO275.out).2.1); rintro e w' ⟨rfl, ⟨nd, rfl⟩⟩; refine ⟨_, rfl, ?_⟩) | ((with_reducible refine Zaw (f := 97) rfl ?_); refine Zbk (some 34) rfl rfl Try.func97 (by kernel_rfl) rfl #[.int .i64 (wrap64 (a0 + a1))] rfl (by (try simp only [List.map_toArray, List.map_cons, List.map_nil]); first | done | rfl | (simp only [List.length_drop, List.length_take]; rfl)) ?_; (with_reducible refine (Zbm.calls k (wrap64 (a0 + a1)) t281 t282 _ A30.out).mono ?_); rintro e w34 ⟨rfl, hb⟩; refine ⟨_, rfl, ?_⟩; have n0_ := Za.mk (Kd.Zbi (by (with_reducible repeat (first | apply Kd.Zaq | apply Kd.Zar | apply Kd.Zay)); exact HO275.out) hb); have n1_ := Za.mk (Zad (by repeat (first | (with_reducible first | exact HB.out | apply Zab | apply Zaa | apply Zac) | exact HB.out)) hb); clear HO275; clear HB; have HO275 := n0_; have HB := n1_; clear n0_ n1_; (try clear hb); (try clear hb2); (try clear hk); (try clear hi)))
  go_ret2
  exact ⟨by first | rfl | (simp [Zam, Zan] <;> rfl) | (simp [*, Zam, Zan] <;> rfl), by repeat (first | (with_reducible first | exact HB.out | apply Zab | apply Zaa | apply Zac) | exact HB.out)⟩
 rw [if_pos c5] at H
 have c5b0 : decide (0 < a0) = true := decide_eq_true c5
 clear c5
 by_cases c6 : a1 > (wrap64 (4611686018427387904 - a0))
 ·rw [if_pos c6] at H
  have c6b0 : decide ((wrap64 (4611686018427387904 - a0)) < a1) = true := decide_eq_true c6
  clear c6
  simp only [Option.some.injEq, Prod.mk.injEq] at H
  obtain ⟨rfl, rfl⟩ := H
  go_enter Try.func74, Try.ntmps74
  go_wp2_with (first | ((with_reducible refine Zaz (N := 8) rfl ?_); refine Kd.Zcs (Kd.int .i64) _ 3 ?hg (N := 8) ?hd (xs := ([a0, a1] : List Int)) (inner := [.int .i64 a0, .int .i64 a1]) (ok := fun _ => True) (okp := fun _ => True) ?hr ?hp (fun _ hk => hk) trivial (Below.refl _ _) (Nat.le_refl _) (by simp) ?_; (case hd => rfl); (case hg => rfl); (case hr => first | (go_simp; done) | (go_simp; rfl)); (case hp => exact (Reps.one (show Kd.M (Kd.int .i64) _ _ _ a0 [.int .i64 a0] from rfl) (Reps.one (show Kd.M (Kd.int .i64) _ _ _ a1 [.int .i64 a1] from rfl) (Reps.none _ _)))); intro v274 w7 ho8 hb hg_ hnew_; clear hg_ hnew_; (first | rw [← Ny273.out] at ho8 | (simp only [Int.reduceToNat] at ho8; rw [← Ny273.out] at ho8)); have n0_ := Za.mk (Kd.Zbq ho8 (Zaj (by repeat (first | (with_reducible first | exact HB.out | apply Zab | apply Zaa | apply Zac) | exact HB.out)))); have n1_ := Za.mk (Zad (by repeat (first | (with_reducible first | exact HB.out | apply Zab | apply Zaa | apply Zac) | exact HB.out)) hb); clear HB; have HO275 := n0_; have HB := n1_; clear n0_ n1_; clear hb ho8; obtain ⟨Ao9, co9, eo9⟩ := Kd.Za9 HO275.out; subst eo9) | ((with_reducible refine Zaw (f := 94) rfl ?_); refine Zbk (some 9) rfl rfl Try.func94 (by kernel_rfl) rfl #[.slice Ao9 y273.length co9] rfl (by (try simp only [List.map_toArray, List.map_cons, List.map_nil]); first | done | rfl | (simp only [List.length_drop, List.length_take]; rfl)) ?_; (with_reducible refine (Za8.calls k _ _ y273 true _ ?side1 ?side2 A3.out).mono ?_); (case side1 => repeat (first | exact (Kd.Za4 HO275.out).2.2 | (with_reducible refine Kd.C_alloc ?_ _) | (with_reducible refine Kd.C_drewN ?_ _) | (with_reducible refine Kd.C_drew ?_))); (case side2 => exact (Kd.Za4 HO275.out).2.1); rintro e w' ⟨rfl, ⟨nd, rfl⟩⟩; refine ⟨_, rfl, ?_⟩))
  go_ret2
  exact ⟨by first | rfl | (simp [Zam, Zan] <;> rfl) | (simp [*, Zam, Zan] <;> rfl), by repeat (first | (with_reducible first | exact HB.out | apply Zab | apply Zaa | apply Zac) | exact HB.out)⟩
 rw [if_neg c6] at H
 have c6b0 : decide ((wrap64 (4611686018427387904 - a0)) < a1) = false := decide_eq_false c6
 clear c6
 by_cases c10 : a0 < 0
 rotate_left
 ·rw [if_neg c10] at H
  have c10b0 : decide (a0 < 0) = false := decide_eq_false c10
  clear c10
  replace H := Option.bind_eq_some_iff.mp H
  obtain ⟨⟨t279, t280⟩, A200, H⟩ := H
  replace H : (some (t279, t280)) = some (r1, r2) := H
  have A20 := Za.mk A200
  clear A200
  simp only [Option.some.injEq, Prod.mk.injEq] at H
  obtain ⟨rfl, rfl⟩ := H
  go_enter Try.func74, Try.ntmps74
  go_wp2_with (first | ((with_reducible refine Zaz (N := 8) rfl ?_); refine Kd.Zcs (Kd.int .i64) _ 3 ?hg (N := 8) ?hd (xs := ([a0, a1] : List Int)) (inner := [.int .i64 a0, .int .i64 a1]) (ok := fun _ => True) (okp := fun _ => True) ?hr ?hp (fun _ hk => hk) trivial (Below.refl _ _) (Nat.le_refl _) (by simp) ?_; (case hd => rfl); (case hg => rfl); (case hr => first | (go_simp; done) | (go_simp; rfl)); (case hp => exact (Reps.one (show Kd.M (Kd.int .i64) _ _ _ a0 [.int .i64 a0] from rfl) (Reps.one (show Kd.M (Kd.int .i64) _ _ _ a1 [.int .i64 a1] from rfl) (Reps.none _ _)))); intro v274 w21 ho22 hb hg_ hnew_; clear hg_ hnew_; (first | rw [← Ny273.out] at ho22 | (simp only [Int.reduceToNat] at ho22; rw [← Ny273.out] at ho22)); have n0_ := Za.mk (Kd.Zbq ho22 (Zaj (by repeat (first | (with_reducible first | exact HB.out | apply Zab | apply Zaa | apply Zac) | exact HB.out)))); have n1_ := Za.mk (Zad (by repeat (first | (with_reducible first | exact HB.out | apply Zab | apply Zaa | apply Zac) | exact HB.out)) hb); clear HB; have HO275 := n0_; have HB := n1_; clear n0_ n1_; clear hb ho22; obtain ⟨Ao23, co23, eo23⟩ := Kd.Za9 HO275.out; subst eo23) | ((with_reducible refine Zaw (f := 94) rfl ?_); refine Zbk (some 9) rfl rfl Try.func94 (by kernel_rfl) rfl #[.slice Ao23 y273.length co23] rfl (by (try simp only [List.map_toArray, List.map_cons, List.map_nil]); first | done | rfl | (simp only [List.length_drop, List.length_take]; rfl)) ?_; (with_reducible refine (Za8.calls k _ _ y273 true _ ?side1 ?side2 A3.out).mono ?_); (case side1 => repeat (first | exact (Kd.Za4 HO275.out).2.2 | (with_reducible refine Kd.C_alloc ?_ _) | (with_reducible refine Kd.C_drewN ?_ _) | (with_reducible refine Kd.C_drew ?_))); (case side2 => exact (Kd.Za4 HO275.out).2.1); rintro e w' ⟨rfl, ⟨nd, rfl⟩⟩; refine ⟨_, rfl, ?_⟩) | ((with_reducible refine Zaw (f := 97) rfl ?_); refine Zbk (some 34) rfl rfl Try.func97 (by kernel_rfl) rfl #[.int .i64 (wrap64 (a0 + a1))] rfl (by (try simp only [List.map_toArray, List.map_cons, List.map_nil]); first | done | rfl | (simp only [List.length_drop, List.length_take]; rfl)) ?_; (with_reducible refine (Zbm.calls k (wrap64 (a0 + a1)) t279 t280 _ A20.out).mono ?_); rintro e w24 ⟨rfl, hb⟩; refine ⟨_, rfl, ?_⟩; have n0_ := Za.mk (Kd.Zbi (by (with_reducible repeat (first | apply Kd.Zaq | apply Kd.Zar | apply Kd.Zay)); exact HO275.out) hb); have n1_ := Za.mk (Zad (by repeat (first | (with_reducible first | exact HB.out | apply Zab | apply Zaa | apply Zac) | exact HB.out)) hb); clear HO275; clear HB; have HO275 := n0_; have HB := n1_; clear n0_ n1_; (try clear hb); (try clear hb2); (try clear hk); (try clear hi)))
  go_ret2
  exact ⟨by first | rfl | (simp [Zam, Zan] <;> rfl) | (simp [*, Zam, Zan] <;> rfl), by repeat (first | (with_reducible first | exact HB.out | apply Zab | apply Zaa | apply Zac) | exact HB.out)⟩
 rw [if_pos c10] at H
 have c10b0 : decide (a0 < 0) = true := decide_eq_true c10
 clear c10
 by_cases c11 : a1 < (wrap64 ((-4611686018427387904) - a0))
 ·rw [if_pos c11] at H
  have c11b0 : decide (a1 < (wrap64 ((-4611686018427387904) - a0))) = true := decide_eq_true c11
  clear c11
  simp only [Option.some.injEq, Prod.mk.injEq] at H
  obtain ⟨rfl, rfl⟩ := H
  go_enter Try.func74, Try.ntmps74
  go_wp2_with (first | ((with_reducible refine Zaz (N := 8) rfl ?_); refine Kd.Zcs (Kd.int .i64) _ 3 ?hg (N := 8) ?hd (xs := ([a0, a1] : List Int)) (inner := [.int .i64 a0, .int .i64 a1]) (ok := fun _ => True) (okp := fun _ => True) ?hr ?hp (fun _ hk => hk) trivial (Below.refl _ _) (Nat.le_refl _) (by simp) ?_; (case hd => rfl); (case hg => rfl); (case hr => first | (go_simp; done) | (go_simp; rfl)); (case hp => exact (Reps.one (show Kd.M (Kd.int .i64) _ _ _ a0 [.int .i64 a0] from rfl) (Reps.one (show Kd.M (Kd.int .i64) _ _ _ a1 [.int .i64 a1] from rfl) (Reps.none _ _)))); intro v274 w12 ho13 hb hg_ hnew_; clear hg_ hnew_; (first | rw [← Ny273.out] at ho13 | (simp only [Int.reduceToNat] at ho13; rw [← Ny273.out] at ho13)); have n0_ := Za.mk (Kd.Zbq ho13 (Zaj (by repeat (first | (with_reducible first | exact HB.out | apply Zab | apply Zaa | apply Zac) | exact HB.out)))); have n1_ := Za.mk (Zad (by repeat (first | (with_reducible first | exact HB.out | apply Zab | apply Zaa | apply Zac) | exact HB.out)) hb); clear HB; have HO275 := n0_; have HB := n1_; clear n0_ n1_; clear hb ho13; obtain ⟨Ao14, co14, eo14⟩ := Kd.Za9 HO275.out; subst eo14) | ((with_reducible refine Zaw (f := 94) rfl ?_); refine Zbk (some 9) rfl rfl Try.func94 (by kernel_rfl) rfl #[.slice Ao14 y273.length co14] rfl (by (try simp only [List.map_toArray, List.map_cons, List.map_nil]); first | done | rfl | (simp only [List.length_drop, List.length_take]; rfl)) ?_; (with_reducible refine (Za8.calls k _ _ y273 true _ ?side1 ?side2 A3.out).mono ?_); (case side1 => repeat (first | exact (Kd.Za4 HO275.out).2.2 | (with_reducible refine Kd.C_alloc ?_ _) | (with_reducible refine Kd.C_drewN ?_ _) | (with_reducible refine Kd.C_drew ?_))); (case side2 => exact (Kd.Za4 HO275.out).2.1); rintro e w' ⟨rfl, ⟨nd, rfl⟩⟩; refine ⟨_, rfl, ?_⟩))
  go_ret2
  exact ⟨by first | rfl | (simp [Zam, Zan] <;> rfl) | (simp [*, Zam, Zan] <;> rfl), by repeat (first | (with_reducible first | exact HB.out | apply Zab | apply Zaa | apply Zac) | exact HB.out)⟩
 rw [if_neg c11] at H
 have c11b0 : decide (a1 < (wrap64 ((-4611686018427387904) - a0))) = false := decide_eq_false c11
 clear c11
 replace H := Option.bind_eq_some_iff.mp H
 obtain ⟨⟨t277, t278⟩, A150, H⟩ := H
 replace H : (some (t277, t278)) = some (r1, r2) := H
 have A15 := Za.mk A150
 clear A150
 simp only [Option.some.injEq, Prod.mk.injEq] at H
 obtain ⟨rfl, rfl⟩ := H
 go_enter Try.func74, Try.ntmps74
 go_wp2_with (first | ((with_reducible refine Zaz (N := 8) rfl ?_); refine Kd.Zcs (Kd.int .i64) _ 3 ?hg (N := 8) ?hd (xs := ([a0, a1] : List Int)) (inner := [.int .i64 a0, .int .i64 a1]) (ok := fun _ => True) (okp := fun _ => True) ?hr ?hp (fun _ hk => hk) trivial (Below.refl _ _) (Nat.le_refl _) (by simp) ?_; (case hd => rfl); (case hg => rfl); (case hr => first | (go_simp; done) | (go_simp; rfl)); (case hp => exact (Reps.one (show Kd.M (Kd.int .i64) _ _ _ a0 [.int .i64 a0] from rfl) (Reps.one (show Kd.M (Kd.int .i64) _ _ _ a1 [.int .i64 a1] from rfl) (Reps.none _ _)))); intro v274 w16 ho17 hb hg_ hnew_; clear hg_ hnew_; (first | rw [← Ny273.out] at ho17 | (simp only [Int.reduceToNat] at ho17; rw [← Ny273.out] at ho17)); have n0_ := Za.mk (Kd.Zbq ho17 (Zaj (by repeat (first | (with_reducible first | exact HB.out | apply Zab | apply Zaa | apply Zac) | exact HB.out)))); have n1_ := Za.mk (Zad (by repeat (first | (with_reducible first | exact HB.out | apply Zab | apply Zaa | apply Zac) | exact HB.out)) hb); clear HB; have HO275 := n0_; have HB := n1_; clear n0_ n1_; clear hb ho17; obtain ⟨Ao18, co18, eo18⟩ := Kd.Za9 HO275.out; subst eo18) | ((with_reducible refine Zaw (f := 94) rfl ?_); refine Zbk (some 9) rfl rfl Try.func94 (by kernel_rfl) rfl #[.slice Ao18 y273.length co18] rfl (by (try simp only [List.map_toArray, List.map_cons, List.map_nil]); first | done | rfl | (simp only [List.length_drop, List.length_take]; rfl)) ?_; (with_reducible refine (Za8.calls k _ _ y273 true _ ?side1 ?side2 A3.out).mono ?_); (case side1 => repeat (first | exact (Kd.Za4 HO275.out).2.2 | (with_reducible refine Kd.C_alloc ?_ _) | (with_reducible refine Kd.C_drewN ?_ _) | (with_reducible refine Kd.C_drew ?_))); (case side2 => exact (Kd.Za4 HO275.out).2.1); rintro e w' ⟨rfl, ⟨nd, rfl⟩⟩; refine ⟨_, rfl, ?_⟩) | ((with_reducible refine Zaw (f := 97) rfl ?_); refine Zbk (some 34) rfl rfl Try.func97 (by kernel_rfl) rfl #[.int .i64 (wrap64 (a0 + a1))] rfl (by (try simp only [List.map_toArray, List.map_cons, List.map_nil]); first | done | rfl | (simp only [List.length_drop, List.length_take]; rfl)) ?_; (with_reducible refine (Zbm.calls k (wrap64 (a0 + a1)) t277 t278 _ A15.out).mono ?_); rintro e w19 ⟨rfl, hb⟩; refine ⟨_, rfl, ?_⟩; have n0_ := Za.mk (Kd.Zbi (by (with_reducible repeat (first | apply Kd.Zaq | apply Kd.Zar | apply Kd.Zay)); exact HO275.out) hb); have n1_ := Za.mk (Zad (by repeat (first | (with_reducible first | exact HB.out | apply Zab | apply Zaa | apply Zac) | exact HB.out)) hb); clear HO275; clear HB; have HO275 := n0_; have HB := n1_; clear n0_ n1_; (try clear hb); (try clear hb2); (try clear hk); (try clear hi)))
 go_ret2
 exact ⟨by first | rfl | (simp [Zam, Zan] <;> rfl) | (simp [*, Zam, Zan] <;> rfl), by repeat (first | (with_reducible first | exact HB.out | apply Zab | apply Zaa | apply Zac) | exact HB.out)⟩
def Zdq.f (k : Nat) (a0 : Int) (a1 : Int) : Option (Int × Bool) := (Za8.f k (([a0, a1] : List Int))).bind fun t288 => (if t288 = true then ((Zb5.f k a0 (wrap64 (-a1))).bind fun bt289 => (some (bt289.1, bt289.2))) else (some (0, false)))
set_option maxHeartbeats 8000000 in
set_option maxRecDepth 100000 in
theorem Zdq.calls (k : Nat) (a0 : Int) (a1 : Int) (r1 : Int) (r2 : Bool) (w : World) (h : Zdq.f k a0 a1 = some (r1, r2)) :
  Calls Try.prog 93 #[.int .i64 a0, .int .i64 a1] w fun e w' => e = .returned (.tuple #[.int .i64 r1, .bool r2]) ∧ Below w.heap.size w w' := by
 have HB := Za.mk (Below.refl w.heap.size w)
 have H : ((Za8.f k (([a0, a1] : List Int))).bind fun t288 => (if t288 = true then ((Zb5.f k a0 (wrap64 (-a1))).bind fun bt289 => (some (bt289.1, bt289.2))) else (some (0, false)))) = some (r1, r2) := h
 clear h
 obtain ⟨y285, hy285⟩ : ∃ y_ : List Int, y_ = (([a0, a1] : List Int)) := ⟨_, rfl⟩
 replace H : ((Za8.f k y285).bind fun t288 => (if t288 = true then ((Zb5.f k a0 (wrap64 (-a1))).bind fun bt289 => (some (bt289.1, bt289.2))) else (some (0, false)))) = some (r1, r2) := by first | (rw [hy285]; with_reducible exact H) | (have H2_ := (Option.bind_some _ _).symm.trans H; rw [hy285]; with_reducible exact H2_) | (have H2_ := (Option.bind_some _ _).symm.trans H; with_reducible exact H2_) | with_reducible exact H | (rw [hy285]; exact H) | exact H
 have Ny285 := Za.mk hy285
 clear hy285
 replace H := Option.bind_eq_some_iff.mp H
 obtain ⟨t288, A30, H⟩ := H
 replace H : (if t288 = true then ((Zb5.f k a0 (wrap64 (-a1))).bind fun bt289 => (some (bt289.1, bt289.2))) else (some (0, false))) = some (r1, r2) := H
 have A3 := Za.mk A30
 clear A30
 by_cases c4 : t288 = true
 rotate_left
 ·replace c4 := Bool.eq_false_iff.mpr c4
  subst c4
  have H1 : (some (0, false)) = some (r1, r2) := by rw [if_neg (show ¬ (false = true) by decide)] at H; exact H
  clear H
  have H := H1
  clear H1
  simp only [Option.some.injEq, Prod.mk.injEq] at H
  obtain ⟨rfl, rfl⟩ := H
  go_enter Try.func93, Try.ntmps93
  go_wp2_with (first | ((with_reducible refine Zaz (N := 8) rfl ?_); refine Kd.Zcs (Kd.int .i64) _ 3 ?hg (N := 8) ?hd (xs := ([a0, a1] : List Int)) (inner := [.int .i64 a0, .int .i64 a1]) (ok := fun _ => True) (okp := fun _ => True) ?hr ?hp (fun _ hk => hk) trivial (Below.refl _ _) (Nat.le_refl _) (by simp) ?_; (case hd => rfl); (case hg => rfl); (case hr => first | (go_simp; done) | (go_simp; rfl)); (case hp => exact (Reps.one (show Kd.M (Kd.int .i64) _ _ _ a0 [.int .i64 a0] from rfl) (Reps.one (show Kd.M (Kd.int .i64) _ _ _ a1 [.int .i64 a1] from rfl) (Reps.none _ _)))); intro v286 w10 ho11 hb hg_ hnew_; clear hg_ hnew_; (first | rw [← Ny285.out] at ho11 | (simp only [Int.reduceToNat] at ho11; rw [← Ny285.out] at ho11)); have n0_ := Za.mk (Kd.Zbq ho11 (Zaj (by repeat (first | (with_reducible first | exact HB.out | apply Zab | apply Zaa | apply Zac) | exact HB.out)))); have n1_ := Za.mk (Zad (by repeat (first | (with_reducible first | exact HB.out | apply Zab | apply Zaa | apply Zac) | exact HB.out)) hb); clear HB; have HO287 := n0_; have HB := n1_; clear n0_ n1_; clear hb ho11; obtain ⟨Ao12, co12, eo12⟩ := Kd.Za9 HO287.out; subst eo12) | ((with_reducible refine Zaw (f := 94) rfl ?_); refine Zbk (some 9) rfl rfl Try.func94 (by kernel_rfl) rfl #[.slice Ao12 y285.length co12] rfl (by (try simp only [List.map_toArray, List.map_cons, List.map_nil]); first | done | rfl | (simp only [List.length_drop, List.length_take]; rfl)) ?_; (with_reducible refine (Za8.calls k _ _ y285 false _ ?side1 ?side2 A3.out).mono ?_); (case side1 => repeat (first | exact (Kd.Za4 HO287.out).2.2 | (with_reducible refine Kd.C_alloc ?_ _) | (with_reducible refine Kd.C_drewN ?_ _) | (with_reducible refine Kd.C_drew ?_))); (case side2 => exact (Kd.Za4 HO287.out).2.1); rintro e w' ⟨rfl, ⟨nd, rfl⟩⟩; refine ⟨_, rfl, ?_⟩))
  go_ret2
  exact ⟨by first | rfl | (simp [Zam, Zan] <;> rfl) | (simp [*, Zam, Zan] <;> rfl), by repeat (first | (with_reducible first | exact HB.out | apply Zab | apply Zaa | apply Zac) | exact HB.out)⟩
 subst c4
 have H1 : ((Zb5.f k a0 (wrap64 (-a1))).bind fun bt289 => (some (bt289.1, bt289.2))) = some (r1, r2) := by rw [if_pos rfl] at H; exact H
 clear H
 have H := H1
 clear H1
 replace H := Option.bind_eq_some_iff.mp H
 obtain ⟨⟨t289, t290⟩, A50, H⟩ := H
 replace H : (some (t289, t290)) = some (r1, r2) := H
 have A5 := Za.mk A50
 clear A50
 simp only [Option.some.injEq, Prod.mk.injEq] at H
 obtain ⟨rfl, rfl⟩ := H
 go_enter Try.func93, Try.ntmps93
 go_wp2_with (first | ((with_reducible refine Zaz (N := 8) rfl ?_); refine Kd.Zcs (Kd.int .i64) _ 3 ?hg (N := 8) ?hd (xs := ([a0, a1] : List Int)) (inner := [.int .i64 a0, .int .i64 a1]) (ok := fun _ => True) (okp := fun _ => True) ?hr ?hp (fun _ hk => hk) trivial (Below.refl _ _) (Nat.le_refl _) (by simp) ?_; (case hd => rfl); (case hg => rfl); (case hr => first | (go_simp; done) | (go_simp; rfl)); (case hp => exact (Reps.one (show Kd.M (Kd.int .i64) _ _ _ a0 [.int .i64 a0] from rfl) (Reps.one (show Kd.M (Kd.int .i64) _ _ _ a1 [.int .i64 a1] from rfl) (Reps.none _ _)))); intro v286 w6 ho7 hb hg_ hnew_; clear hg_ hnew_; (first | rw [← Ny285.out] at ho7 | (simp only [Int.reduceToNat] at ho7; rw [← Ny285.out] at ho7)); have n0_ := Za.mk (Kd.Zbq ho7 (Zaj (by repeat (first | (with_reducible first | exact HB.out | apply Zab | apply Zaa | apply Zac) | exact HB.out)))); have n1_ := Za.mk (Zad (by repeat (first | (with_reducible first | exact HB.out | apply Zab | apply Zaa | apply Zac) | exact HB.out)) hb); clear HB; have HO287 := n0_; have HB := n1_; clear n0_ n1_; clear hb ho7; obtain ⟨Ao8, co8, eo8⟩ := Kd.Za9 HO287.out; subst eo8) | ((with_reducible refine Zaw (f := 94) rfl ?_); refine Zbk (some 9) rfl rfl Try.func94 (by kernel_rfl) rfl #[.slice Ao8 y285.length co8] rfl (by (try simp only [List.map_toArray, List.map_cons, List.map_nil]); first | done | rfl | (simp only [List.length_drop, List.length_take]; rfl)) ?_; (with_reducible refine (Za8.calls k _ _ y285 true _ ?side1 ?side2 A3.out).mono ?_); (case side1 => repeat (first | exact (Kd.Za4 HO287.out).2.2 | (with_reducible refine Kd.C_alloc ?_ _) | (with_reducible refine Kd.C_drewN ?_ _) | (with_reducible refine Kd.C_drew ?_))); (case side2 => exact (Kd.Za4 HO287.out).2.1); rintro e w' ⟨rfl, ⟨nd, rfl⟩⟩; refine ⟨_, rfl, ?_⟩) | ((with_reducible refine Zaw (f := 74) rfl ?_); refine Zbk (some 14) rfl rfl Try.func74 (by kernel_rfl) rfl #[.int .i64 a0, .int .i64 (wrap64 (-a1))] rfl (by (try simp only [List.map_toArray, List.map_cons, List.map_nil]); first | done | rfl | (simp only [List.length_drop, List.length_take]; rfl)) ?_; (with_reducible refine (Zb5.calls k a0 (wrap64 (-a1)) t289 t290 _ A5.out).mono ?_); rintro e w9 ⟨rfl, hb⟩; refine ⟨_, rfl, ?_⟩; have n0_ := Za.mk (Kd.Zbi (by (with_reducible repeat (first | apply Kd.Zaq | apply Kd.Zar | apply Kd.Zay)); exact HO287.out) hb); have n1_ := Za.mk (Zad (by repeat (first | (with_reducible first | exact HB.out | apply Zab | apply Zaa | apply Zac) | exact HB.out)) hb); clear HO287; clear HB; have HO287 := n0_; have HB := n1_; clear n0_ n1_; (try clear hb); (try clear hb2); (try clear hk); (try clear hi)))
 go_ret2
 exact ⟨by first | rfl | (simp [Zam, Zan] <;> rfl) | (simp [*, Zam, Zan] <;> rfl), by repeat (first | (with_reducible first | exact HB.out | apply Zab | apply Zaa | apply Zac) | exact HB.out)⟩
def Zb9.f (k : Nat) (a0 : Int) : Option (Int × Bool) := if a0 < 0 then ((Zdq.f k 0 a0).bind fun bt291 => (some (bt291.1, bt291.2))) else ((Zb5.f k 0 a0).bind fun bt293 => (some (bt293.1, bt293.2)))
set_option maxHeartbeats 8000000 in
set_option maxRecDepth 100000 in
theorem Zb9.calls (k : Nat) (a0 : Int) (r1 : Int) (r2 : Bool) (w : World) (h : Zb9.f k a0 = some (r1, r2)) :
  Calls Try.prog 72 #[.int .i64 a0] w fun e w' => e = .returned (.tuple #[.int .i64 r1, .bool r2]) ∧ Below w.heap.size w w' := by
 have HB := Za.mk (Below.refl w.heap.size w)
 have H : (if a0 < 0 then ((Zdq.f k 0 a0).bind fun bt291 => (some (bt291.1, bt291.2))) else ((Zb5.f k 0 a0).bind fun bt293 => (some (bt293.1, bt293.2)))) = some (r1, r2) := h
 clear h
 by_cases c2 : a0 < 0
 ·rw [if_pos c2] at H
  have c2b0 : decide (a0 < 0) = true := decide_eq_true c2
  clear c2
  replace H := Option.bind_eq_some_iff.mp H
  obtain ⟨⟨t291, t292⟩, A30, H⟩ := H
  replace H : (some (t291, t292)) = some (r1, r2) := H
  have A3 := Za.mk A30
  clear A30
  simp only [Option.some.injEq, Prod.mk.injEq] at H
  obtain ⟨rfl, rfl⟩ := H
  go_enter Try.func72, Try.ntmps72
  go_wp2_with (first | ((with_reducible refine Zaw (f := 93) rfl ?_); refine Zbk (some 7) rfl rfl Try.func93 (by kernel_rfl) rfl #[.int .i64 0, .int .i64 a0] rfl (by (try simp only [List.map_toArray, List.map_cons, List.map_nil]); first | done | rfl | (simp only [List.length_drop, List.length_take]; rfl)) ?_; (with_reducible refine (Zdq.calls k 0 a0 t291 t292 _ A3.out).mono ?_); rintro e w4 ⟨rfl, hb⟩; refine ⟨_, rfl, ?_⟩; have n0_ := Za.mk (Zad (by repeat (first | (with_reducible first | exact HB.out | apply Zab | apply Zaa | apply Zac) | exact HB.out)) hb); clear HB; have HB := n0_; clear n0_; (try clear hb); (try clear hb2); (try clear hk); (try clear hi)))
  go_ret2
  exact ⟨by first | rfl | (simp [Zam, Zan] <;> rfl) | (simp [*, Zam, Zan] <;> rfl), by repeat (first | (with_reducible first | exact HB.out | apply Zab | apply Zaa | apply Zac) | exact HB.out)⟩
 rw [if_neg c2] at H
 have c2b0 : decide (a0 < 0) = false := decide_eq_false c2
 clear c2
 replace H := Option.bind_eq_some_iff.mp H
 obtain ⟨⟨t293, t294⟩, A50, H⟩ := H
 replace H : (some (t293, t294)) = some (r1, r2) := H
 have A5 := Za.mk A50
 clear A50
 simp only [Option.some.injEq, Prod.mk.injEq] at H
 obtain ⟨rfl, rfl⟩ := H
 go_enter Try.func72, Try.ntmps72
 go_wp2_with (first | ((with_reducible refine Zaw (f := 74) rfl ?_); refine Zbk (some 11) rfl rfl Try.func74 (by kernel_rfl) rfl #[.int .i64 0, .int .i64 a0] rfl (by (try simp only [List.map_toArray, List.map_cons, List.map_nil]); first | done | rfl | (simp only [List.length_drop, List.length_take]; rfl)) ?_; (with_reducible refine (Zb5.calls k 0 a0 t293 t294 _ A5.out).mono ?_); rintro e w6 ⟨rfl, hb⟩; refine ⟨_, rfl, ?_⟩; have n0_ := Za.mk (Zad (by repeat (first | (with_reducible first | exact HB.out | apply Zab | apply Zaa | apply Zac) | exact HB.out)) hb); clear HB; have HB := n0_; clear n0_; (try clear hb); (try clear hb2); (try clear hk); (try clear hi)))
 go_ret2
 exact ⟨by first | rfl | (simp [Zam, Zan] <;> rfl) | (simp [*, Zam, Zan] <;> rfl), by repeat (first | (with_reducible first | exact HB.out | apply Zab | apply Zaa | apply Zac) | exact HB.out)⟩
def bits_Mul64.f (a0 : Int) (a1 : Int) : Option (Int × Int) := some (IntKind.u64.wrap ((IntKind.u64.wrap ((IntKind.u64.wrap ((a0 / 4294967296) * (a1 / 4294967296))) + ((IntKind.u64.wrap ((IntKind.u64.wrap ((a0 / 4294967296) * (Go.bits .and .u64 a1 4294967295))) + ((IntKind.u64.wrap ((Go.bits .and .u64 a0 4294967295) * (Go.bits .and .u64 a1 4294967295))) / 4294967296))) / 4294967296))) + ((IntKind.u64.wrap ((Go.bits .and .u64 (IntKind.u64.wrap ((IntKind.u64.wrap ((a0 / 4294967296) * (Go.bits .and .u64 a1 4294967295))) + ((IntKind.u64.wrap ((Go.bits .and .u64 a0 4294967295) * (Go.bits .and .u64 a1 4294967295))) / 4294967296))) 4294967295) + (IntKind.u64.wrap ((Go.bits .and .u64 a0 4294967295) * (a1 / 4294967296))))) / 4294967296)), IntKind.u64.wrap (a0 * a1))
set_option maxHeartbeats 8000000 in
set_option maxRecDepth 100000 in
theorem bits_Mul64.calls (a0 : Int) (a1 : Int) (r1 : Int) (r2 : Int) (w : World) (h : bits_Mul64.f a0 a1 = some (r1, r2)) :
  Calls Try.prog 95 #[.int .u64 a0, .int .u64 a1] w fun e w' => e = .returned (.tuple #[.int .u64 r1, .int .u64 r2]) ∧ Zbb w w' := by
 have H : (some (IntKind.u64.wrap ((IntKind.u64.wrap ((IntKind.u64.wrap ((a0 / 4294967296) * (a1 / 4294967296))) + ((IntKind.u64.wrap ((IntKind.u64.wrap ((a0 / 4294967296) * (Go.bits .and .u64 a1 4294967295))) + ((IntKind.u64.wrap ((Go.bits .and .u64 a0 4294967295) * (Go.bits .and .u64 a1 4294967295))) / 4294967296))) / 4294967296))) + ((IntKind.u64.wrap ((Go.bits .and .u64 (IntKind.u64.wrap ((IntKind.u64.wrap ((a0 / 4294967296) * (Go.bits .and .u64 a1 4294967295))) + ((IntKind.u64.wrap ((Go.bits .and .u64 a0 4294967295) * (Go.bits .and .u64 a1 4294967295))) / 4294967296))) 4294967295) + (IntKind.u64.wrap ((Go.bits .and .u64 a0 4294967295) * (a1 / 4294967296))))) / 4294967296)), IntKind.u64.wrap (a0 * a1))) = some (r1, r2) := h
 clear h
 simp only [Option.some.injEq, Prod.mk.injEq] at H
 obtain ⟨rfl, rfl⟩ := H
 go_enter Try.func95, Try.ntmps95
 go_wp2
 go_ret2
 exact ⟨by first | rfl | (simp; done) | (simp [*]; done), by repeat (first | exact Zbb.refl _ | apply Zbb.step)⟩
def Zbw.f (a0 : Int) : Option (Int) := if a0 < 0 then (some (IntKind.u64.wrap (-(IntKind.u64.wrap (a0))))) else (some (IntKind.u64.wrap (a0)))
set_option maxHeartbeats 8000000 in
set_option maxRecDepth 100000 in
theorem Zbw.calls (a0 : Int) (r : Int) (w : World) (h : Zbw.f a0 = some r) :
  Calls Try.prog 96 #[.int .i64 a0] w fun e w' => e = .returned (.int .u64 r) ∧ Zbb w w' := by
 have H : (if a0 < 0 then (some (IntKind.u64.wrap (-(IntKind.u64.wrap (a0))))) else (some (IntKind.u64.wrap (a0)))) = some r := h
 clear h
 by_cases c2 : a0 < 0
 ·rw [if_pos c2] at H
  have c2b0 : decide (a0 < 0) = true := decide_eq_true c2
  clear c2
  obtain rfl := Option.some.inj H
  go_enter Try.func96, Try.ntmps96
  go_wp2
  go_ret
  exact ⟨by first | rfl | (simp; done) | (simp [*]; done), by repeat (first | exact Zbb.refl _ | apply Zbb.step)⟩
 rw [if_neg c2] at H
 have c2b0 : decide (a0 < 0) = false := decide_eq_false c2
 clear c2
 obtain rfl := Option.some.inj H
 go_enter Try.func96, Try.ntmps96
 go_wp2
 go_ret
 exact ⟨by first | rfl | (simp; done) | (simp [*]; done), by repeat (first | exact Zbb.refl _ | apply Zbb.step)⟩
def Zbn.j0 : Nat → Int → Int → Int → Bool → Option (Int × Bool)
 | 0, _, _, _, _ => none
 | k + 1, x0, x1, x7, x26 => if x26 = true then (some (0, false)) else (if ((decide (x0 < 0)) != (decide (x1 < 0))) = true then (some (wrap64 (-(wrap64 (x7))), true)) else (some (wrap64 (x7), true)))
def Zbn.f (k : Nat) (a0 : Int) (a1 : Int) : Option (Int × Bool) := (Za8.f k (([a0, a1] : List Int))).bind fun t298 => (if t298 = true then ((Zbw.f a0).bind fun t299 => ((Zbw.f a1).bind fun t300 => ((bits_Mul64.f t299 t300).bind fun bt301 => (if bt301.1 = 0 then (Zbn.j0 k a0 a1 bt301.2 (decide (bt301.2 > 4611686018427387904))) else (Zbn.j0 k a0 a1 bt301.2 true))))) else (some (0, false)))
set_option maxHeartbeats 8000000 in
set_option maxRecDepth 100000 in
theorem Zbn.calls (k : Nat) (a0 : Int) (a1 : Int) (r1 : Int) (r2 : Bool) (w : World) (h : Zbn.f k a0 a1 = some (r1, r2)) :
  Calls Try.prog 73 #[.int .i64 a0, .int .i64 a1] w fun e w' => e = .returned (.tuple #[.int .i64 r1, .bool r2]) ∧ Below w.heap.size w w' := by
 have HB := Za.mk (Below.refl w.heap.size w)
 have H : ((Za8.f k (([a0, a1] : List Int))).bind fun t298 => (if t298 = true then ((Zbw.f a0).bind fun t299 => ((Zbw.f a1).bind fun t300 => ((bits_Mul64.f t299 t300).bind fun bt301 => (if bt301.1 = 0 then (Zbn.j0 k a0 a1 bt301.2 (decide (bt301.2 > 4611686018427387904))) else (Zbn.j0 k a0 a1 bt301.2 true))))) else (some (0, false)))) = some (r1, r2) := h
 clear h
 obtain ⟨y295, hy295⟩ : ∃ y_ : List Int, y_ = (([a0, a1] : List Int)) := ⟨_, rfl⟩
 replace H : ((Za8.f k y295).bind fun t298 => (if t298 = true then ((Zbw.f a0).bind fun t299 => ((Zbw.f a1).bind fun t300 => ((bits_Mul64.f t299 t300).bind fun bt301 => (if bt301.1 = 0 then (Zbn.j0 k a0 a1 bt301.2 (decide (bt301.2 > 4611686018427387904))) else (Zbn.j0 k a0 a1 bt301.2 true))))) else (some (0, false)))) = some (r1, r2) := by first | (rw [hy295]; with_reducible exact H) | (have H2_ := (Option.bind_some _ _).symm.trans H; rw [hy295]; with_reducible exact H2_) | (have H2_ := (Option.bind_some _ _).symm.trans H; with_reducible exact H2_) | with_reducible exact H | (rw [hy295]; exact H) | exact H
 have Ny295 := Za.mk hy295
 clear hy295
 replace H := Option.bind_eq_some_iff.mp H
 obtain ⟨t298, A30, H⟩ := H
 replace H : (if t298 = true then ((Zbw.f a0).bind fun t299 => ((Zbw.f a1).bind fun t300 => ((bits_Mul64.f t299 t300).bind fun bt301 => (if bt301.1 = 0 then (Zbn.j0 k a0 a1 bt301.2 (decide (bt301.2 > 4611686018427387904))) else (Zbn.j0 k a0 a1 bt301.2 true))))) else (some (0, false))) = some (r1, r2) := H
 have A3 := Za.mk A30
 clear A30
 by_cases c4 : t298 = true
 rotate_left
 ·replace c4 := Bool.eq_false_iff.mpr c4
  subst c4
  have H1 : (some (0, false)) = some (r1, r2) := by rw [if_neg (show ¬ (false = true) by decide)] at H; exact H
  clear H
  have H := H1
  clear H1
  simp only [Option.some.injEq, Prod.mk.injEq] at H
  obtain ⟨rfl, rfl⟩ := H
  go_enter Try.func73, Try.ntmps73
  go_wp2_with (first | ((with_reducible refine Zaz (N := 10) rfl ?_); refine Kd.Zcs (Kd.int .i64) _ 3 ?hg (N := 10) ?hd (xs := ([a0, a1] : List Int)) (inner := [.int .i64 a0, .int .i64 a1]) (ok := fun _ => True) (okp := fun _ => True) ?hr ?hp (fun _ hk => hk) trivial (Below.refl _ _) (Nat.le_refl _) (by simp) ?_; (case hd => rfl); (case hg => rfl); (case hr => first | (go_simp; done) | (go_simp; rfl)); (case hp => exact (Reps.one (show Kd.M (Kd.int .i64) _ _ _ a0 [.int .i64 a0] from rfl) (Reps.one (show Kd.M (Kd.int .i64) _ _ _ a1 [.int .i64 a1] from rfl) (Reps.none _ _)))); intro v296 w15 ho16 hb hg_ hnew_; clear hg_ hnew_; (first | rw [← Ny295.out] at ho16 | (simp only [Int.reduceToNat] at ho16; rw [← Ny295.out] at ho16)); have n0_ := Za.mk (Kd.Zbq ho16 (Zaj (by repeat (first | (with_reducible first | exact HB.out | apply Zab | apply Zaa | apply Zac) | exact HB.out)))); have n1_ := Za.mk (Zad (by repeat (first | (with_reducible first | exact HB.out | apply Zab | apply Zaa | apply Zac) | exact HB.out)) hb); clear HB; have HO297 := n0_; have HB := n1_; clear n0_ n1_; clear hb ho16; obtain ⟨Ao17, co17, eo17⟩ := Kd.Za9 HO297.out; subst eo17) | ((with_reducible refine Zaw (f := 94) rfl ?_); refine Zbk (some 11) rfl rfl Try.func94 (by kernel_rfl) rfl #[.slice Ao17 y295.length co17] rfl (by (try simp only [List.map_toArray, List.map_cons, List.map_nil]); first | done | rfl | (simp only [List.length_drop, List.length_take]; rfl)) ?_; (with_reducible refine (Za8.calls k _ _ y295 false _ ?side1 ?side2 A3.out).mono ?_); (case side1 => repeat (first | exact (Kd.Za4 HO297.out).2.2 | (with_reducible refine Kd.C_alloc ?_ _) | (with_reducible refine Kd.C_drewN ?_ _) | (with_reducible refine Kd.C_drew ?_))); (case side2 => exact (Kd.Za4 HO297.out).2.1); rintro e w' ⟨rfl, ⟨nd, rfl⟩⟩; refine ⟨_, rfl, ?_⟩))
  go_ret2
  exact ⟨by first | rfl | (simp [Zam, Zan] <;> rfl) | (simp [*, Zam, Zan] <;> rfl), by repeat (first | (with_reducible first | exact HB.out | apply Zab | apply Zaa | apply Zac) | exact HB.out)⟩
 subst c4
 have H1 : ((Zbw.f a0).bind fun t299 => ((Zbw.f a1).bind fun t300 => ((bits_Mul64.f t299 t300).bind fun bt301 => (if bt301.1 = 0 then (Zbn.j0 k a0 a1 bt301.2 (decide (bt301.2 > 4611686018427387904))) else (Zbn.j0 k a0 a1 bt301.2 true))))) = some (r1, r2) := by rw [if_pos rfl] at H; exact H
 clear H
 have H := H1
 clear H1
 replace H := Option.bind_eq_some_iff.mp H
 obtain ⟨t299, A50, H⟩ := H
 replace H : ((Zbw.f a1).bind fun t300 => ((bits_Mul64.f t299 t300).bind fun bt301 => (if bt301.1 = 0 then (Zbn.j0 k a0 a1 bt301.2 (decide (bt301.2 > 4611686018427387904))) else (Zbn.j0 k a0 a1 bt301.2 true)))) = some (r1, r2) := H
 have A5 := Za.mk A50
 clear A50
 replace H := Option.bind_eq_some_iff.mp H
 obtain ⟨t300, A60, H⟩ := H
 replace H : ((bits_Mul64.f t299 t300).bind fun bt301 => (if bt301.1 = 0 then (Zbn.j0 k a0 a1 bt301.2 (decide (bt301.2 > 4611686018427387904))) else (Zbn.j0 k a0 a1 bt301.2 true))) = some (r1, r2) := H
 have A6 := Za.mk A60
 clear A60
 replace H := Option.bind_eq_some_iff.mp H
 obtain ⟨⟨t301, t302⟩, A70, H⟩ := H
 replace H : (if t301 = 0 then (Zbn.j0 k a0 a1 t302 (decide (t302 > 4611686018427387904))) else (Zbn.j0 k a0 a1 t302 true)) = some (r1, r2) := H
 have A7 := Za.mk A70
 clear A70
 have HC8 := Za.mk H
 clear H
 go_enter Try.func73, Try.ntmps73
 go_upto_region 4 with (first | ((with_reducible refine Zaz (N := 10) rfl ?_); refine Kd.Zcs (Kd.int .i64) _ 3 ?hg (N := 10) ?hd (xs := ([a0, a1] : List Int)) (inner := [.int .i64 a0, .int .i64 a1]) (ok := fun _ => True) (okp := fun _ => True) ?hr ?hp (fun _ hk => hk) trivial (Below.refl _ _) (Nat.le_refl _) (by simp) ?_; (case hd => rfl); (case hg => rfl); (case hr => first | (go_simp; done) | (go_simp; rfl)); (case hp => exact (Reps.one (show Kd.M (Kd.int .i64) _ _ _ a0 [.int .i64 a0] from rfl) (Reps.one (show Kd.M (Kd.int .i64) _ _ _ a1 [.int .i64 a1] from rfl) (Reps.none _ _)))); intro v296 w9 ho10 hb hg_ hnew_; clear hg_ hnew_; (first | rw [← Ny295.out] at ho10 | (simp only [Int.reduceToNat] at ho10; rw [← Ny295.out] at ho10)); have n0_ := Za.mk (Kd.Zbq ho10 (Zaj (by repeat (first | (with_reducible first | exact HB.out | apply Zab | apply Zaa | apply Zac) | exact HB.out)))); have n1_ := Za.mk (Zad (by repeat (first | (with_reducible first | exact HB.out | apply Zab | apply Zaa | apply Zac) | exact HB.out)) hb); clear HB; have HO297 := n0_; have HB := n1_; clear n0_ n1_; clear hb ho10; obtain ⟨Ao11, co11, eo11⟩ := Kd.Za9 HO297.out; subst eo11) | ((with_reducible refine Zaw (f := 94) rfl ?_); refine Zbk (some 11) rfl rfl Try.func94 (by kernel_rfl) rfl #[.slice Ao11 y295.length co11] rfl (by (try simp only [List.map_toArray, List.map_cons, List.map_nil]); first | done | rfl | (simp only [List.length_drop, List.length_take]; rfl)) ?_; (with_reducible refine (Za8.calls k _ _ y295 true _ ?side1 ?side2 A3.out).mono ?_); (case side1 => repeat (first | exact (Kd.Za4 HO297.out).2.2 | (with_reducible refine Kd.C_alloc ?_ _) | (with_reducible refine Kd.C_drewN ?_ _) | (with_reducible refine Kd.C_drew ?_))); (case side2 => exact (Kd.Za4 HO297.out).2.1); rintro e w' ⟨rfl, ⟨nd, rfl⟩⟩; refine ⟨_, rfl, ?_⟩) | ((with_reducible refine Zaw (f := 96) rfl ?_); refine Zbk (some 15) rfl rfl Try.func96 (by kernel_rfl) rfl #[.int .i64 a0] rfl (by (try simp only [List.map_toArray, List.map_cons, List.map_nil]); first | done | rfl | (simp only [List.length_drop, List.length_take]; rfl)) ?_; (with_reducible refine (Zbw.calls a0 t299 _ A5.out).mono ?_); rintro e w' ⟨rfl, ⟨nd, rfl⟩⟩; refine ⟨_, rfl, ?_⟩) | ((with_reducible refine Zaw (f := 96) rfl ?_); refine Zbk (some 17) rfl rfl Try.func96 (by kernel_rfl) rfl #[.int .i64 a1] rfl (by (try simp only [List.map_toArray, List.map_cons, List.map_nil]); first | done | rfl | (simp only [List.length_drop, List.length_take]; rfl)) ?_; (with_reducible refine (Zbw.calls a1 t300 _ A6.out).mono ?_); rintro e w' ⟨rfl, ⟨nd, rfl⟩⟩; refine ⟨_, rfl, ?_⟩) | ((with_reducible refine Zaw (f := 95) rfl ?_); refine Zbk (some 18) rfl rfl Try.func95 (by kernel_rfl) rfl #[.int .u64 t299, .int .u64 t300] rfl (by (try simp only [List.map_toArray, List.map_cons, List.map_nil]); first | done | rfl | (simp only [List.length_drop, List.length_take]; rfl)) ?_; (with_reducible refine (bits_Mul64.calls t299 t300 t301 t302 _ A7.out).mono ?_); rintro e w' ⟨rfl, ⟨nd, rfl⟩⟩; refine ⟨_, rfl, ?_⟩))
 (try simp only [Act.put, List.setIfInBounds_toArray, List.set_cons_zero, List.set_cons_succ])
 go_cut [26] (fun v26 wc => ∃ (kq : Nat) (x26_7 : Bool), v26 = .bool x26_7 ∧ Za (Zbn.j0 kq a0 a1 t302 x26_7 = some (r1, r2)) ∧ Za (kq ≤ k) ∧ Za (Below w.heap.size w wc))
 case first =>
  have H := HC8.out
  clear HC8
  by_cases c12 : t301 = 0
  rotate_left
  ·rw [if_neg c12] at H
   have c12b0 : (t301 == 0) = false := beq_eq_false_iff_ne.mpr c12
   have c12b1 : (t301 != 0) = true := bne_iff_ne.mpr c12
   (first | rw [c12b0] | (simp only [Zas, Zat]; rw [c12b0]) | skip)
   have H' := Za.mk H
   clear H
   go_wp2
   go_meet
   case rel => exact ⟨_, (true), (by first | rfl | (simp; done) | (simp [*]; done)), H', ⟨by first | omega | exact Nat.le_refl _⟩, ⟨by repeat (first | (with_reducible first | exact HB.out | apply Zab | apply Zaa | apply Zac) | exact HB.out)⟩⟩
  rw [if_pos c12] at H
  have c12b0 : (t301 == 0) = true := beq_iff_eq.mpr c12
  have c12b1 : (t301 != 0) = false := bne_eq_false_iff_eq.mpr c12
  clear c12
  (first | rw [c12b0] | (simp only [Zas, Zat]; rw [c12b0]) | skip)
  have H' := Za.mk H
  clear H
  go_wp2
  go_meet
  case rel => exact ⟨_, (decide (t302 > 4611686018427387904)), (by first | rfl | (simp; done) | (simp [*]; done)), H', ⟨by first | omega | exact Nat.le_refl _⟩, ⟨by repeat (first | (with_reducible first | exact HB.out | apply Zab | apply Zaa | apply Zac) | exact HB.out)⟩⟩
 case rest =>
  clear HC8
  try clear c1
  try clear p2
  try clear c4
  try clear c7
  try clear c9
  try clear c12
  try clear c12b0
  try clear c12b1
  obtain ⟨kq, x26_7, rfl, HA, HJ7, HB⟩ := hcut
  cases kq with
  | zero => exact absurd HA.out (by simp [Zbn.j0])
  | succ kj7 =>
   have H := HA.out
   clear HA
   simp only [Zbn.j0] at H
   by_cases c13 : x26_7 = true
   ·subst c13
    have H1 : (some (0, false)) = some (r1, r2) := by rw [if_pos rfl] at H; exact H
    clear H
    have H := H1
    clear H1
    simp only [Option.some.injEq, Prod.mk.injEq] at H
    obtain ⟨rfl, rfl⟩ := H
    go_wp2
    go_ret2
    exact ⟨by first | rfl | (simp [Zam, Zan] <;> rfl) | (simp [*, Zam, Zan] <;> rfl), by repeat (first | (with_reducible first | exact HB.out | apply Zab | apply Zaa | apply Zac) | exact HB.out)⟩
   replace c13 := Bool.eq_false_iff.mpr c13
   subst c13
   have H1 : (if ((decide (a0 < 0)) != (decide (a1 < 0))) = true then (some (wrap64 (-(wrap64 (t302))), true)) else (some (wrap64 (t302), true))) = some (r1, r2) := by rw [if_neg (show ¬ (false = true) by decide)] at H; exact H
   clear H
   have H := H1
   clear H1
   by_cases c14 : ((decide (a0 < 0)) != (decide (a1 < 0))) = true
   rotate_left
   ·rw [if_neg c14] at H
    have c14b0 : ((decide (a0 < 0)) != (decide (a1 < 0))) = false := by simpa using c14
    (try (have c14b1 : decide ((decide (a0 < 0)) = (decide (a1 < 0))) = true := by simpa using c14))
    (try (have c14b2 : ((decide (a0 < 0)) == (decide (a1 < 0))) = true := by simpa using c14))
    clear c14
    simp only [Option.some.injEq, Prod.mk.injEq] at H
    obtain ⟨rfl, rfl⟩ := H
    go_wp2
    go_ret2
    exact ⟨by first | rfl | (simp [Zam, Zan] <;> rfl) | (simp [*, Zam, Zan] <;> rfl), by repeat (first | (with_reducible first | exact HB.out | apply Zab | apply Zaa | apply Zac) | exact HB.out)⟩
   rw [if_pos c14] at H
   have c14b0 : ((decide (a0 < 0)) != (decide (a1 < 0))) = true := c14
   (try (have c14b1 : decide ((decide (a0 < 0)) = (decide (a1 < 0))) = false := by simpa using c14))
   (try (have c14b2 : ((decide (a0 < 0)) == (decide (a1 < 0))) = false := by simpa using c14))
   (try (have c14b3 : ¬ ((decide (a0 < 0)) = (decide (a1 < 0))) := by simpa using c14))
   clear c14
   simp only [Option.some.injEq, Prod.mk.injEq] at H
   obtain ⟨rfl, rfl⟩ := H
   go_wp2
   go_ret2
   exact ⟨by first | rfl | (simp [Zam, Zan] <;> rfl) | (simp [*, Zam, Zan] <;> rfl), by repeat (first | (with_reducible first | exact HB.out | apply Zab | apply Zaa | apply Zac) | exact HB.out)⟩
def Zbo.l0 : Nat → Int → Bool → List Int → Int → Int → Option (Bool)
 | 0, _, _, _, _, _ => none
 | k + 1, x5, x6, x16, x17, x18 => if x18 < x17 then (if 0 ≤ x18 then (if x18 < (x16.length : Int) then ((Zb9.f k (rd x16 x18)).bind fun bt306 => (if bt306.2 = true then ((Zbn.f k bt306.1 1048576).bind fun bt308 => (if bt308.2 = true then (if x6 = true then ((Zb5.f k x5 bt308.1).bind fun bt310 => (Zbo.l0 k bt310.1 bt310.2 x16 x17 (wrap64 (x18 + 1)))) else (some true)) else (some true))) else (some true))) else (none)) else (none)) else (some (!x6))
def Zbo.f (k : Nat) (l0 : List Int) (a1 : Int) : Option (Bool) := (Zb9.f k a1).bind fun bt303 => (Zbo.l0 k bt303.1 bt303.2 l0 (l0.length : Int) 0)
set_option maxHeartbeats 8000000 in
set_option maxRecDepth 100000 in
theorem Zbo.calls (k : Nat) (A0 : Option Addr) (c0 : Nat) (l0 : List Int) (a1 : Int) (r : Bool) (w : World) (hr0 : Kd.C (Kd.int .i64) w A0 l0.length l0) (hc0 : l0.length ≤ c0) (h : Zbo.f k l0 a1 = some r) :
  Calls Try.prog 41 #[.slice A0 l0.length c0, .int .i64 a1] w fun e w' => e = .returned (.bool r) ∧ Below w.heap.size w w' := by
 have HR0 := Za.mk hr0
 have HC0 := Za.mk hc0
 clear hr0 hc0
 have HB := Za.mk (Below.refl w.heap.size w)
 have H : ((Zb9.f k a1).bind fun bt303 => (Zbo.l0 k bt303.1 bt303.2 l0 (l0.length : Int) 0)) = some r := h
 clear h
 replace H := Option.bind_eq_some_iff.mp H
 obtain ⟨⟨t303, t304⟩, A30, H⟩ := H
 replace H : (Zbo.l0 k t303 t304 l0 (l0.length : Int) 0) = some r := H
 have A3 := Za.mk A30
 clear A30
 have H' := Za.mk H
 clear H
 go_enter Try.func41, Try.ntmps41
 go_wp2_with (first | ((with_reducible refine Zaw (f := 72) rfl ?_); refine Zbk (some 13) rfl rfl Try.func72 (by kernel_rfl) rfl #[.int .i64 a1] rfl (by (try simp only [List.map_toArray, List.map_cons, List.map_nil]); first | done | rfl | (simp only [List.length_drop, List.length_take]; rfl)) ?_; (with_reducible refine (Zb9.calls k a1 t303 t304 _ A3.out).mono ?_); rintro e w4 ⟨rfl, hb⟩; refine ⟨_, rfl, ?_⟩; have n0_ := Za.mk (Zad (by repeat (first | (with_reducible first | exact HB.out | apply Zab | apply Zaa | apply Zac) | exact HB.out)) hb); clear HB; have HB := n0_; clear n0_; (try clear hb); (try clear hb2); (try clear hk); (try clear hi)))
 go_loopg [5, 6, 18] k (fun kq v5 v6 v18 w' => ∃ (x5_1 : Int) (x6_1 : Bool) (x18_1 : Int), v5 = .int .i64 x5_1 ∧ v6 = .bool x6_1 ∧ v18 = .int .i64 x18_1 ∧ Za (Zbo.l0 kq x5_1 x6_1 l0 (l0.length : Int) x18_1 = some r) ∧ Za (kq ≤ k) ∧ Za (Below w.heap.size w w'))
 case atStart => exact ⟨(t303), (t304), (0), (by first | rfl | (simp; done) | (simp [*]; done)), (by first | rfl | (simp; done) | (simp [*]; done)), (by first | rfl | (simp; done) | (simp [*]; done)), H', ⟨Nat.le_refl _⟩, ⟨by repeat (first | (with_reducible first | exact HB.out | apply Zab | apply Zaa | apply Zac) | exact HB.out)⟩⟩
 case round =>
  clear H'
  try clear p2
  try clear c4
  obtain ⟨x5_1, x6_1, x18_1, rfl, rfl, rfl, HA, HK1, HB⟩ := hrel
  cases gk with
  | zero => exact absurd HA.out (by simp [Zbo.l0])
  | succ k1 =>
   have H := HA.out
   clear HA
   simp only [Zbo.l0] at H
   by_cases c5 : x18_1 < (l0.length : Int)
   rotate_left
   ·rw [if_neg c5] at H
    have c5b0 : decide (x18_1 < (l0.length : Int)) = false := decide_eq_false c5
    clear c5
    obtain rfl := Option.some.inj H
    go_wp2
    go_ret
    exact ⟨by first | rfl | (simp [Zam, Zan] <;> rfl) | (simp [*, Zam, Zan] <;> rfl), by repeat (first | (with_reducible first | exact HB.out | apply Zab | apply Zaa | apply Zac) | exact HB.out)⟩
   rw [if_pos c5] at H
   have c5b0 : decide (x18_1 < (l0.length : Int)) = true := decide_eq_true c5
   clear c5
   by_cases c6 : 0 ≤ x18_1
   rotate_left
   ·rw [if_neg c6] at H
    exact absurd H (by simp)
   rw [if_pos c6] at H
   have c6b0 : decide (0 ≤ x18_1) = true := decide_eq_true c6
   clear c6
   by_cases c7 : x18_1 < (l0.length : Int)
   rotate_left
   ·rw [if_neg c7] at H
    exact absurd H (by simp)
   rw [if_pos c7] at H
   have c7b0 : decide (x18_1 < (l0.length : Int)) = true := decide_eq_true c7
   clear c7
   replace H := Option.bind_eq_some_iff.mp H
   obtain ⟨⟨t306, t307⟩, A80, H⟩ := H
   replace H : (if t307 = true then ((Zbn.f k1 t306 1048576).bind fun bt308 => (if bt308.2 = true then (if x6_1 = true then ((Zb5.f k1 x5_1 bt308.1).bind fun bt310 => (Zbo.l0 k1 bt310.1 bt310.2 l0 (l0.length : Int) (wrap64 (x18_1 + 1)))) else (some true)) else (some true))) else (some true)) = some r := H
   have A8 := Za.mk A80
   clear A80
   by_cases c9 : t307 = true
   rotate_left
   ·replace c9 := Bool.eq_false_iff.mpr c9
    subst c9
    have H1 : (some true) = some r := by rw [if_neg (show ¬ (false = true) by decide)] at H; exact H
    clear H
    have H := H1
    clear H1
    obtain rfl := Option.some.inj H
    have p305 : 0 ≤ (x18_1 : Int) := of_decide_eq_true (by first | (with_reducible assumption) | assumption)
    have q305 : x18_1 < (l0.length : Int) := of_decide_eq_true (by first | (with_reducible assumption) | assumption)
    obtain ⟨ad305, e305, hx305_0⟩ := Kd.Zcy HR0.out x18_1 p305 q305
    cases e305
    replace hx305_0 := (HB.out.cell (World.block_lt_of_cell? w _ hx305_0)).trans hx305_0
    replace p305 := eq_true p305
    replace q305 := eq_true q305
    go_wp2_with (first | ((with_reducible refine Zaw (f := 72) rfl ?_); refine Zbk (some 24) rfl rfl Try.func72 (by kernel_rfl) rfl #[.int .i64 (rd l0 x18_1)] rfl (by (try simp only [List.map_toArray, List.map_cons, List.map_nil]); first | done | rfl | (simp only [List.length_drop, List.length_take]; rfl)) ?_; (with_reducible refine (Zb9.calls k1 (rd l0 x18_1) t306 false _ A8.out).mono ?_); rintro e w21 ⟨rfl, hb⟩; refine ⟨_, rfl, ?_⟩; have n0_ := Za.mk (Zad (by repeat (first | (with_reducible first | exact HB.out | apply Zab | apply Zaa | apply Zac) | exact HB.out)) hb); clear HB; have HB := n0_; clear n0_; (try clear hb); (try clear hb2); (try clear hk); (try clear hi)))
    go_ret
    exact ⟨by first | rfl | (simp [Zam, Zan] <;> rfl) | (simp [*, Zam, Zan] <;> rfl), by repeat (first | (with_reducible first | exact HB.out | apply Zab | apply Zaa | apply Zac) | exact HB.out)⟩
   subst c9
   have H1 : ((Zbn.f k1 t306 1048576).bind fun bt308 => (if bt308.2 = true then (if x6_1 = true then ((Zb5.f k1 x5_1 bt308.1).bind fun bt310 => (Zbo.l0 k1 bt310.1 bt310.2 l0 (l0.length : Int) (wrap64 (x18_1 + 1)))) else (some true)) else (some true))) = some r := by rw [if_pos rfl] at H; exact H
   clear H
   have H := H1
   clear H1
   replace H := Option.bind_eq_some_iff.mp H
   obtain ⟨⟨t308, t309⟩, A100, H⟩ := H
   replace H : (if t309 = true then (if x6_1 = true then ((Zb5.f k1 x5_1 t308).bind fun bt310 => (Zbo.l0 k1 bt310.1 bt310.2 l0 (l0.length : Int) (wrap64 (x18_1 + 1)))) else (some true)) else (some true)) = some r := H
   have A10 := Za.mk A100
   clear A100
   by_cases c11 : t309 = true
   rotate_left
   ·replace c11 := Bool.eq_false_iff.mpr c11
    subst c11
    have H1 : (some true) = some r := by rw [if_neg (show ¬ (false = true) by decide)] at H; exact H
    clear H
    have H := H1
    clear H1
    obtain rfl := Option.some.inj H
    have p305 : 0 ≤ (x18_1 : Int) := of_decide_eq_true (by first | (with_reducible assumption) | assumption)
    have q305 : x18_1 < (l0.length : Int) := of_decide_eq_true (by first | (with_reducible assumption) | assumption)
    obtain ⟨ad305, e305, hx305_0⟩ := Kd.Zcy HR0.out x18_1 p305 q305
    cases e305
    replace hx305_0 := (HB.out.cell (World.block_lt_of_cell? w _ hx305_0)).trans hx305_0
    replace p305 := eq_true p305
    replace q305 := eq_true q305
    go_wp2_with (first | ((with_reducible refine Zaw (f := 72) rfl ?_); refine Zbk (some 24) rfl rfl Try.func72 (by kernel_rfl) rfl #[.int .i64 (rd l0 x18_1)] rfl (by (try simp only [List.map_toArray, List.map_cons, List.map_nil]); first | done | rfl | (simp only [List.length_drop, List.length_take]; rfl)) ?_; (with_reducible refine (Zb9.calls k1 (rd l0 x18_1) t306 true _ A8.out).mono ?_); rintro e w19 ⟨rfl, hb⟩; refine ⟨_, rfl, ?_⟩; have n0_ := Za.mk (Zad (by repeat (first | (with_reducible first | exact HB.out | apply Zab | apply Zaa | apply Zac) | exact HB.out)) hb); clear HB; have HB := n0_; clear n0_; (try clear hb); (try clear hb2); (try clear hk); (try clear hi)) | ((with_reducible refine Zaw (f := 73) rfl ?_); refine Zbk (some 30) rfl rfl Try.func73 (by kernel_rfl) rfl #[.int .i64 t306, .int .i64 1048576] rfl (by (try simp only [List.map_toArray, List.map_cons, List.map_nil]); first | done | rfl | (simp only [List.length_drop, List.length_take]; rfl)) ?_; (with_reducible refine (Zbn.calls k1 t306 1048576 t308 false _ A10.out).mono ?_); rintro e w20 ⟨rfl, hb⟩; refine ⟨_, rfl, ?_⟩; have n0_ := Za.mk (Zad (by repeat (first | (with_reducible first | exact HB.out | apply Zab | apply Zaa | apply Zac) | exact HB.out)) hb); clear HB; have HB := n0_; clear n0_; (try clear hb); (try clear hb2); (try clear hk); (try clear hi)))
    go_ret
    exact ⟨by first | rfl | (simp [Zam, Zan] <;> rfl) | (simp [*, Zam, Zan] <;> rfl), by repeat (first | (with_reducible first | exact HB.out | apply Zab | apply Zaa | apply Zac) | exact HB.out)⟩
   subst c11
   have H1 : (if x6_1 = true then ((Zb5.f k1 x5_1 t308).bind fun bt310 => (Zbo.l0 k1 bt310.1 bt310.2 l0 (l0.length : Int) (wrap64 (x18_1 + 1)))) else (some true)) = some r := by rw [if_pos rfl] at H; exact H
   clear H
   have H := H1
   clear H1
   by_cases c12 : x6_1 = true
   rotate_left
   ·replace c12 := Bool.eq_false_iff.mpr c12
    subst c12
    have H1 : (some true) = some r := by rw [if_neg (show ¬ (false = true) by decide)] at H; exact H
    clear H
    have H := H1
    clear H1
    obtain rfl := Option.some.inj H
    have p305 : 0 ≤ (x18_1 : Int) := of_decide_eq_true (by first | (with_reducible assumption) | assumption)
    have q305 : x18_1 < (l0.length : Int) := of_decide_eq_true (by first | (with_reducible assumption) | assumption)
    obtain ⟨ad305, e305, hx305_0⟩ := Kd.Zcy HR0.out x18_1 p305 q305
    cases e305
    replace hx305_0 := (HB.out.cell (World.block_lt_of_cell? w _ hx305_0)).trans hx305_0
    replace p305 := eq_true p305
    replace q305 := eq_true q305
    go_wp2_with (first | ((with_reducible refine Zaw (f := 72) rfl ?_); refine Zbk (some 24) rfl rfl Try.func72 (by kernel_rfl) rfl #[.int .i64 (rd l0 x18_1)] rfl (by (try simp only [List.map_toArray, List.map_cons, List.map_nil]); first | done | rfl | (simp only [List.length_drop, List.length_take]; rfl)) ?_; (with_reducible refine (Zb9.calls k1 (rd l0 x18_1) t306 true _ A8.out).mono ?_); rintro e w17 ⟨rfl, hb⟩; refine ⟨_, rfl, ?_⟩; have n0_ := Za.mk (Zad (by repeat (first | (with_reducible first | exact HB.out | apply Zab | apply Zaa | apply Zac) | exact HB.out)) hb); clear HB; have HB := n0_; clear n0_; (try clear hb); (try clear hb2); (try clear hk); (try clear hi)) | ((with_reducible refine Zaw (f := 73) rfl ?_); refine Zbk (some 30) rfl rfl Try.func73 (by kernel_rfl) rfl #[.int .i64 t306, .int .i64 1048576] rfl (by (try simp only [List.map_toArray, List.map_cons, List.map_nil]); first | done | rfl | (simp only [List.length_drop, List.length_take]; rfl)) ?_; (with_reducible refine (Zbn.calls k1 t306 1048576 t308 true _ A10.out).mono ?_); rintro e w18 ⟨rfl, hb⟩; refine ⟨_, rfl, ?_⟩; have n0_ := Za.mk (Zad (by repeat (first | (with_reducible first | exact HB.out | apply Zab | apply Zaa | apply Zac) | exact HB.out)) hb); clear HB; have HB := n0_; clear n0_; (try clear hb); (try clear hb2); (try clear hk); (try clear hi)))
    go_ret
    exact ⟨by first | rfl | (simp [Zam, Zan] <;> rfl) | (simp [*, Zam, Zan] <;> rfl), by repeat (first | (with_reducible first | exact HB.out | apply Zab | apply Zaa | apply Zac) | exact HB.out)⟩
   subst c12
   have H1 : ((Zb5.f k1 x5_1 t308).bind fun bt310 => (Zbo.l0 k1 bt310.1 bt310.2 l0 (l0.length : Int) (wrap64 (x18_1 + 1)))) = some r := by rw [if_pos rfl] at H; exact H
   clear H
   have H := H1
   clear H1
   replace H := Option.bind_eq_some_iff.mp H
   obtain ⟨⟨t310, t311⟩, A130, H⟩ := H
   replace H : (Zbo.l0 k1 t310 t311 l0 (l0.length : Int) (wrap64 (x18_1 + 1))) = some r := H
   have A13 := Za.mk A130
   clear A130
   have H' := Za.mk H
   clear H
   have p305 : 0 ≤ (x18_1 : Int) := of_decide_eq_true (by first | (with_reducible assumption) | assumption)
   have q305 : x18_1 < (l0.length : Int) := of_decide_eq_true (by first | (with_reducible assumption) | assumption)
   obtain ⟨ad305, e305, hx305_0⟩ := Kd.Zcy HR0.out x18_1 p305 q305
   cases e305
   replace hx305_0 := (HB.out.cell (World.block_lt_of_cell? w _ hx305_0)).trans hx305_0
   replace p305 := eq_true p305
   replace q305 := eq_true q305
   go_wp2_with (first | ((with_reducible refine Zaw (f := 72) rfl ?_); refine Zbk (some 24) rfl rfl Try.func72 (by kernel_rfl) rfl #[.int .i64 (rd l0 x18_1)] rfl (by (try simp only [List.map_toArray, List.map_cons, List.map_nil]); first | done | rfl | (simp only [List.length_drop, List.length_take]; rfl)) ?_; (with_reducible refine (Zb9.calls k1 (rd l0 x18_1) t306 true _ A8.out).mono ?_); rintro e w14 ⟨rfl, hb⟩; refine ⟨_, rfl, ?_⟩; have n0_ := Za.mk (Zad (by repeat (first | (with_reducible first | exact HB.out | apply Zab | apply Zaa | apply Zac) | exact HB.out)) hb); clear HB; have HB := n0_; clear n0_; (try clear hb); (try clear hb2); (try clear hk); (try clear hi)) | ((with_reducible refine Zaw (f := 73) rfl ?_); refine Zbk (some 30) rfl rfl Try.func73 (by kernel_rfl) rfl #[.int .i64 t306, .int .i64 1048576] rfl (by (try simp only [List.map_toArray, List.map_cons, List.map_nil]); first | done | rfl | (simp only [List.length_drop, List.length_take]; rfl)) ?_; (with_reducible refine (Zbn.calls k1 t306 1048576 t308 true _ A10.out).mono ?_); rintro e w15 ⟨rfl, hb⟩; refine ⟨_, rfl, ?_⟩; have n0_ := Za.mk (Zad (by repeat (first | (with_reducible first | exact HB.out | apply Zab | apply Zaa | apply Zac) | exact HB.out)) hb); clear HB; have HB := n0_; clear n0_; (try clear hb); (try clear hb2); (try clear hk); (try clear hi)) | ((with_reducible refine Zaw (f := 74) rfl ?_); refine Zbk (some 42) rfl rfl Try.func74 (by kernel_rfl) rfl #[.int .i64 x5_1, .int .i64 t308] rfl (by (try simp only [List.map_toArray, List.map_cons, List.map_nil]); first | done | rfl | (simp only [List.length_drop, List.length_take]; rfl)) ?_; (with_reducible refine (Zb5.calls k1 x5_1 t308 t310 t311 _ A13.out).mono ?_); rintro e w16 ⟨rfl, hb⟩; refine ⟨_, rfl, ?_⟩; have n0_ := Za.mk (Zad (by repeat (first | (with_reducible first | exact HB.out | apply Zab | apply Zaa | apply Zac) | exact HB.out)) hb); clear HB; have HB := n0_; clear n0_; (try clear hb); (try clear hb2); (try clear hk); (try clear hi)))
   go_roundg k1
   case measure => have := HK1.out; omega
   case rel => exact ⟨(t310), (t311), (wrap64 (x18_1 + 1)), (by first | rfl | (simp; done) | (simp [*]; done)), (by first | rfl | (simp; done) | (simp [*]; done)), (by first | rfl | (simp; done) | (simp [*]; done)), H', ⟨by have := HK1.out; omega⟩, ⟨by repeat (first | (with_reducible first | exact HB.out | apply Zab | apply Zaa | apply Zac) | exact HB.out)⟩⟩
end Go.Proofs.Ytkgjaklnbgdmiaa.P
/- model.Con: may a constraint be? -/
namespace Go.Proofs.Ytkgjaklnbgdmiaa.P
open Go.RowKit Go.Shelf Go.Proofs.YtkgjaklnbgdmiaaW.PrintWords Go.Proofs.YtkgjaklnbgdmiaaW.PrintLast Go.Proofs.YtkgjaklnbgdmiaaW.PrintMore
set_option linter.unusedVariables false
set_option linter.unusedSimpArgs false
def Zbl.f (k : Nat) (l0 : List (List S48)) (kd : Int) (vars coefs : List Int) (op rhs : Int) (rows : List (List Int)) (b : Int) : Option Int :=
  if kd < 0 ∨ 7 ≤ kd then some 44
  else if vars.any (awayV l0.length) = true then some 43
  else if kd = 4 ∧ awayV l0.length b = true then some 43
  else (Zbf.f k l0 kd vars coefs op rhs rows b).bind fun r => if r = false then some 44 else (Zbo.f k coefs rhs).bind fun g => some (if g = true then 45 else 0)
set_option maxHeartbeats 1500000 in
set_option maxRecDepth 100000 in
theorem Zbl.calls (k : Nat) (A0 : Option Addr) (c0 : Nat) (l0 : List (List S48)) (kd : Int) (A1 : Option Addr) (c1 : Nat) (vars : List Int) (A2 : Option Addr) (c2 : Nat) (coefs : List Int) (op rhs : Int) (A5 : Option Addr) (c5 : Nat) (rows : List (List Int)) (b : Int) (r : Int) (w : World) (hr0 : Kd.C (Kd.slice 48 k48) w A0 l0.length l0) (hc0 : l0.length ≤ c0) (hr1 : Kd.C (Kd.int .i64) w A1 vars.length vars) (hc1 : vars.length ≤ c1) (hr2 : Kd.C (Kd.int .i64) w A2 coefs.length coefs) (hc2 : coefs.length ≤ c2) (hr5 : Kd.C (Kd.slice 3 (Kd.int .i64)) w A5 rows.length rows) (hc5 : rows.length ≤ c5) (h : Zbl.f k l0 kd vars coefs op rhs rows b = some r) :
    Calls Try.prog 14 #[.slice A0 l0.length c0, .agg #[.int .i64 kd, .slice A1 vars.length c1, .slice A2 coefs.length c2, .int .i64 op, .int .i64 rhs, .slice A5 rows.length c5, .int .i64 b]] w fun e w' => e = .returned (.int .i64 r) ∧ Below w.heap.size w w' := by
  have HC := Za.mk (Zcq A0 c0 l0 kd A1 c1 vars A2 c2 coefs op rhs A5 c5 rows b w hr0 hc0 hr1 hc1 hr2 hc2 hr5 hc5)
  have hwB : Below w.heap.size w ((w.alloc (.cells #[.slice A0 l0.length c0] 33)).alloc (.cells #[.int .i64 kd, .slice A1 vars.length c1, .slice A2 coefs.length c2, .int .i64 op, .int .i64 rhs, .slice A5 rows.length c5, .int .i64 b] 31)) := Zab (Zab (Below.refl _ _) _) _
  have HWB := Za.mk hwB
  clear hwB hr0 hr1 hr2 hr5
  have CC := Za.mk (fun (w' : World) (hw : Below ((w.alloc (.cells #[.slice A0 l0.length c0] 33)).alloc (.cells #[.int .i64 kd, .slice A1 vars.length c1, .slice A2 coefs.length c2, .int .i64 op, .int .i64 rhs, .slice A5 rows.length c5, .int .i64 b] 31)).heap.size ((w.alloc (.cells #[.slice A0 l0.length c0] 33)).alloc (.cells #[.int .i64 kd, .slice A1 vars.length c1, .slice A2 coefs.length c2, .int .i64 op, .int .i64 rhs, .slice A5 rows.length c5, .int .i64 b] 31)) w') => Zd (awayV l0.length) 38 #[.pointer (some ⟨w.heap.size, 0, none⟩)] (enters_of Try.func38 (by kernel_rfl) rfl) A1 c1 vars w' (Kd.Zak HC.out.r1 hw) (fun k _ q => awayPred _ _ A0 l0.length c0 _ ((HC.out.below (Zad hw (Zaa (Below.refl _ _) q))).ed)))
  have CB := Za.mk (fun (w' : World) (hw : Below ((w.alloc (.cells #[.slice A0 l0.length c0] 33)).alloc (.cells #[.int .i64 kd, .slice A1 vars.length c1, .slice A2 coefs.length c2, .int .i64 op, .int .i64 rhs, .slice A5 rows.length c5, .int .i64 b] 31)).heap.size ((w.alloc (.cells #[.slice A0 l0.length c0] 33)).alloc (.cells #[.int .i64 kd, .slice A1 vars.length c1, .slice A2 coefs.length c2, .int .i64 op, .int .i64 rhs, .slice A5 rows.length c5, .int .i64 b] 31)) w') => awayPred b w.heap.size A0 l0.length c0 w' ((HC.out.below hw).ed))
  have CR := Za.mk (fun (w' : World) (hw : Below ((w.alloc (.cells #[.slice A0 l0.length c0] 33)).alloc (.cells #[.int .i64 kd, .slice A1 vars.length c1, .slice A2 coefs.length c2, .int .i64 op, .int .i64 rhs, .slice A5 rows.length c5, .int .i64 b] 31)).heap.size ((w.alloc (.cells #[.slice A0 l0.length c0] 33)).alloc (.cells #[.int .i64 kd, .slice A1 vars.length c1, .slice A2 coefs.length c2, .int .i64 op, .int .i64 rhs, .slice A5 rows.length c5, .int .i64 b] 31)) w') (q : Bool) (hq : Zbf.f k l0 kd vars coefs op rhs rows b = some q) => Zbf.calls k A0 c0 l0 kd A1 c1 vars A2 c2 coefs op rhs A5 c5 rows b q w' (Kd.Zak HC.out.rd hw) hc0 (Kd.Zak HC.out.r1 hw) hc1 (Kd.Zak HC.out.r2 hw) hc2 (Kd.Zak HC.out.r5 hw) hc5 hq)
  have CG := Za.mk (fun (w' : World) (hw : Below ((w.alloc (.cells #[.slice A0 l0.length c0] 33)).alloc (.cells #[.int .i64 kd, .slice A1 vars.length c1, .slice A2 coefs.length c2, .int .i64 op, .int .i64 rhs, .slice A5 rows.length c5, .int .i64 b] 31)).heap.size ((w.alloc (.cells #[.slice A0 l0.length c0] 33)).alloc (.cells #[.int .i64 kd, .slice A1 vars.length c1, .slice A2 coefs.length c2, .int .i64 op, .int .i64 rhs, .slice A5 rows.length c5, .int .i64 b] 31)) w') (q : Bool) (hq : Zbo.f k coefs rhs = some q) => Zbo.calls k A2 c2 coefs rhs q w' (Kd.Zak HC.out.r2 hw) hc2 hq)
  have BW := Za.mk (Below.refl ((w.alloc (.cells #[.slice A0 l0.length c0] 33)).alloc (.cells #[.int .i64 kd, .slice A1 vars.length c1, .slice A2 coefs.length c2, .int .i64 op, .int .i64 rhs, .slice A5 rows.length c5, .int .i64 b] 31)).heap.size ((w.alloc (.cells #[.slice A0 l0.length c0] 33)).alloc (.cells #[.int .i64 kd, .slice A1 vars.length c1, .slice A2 coefs.length c2, .int .i64 op, .int .i64 rhs, .slice A5 rows.length c5, .int .i64 b] 31)))
  unfold Zbl.f at h
  by_cases n0 : kd < 0
  · rw [if_pos (Or.inl n0)] at h; obtain rfl := Option.some.inj h; clear h
    have d0_ : decide (kd < 0) = true := decide_eq_true n0
    clear n0
    go_enter Try.func14, Try.ntmps14
    go_wp2
    go_ret
    exact ⟨by first | rfl | (simp [*]; done) | (simp [*]; rfl), Zad HWB.out (mvB BW.out)⟩
  have d0_ : decide (kd < 0) = false := decide_eq_false n0
  by_cases n7 : 7 ≤ kd
  · rw [if_pos (Or.inr n7)] at h; obtain rfl := Option.some.inj h; clear h
    have d7_ : decide (7 ≤ kd) = true := decide_eq_true n7
    clear n0 n7
    go_enter Try.func14, Try.ntmps14
    go_wp2
    go_ret
    exact ⟨by first | rfl | (simp [*]; done) | (simp [*]; rfl), Zad HWB.out (mvB BW.out)⟩
  have d7_ : decide (7 ≤ kd) = false := decide_eq_false n7
  rw [if_neg (fun h_ => h_.elim n0 n7)] at h
  clear n0 n7
  generalize hav : vars.any (awayV l0.length) = av at CC h
  have HAV := Za.mk hav
  clear hav
  cases av with
  | true =>
    rw [if_pos rfl] at h; obtain rfl := Option.some.inj h; clear h
    go_enter Try.func14, Try.ntmps14
    go_wp2_with (first | (go_at_call 39; go_loud (refine (CC.out _ ?hB).mono ?_; (case hB => exact mvB BW.out); rintro e w' ⟨rfl, nd, rfl⟩)))
    go_ret
    exact ⟨by first | rfl | (simp [*]; done) | (simp [*]; rfl), Zad HWB.out (mvB BW.out)⟩
  | false =>
    rw [if_neg (by decide)] at h
    by_cases n4 : kd = 4
    rotate_left
    · rw [if_neg (fun h_ => n4 h_.1)] at h
      have d4_ : decide (kd = 4) = false := decide_eq_false n4
      have e4_ : (kd == 4) = false := beq_eq_false_iff_ne.2 n4
      clear n4
      obtain ⟨q, hq, h2_⟩ := Option.bind_eq_some_iff.1 h
      clear h; have h := h2_; clear h2_; have HR := Za.mk hq; clear hq
      cases q with
      | false =>
        rw [if_pos rfl] at h; obtain rfl := Option.some.inj h; clear h
        go_enter Try.func14, Try.ntmps14
        go_wp2_with (first | (go_at_call 39; go_loud (refine (CC.out _ ?hB).mono ?_; (case hB => exact mvB BW.out); rintro e w' ⟨rfl, nd, rfl⟩)) | (go_at_call 40; go_loud (refine (CR.out _ ?hB _ HR.out).mono ?_; (case hB => exact mvB BW.out); rintro e w' ⟨rfl, hb⟩; have BW1 := Za.mk (Zad (mvB BW.out) hb); clear BW hb; have BW := BW1; clear BW1; have hx_ := HC.out.below BW.out; have ed := hx_.ed; have k0 := hx_.k0; have k1 := hx_.k1; have k2 := hx_.k2; have k3 := hx_.k3; have k4 := hx_.k4; have k5 := hx_.k5; have k6 := hx_.k6; clear hx_)))
        go_ret
        exact ⟨by first | rfl | (simp [*]; done) | (simp [*]; rfl), Zad HWB.out (mvB BW.out)⟩
      | true =>
        rw [if_neg (by decide)] at h
        obtain ⟨g, hg, h2_⟩ := Option.bind_eq_some_iff.1 h
        clear h; have h := h2_; clear h2_; have HG := Za.mk hg; clear hg; obtain rfl := Option.some.inj h; clear h
        cases g with
        | false =>
          go_enter Try.func14, Try.ntmps14
          go_wp2_with (first | (go_at_call 39; go_loud (refine (CC.out _ ?hB).mono ?_; (case hB => exact mvB BW.out); rintro e w' ⟨rfl, nd, rfl⟩)) | (go_at_call 40; go_loud (refine (CR.out _ ?hB _ HR.out).mono ?_; (case hB => exact mvB BW.out); rintro e w' ⟨rfl, hb⟩; have BW1 := Za.mk (Zad (mvB BW.out) hb); clear BW hb; have BW := BW1; clear BW1; have hx_ := HC.out.below BW.out; have ed := hx_.ed; have k0 := hx_.k0; have k1 := hx_.k1; have k2 := hx_.k2; have k3 := hx_.k3; have k4 := hx_.k4; have k5 := hx_.k5; have k6 := hx_.k6; clear hx_)) | (go_at_call 41; go_loud (refine (CG.out _ ?hB _ HG.out).mono ?_; (case hB => exact mvB BW.out); rintro e w' ⟨rfl, hb⟩; have BW1 := Za.mk (Zad (mvB BW.out) hb); clear BW hb; have BW := BW1; clear BW1; have hx_ := HC.out.below BW.out; have ed := hx_.ed; have k0 := hx_.k0; have k1 := hx_.k1; have k2 := hx_.k2; have k3 := hx_.k3; have k4 := hx_.k4; have k5 := hx_.k5; have k6 := hx_.k6; clear hx_)))
          go_ret
          exact ⟨by first | rfl | (simp [*]; done) | (simp [*]; rfl), Zad HWB.out (mvB BW.out)⟩
        | true =>
          go_enter Try.func14, Try.ntmps14
          go_wp2_with (first | (go_at_call 39; go_loud (refine (CC.out _ ?hB).mono ?_; (case hB => exact mvB BW.out); rintro e w' ⟨rfl, nd, rfl⟩)) | (go_at_call 40; go_loud (refine (CR.out _ ?hB _ HR.out).mono ?_; (case hB => exact mvB BW.out); rintro e w' ⟨rfl, hb⟩; have BW1 := Za.mk (Zad (mvB BW.out) hb); clear BW hb; have BW := BW1; clear BW1; have hx_ := HC.out.below BW.out; have ed := hx_.ed; have k0 := hx_.k0; have k1 := hx_.k1; have k2 := hx_.k2; have k3 := hx_.k3; have k4 := hx_.k4; have k5 := hx_.k5; have k6 := hx_.k6; clear hx_)) | (go_at_call 41; go_loud (refine (CG.out _ ?hB _ HG.out).mono ?_; (case hB => exact mvB BW.out); rintro e w' ⟨rfl, hb⟩; have BW1 := Za.mk (Zad (mvB BW.out) hb); clear BW hb; have BW := BW1; clear BW1; have hx_ := HC.out.below BW.out; have ed := hx_.ed; have k0 := hx_.k0; have k1 := hx_.k1; have k2 := hx_.k2; have k3 := hx_.k3; have k4 := hx_.k4; have k5 := hx_.k5; have k6 := hx_.k6; clear hx_)))
          go_ret
          exact ⟨by first | rfl | (simp [*]; done) | (simp [*]; rfl), Zad HWB.out (mvB BW.out)⟩
    subst n4
    generalize hab : awayV l0.length b = ab at CB h
    have HAB := Za.mk hab
    clear hab
    cases ab with
    | true =>
      rw [if_pos ⟨rfl, rfl⟩] at h; obtain rfl := Option.some.inj h; clear h
      go_enter Try.func14, Try.ntmps14
      go_wp2_with (first | (go_at_call 39; go_loud (refine (CC.out _ ?hB).mono ?_; (case hB => exact mvB BW.out); rintro e w' ⟨rfl, nd, rfl⟩)))
      refine (CB.out _ ?hB).mono ?_
      case hB => exact mvB BW.out
      rintro e w' ⟨rfl, nd2, rfl⟩
      go_wp2
      go_ret
      exact ⟨by first | rfl | (simp [*]; done) | (simp [*]; rfl), Zad HWB.out (mvB BW.out)⟩
    | false =>
      rw [if_neg (fun h_ => absurd h_.2 (by decide))] at h
      obtain ⟨q, hq, h2_⟩ := Option.bind_eq_some_iff.1 h
      clear h; have h := h2_; clear h2_; have HR := Za.mk hq; clear hq
      cases q with
      | false =>
        rw [if_pos rfl] at h; obtain rfl := Option.some.inj h; clear h
        go_enter Try.func14, Try.ntmps14
        go_wp2_with (first | (go_at_call 39; go_loud (refine (CC.out _ ?hB).mono ?_; (case hB => exact mvB BW.out); rintro e w' ⟨rfl, nd, rfl⟩)) | (go_at_call 40; go_loud (refine (CR.out _ ?hB _ HR.out).mono ?_; (case hB => exact mvB BW.out); rintro e w' ⟨rfl, hb⟩; have BW1 := Za.mk (Zad (mvB BW.out) hb); clear BW hb; have BW := BW1; clear BW1; have hx_ := HC.out.below BW.out; have ed := hx_.ed; have k0 := hx_.k0; have k1 := hx_.k1; have k2 := hx_.k2; have k3 := hx_.k3; have k4 := hx_.k4; have k5 := hx_.k5; have k6 := hx_.k6; clear hx_)))
        refine (CB.out _ ?hB).mono ?_
        case hB => exact mvB BW.out
        rintro e w' ⟨rfl, nd2, rfl⟩
        go_wp2_with (first | (go_at_call 40; go_loud (refine (CR.out _ ?hB _ HR.out).mono ?_; (case hB => exact mvB BW.out); rintro e w' ⟨rfl, hb⟩; have BW1 := Za.mk (Zad (mvB BW.out) hb); clear BW hb; have BW := BW1; clear BW1; have hx_ := HC.out.below BW.out; have ed := hx_.ed; have k0 := hx_.k0; have k1 := hx_.k1; have k2 := hx_.k2; have k3 := hx_.k3; have k4 := hx_.k4; have k5 := hx_.k5; have k6 := hx_.k6; clear hx_)) | (go_at_call 41; go_loud (refine (CG.out _ ?hB _ HG.out).mono ?_; (case hB => exact mvB BW.out); rintro e w' ⟨rfl, hb⟩; have BW1 := Za.mk (Zad (mvB BW.out) hb); clear BW hb; have BW := BW1; clear BW1; have hx_ := HC.out.below BW.out; have ed := hx_.ed; have k0 := hx_.k0; have k1 := hx_.k1; have k2 := hx_.k2; have k3 := hx_.k3; have k4 := hx_.k4; have k5 := hx_.k5; have k6 := hx_.k6; clear hx_)))
        go_ret
        exact ⟨by first | rfl | (simp [*]; done) | (simp [*]; rfl), Zad HWB.out (mvB BW.out)⟩
      | true =>
        rw [if_neg (by decide)] at h
        obtain ⟨g, hg, h2_⟩ := Option.bind_eq_some_iff.1 h
        clear h; have h := h2_; clear h2_; have HG := Za.mk hg; clear hg; obtain rfl := Option.some.inj h; clear h
        cases g with
        | false =>
          go_enter Try.func14, Try.ntmps14
          go_wp2_with (first | (go_at_call 39; go_loud (refine (CC.out _ ?hB).mono ?_; (case hB => exact mvB BW.out); rintro e w' ⟨rfl, nd, rfl⟩)) | (go_at_call 40; go_loud (refine (CR.out _ ?hB _ HR.out).mono ?_; (case hB => exact mvB BW.out); rintro e w' ⟨rfl, hb⟩; have BW1 := Za.mk (Zad (mvB BW.out) hb); clear BW hb; have BW := BW1; clear BW1; have hx_ := HC.out.below BW.out; have ed := hx_.ed; have k0 := hx_.k0; have k1 := hx_.k1; have k2 := hx_.k2; have k3 := hx_.k3; have k4 := hx_.k4; have k5 := hx_.k5; have k6 := hx_.k6; clear hx_)) | (go_at_call 41; go_loud (refine (CG.out _ ?hB _ HG.out).mono ?_; (case hB => exact mvB BW.out); rintro e w' ⟨rfl, hb⟩; have BW1 := Za.mk (Zad (mvB BW.out) hb); clear BW hb; have BW := BW1; clear BW1; have hx_ := HC.out.below BW.out; have ed := hx_.ed; have k0 := hx_.k0; have k1 := hx_.k1; have k2 := hx_.k2; have k3 := hx_.k3; have k4 := hx_.k4; have k5 := hx_.k5; have k6 := hx_.k6; clear hx_)))
          refine (CB.out _ ?hB).mono ?_
          case hB => exact mvB BW.out
          rintro e w' ⟨rfl, nd2, rfl⟩
          go_wp2_with (first | (go_at_call 40; go_loud (refine (CR.out _ ?hB _ HR.out).mono ?_; (case hB => exact mvB BW.out); rintro e w' ⟨rfl, hb⟩; have BW1 := Za.mk (Zad (mvB BW.out) hb); clear BW hb; have BW := BW1; clear BW1; have hx_ := HC.out.below BW.out; have ed := hx_.ed; have k0 := hx_.k0; have k1 := hx_.k1; have k2 := hx_.k2; have k3 := hx_.k3; have k4 := hx_.k4; have k5 := hx_.k5; have k6 := hx_.k6; clear hx_)) | (go_at_call 41; go_loud (refine (CG.out _ ?hB _ HG.out).mono ?_; (case hB => exact mvB BW.out); rintro e w' ⟨rfl, hb⟩; have BW1 := Za.mk (Zad (mvB BW.out) hb); clear BW hb; have BW := BW1; clear BW1; have hx_ := HC.out.below BW.out; have ed := hx_.ed; have k0 := hx_.k0; have k1 := hx_.k1; have k2 := hx_.k2; have k3 := hx_.k3; have k4 := hx_.k4; have k5 := hx_.k5; have k6 := hx_.k6; clear hx_)))
          go_ret
          exact ⟨by first | rfl | (simp [*]; done) | (simp [*]; rfl), Zad HWB.out (mvB BW.out)⟩
        | true =>
          go_enter Try.func14, Try.ntmps14
          go_wp2_with (first | (go_at_call 39; go_loud (refine (CC.out _ ?hB).mono ?_; (case hB => exact mvB BW.out); rintro e w' ⟨rfl, nd, rfl⟩)) | (go_at_call 40; go_loud (refine (CR.out _ ?hB _ HR.out).mono ?_; (case hB => exact mvB BW.out); rintro e w' ⟨rfl, hb⟩; have BW1 := Za.mk (Zad (mvB BW.out) hb); clear BW hb; have BW := BW1; clear BW1; have hx_ := HC.out.below BW.out; have ed := hx_.ed; have k0 := hx_.k0; have k1 := hx_.k1; have k2 := hx_.k2; have k3 := hx_.k3; have k4 := hx_.k4; have k5 := hx_.k5; have k6 := hx_.k6; clear hx_)) | (go_at_call 41; go_loud (refine (CG.out _ ?hB _ HG.out).mono ?_; (case hB => exact mvB BW.out); rintro e w' ⟨rfl, hb⟩; have BW1 := Za.mk (Zad (mvB BW.out) hb); clear BW hb; have BW := BW1; clear BW1; have hx_ := HC.out.below BW.out; have ed := hx_.ed; have k0 := hx_.k0; have k1 := hx_.k1; have k2 := hx_.k2; have k3 := hx_.k3; have k4 := hx_.k4; have k5 := hx_.k5; have k6 := hx_.k6; clear hx_)))
          refine (CB.out _ ?hB).mono ?_
          case hB => exact mvB BW.out
          rintro e w' ⟨rfl, nd2, rfl⟩
          go_wp2_with (first | (go_at_call 40; go_loud (refine (CR.out _ ?hB _ HR.out).mono ?_; (case hB => exact mvB BW.out); rintro e w' ⟨rfl, hb⟩; have BW1 := Za.mk (Zad (mvB BW.out) hb); clear BW hb; have BW := BW1; clear BW1; have hx_ := HC.out.below BW.out; have ed := hx_.ed; have k0 := hx_.k0; have k1 := hx_.k1; have k2 := hx_.k2; have k3 := hx_.k3; have k4 := hx_.k4; have k5 := hx_.k5; have k6 := hx_.k6; clear hx_)) | (go_at_call 41; go_loud (refine (CG.out _ ?hB _ HG.out).mono ?_; (case hB => exact mvB BW.out); rintro e w' ⟨rfl, hb⟩; have BW1 := Za.mk (Zad (mvB BW.out) hb); clear BW hb; have BW := BW1; clear BW1; have hx_ := HC.out.below BW.out; have ed := hx_.ed; have k0 := hx_.k0; have k1 := hx_.k1; have k2 := hx_.k2; have k3 := hx_.k3; have k4 := hx_.k4; have k5 := hx_.k5; have k6 := hx_.k6; clear hx_)))
          go_ret
          exact ⟨by first | rfl | (simp [*]; done) | (simp [*]; rfl), Zad HWB.out (mvB BW.out)⟩
end Go.Proofs.Ytkgjaklnbgdmiaa.P
namespace Go.Proofs.Ytkgjaklnbgdmiaa.P
open Go.RowKit Go.Proofs.YtkgjaklnbgdmiaaW.PrintWords Go.Proofs.YtkgjaklnbgdmiaaW.PrintLast Go.Proofs.YtkgjaklnbgdmiaaW.PrintMore
attribute [local go_sem] Zcm Zco Zc0 Zc1 Zcb Zcc Zcn Zcp
set_option linter.unusedVariables false
set_option linter.unusedSimpArgs false
def Zb2.f (a0 : Int) : Option (Bool) := if a0 ≥ (-1048576) then (some (decide (a0 ≤ 1048576))) else (some false)
set_option maxHeartbeats 8000000 in
set_option maxRecDepth 100000 in
theorem Zb2.calls (a0 : Int) (r : Bool) (w : World) (h : Zb2.f a0 = some r) :
  Calls Try.prog 109 #[.int .i64 a0] w fun e w' => e = .returned (.bool r) ∧ Zbb w w' := by
 have H : (if a0 ≥ (-1048576) then (some (decide (a0 ≤ 1048576))) else (some false)) = some r := h
 clear h
 by_cases c2 : a0 ≥ (-1048576)
 ·rw [if_pos c2] at H
  have c2b0 : decide ((-1048576) ≤ a0) = true := decide_eq_true c2
  clear c2
  obtain rfl := Option.some.inj H
  go_enter Try.func109, Try.ntmps109
  go_wp2
  go_ret
  exact ⟨by first | rfl | (simp; done) | (simp [*]; done), by repeat (first | exact Zbb.refl _ | apply Zbb.step)⟩
 rw [if_neg c2] at H
 have c2b0 : decide ((-1048576) ≤ a0) = false := decide_eq_false c2
 clear c2
 obtain rfl := Option.some.inj H
 go_enter Try.func109, Try.ntmps109
 go_wp2
 go_ret
 exact ⟨by first | rfl | (simp; done) | (simp [*]; done), by repeat (first | exact Zbb.refl _ | apply Zbb.step)⟩
def Zba.l0 : Nat → List (S48) → List (S48) → Int → Int → Option (Bool)
 | 0, _, _, _, _ => none
 | k + 1, x0, x5, x6, x7 => if x7 < x6 then (if 0 ≤ x7 then (if x7 < (x5.length : Int) then ((Zb2.f ((Zao x5 x7).f0)).bind fun t341 => (if t341 = true then ((Zb2.f ((Zao x5 x7).f1)).bind fun t342 => (if t342 = true then (if ((Zao x5 x7).f0) > ((Zao x5 x7).f1) then (some false) else (if x7 > 0 then (if 0 ≤ (wrap64 (x7 - 1)) then (if (wrap64 (x7 - 1)) < (x0.length : Int) then (if ((Zao x5 x7).f0) < (wrap64 (((Zao x0 (wrap64 (x7 - 1))).f1) + 2)) then (some false) else (Zba.l0 k x0 x5 x6 (wrap64 (x7 + 1)))) else (none)) else (none)) else (Zba.l0 k x0 x5 x6 (wrap64 (x7 + 1))))) else (some false))) else (some false))) else (none)) else (none)) else (some true)
def Zba.f (k : Nat) (l0 : List (S48)) : Option (Bool) := Zba.l0 k l0 l0 (l0.length : Int) 0
def Zba.T4 : Bool × List (List Nat × List Nat) := (true, [([], []), ([0], [0]), ([1], [1]), ([2], [2]), ([3, 2], [3]), ([4], [4]), ([5, 4], [4, 5]), ([6, 4, 4], [4, 6]), ([7, 4], [4, 7]), ([4, 8], [4, 8]), ([9, 7], [9]), ([10], [10]), ([11, 10], [10, 11]), ([10], [10]), ([13, 10], [10, 13]), ([12, 14, 10], [10, 12, 14]), ([10, 15], [10, 15]), ([16, 10], [16]), ([17], [17]), ([18, 17], [17, 18]), ([19, 17, 17], [17, 19]), ([20], [20]), ([21, 20], [20, 21]), ([20], [20]), ([20], [20]), ([24, 20], [20, 24]), ([23, 25, 20], [20, 23, 25]), ([26, 20], [20, 26]), ([27, 20], [20, 27]), ([28, 20], [20, 28]), ([22, 29, 20], [20, 22, 29]), ([20, 30, 17], [17, 20, 30]), ([17, 31], [17, 31])])
def Zba.B4 : List Nat := [0, 1, 3, 7, 15, 31, 63, 127, 255, 511, 1023, 2047, 4095, 2047, 10239, 32767, 65535, 131071, 262143, 524287, 1048575, 2097151, 4194303, 2097151, 2097151, 18874367, 60817407, 127926271, 262143999, 530579455, 1073741823, 2147483647, 4294967295]
theorem Zba.tab4 : rtab .any (opsOf Try.f85 4) = Zba.T4 := by kernel_rfl
theorem Zba.bits4 : waitsOk Zba.T4.2 Zba.B4 = true := by kernel_rfl
set_option maxHeartbeats 8000000 in
set_option maxRecDepth 100000 in
theorem Zba.calls (k : Nat) (A0 : Option Addr) (c0 : Nat) (l0 : List (S48)) (r : Bool) (w : World) (hr0 : Kd.C k48 w A0 l0.length l0) (hc0 : l0.length ≤ c0) (h : Zba.f k l0 = some r) :
  Calls Try.prog 85 #[.slice A0 l0.length c0] w fun e w' => e = .returned (.bool r) ∧ Below w.heap.size w w' := by
 have hu48 := Try.underlying48
 have HR0 := Za.mk hr0
 have HC0 := Za.mk hc0
 clear hr0 hc0
 have HB := Za.mk (Below.refl w.heap.size w)
 have H : (Zba.l0 k l0 l0 (l0.length : Int) 0) = some r := h
 clear h
 have H' := Za.mk H
 clear H
 go_enter Try.func85, Try.ntmps85
 go_wp2
 go_loopg [7] k (fun kq v7 w' => ∃ (x7_1 : Int), v7 = .int .i64 x7_1 ∧ Za (Zba.l0 kq l0 l0 (l0.length : Int) x7_1 = some r) ∧ Za (kq ≤ k) ∧ Za (Below w.heap.size w w'))
 case atStart => exact ⟨(0), (by first | rfl | (simp; done) | (simp [*]; done)), H', ⟨Nat.le_refl _⟩, ⟨by repeat (first | (with_reducible first | exact HB.out | apply Zab | apply Zaa | apply Zac) | exact HB.out)⟩⟩
 case round =>
  clear H'
  obtain ⟨x7_1, rfl, HA, HK1, HB⟩ := hrel
  cases gk with
  | zero => exact absurd HA.out (by simp [Zba.l0])
  | succ k1 =>
   have H := HA.out
   clear HA
   simp only [Zba.l0] at H
   by_cases c2 : x7_1 < (l0.length : Int)
   rotate_left
   ·rw [if_neg c2] at H
    have c2b0 : decide (x7_1 < (l0.length : Int)) = false := decide_eq_false c2
    clear c2
    obtain rfl := Option.some.inj H
    go_wp2
    go_ret
    exact ⟨by first | rfl | (simp [Zam, Zan] <;> rfl) | (simp [*, Zam, Zan] <;> rfl), by repeat (first | (with_reducible first | exact HB.out | apply Zab | apply Zaa | apply Zac) | exact HB.out)⟩
   rw [if_pos c2] at H
   have c2b0 : decide (x7_1 < (l0.length : Int)) = true := decide_eq_true c2
   clear c2
   by_cases c3 : 0 ≤ x7_1
   rotate_left
   ·rw [if_neg c3] at H
    exact absurd H (by simp)
   rw [if_pos c3] at H
   have c3b0 : decide (0 ≤ x7_1) = true := decide_eq_true c3
   clear c3
   by_cases c4 : x7_1 < (l0.length : Int)
   rotate_left
   ·rw [if_neg c4] at H
    exact absurd H (by simp)
   rw [if_pos c4] at H
   have c4b0 : decide (x7_1 < (l0.length : Int)) = true := decide_eq_true c4
   clear c4
   replace H := Option.bind_eq_some_iff.mp H
   obtain ⟨t341, A50, H⟩ := H
   replace H : (if t341 = true then ((Zb2.f ((Zao l0 x7_1).f1)).bind fun t342 => (if t342 = true then (if ((Zao l0 x7_1).f0) > ((Zao l0 x7_1).f1) then (some false) else (if x7_1 > 0 then (if 0 ≤ (wrap64 (x7_1 - 1)) then (if (wrap64 (x7_1 - 1)) < (l0.length : Int) then (if ((Zao l0 x7_1).f0) < (wrap64 (((Zao l0 (wrap64 (x7_1 - 1))).f1) + 2)) then (some false) else (Zba.l0 k1 l0 l0 (l0.length : Int) (wrap64 (x7_1 + 1)))) else (none)) else (none)) else (Zba.l0 k1 l0 l0 (l0.length : Int) (wrap64 (x7_1 + 1))))) else (some false))) else (some false)) = some r := H
   have A5 := Za.mk A50
   clear A50
   by_cases c6 : t341 = true
   rotate_left
   ·replace c6 := Bool.eq_false_iff.mpr c6
    subst c6
    have H1 : (some false) = some r := by rw [if_neg (show ¬ (false = true) by decide)] at H; exact H
    clear H
    have H := H1
    clear H1
    obtain rfl := Option.some.inj H
    have p339 : 0 ≤ (x7_1 : Int) := of_decide_eq_true (by first | (with_reducible assumption) | assumption)
    have q339 : x7_1 < (l0.length : Int) := of_decide_eq_true (by first | (with_reducible assumption) | assumption)
    obtain ⟨ad339, e339, hx339_0, hx339_1⟩ := Zdf HR0.out x7_1 p339 q339
    cases e339
    replace hx339_0 := (HB.out.cell (World.block_lt_of_cell? w _ hx339_0)).trans hx339_0
    replace hx339_1 := (HB.out.cell (World.block_lt_of_cell? w _ hx339_1)).trans hx339_1
    replace p339 := eq_true p339
    replace q339 := eq_true q339
    try go_wp2_with (first | ((with_reducible refine Zaz (N := 4) rfl ?_); refine Za5 ?hg (N := 4) ?hd (cs := #[.int .i64 0, .int .i64 0]) (t := 48) ?hr ?_; (case hd => rfl); (case hg => rfl); (case hr => first | (go_simp; done) | (go_simp; rfl)); intro gb340 hg w35 hbox hb; have n0_ := Za.mk (Zad (by repeat (first | (with_reducible first | exact HB.out | apply Zab | apply Zaa | apply Zac) | exact HB.out)) hb); have n1_ := Za.mk (hbox); have n2_ := Za.mk ((by rw [hg]; exact (Zaj (by repeat (first | (with_reducible first | exact HB.out | apply Zab | apply Zaa | apply Zac) | exact HB.out))) : w.heap.size ≤ gb340)); have n3_ := Za.mk ((by rw [hg]; exact (Zaj (by repeat (first | (with_reducible first | exact HB.out | apply Zab | apply Zaa | apply Zac) | exact HB.out))) : w.heap.size ≤ gb340)); clear HB; have HB := n0_; have BK340 := n1_; have GW340 := n2_; have GE340 := n3_; clear n0_ n1_ n2_ n3_; clear hb hbox hg; obtain ⟨hcz36_0, hcz36_1, hfz36_0, hfz36_1⟩ := Zdg BK340.out))
    have n0_ : Za (((w35.setCell ⟨gb340, 0, none⟩ (.int .i64 ((Zao l0 x7_1).f0))).setCell ⟨gb340, 1, none⟩ (.int .i64 ((Zao l0 x7_1).f1))).heap[gb340]? = some (.cells #[.int .i64 ((Zao l0 x7_1).f0), .int .i64 ((Zao l0 x7_1).f1)] 48 (0, 0))) := ⟨by (with_reducible repeat (first | refine blk_drewN ?_ _ | refine Zag ?_ | refine Zaf ?_ _)); refine Zax (cs := #[.int .i64 ((Zao l0 x7_1).f0), .int .i64 0]) ?_ 1 _ rfl; (with_reducible repeat (first | refine blk_drewN ?_ _ | refine Zag ?_ | refine Zaf ?_ _)); refine Zax (cs := #[.int .i64 0, .int .i64 0]) ?_ 0 _ rfl; (with_reducible repeat (first | refine blk_drewN ?_ _ | refine Zag ?_ | refine Zaf ?_ _)); exact BK340.out⟩
    have n1_ : Za (Below w.heap.size w ((w35.setCell ⟨gb340, 0, none⟩ (.int .i64 ((Zao l0 x7_1).f0))).setCell ⟨gb340, 1, none⟩ (.int .i64 ((Zao l0 x7_1).f1)))) := ⟨by repeat (first | (with_reducible first | exact HB.out | apply Zab | apply Zaa | apply Zac | refine Zae ?_ GE340.out) | exact HB.out)⟩
    (try clear BK340)
    (try clear HB)
    generalize ((w35.setCell ⟨gb340, 0, none⟩ (.int .i64 ((Zao l0 x7_1).f0))).setCell ⟨gb340, 1, none⟩ (.int .i64 ((Zao l0 x7_1).f1))) = w37 at n0_ n1_ ⊢
    have BK340 := n0_
    have HB := n1_
    clear n0_ n1_
    have n0_ := Za.mk (Zag BK340.out)
    have n1_ := Za.mk (Zac HB.out)
    clear BK340
    clear HB
    have BK340 := n0_
    have HB := n1_
    clear n0_ n1_
    refine Zd0 (n := 33) (S := fun w' => w'.cell? ⟨gb340, 0, none⟩ = some (.int .i64 ((Zao l0 x7_1).f0)) ∧ w'.cell? ⟨gb340, 1, none⟩ = some (.int .i64 ((Zao l0 x7_1).f1))) (ds := []) #[false, false, false, false, false, false, false, false, false, false, false, false, false, false, false, false, false, false, false, false, false, false, false, false, false, false, false, false, false, false, false, false, false] (by kernel_rfl) rfl rfl ⟨(Zah BK340.out 0).trans rfl, (Zah BK340.out 1).trans rfl⟩ (fun hHeld => ?_); refine Zcu Zba.tab4 Zba.bits4 (fun HT_ HW_ => ?_)
    generalize w37.drew = w38 at BK340 HB hHeld ⊢
    refine Za0 (i := 0) (N := some 12) (v := ?_) (a' := ?_) #[true, false, false, false, false, false, false, false, false, false, false, false, false, false, false, false, false, false, false, false, false, false, false, false, false, false, false, false, false, false, false, false, false] rfl rfl (Zal HT_.out (by kernel_rfl)) (fun _ _ _ h => h) (Or.inl ⟨by rfl, ?_⟩) ?_ ?_
    rotate_left
    ·intro w'
     go_simp
     with_reducible rfl
    rotate_left
    ·simp only [Act.put, List.setIfInBounds_toArray, List.set_cons_zero, List.set_cons_succ, Zas, Zat]
     rfl
    refine Zcl (i := 1) (N := some 13) (v := ?_) (a' := ?_) #[true, true, false, false, false, false, false, false, false, false, false, false, false, false, false, false, false, false, false, false, false, false, false, false, false, false, false, false, false, false, false, false, false] rfl rfl (Zbj HT_.out HW_.out (by kernel_rfl)) (fun _ _ _ h => h) (Or.inl ⟨by rfl, ?_⟩) hHeld ?_ ?_
    rotate_left
    ·rintro w' ⟨s0, s1⟩
     go_simp
     with_reducible rfl
    rotate_left
    ·simp only [Act.put, List.setIfInBounds_toArray, List.set_cons_zero, List.set_cons_succ, Zas, Zat]
     rfl
    refine one_ (i := 2) (N := some 14) #[true, true, true, false, false, false, false, false, false, false, false, false, false, false, false, false, false, false, false, false, false, false, false, false, false, false, false, false, false, false, false, false, false] rfl rfl (Zb6 HT_.out (by kernel_rfl)) (by decide) (fun K hK => ?_)
    refine Zc2 Try.func109 (by kernel_rfl) rfl #[.int .i64 ((Zao l0 x7_1).f0)] (by rfl) rfl rfl (by (try simp only [List.map_toArray, List.map_cons, List.map_nil]); first | done | rfl | (simp only [List.length_drop, List.length_take]; rfl)) ?_
    with_reducible refine (Zb2.calls ((Zao l0 x7_1).f0) false _ A5.out).mono ?_
    rintro e w' ⟨rfl, ⟨nd, rfl⟩⟩
    refine ⟨_, rfl, ?_⟩
    refine hK.out _ _ ⟨(Zah BK340.out 0).trans rfl, (Zah BK340.out 1).trans rfl⟩ (fun hHeld => ?_)
    clear hK K
    refine Zcg (a' := ?_) ?_ ?_
    rotate_left
    ·show Act.put _ (some 14) _ = _
     simp only [Act.put, List.setIfInBounds_toArray, List.set_cons_zero, List.set_cons_succ, Zas, Zat]
     rfl
    refine Za0 (i := 3) (N := some 15) (v := ?_) (a' := ?_) #[true, true, true, true, false, false, false, false, false, false, false, false, false, false, false, false, false, false, false, false, false, false, false, false, false, false, false, false, false, false, false, false, false] rfl rfl (Zal HT_.out (by kernel_rfl)) (fun _ _ _ h => h) (Or.inl ⟨by rfl, ?_⟩) ?_ ?_
    rotate_left
    ·intro w'
     go_simp
     with_reducible rfl
    rotate_left
    ·simp only [Act.put, List.setIfInBounds_toArray, List.set_cons_zero, List.set_cons_succ, Zas, Zat]
     rfl
    refine Za0 (i := 4) (N := some 16) (v := ?_) (a' := ?_) #[true, true, true, true, true, false, false, false, false, false, false, false, false, false, false, false, false, false, false, false, false, false, false, false, false, false, false, false, false, false, false, false, false] rfl rfl (Zal HT_.out (by kernel_rfl)) (fun _ _ _ h => h) (Or.inl ⟨by rfl, ?_⟩) ?_ ?_
    rotate_left
    ·intro w'
     go_simp
     with_reducible rfl
    rotate_left
    ·simp only [Act.put, List.setIfInBounds_toArray, List.set_cons_zero, List.set_cons_succ, Zas, Zat]
     rfl
    refine Za0 (i := 5) (N := some 17) (v := undef) (a' := ?_) #[true, true, true, true, true, true, false, false, false, false, false, false, false, false, false, false, false, false, false, false, false, false, false, false, false, false, false, false, false, false, false, false, false] rfl rfl (Zal HT_.out (by kernel_rfl)) (fun _ _ _ h => h) (Or.inr ⟨by rfl, rfl⟩) ?_ ?_
    rotate_left
    ·simp only [Act.put, List.setIfInBounds_toArray, List.set_cons_zero, List.set_cons_succ, Zas, Zat]
     rfl
    refine Za0 (i := 6) (N := some 18) (v := undef) (a' := ?_) #[true, true, true, true, true, true, true, false, false, false, false, false, false, false, false, false, false, false, false, false, false, false, false, false, false, false, false, false, false, false, false, false, false] rfl rfl (Zal HT_.out (by kernel_rfl)) (fun _ _ _ h => h) (Or.inr ⟨by rfl, rfl⟩) ?_ ?_
    rotate_left
    ·simp only [Act.put, List.setIfInBounds_toArray, List.set_cons_zero, List.set_cons_succ, Zas, Zat]
     rfl
    refine Za0 (i := 7) (N := some 19) (v := undef) (a' := ?_) #[true, true, true, true, true, true, true, true, false, false, false, false, false, false, false, false, false, false, false, false, false, false, false, false, false, false, false, false, false, false, false, false, false] rfl rfl (Zal HT_.out (by kernel_rfl)) (fun _ _ _ h => h) (Or.inr ⟨by rfl, rfl⟩) ?_ ?_
    rotate_left
    ·simp only [Act.put, List.setIfInBounds_toArray, List.set_cons_zero, List.set_cons_succ, Zas, Zat]
     rfl
    refine Za0 (i := 8) (N := some 20) (v := undef) (a' := ?_) #[true, true, true, true, true, true, true, true, true, false, false, false, false, false, false, false, false, false, false, false, false, false, false, false, false, false, false, false, false, false, false, false, false] rfl rfl (Zal HT_.out (by kernel_rfl)) (fun _ _ _ h => h) (Or.inr ⟨by rfl, rfl⟩) ?_ ?_
    rotate_left
    ·simp only [Act.put, List.setIfInBounds_toArray, List.set_cons_zero, List.set_cons_succ, Zas, Zat]
     rfl
    refine Za0 (i := 9) (N := some 21) (v := ?_) (a' := ?_) #[true, true, true, true, true, true, true, true, true, true, false, false, false, false, false, false, false, false, false, false, false, false, false, false, false, false, false, false, false, false, false, false, false] rfl rfl (Zal HT_.out (by kernel_rfl)) (fun _ _ _ h => h) (Or.inl ⟨by rfl, ?_⟩) ?_ ?_
    rotate_left
    ·intro w'
     go_simp
     with_reducible rfl
    rotate_left
    ·simp only [Act.put, List.setIfInBounds_toArray, List.set_cons_zero, List.set_cons_succ, Zas, Zat]
     rfl
    refine Za0 (i := 10) (N := some 22) (v := ?_) (a' := ?_) #[true, true, true, true, true, true, true, true, true, true, true, false, false, false, false, false, false, false, false, false, false, false, false, false, false, false, false, false, false, false, false, false, false] rfl rfl (Zal HT_.out (by kernel_rfl)) (fun _ _ _ h => h) (Or.inl ⟨by rfl, ?_⟩) ?_ ?_
    rotate_left
    ·intro w'
     go_simp
     with_reducible rfl
    rotate_left
    ·simp only [Act.put, List.setIfInBounds_toArray, List.set_cons_zero, List.set_cons_succ, Zas, Zat]
     rfl
    refine Za0 (i := 11) (N := some 23) (v := undef) (a' := ?_) #[true, true, true, true, true, true, true, true, true, true, true, true, false, false, false, false, false, false, false, false, false, false, false, false, false, false, false, false, false, false, false, false, false] rfl rfl (Zal HT_.out (by kernel_rfl)) (fun _ _ _ h => h) (Or.inr ⟨by rfl, rfl⟩) ?_ ?_
    rotate_left
    ·simp only [Act.put, List.setIfInBounds_toArray, List.set_cons_zero, List.set_cons_succ, Zas, Zat]
     rfl
    refine Za0 (i := 12) (N := some 24) (v := undef) (a' := ?_) #[true, true, true, true, true, true, true, true, true, true, true, true, true, false, false, false, false, false, false, false, false, false, false, false, false, false, false, false, false, false, false, false, false] rfl rfl (Zal HT_.out (by kernel_rfl)) (fun _ _ _ h => h) (Or.inr ⟨by rfl, rfl⟩) ?_ ?_
    rotate_left
    ·simp only [Act.put, List.setIfInBounds_toArray, List.set_cons_zero, List.set_cons_succ, Zas, Zat]
     rfl
    refine Za0 (i := 13) (N := some 25) (v := undef) (a' := ?_) #[true, true, true, true, true, true, true, true, true, true, true, true, true, true, false, false, false, false, false, false, false, false, false, false, false, false, false, false, false, false, false, false, false] rfl rfl (Zal HT_.out (by kernel_rfl)) (fun _ _ _ h => h) (Or.inr ⟨by rfl, rfl⟩) ?_ ?_
    rotate_left
    ·simp only [Act.put, List.setIfInBounds_toArray, List.set_cons_zero, List.set_cons_succ, Zas, Zat]
     rfl
    refine Za0 (i := 14) (N := some 26) (v := undef) (a' := ?_) #[true, true, true, true, true, true, true, true, true, true, true, true, true, true, true, false, false, false, false, false, false, false, false, false, false, false, false, false, false, false, false, false, false] rfl rfl (Zal HT_.out (by kernel_rfl)) (fun _ _ _ h => h) (Or.inr ⟨by rfl, rfl⟩) ?_ ?_
    rotate_left
    ·simp only [Act.put, List.setIfInBounds_toArray, List.set_cons_zero, List.set_cons_succ, Zas, Zat]
     rfl
    refine Za0 (i := 15) (N := some 27) (v := undef) (a' := ?_) #[true, true, true, true, true, true, true, true, true, true, true, true, true, true, true, true, false, false, false, false, false, false, false, false, false, false, false, false, false, false, false, false, false] rfl rfl (Zal HT_.out (by kernel_rfl)) (fun _ _ _ h => h) (Or.inr ⟨by rfl, rfl⟩) ?_ ?_
    rotate_left
    ·simp only [Act.put, List.setIfInBounds_toArray, List.set_cons_zero, List.set_cons_succ, Zas, Zat]
     rfl
    refine Za0 (i := 16) (N := some 28) (v := ?_) (a' := ?_) #[true, true, true, true, true, true, true, true, true, true, true, true, true, true, true, true, true, false, false, false, false, false, false, false, false, false, false, false, false, false, false, false, false] rfl rfl (Zal HT_.out (by kernel_rfl)) (fun _ _ _ h => h) (Or.inl ⟨by rfl, ?_⟩) ?_ ?_
    rotate_left
    ·intro w'
     go_simp
     with_reducible rfl
    rotate_left
    ·simp only [Act.put, List.setIfInBounds_toArray, List.set_cons_zero, List.set_cons_succ, Zas, Zat]
     rfl
    refine Za0 (i := 17) (N := some 29) (v := ?_) (a' := ?_) #[true, true, true, true, true, true, true, true, true, true, true, true, true, true, true, true, true, true, false, false, false, false, false, false, false, false, false, false, false, false, false, false, false] rfl rfl (Zal HT_.out (by kernel_rfl)) (fun _ _ _ h => h) (Or.inl ⟨by rfl, ?_⟩) ?_ ?_
    rotate_left
    ·intro w'
     go_simp
     with_reducible rfl
    rotate_left
    ·simp only [Act.put, List.setIfInBounds_toArray, List.set_cons_zero, List.set_cons_succ, Zas, Zat]
     rfl
    refine Za0 (i := 18) (N := some 30) (v := undef) (a' := ?_) #[true, true, true, true, true, true, true, true, true, true, true, true, true, true, true, true, true, true, true, false, false, false, false, false, false, false, false, false, false, false, false, false, false] rfl rfl (Zal HT_.out (by kernel_rfl)) (fun _ _ _ h => h) (Or.inr ⟨by rfl, rfl⟩) ?_ ?_
    rotate_left
    ·simp only [Act.put, List.setIfInBounds_toArray, List.set_cons_zero, List.set_cons_succ, Zas, Zat]
     rfl
    refine Za0 (i := 19) (N := some 31) (v := undef) (a' := ?_) #[true, true, true, true, true, true, true, true, true, true, true, true, true, true, true, true, true, true, true, true, false, false, false, false, false, false, false, false, false, false, false, false, false] rfl rfl (Zal HT_.out (by kernel_rfl)) (fun _ _ _ h => h) (Or.inr ⟨by rfl, rfl⟩) ?_ ?_
    rotate_left
    ·simp only [Act.put, List.setIfInBounds_toArray, List.set_cons_zero, List.set_cons_succ, Zas, Zat]
     rfl
    refine Za0 (i := 20) (N := some 32) (v := undef) (a' := ?_) #[true, true, true, true, true, true, true, true, true, true, true, true, true, true, true, true, true, true, true, true, true, false, false, false, false, false, false, false, false, false, false, false, false] rfl rfl (Zal HT_.out (by kernel_rfl)) (fun _ _ _ h => h) (Or.inr ⟨by rfl, rfl⟩) ?_ ?_
    rotate_left
    ·simp only [Act.put, List.setIfInBounds_toArray, List.set_cons_zero, List.set_cons_succ, Zas, Zat]
     rfl
    refine Za0 (i := 21) (N := some 33) (v := undef) (a' := ?_) #[true, true, true, true, true, true, true, true, true, true, true, true, true, true, true, true, true, true, true, true, true, true, false, false, false, false, false, false, false, false, false, false, false] rfl rfl (Zal HT_.out (by kernel_rfl)) (fun _ _ _ h => h) (Or.inr ⟨by rfl, rfl⟩) ?_ ?_
    rotate_left
    ·simp only [Act.put, List.setIfInBounds_toArray, List.set_cons_zero, List.set_cons_succ, Zas, Zat]
     rfl
    refine Za0 (i := 22) (N := some 34) (v := undef) (a' := ?_) #[true, true, true, true, true, true, true, true, true, true, true, true, true, true, true, true, true, true, true, true, true, true, true, false, false, false, false, false, false, false, false, false, false] rfl rfl (Zal HT_.out (by kernel_rfl)) (fun _ _ _ h => h) (Or.inr ⟨by rfl, rfl⟩) ?_ ?_
    rotate_left
    ·simp only [Act.put, List.setIfInBounds_toArray, List.set_cons_zero, List.set_cons_succ, Zas, Zat]
     rfl
    refine Za0 (i := 23) (N := some 35) (v := undef) (a' := ?_) #[true, true, true, true, true, true, true, true, true, true, true, true, true, true, true, true, true, true, true, true, true, true, true, true, false, false, false, false, false, false, false, false, false] rfl rfl (Zal HT_.out (by kernel_rfl)) (fun _ _ _ h => h) (Or.inr ⟨by rfl, rfl⟩) ?_ ?_
    rotate_left
    ·simp only [Act.put, List.setIfInBounds_toArray, List.set_cons_zero, List.set_cons_succ, Zas, Zat]
     rfl
    refine Za0 (i := 24) (N := some 36) (v := undef) (a' := ?_) #[true, true, true, true, true, true, true, true, true, true, true, true, true, true, true, true, true, true, true, true, true, true, true, true, true, false, false, false, false, false, false, false, false] rfl rfl (Zal HT_.out (by kernel_rfl)) (fun _ _ _ h => h) (Or.inr ⟨by rfl, rfl⟩) ?_ ?_
    rotate_left
    ·simp only [Act.put, List.setIfInBounds_toArray, List.set_cons_zero, List.set_cons_succ, Zas, Zat]
     rfl
    refine Za0 (i := 25) (N := some 37) (v := undef) (a' := ?_) #[true, true, true, true, true, true, true, true, true, true, true, true, true, true, true, true, true, true, true, true, true, true, true, true, true, true, false, false, false, false, false, false, false] rfl rfl (Zal HT_.out (by kernel_rfl)) (fun _ _ _ h => h) (Or.inr ⟨by rfl, rfl⟩) ?_ ?_
    rotate_left
    ·simp only [Act.put, List.setIfInBounds_toArray, List.set_cons_zero, List.set_cons_succ, Zas, Zat]
     rfl
    refine Za0 (i := 26) (N := some 38) (v := undef) (a' := ?_) #[true, true, true, true, true, true, true, true, true, true, true, true, true, true, true, true, true, true, true, true, true, true, true, true, true, true, true, false, false, false, false, false, false] rfl rfl (Zal HT_.out (by kernel_rfl)) (fun _ _ _ h => h) (Or.inr ⟨by rfl, rfl⟩) ?_ ?_
    rotate_left
    ·simp only [Act.put, List.setIfInBounds_toArray, List.set_cons_zero, List.set_cons_succ, Zas, Zat]
     rfl
    refine Za0 (i := 27) (N := some 39) (v := undef) (a' := ?_) #[true, true, true, true, true, true, true, true, true, true, true, true, true, true, true, true, true, true, true, true, true, true, true, true, true, true, true, true, false, false, false, false, false] rfl rfl (Zal HT_.out (by kernel_rfl)) (fun _ _ _ h => h) (Or.inr ⟨by rfl, rfl⟩) ?_ ?_
    rotate_left
    ·simp only [Act.put, List.setIfInBounds_toArray, List.set_cons_zero, List.set_cons_succ, Zas, Zat]
     rfl
    refine Za0 (i := 28) (N := some 40) (v := undef) (a' := ?_) #[true, true, true, true, true, true, true, true, true, true, true, true, true, true, true, true, true, true, true, true, true, true, true, true, true, true, true, true, true, false, false, false, false] rfl rfl (Zal HT_.out (by kernel_rfl)) (fun _ _ _ h => h) (Or.inr ⟨by rfl, rfl⟩) ?_ ?_
    rotate_left
    ·simp only [Act.put, List.setIfInBounds_toArray, List.set_cons_zero, List.set_cons_succ, Zas, Zat]
     rfl
    refine Za0 (i := 29) (N := some 41) (v := undef) (a' := ?_) #[true, true, true, true, true, true, true, true, true, true, true, true, true, true, true, true, true, true, true, true, true, true, true, true, true, true, true, true, true, true, false, false, false] rfl rfl (Zal HT_.out (by kernel_rfl)) (fun _ _ _ h => h) (Or.inr ⟨by rfl, rfl⟩) ?_ ?_
    rotate_left
    ·simp only [Act.put, List.setIfInBounds_toArray, List.set_cons_zero, List.set_cons_succ, Zas, Zat]
     rfl
    refine Za0 (i := 30) (N := some 42) (v := undef) (a' := ?_) #[true, true, true, true, true, true, true, true, true, true, true, true, true, true, true, true, true, true, true, true, true, true, true, true, true, true, true, true, true, true, true, false, false] rfl rfl (Zal HT_.out (by kernel_rfl)) (fun _ _ _ h => h) (Or.inr ⟨by rfl, rfl⟩) ?_ ?_
    rotate_left
    ·simp only [Act.put, List.setIfInBounds_toArray, List.set_cons_zero, List.set_cons_succ, Zas, Zat]
     rfl
    refine Za0 (i := 31) (N := some 43) (v := undef) (a' := ?_) #[true, true, true, true, true, true, true, true, true, true, true, true, true, true, true, true, true, true, true, true, true, true, true, true, true, true, true, true, true, true, true, true, false] rfl rfl (Zal HT_.out (by kernel_rfl)) (fun _ _ _ h => h) (Or.inr ⟨by rfl, rfl⟩) ?_ ?_
    rotate_left
    ·simp only [Act.put, List.setIfInBounds_toArray, List.set_cons_zero, List.set_cons_succ, Zas, Zat]
     rfl
    refine Za0 (i := 32) (N := some 44) (v := ?_) (a' := ?_) #[true, true, true, true, true, true, true, true, true, true, true, true, true, true, true, true, true, true, true, true, true, true, true, true, true, true, true, true, true, true, true, true, true] rfl rfl (Zal HT_.out (by kernel_rfl)) (fun _ _ _ h => h) (Or.inl ⟨by rfl, ?_⟩) ?_ ?_
    rotate_left
    ·intro w'
     go_simp
     with_reducible rfl
    rotate_left
    ·simp only [Act.put, List.setIfInBounds_toArray, List.set_cons_zero, List.set_cons_succ, Zas, Zat]
     rfl
    refine Ze4 (Zdl HT_.out (by kernel_rfl)) ?_
    try go_wp2
    go_ret
    exact ⟨by first | rfl | (simp [Zam, Zan] <;> rfl) | (simp [*, Zam, Zan] <;> rfl), by repeat (first | (with_reducible first | exact HB.out | apply Zab | apply Zaa | apply Zac | refine Zae ?_ GE340.out) | exact HB.out)⟩
   subst c6
   have H1 : ((Zb2.f ((Zao l0 x7_1).f1)).bind fun t342 => (if t342 = true then (if ((Zao l0 x7_1).f0) > ((Zao l0 x7_1).f1) then (some false) else (if x7_1 > 0 then (if 0 ≤ (wrap64 (x7_1 - 1)) then (if (wrap64 (x7_1 - 1)) < (l0.length : Int) then (if ((Zao l0 x7_1).f0) < (wrap64 (((Zao l0 (wrap64 (x7_1 - 1))).f1) + 2)) then (some false) else (Zba.l0 k1 l0 l0 (l0.length : Int) (wrap64 (x7_1 + 1)))) else (none)) else (none)) else (Zba.l0 k1 l0 l0 (l0.length : Int) (wrap64 (x7_1 + 1))))) else (some false))) = some r := by rw [if_pos rfl] at H; exact H
   clear H
   have H := H1
   clear H1
   replace H := Option.bind_eq_some_iff.mp H
   obtain ⟨t342, A70, H⟩ := H
   replace H : (if t342 = true then (if ((Zao l0 x7_1).f0) > ((Zao l0 x7_1).f1) then (some false) else (if x7_1 > 0 then (if 0 ≤ (wrap64 (x7_1 - 1)) then (if (wrap64 (x7_1 - 1)) < (l0.length : Int) then (if ((Zao l0 x7_1).f0) < (wrap64 (((Zao l0 (wrap64 (x7_1 - 1))).f1) + 2)) then (some false) else (Zba.l0 k1 l0 l0 (l0.length : Int) (wrap64 (x7_1 + 1)))) else (none)) else (none)) else (Zba.l0 k1 l0 l0 (l0.length : Int) (wrap64 (x7_1 + 1))))) else (some false)) = some r := H
   have A7 := Za.mk A70
   clear A70
   by_cases c8 : t342 = true
   rotate_left
   ·replace c8 := Bool.eq_false_iff.mpr c8
    subst c8
    have H1 : (some false) = some r := by rw [if_neg (show ¬ (false = true) by decide)] at H; exact H
    clear H
    have H := H1
    clear H1
    obtain rfl := Option.some.inj H
    have p339 : 0 ≤ (x7_1 : Int) := of_decide_eq_true (by first | (with_reducible assumption) | assumption)
    have q339 : x7_1 < (l0.length : Int) := of_decide_eq_true (by first | (with_reducible assumption) | assumption)
    obtain ⟨ad339, e339, hx339_0, hx339_1⟩ := Zdf HR0.out x7_1 p339 q339
    cases e339
    replace hx339_0 := (HB.out.cell (World.block_lt_of_cell? w _ hx339_0)).trans hx339_0
    replace hx339_1 := (HB.out.cell (World.block_lt_of_cell? w _ hx339_1)).trans hx339_1
    replace p339 := eq_true p339
    replace q339 := eq_true q339
    try go_wp2_with (first | ((with_reducible refine Zaz (N := 4) rfl ?_); refine Za5 ?hg (N := 4) ?hd (cs := #[.int .i64 0, .int .i64 0]) (t := 48) ?hr ?_; (case hd => rfl); (case hg => rfl); (case hr => first | (go_simp; done) | (go_simp; rfl)); intro gb340 hg w31 hbox hb; have n0_ := Za.mk (Zad (by repeat (first | (with_reducible first | exact HB.out | apply Zab | apply Zaa | apply Zac) | exact HB.out)) hb); have n1_ := Za.mk (hbox); have n2_ := Za.mk ((by rw [hg]; exact (Zaj (by repeat (first | (with_reducible first | exact HB.out | apply Zab | apply Zaa | apply Zac) | exact HB.out))) : w.heap.size ≤ gb340)); have n3_ := Za.mk ((by rw [hg]; exact (Zaj (by repeat (first | (with_reducible first | exact HB.out | apply Zab | apply Zaa | apply Zac) | exact HB.out))) : w.heap.size ≤ gb340)); clear HB; have HB := n0_; have BK340 := n1_; have GW340 := n2_; have GE340 := n3_; clear n0_ n1_ n2_ n3_; clear hb hbox hg; obtain ⟨hcz32_0, hcz32_1, hfz32_0, hfz32_1⟩ := Zdg BK340.out))
    have n0_ : Za (((w31.setCell ⟨gb340, 0, none⟩ (.int .i64 ((Zao l0 x7_1).f0))).setCell ⟨gb340, 1, none⟩ (.int .i64 ((Zao l0 x7_1).f1))).heap[gb340]? = some (.cells #[.int .i64 ((Zao l0 x7_1).f0), .int .i64 ((Zao l0 x7_1).f1)] 48 (0, 0))) := ⟨by (with_reducible repeat (first | refine blk_drewN ?_ _ | refine Zag ?_ | refine Zaf ?_ _)); refine Zax (cs := #[.int .i64 ((Zao l0 x7_1).f0), .int .i64 0]) ?_ 1 _ rfl; (with_reducible repeat (first | refine blk_drewN ?_ _ | refine Zag ?_ | refine Zaf ?_ _)); refine Zax (cs := #[.int .i64 0, .int .i64 0]) ?_ 0 _ rfl; (with_reducible repeat (first | refine blk_drewN ?_ _ | refine Zag ?_ | refine Zaf ?_ _)); exact BK340.out⟩
    have n1_ : Za (Below w.heap.size w ((w31.setCell ⟨gb340, 0, none⟩ (.int .i64 ((Zao l0 x7_1).f0))).setCell ⟨gb340, 1, none⟩ (.int .i64 ((Zao l0 x7_1).f1)))) := ⟨by repeat (first | (with_reducible first | exact HB.out | apply Zab | apply Zaa | apply Zac | refine Zae ?_ GE340.out) | exact HB.out)⟩
    (try clear BK340)
    (try clear HB)
    generalize ((w31.setCell ⟨gb340, 0, none⟩ (.int .i64 ((Zao l0 x7_1).f0))).setCell ⟨gb340, 1, none⟩ (.int .i64 ((Zao l0 x7_1).f1))) = w33 at n0_ n1_ ⊢
    have BK340 := n0_
    have HB := n1_
    clear n0_ n1_
    have n0_ := Za.mk (Zag BK340.out)
    have n1_ := Za.mk (Zac HB.out)
    clear BK340
    clear HB
    have BK340 := n0_
    have HB := n1_
    clear n0_ n1_
    refine Zd0 (n := 33) (S := fun w' => w'.cell? ⟨gb340, 0, none⟩ = some (.int .i64 ((Zao l0 x7_1).f0)) ∧ w'.cell? ⟨gb340, 1, none⟩ = some (.int .i64 ((Zao l0 x7_1).f1))) (ds := []) #[false, false, false, false, false, false, false, false, false, false, false, false, false, false, false, false, false, false, false, false, false, false, false, false, false, false, false, false, false, false, false, false, false] (by kernel_rfl) rfl rfl ⟨(Zah BK340.out 0).trans rfl, (Zah BK340.out 1).trans rfl⟩ (fun hHeld => ?_); refine Zcu Zba.tab4 Zba.bits4 (fun HT_ HW_ => ?_)
    generalize w33.drew = w34 at BK340 HB hHeld ⊢
    refine Za0 (i := 0) (N := some 12) (v := ?_) (a' := ?_) #[true, false, false, false, false, false, false, false, false, false, false, false, false, false, false, false, false, false, false, false, false, false, false, false, false, false, false, false, false, false, false, false, false] rfl rfl (Zal HT_.out (by kernel_rfl)) (fun _ _ _ h => h) (Or.inl ⟨by rfl, ?_⟩) ?_ ?_
    rotate_left
    ·intro w'
     go_simp
     with_reducible rfl
    rotate_left
    ·simp only [Act.put, List.setIfInBounds_toArray, List.set_cons_zero, List.set_cons_succ, Zas, Zat]
     rfl
    refine Zcl (i := 1) (N := some 13) (v := ?_) (a' := ?_) #[true, true, false, false, false, false, false, false, false, false, false, false, false, false, false, false, false, false, false, false, false, false, false, false, false, false, false, false, false, false, false, false, false] rfl rfl (Zbj HT_.out HW_.out (by kernel_rfl)) (fun _ _ _ h => h) (Or.inl ⟨by rfl, ?_⟩) hHeld ?_ ?_
    rotate_left
    ·rintro w' ⟨s0, s1⟩
     go_simp
     with_reducible rfl
    rotate_left
    ·simp only [Act.put, List.setIfInBounds_toArray, List.set_cons_zero, List.set_cons_succ, Zas, Zat]
     rfl
    refine one_ (i := 2) (N := some 14) #[true, true, true, false, false, false, false, false, false, false, false, false, false, false, false, false, false, false, false, false, false, false, false, false, false, false, false, false, false, false, false, false, false] rfl rfl (Zb6 HT_.out (by kernel_rfl)) (by decide) (fun K hK => ?_)
    refine Zc2 Try.func109 (by kernel_rfl) rfl #[.int .i64 ((Zao l0 x7_1).f0)] (by rfl) rfl rfl (by (try simp only [List.map_toArray, List.map_cons, List.map_nil]); first | done | rfl | (simp only [List.length_drop, List.length_take]; rfl)) ?_
    with_reducible refine (Zb2.calls ((Zao l0 x7_1).f0) true _ A5.out).mono ?_
    rintro e w' ⟨rfl, ⟨nd, rfl⟩⟩
    refine ⟨_, rfl, ?_⟩
    refine hK.out _ _ ⟨(Zah BK340.out 0).trans rfl, (Zah BK340.out 1).trans rfl⟩ (fun hHeld => ?_)
    clear hK K
    refine Zcg (a' := ?_) ?_ ?_
    rotate_left
    ·show Act.put _ (some 14) _ = _
     simp only [Act.put, List.setIfInBounds_toArray, List.set_cons_zero, List.set_cons_succ, Zas, Zat]
     rfl
    refine Za0 (i := 3) (N := some 15) (v := ?_) (a' := ?_) #[true, true, true, true, false, false, false, false, false, false, false, false, false, false, false, false, false, false, false, false, false, false, false, false, false, false, false, false, false, false, false, false, false] rfl rfl (Zal HT_.out (by kernel_rfl)) (fun _ _ _ h => h) (Or.inl ⟨by rfl, ?_⟩) ?_ ?_
    rotate_left
    ·intro w'
     go_simp
     with_reducible rfl
    rotate_left
    ·simp only [Act.put, List.setIfInBounds_toArray, List.set_cons_zero, List.set_cons_succ, Zas, Zat]
     rfl
    refine Za0 (i := 4) (N := some 16) (v := ?_) (a' := ?_) #[true, true, true, true, true, false, false, false, false, false, false, false, false, false, false, false, false, false, false, false, false, false, false, false, false, false, false, false, false, false, false, false, false] rfl rfl (Zal HT_.out (by kernel_rfl)) (fun _ _ _ h => h) (Or.inl ⟨by rfl, ?_⟩) ?_ ?_
    rotate_left
    ·intro w'
     go_simp
     with_reducible rfl
    rotate_left
    ·simp only [Act.put, List.setIfInBounds_toArray, List.set_cons_zero, List.set_cons_succ, Zas, Zat]
     rfl
    refine Za0 (i := 5) (N := some 17) (v := ?_) (a' := ?_) #[true, true, true, true, true, true, false, false, false, false, false, false, false, false, false, false, false, false, false, false, false, false, false, false, false, false, false, false, false, false, false, false, false] rfl rfl (Zal HT_.out (by kernel_rfl)) (fun _ _ _ h => h) (Or.inl ⟨by rfl, ?_⟩) ?_ ?_
    rotate_left
    ·intro w'
     go_simp
     with_reducible rfl
    rotate_left
    ·simp only [Act.put, List.setIfInBounds_toArray, List.set_cons_zero, List.set_cons_succ, Zas, Zat]
     rfl
    refine Zcl (i := 6) (N := some 18) (v := ?_) (a' := ?_) #[true, true, true, true, true, true, true, false, false, false, false, false, false, false, false, false, false, false, false, false, false, false, false, false, false, false, false, false, false, false, false, false, false] rfl rfl (Zbj HT_.out HW_.out (by kernel_rfl)) (fun _ _ _ h => h) (Or.inl ⟨by rfl, ?_⟩) hHeld ?_ ?_
    rotate_left
    ·rintro w' ⟨s0, s1⟩
     go_simp
     with_reducible rfl
    rotate_left
    ·simp only [Act.put, List.setIfInBounds_toArray, List.set_cons_zero, List.set_cons_succ, Zas, Zat]
     rfl
    refine one_ (i := 7) (N := some 19) #[true, true, true, true, true, true, true, true, false, false, false, false, false, false, false, false, false, false, false, false, false, false, false, false, false, false, false, false, false, false, false, false, false] rfl rfl (Zb6 HT_.out (by kernel_rfl)) (by decide) (fun K hK => ?_)
    refine Zc2 Try.func109 (by kernel_rfl) rfl #[.int .i64 ((Zao l0 x7_1).f1)] (by rfl) rfl rfl (by (try simp only [List.map_toArray, List.map_cons, List.map_nil]); first | done | rfl | (simp only [List.length_drop, List.length_take]; rfl)) ?_
    with_reducible refine (Zb2.calls ((Zao l0 x7_1).f1) false _ A7.out).mono ?_
    rintro e w' ⟨rfl, ⟨nd, rfl⟩⟩
    refine ⟨_, rfl, ?_⟩
    refine hK.out _ _ ⟨(Zah BK340.out 0).trans rfl, (Zah BK340.out 1).trans rfl⟩ (fun hHeld => ?_)
    clear hK K
    refine Zcg (a' := ?_) ?_ ?_
    rotate_left
    ·show Act.put _ (some 19) _ = _
     simp only [Act.put, List.setIfInBounds_toArray, List.set_cons_zero, List.set_cons_succ, Zas, Zat]
     rfl
    refine Za0 (i := 8) (N := some 20) (v := ?_) (a' := ?_) #[true, true, true, true, true, true, true, true, true, false, false, false, false, false, false, false, false, false, false, false, false, false, false, false, false, false, false, false, false, false, false, false, false] rfl rfl (Zal HT_.out (by kernel_rfl)) (fun _ _ _ h => h) (Or.inl ⟨by rfl, ?_⟩) ?_ ?_
    rotate_left
    ·intro w'
     go_simp
     with_reducible rfl
    rotate_left
    ·simp only [Act.put, List.setIfInBounds_toArray, List.set_cons_zero, List.set_cons_succ, Zas, Zat]
     rfl
    refine Za0 (i := 9) (N := some 21) (v := ?_) (a' := ?_) #[true, true, true, true, true, true, true, true, true, true, false, false, false, false, false, false, false, false, false, false, false, false, false, false, false, false, false, false, false, false, false, false, false] rfl rfl (Zal HT_.out (by kernel_rfl)) (fun _ _ _ h => h) (Or.inl ⟨by rfl, ?_⟩) ?_ ?_
    rotate_left
    ·intro w'
     go_simp
     with_reducible rfl
    rotate_left
    ·simp only [Act.put, List.setIfInBounds_toArray, List.set_cons_zero, List.set_cons_succ, Zas, Zat]
     rfl
    refine Za0 (i := 10) (N := some 22) (v := ?_) (a' := ?_) #[true, true, true, true, true, true, true, true, true, true, true, false, false, false, false, false, false, false, false, false, false, false, false, false, false, false, false, false, false, false, false, false, false] rfl rfl (Zal HT_.out (by kernel_rfl)) (fun _ _ _ h => h) (Or.inl ⟨by rfl, ?_⟩) ?_ ?_
    rotate_left
    ·intro w'
     go_simp
     with_reducible rfl
    rotate_left
    ·simp only [Act.put, List.setIfInBounds_toArray, List.set_cons_zero, List.set_cons_succ, Zas, Zat]
     rfl
    refine Za0 (i := 11) (N := some 23) (v := undef) (a' := ?_) #[true, true, true, true, true, true, true, true, true, true, true, true, false, false, false, false, false, false, false, false, false, false, false, false, false, false, false, false, false, false, false, false, false] rfl rfl (Zal HT_.out (by kernel_rfl)) (fun _ _ _ h => h) (Or.inr ⟨by rfl, rfl⟩) ?_ ?_
    rotate_left
    ·simp only [Act.put, List.setIfInBounds_toArray, List.set_cons_zero, List.set_cons_succ, Zas, Zat]
     rfl
    refine Za0 (i := 12) (N := some 24) (v := undef) (a' := ?_) #[true, true, true, true, true, true, true, true, true, true, true, true, true, false, false, false, false, false, false, false, false, false, false, false, false, false, false, false, false, false, false, false, false] rfl rfl (Zal HT_.out (by kernel_rfl)) (fun _ _ _ h => h) (Or.inr ⟨by rfl, rfl⟩) ?_ ?_
    rotate_left
    ·simp only [Act.put, List.setIfInBounds_toArray, List.set_cons_zero, List.set_cons_succ, Zas, Zat]
     rfl
    refine Za0 (i := 13) (N := some 25) (v := undef) (a' := ?_) #[true, true, true, true, true, true, true, true, true, true, true, true, true, true, false, false, false, false, false, false, false, false, false, false, false, false, false, false, false, false, false, false, false] rfl rfl (Zal HT_.out (by kernel_rfl)) (fun _ _ _ h => h) (Or.inr ⟨by rfl, rfl⟩) ?_ ?_
    rotate_left
    ·simp only [Act.put, List.setIfInBounds_toArray, List.set_cons_zero, List.set_cons_succ, Zas, Zat]
     rfl
    refine Za0 (i := 14) (N := some 26) (v := undef) (a' := ?_) #[true, true, true, true, true, true, true, true, true, true, true, true, true, true, true, false, false, false, false, false, false, false, false, false, false, false, false, false, false, false, false, false, false] rfl rfl (Zal HT_.out (by kernel_rfl)) (fun _ _ _ h => h) (Or.inr ⟨by rfl, rfl⟩) ?_ ?_
    rotate_left
    ·simp only [Act.put, List.setIfInBounds_toArray, List.set_cons_zero, List.set_cons_succ, Zas, Zat]
     rfl
    refine Za0 (i := 15) (N := some 27) (v := undef) (a' := ?_) #[true, true, true, true, true, true, true, true, true, true, true, true, true, true, true, true, false, false, false, false, false, false, false, false, false, false, false, false, false, false, false, false, false] rfl rfl (Zal HT_.out (by kernel_rfl)) (fun _ _ _ h => h) (Or.inr ⟨by rfl, rfl⟩) ?_ ?_
    rotate_left
    ·simp only [Act.put, List.setIfInBounds_toArray, List.set_cons_zero, List.set_cons_succ, Zas, Zat]
     rfl
    refine Za0 (i := 16) (N := some 28) (v := ?_) (a' := ?_) #[true, true, true, true, true, true, true, true, true, true, true, true, true, true, true, true, true, false, false, false, false, false, false, false, false, false, false, false, false, false, false, false, false] rfl rfl (Zal HT_.out (by kernel_rfl)) (fun _ _ _ h => h) (Or.inl ⟨by rfl, ?_⟩) ?_ ?_
    rotate_left
    ·intro w'
     go_simp
     with_reducible rfl
    rotate_left
    ·simp only [Act.put, List.setIfInBounds_toArray, List.set_cons_zero, List.set_cons_succ, Zas, Zat]
     rfl
    refine Za0 (i := 17) (N := some 29) (v := ?_) (a' := ?_) #[true, true, true, true, true, true, true, true, true, true, true, true, true, true, true, true, true, true, false, false, false, false, false, false, false, false, false, false, false, false, false, false, false] rfl rfl (Zal HT_.out (by kernel_rfl)) (fun _ _ _ h => h) (Or.inl ⟨by rfl, ?_⟩) ?_ ?_
    rotate_left
    ·intro w'
     go_simp
     with_reducible rfl
    rotate_left
    ·simp only [Act.put, List.setIfInBounds_toArray, List.set_cons_zero, List.set_cons_succ, Zas, Zat]
     rfl
    refine Za0 (i := 18) (N := some 30) (v := undef) (a' := ?_) #[true, true, true, true, true, true, true, true, true, true, true, true, true, true, true, true, true, true, true, false, false, false, false, false, false, false, false, false, false, false, false, false, false] rfl rfl (Zal HT_.out (by kernel_rfl)) (fun _ _ _ h => h) (Or.inr ⟨by rfl, rfl⟩) ?_ ?_
    rotate_left
    ·simp only [Act.put, List.setIfInBounds_toArray, List.set_cons_zero, List.set_cons_succ, Zas, Zat]
     rfl
    refine Za0 (i := 19) (N := some 31) (v := undef) (a' := ?_) #[true, true, true, true, true, true, true, true, true, true, true, true, true, true, true, true, true, true, true, true, false, false, false, false, false, false, false, false, false, false, false, false, false] rfl rfl (Zal HT_.out (by kernel_rfl)) (fun _ _ _ h => h) (Or.inr ⟨by rfl, rfl⟩) ?_ ?_
    rotate_left
    ·simp only [Act.put, List.setIfInBounds_toArray, List.set_cons_zero, List.set_cons_succ, Zas, Zat]
     rfl
    refine Za0 (i := 20) (N := some 32) (v := undef) (a' := ?_) #[true, true, true, true, true, true, true, true, true, true, true, true, true, true, true, true, true, true, true, true, true, false, false, false, false, false, false, false, false, false, false, false, false] rfl rfl (Zal HT_.out (by kernel_rfl)) (fun _ _ _ h => h) (Or.inr ⟨by rfl, rfl⟩) ?_ ?_
    rotate_left
    ·simp only [Act.put, List.setIfInBounds_toArray, List.set_cons_zero, List.set_cons_succ, Zas, Zat]
     rfl
    refine Za0 (i := 21) (N := some 33) (v := undef) (a' := ?_) #[true, true, true, true, true, true, true, true, true, true, true, true, true, true, true, true, true, true, true, true, true, true, false, false, false, false, false, false, false, false, false, false, false] rfl rfl (Zal HT_.out (by kernel_rfl)) (fun _ _ _ h => h) (Or.inr ⟨by rfl, rfl⟩) ?_ ?_
    rotate_left
    ·simp only [Act.put, List.setIfInBounds_toArray, List.set_cons_zero, List.set_cons_succ, Zas, Zat]
     rfl
    refine Za0 (i := 22) (N := some 34) (v := undef) (a' := ?_) #[true, true, true, true, true, true, true, true, true, true, true, true, true, true, true, true, true, true, true, true, true, true, true, false, false, false, false, false, false, false, false, false, false] rfl rfl (Zal HT_.out (by kernel_rfl)) (fun _ _ _ h => h) (Or.inr ⟨by rfl, rfl⟩) ?_ ?_
    rotate_left
    ·simp only [Act.put, List.setIfInBounds_toArray, List.set_cons_zero, List.set_cons_succ, Zas, Zat]
     rfl
    refine Za0 (i := 23) (N := some 35) (v := undef) (a' := ?_) #[true, true, true, true, true, true, true, true, true, true, true, true, true, true, true, true, true, true, true, true, true, true, true, true, false, false, false, false, false, false, false, false, false] rfl rfl (Zal HT_.out (by kernel_rfl)) (fun _ _ _ h => h) (Or.inr ⟨by rfl, rfl⟩) ?_ ?_
    rotate_left
    ·simp only [Act.put, List.setIfInBounds_toArray, List.set_cons_zero, List.set_cons_succ, Zas, Zat]
     rfl
    refine Za0 (i := 24) (N := some 36) (v := undef) (a' := ?_) #[true, true, true, true, true, true, true, true, true, true, true, true, true, true, true, true, true, true, true, true, true, true, true, true, true, false, false, false, false, false, false, false, false] rfl rfl (Zal HT_.out (by kernel_rfl)) (fun _ _ _ h => h) (Or.inr ⟨by rfl, rfl⟩) ?_ ?_
    rotate_left
    ·simp only [Act.put, List.setIfInBounds_toArray, List.set_cons_zero, List.set_cons_succ, Zas, Zat]
     rfl
    refine Za0 (i := 25) (N := some 37) (v := undef) (a' := ?_) #[true, true, true, true, true, true, true, true, true, true, true, true, true, true, true, true, true, true, true, true, true, true, true, true, true, true, false, false, false, false, false, false, false] rfl rfl (Zal HT_.out (by kernel_rfl)) (fun _ _ _ h => h) (Or.inr ⟨by rfl, rfl⟩) ?_ ?_
    rotate_left
    ·simp only [Act.put, List.setIfInBounds_toArray, List.set_cons_zero, List.set_cons_succ, Zas, Zat]
     rfl
    refine Za0 (i := 26) (N := some 38) (v := undef) (a' := ?_) #[true, true, true, true, true, true, true, true, true, true, true, true, true, true, true, true, true, true, true, true, true, true, true, true, true, true, true, false, false, false, false, false, false] rfl rfl (Zal HT_.out (by kernel_rfl)) (fun _ _ _ h => h) (Or.inr ⟨by rfl, rfl⟩) ?_ ?_
    rotate_left
    ·simp only [Act.put, List.setIfInBounds_toArray, List.set_cons_zero, List.set_cons_succ, Zas, Zat]
     rfl
    refine Za0 (i := 27) (N := some 39) (v := undef) (a' := ?_) #[true, true, true, true, true, true, true, true, true, true, true, true, true, true, true, true, true, true, true, true, true, true, true, true, true, true, true, true, false, false, false, false, false] rfl rfl (Zal HT_.out (by kernel_rfl)) (fun _ _ _ h => h) (Or.inr ⟨by rfl, rfl⟩) ?_ ?_
    rotate_left
    ·simp only [Act.put, List.setIfInBounds_toArray, List.set_cons_zero, List.set_cons_succ, Zas, Zat]
     rfl
    refine Za0 (i := 28) (N := some 40) (v := undef) (a' := ?_) #[true, true, true, true, true, true, true, true, true, true, true, true, true, true, true, true, true, true, true, true, true, true, true, true, true, true, true, true, true, false, false, false, false] rfl rfl (Zal HT_.out (by kernel_rfl)) (fun _ _ _ h => h) (Or.inr ⟨by rfl, rfl⟩) ?_ ?_
    rotate_left
    ·simp only [Act.put, List.setIfInBounds_toArray, List.set_cons_zero, List.set_cons_succ, Zas, Zat]
     rfl
    refine Za0 (i := 29) (N := some 41) (v := undef) (a' := ?_) #[true, true, true, true, true, true, true, true, true, true, true, true, true, true, true, true, true, true, true, true, true, true, true, true, true, true, true, true, true, true, false, false, false] rfl rfl (Zal HT_.out (by kernel_rfl)) (fun _ _ _ h => h) (Or.inr ⟨by rfl, rfl⟩) ?_ ?_
    rotate_left
    ·simp only [Act.put, List.setIfInBounds_toArray, List.set_cons_zero, List.set_cons_succ, Zas, Zat]
     rfl
    refine Za0 (i := 30) (N := some 42) (v := undef) (a' := ?_) #[true, true, true, true, true, true, true, true, true, true, true, true, true, true, true, true, true, true, true, true, true, true, true, true, true, true, true, true, true, true, true, false, false] rfl rfl (Zal HT_.out (by kernel_rfl)) (fun _ _ _ h => h) (Or.inr ⟨by rfl, rfl⟩) ?_ ?_
    rotate_left
    ·simp only [Act.put, List.setIfInBounds_toArray, List.set_cons_zero, List.set_cons_succ, Zas, Zat]
     rfl
    refine Za0 (i := 31) (N := some 43) (v := undef) (a' := ?_) #[true, true, true, true, true, true, true, true, true, true, true, true, true, true, true, true, true, true, true, true, true, true, true, true, true, true, true, true, true, true, true, true, false] rfl rfl (Zal HT_.out (by kernel_rfl)) (fun _ _ _ h => h) (Or.inr ⟨by rfl, rfl⟩) ?_ ?_
    rotate_left
    ·simp only [Act.put, List.setIfInBounds_toArray, List.set_cons_zero, List.set_cons_succ, Zas, Zat]
     rfl
    refine Za0 (i := 32) (N := some 44) (v := ?_) (a' := ?_) #[true, true, true, true, true, true, true, true, true, true, true, true, true, true, true, true, true, true, true, true, true, true, true, true, true, true, true, true, true, true, true, true, true] rfl rfl (Zal HT_.out (by kernel_rfl)) (fun _ _ _ h => h) (Or.inl ⟨by rfl, ?_⟩) ?_ ?_
    rotate_left
    ·intro w'
     go_simp
     with_reducible rfl
    rotate_left
    ·simp only [Act.put, List.setIfInBounds_toArray, List.set_cons_zero, List.set_cons_succ, Zas, Zat]
     rfl
    refine Ze4 (Zdl HT_.out (by kernel_rfl)) ?_
    try go_wp2
    go_ret
    exact ⟨by first | rfl | (simp [Zam, Zan] <;> rfl) | (simp [*, Zam, Zan] <;> rfl), by repeat (first | (with_reducible first | exact HB.out | apply Zab | apply Zaa | apply Zac | refine Zae ?_ GE340.out) | exact HB.out)⟩
   subst c8
   have H1 : (if ((Zao l0 x7_1).f0) > ((Zao l0 x7_1).f1) then (some false) else (if x7_1 > 0 then (if 0 ≤ (wrap64 (x7_1 - 1)) then (if (wrap64 (x7_1 - 1)) < (l0.length : Int) then (if ((Zao l0 x7_1).f0) < (wrap64 (((Zao l0 (wrap64 (x7_1 - 1))).f1) + 2)) then (some false) else (Zba.l0 k1 l0 l0 (l0.length : Int) (wrap64 (x7_1 + 1)))) else (none)) else (none)) else (Zba.l0 k1 l0 l0 (l0.length : Int) (wrap64 (x7_1 + 1))))) = some r := by rw [if_pos rfl] at H; exact H
   clear H
   have H := H1
   clear H1
   by_cases c9 : ((Zao l0 x7_1).f0) > ((Zao l0 x7_1).f1)
   ·rw [if_pos c9] at H
    have c9b0 : decide (((Zao l0 x7_1).f1) < ((Zao l0 x7_1).f0)) = true := decide_eq_true c9
    clear c9
    obtain rfl := Option.some.inj H
    have p339 : 0 ≤ (x7_1 : Int) := of_decide_eq_true (by first | (with_reducible assumption) | assumption)
    have q339 : x7_1 < (l0.length : Int) := of_decide_eq_true (by first | (with_reducible assumption) | assumption)
    obtain ⟨ad339, e339, hx339_0, hx339_1⟩ := Zdf HR0.out x7_1 p339 q339
    cases e339
    replace hx339_0 := (HB.out.cell (World.block_lt_of_cell? w _ hx339_0)).trans hx339_0
    replace hx339_1 := (HB.out.cell (World.block_lt_of_cell? w _ hx339_1)).trans hx339_1
    replace p339 := eq_true p339
    replace q339 := eq_true q339
    try go_wp2_with (first | ((with_reducible refine Zaz (N := 4) rfl ?_); refine Za5 ?hg (N := 4) ?hd (cs := #[.int .i64 0, .int .i64 0]) (t := 48) ?hr ?_; (case hd => rfl); (case hg => rfl); (case hr => first | (go_simp; done) | (go_simp; rfl)); intro gb340 hg w10 hbox hb; have n0_ := Za.mk (Zad (by repeat (first | (with_reducible first | exact HB.out | apply Zab | apply Zaa | apply Zac) | exact HB.out)) hb); have n1_ := Za.mk (hbox); have n2_ := Za.mk ((by rw [hg]; exact (Zaj (by repeat (first | (with_reducible first | exact HB.out | apply Zab | apply Zaa | apply Zac) | exact HB.out))) : w.heap.size ≤ gb340)); have n3_ := Za.mk ((by rw [hg]; exact (Zaj (by repeat (first | (with_reducible first | exact HB.out | apply Zab | apply Zaa | apply Zac) | exact HB.out))) : w.heap.size ≤ gb340)); clear HB; have HB := n0_; have BK340 := n1_; have GW340 := n2_; have GE340 := n3_; clear n0_ n1_ n2_ n3_; clear hb hbox hg; obtain ⟨hcz11_0, hcz11_1, hfz11_0, hfz11_1⟩ := Zdg BK340.out))
    have n0_ : Za (((w10.setCell ⟨gb340, 0, none⟩ (.int .i64 ((Zao l0 x7_1).f0))).setCell ⟨gb340, 1, none⟩ (.int .i64 ((Zao l0 x7_1).f1))).heap[gb340]? = some (.cells #[.int .i64 ((Zao l0 x7_1).f0), .int .i64 ((Zao l0 x7_1).f1)] 48 (0, 0))) := ⟨by (with_reducible repeat (first | refine blk_drewN ?_ _ | refine Zag ?_ | refine Zaf ?_ _)); refine Zax (cs := #[.int .i64 ((Zao l0 x7_1).f0), .int .i64 0]) ?_ 1 _ rfl; (with_reducible repeat (first | refine blk_drewN ?_ _ | refine Zag ?_ | refine Zaf ?_ _)); refine Zax (cs := #[.int .i64 0, .int .i64 0]) ?_ 0 _ rfl; (with_reducible repeat (first | refine blk_drewN ?_ _ | refine Zag ?_ | refine Zaf ?_ _)); exact BK340.out⟩
    have n1_ : Za (Below w.heap.size w ((w10.setCell ⟨gb340, 0, none⟩ (.int .i64 ((Zao l0 x7_1).f0))).setCell ⟨gb340, 1, none⟩ (.int .i64 ((Zao l0 x7_1).f1)))) := ⟨by repeat (first | (with_reducible first | exact HB.out | apply Zab | apply Zaa | apply Zac | refine Zae ?_ GE340.out) | exact HB.out)⟩
    (try clear BK340)
    (try clear HB)
    generalize ((w10.setCell ⟨gb340, 0, none⟩ (.int .i64 ((Zao l0 x7_1).f0))).setCell ⟨gb340, 1, none⟩ (.int .i64 ((Zao l0 x7_1).f1))) = w12 at n0_ n1_ ⊢
    have BK340 := n0_
    have HB := n1_
    clear n0_ n1_
    have n0_ := Za.mk (Zag BK340.out)
    have n1_ := Za.mk (Zac HB.out)
    clear BK340
    clear HB
    have BK340 := n0_
    have HB := n1_
    clear n0_ n1_
    refine Zd0 (n := 33) (S := fun w' => w'.cell? ⟨gb340, 0, none⟩ = some (.int .i64 ((Zao l0 x7_1).f0)) ∧ w'.cell? ⟨gb340, 1, none⟩ = some (.int .i64 ((Zao l0 x7_1).f1))) (ds := []) #[false, false, false, false, false, false, false, false, false, false, false, false, false, false, false, false, false, false, false, false, false, false, false, false, false, false, false, false, false, false, false, false, false] (by kernel_rfl) rfl rfl ⟨(Zah BK340.out 0).trans rfl, (Zah BK340.out 1).trans rfl⟩ (fun hHeld => ?_); refine Zcu Zba.tab4 Zba.bits4 (fun HT_ HW_ => ?_)
    generalize w12.drew = w13 at BK340 HB hHeld ⊢
    refine Za0 (i := 0) (N := some 12) (v := ?_) (a' := ?_) #[true, false, false, false, false, false, false, false, false, false, false, false, false, false, false, false, false, false, false, false, false, false, false, false, false, false, false, false, false, false, false, false, false] rfl rfl (Zal HT_.out (by kernel_rfl)) (fun _ _ _ h => h) (Or.inl ⟨by rfl, ?_⟩) ?_ ?_
    rotate_left
    ·intro w'
     go_simp
     with_reducible rfl
    rotate_left
    ·simp only [Act.put, List.setIfInBounds_toArray, List.set_cons_zero, List.set_cons_succ, Zas, Zat]
     rfl
    refine Zcl (i := 1) (N := some 13) (v := ?_) (a' := ?_) #[true, true, false, false, false, false, false, false, false, false, false, false, false, false, false, false, false, false, false, false, false, false, false, false, false, false, false, false, false, false, false, false, false] rfl rfl (Zbj HT_.out HW_.out (by kernel_rfl)) (fun _ _ _ h => h) (Or.inl ⟨by rfl, ?_⟩) hHeld ?_ ?_
    rotate_left
    ·rintro w' ⟨s0, s1⟩
     go_simp
     with_reducible rfl
    rotate_left
    ·simp only [Act.put, List.setIfInBounds_toArray, List.set_cons_zero, List.set_cons_succ, Zas, Zat]
     rfl
    refine one_ (i := 2) (N := some 14) #[true, true, true, false, false, false, false, false, false, false, false, false, false, false, false, false, false, false, false, false, false, false, false, false, false, false, false, false, false, false, false, false, false] rfl rfl (Zb6 HT_.out (by kernel_rfl)) (by decide) (fun K hK => ?_)
    refine Zc2 Try.func109 (by kernel_rfl) rfl #[.int .i64 ((Zao l0 x7_1).f0)] (by rfl) rfl rfl (by (try simp only [List.map_toArray, List.map_cons, List.map_nil]); first | done | rfl | (simp only [List.length_drop, List.length_take]; rfl)) ?_
    with_reducible refine (Zb2.calls ((Zao l0 x7_1).f0) true _ A5.out).mono ?_
    rintro e w' ⟨rfl, ⟨nd, rfl⟩⟩
    refine ⟨_, rfl, ?_⟩
    refine hK.out _ _ ⟨(Zah BK340.out 0).trans rfl, (Zah BK340.out 1).trans rfl⟩ (fun hHeld => ?_)
    clear hK K
    refine Zcg (a' := ?_) ?_ ?_
    rotate_left
    ·show Act.put _ (some 14) _ = _
     simp only [Act.put, List.setIfInBounds_toArray, List.set_cons_zero, List.set_cons_succ, Zas, Zat]
     rfl
    refine Za0 (i := 3) (N := some 15) (v := ?_) (a' := ?_) #[true, true, true, true, false, false, false, false, false, false, false, false, false, false, false, false, false, false, false, false, false, false, false, false, false, false, false, false, false, false, false, false, false] rfl rfl (Zal HT_.out (by kernel_rfl)) (fun _ _ _ h => h) (Or.inl ⟨by rfl, ?_⟩) ?_ ?_
    rotate_left
    ·intro w'
     go_simp
     with_reducible rfl
    rotate_left
    ·simp only [Act.put, List.setIfInBounds_toArray, List.set_cons_zero, List.set_cons_succ, Zas, Zat]
     rfl
    refine Za0 (i := 4) (N := some 16) (v := ?_) (a' := ?_) #[true, true, true, true, true, false, false, false, false, false, false, false, false, false, false, false, false, false, false, false, false, false, false, false, false, false, false, false, false, false, false, false, false] rfl rfl (Zal HT_.out (by kernel_rfl)) (fun _ _ _ h => h) (Or.inl ⟨by rfl, ?_⟩) ?_ ?_
    rotate_left
    ·intro w'
     go_simp
     with_reducible rfl
    rotate_left
    ·simp only [Act.put, List.setIfInBounds_toArray, List.set_cons_zero, List.set_cons_succ, Zas, Zat]
     rfl
    refine Za0 (i := 5) (N := some 17) (v := ?_) (a' := ?_) #[true, true, true, true, true, true, false, false, false, false, false, false, false, false, false, false, false, false, false, false, false, false, false, false, false, false, false, false, false, false, false, false, false] rfl rfl (Zal HT_.out (by kernel_rfl)) (fun _ _ _ h => h) (Or.inl ⟨by rfl, ?_⟩) ?_ ?_
    rotate_left
    ·intro w'
     go_simp
     with_reducible rfl
    rotate_left
    ·simp only [Act.put, List.setIfInBounds_toArray, List.set_cons_zero, List.set_cons_succ, Zas, Zat]
     rfl
    refine Zcl (i := 6) (N := some 18) (v := ?_) (a' := ?_) #[true, true, true, true, true, true, true, false, false, false, false, false, false, false, false, false, false, false, false, false, false, false, false, false, false, false, false, false, false, false, false, false, false] rfl rfl (Zbj HT_.out HW_.out (by kernel_rfl)) (fun _ _ _ h => h) (Or.inl ⟨by rfl, ?_⟩) hHeld ?_ ?_
    rotate_left
    ·rintro w' ⟨s0, s1⟩
     go_simp
     with_reducible rfl
    rotate_left
    ·simp only [Act.put, List.setIfInBounds_toArray, List.set_cons_zero, List.set_cons_succ, Zas, Zat]
     rfl
    refine one_ (i := 7) (N := some 19) #[true, true, true, true, true, true, true, true, false, false, false, false, false, false, false, false, false, false, false, false, false, false, false, false, false, false, false, false, false, false, false, false, false] rfl rfl (Zb6 HT_.out (by kernel_rfl)) (by decide) (fun K hK => ?_)
    refine Zc2 Try.func109 (by kernel_rfl) rfl #[.int .i64 ((Zao l0 x7_1).f1)] (by rfl) rfl rfl (by (try simp only [List.map_toArray, List.map_cons, List.map_nil]); first | done | rfl | (simp only [List.length_drop, List.length_take]; rfl)) ?_
    with_reducible refine (Zb2.calls ((Zao l0 x7_1).f1) true _ A7.out).mono ?_
    rintro e w' ⟨rfl, ⟨nd, rfl⟩⟩
    refine ⟨_, rfl, ?_⟩
    refine hK.out _ _ ⟨(Zah BK340.out 0).trans rfl, (Zah BK340.out 1).trans rfl⟩ (fun hHeld => ?_)
    clear hK K
    refine Zcg (a' := ?_) ?_ ?_
    rotate_left
    ·show Act.put _ (some 19) _ = _
     simp only [Act.put, List.setIfInBounds_toArray, List.set_cons_zero, List.set_cons_succ, Zas, Zat]
     rfl
    refine Za0 (i := 8) (N := some 20) (v := ?_) (a' := ?_) #[true, true, true, true, true, true, true, true, true, false, false, false, false, false, false, false, false, false, false, false, false, false, false, false, false, false, false, false, false, false, false, false, false] rfl rfl (Zal HT_.out (by kernel_rfl)) (fun _ _ _ h => h) (Or.inl ⟨by rfl, ?_⟩) ?_ ?_
    rotate_left
    ·intro w'
     go_simp
     with_reducible rfl
    rotate_left
    ·simp only [Act.put, List.setIfInBounds_toArray, List.set_cons_zero, List.set_cons_succ, Zas, Zat]
     rfl
    refine Za0 (i := 9) (N := some 21) (v := ?_) (a' := ?_) #[true, true, true, true, true, true, true, true, true, true, false, false, false, false, false, false, false, false, false, false, false, false, false, false, false, false, false, false, false, false, false, false, false] rfl rfl (Zal HT_.out (by kernel_rfl)) (fun _ _ _ h => h) (Or.inl ⟨by rfl, ?_⟩) ?_ ?_
    rotate_left
    ·intro w'
     go_simp
     with_reducible rfl
    rotate_left
    ·simp only [Act.put, List.setIfInBounds_toArray, List.set_cons_zero, List.set_cons_succ, Zas, Zat]
     rfl
    refine Za0 (i := 10) (N := some 22) (v := ?_) (a' := ?_) #[true, true, true, true, true, true, true, true, true, true, true, false, false, false, false, false, false, false, false, false, false, false, false, false, false, false, false, false, false, false, false, false, false] rfl rfl (Zal HT_.out (by kernel_rfl)) (fun _ _ _ h => h) (Or.inl ⟨by rfl, ?_⟩) ?_ ?_
    rotate_left
    ·intro w'
     go_simp
     with_reducible rfl
    rotate_left
    ·simp only [Act.put, List.setIfInBounds_toArray, List.set_cons_zero, List.set_cons_succ, Zas, Zat]
     rfl
    refine Za0 (i := 11) (N := some 23) (v := ?_) (a' := ?_) #[true, true, true, true, true, true, true, true, true, true, true, true, false, false, false, false, false, false, false, false, false, false, false, false, false, false, false, false, false, false, false, false, false] rfl rfl (Zal HT_.out (by kernel_rfl)) (fun _ _ _ h => h) (Or.inl ⟨by rfl, ?_⟩) ?_ ?_
    rotate_left
    ·intro w'
     go_simp
     with_reducible rfl
    rotate_left
    ·simp only [Act.put, List.setIfInBounds_toArray, List.set_cons_zero, List.set_cons_succ, Zas, Zat]
     rfl
    refine Za0 (i := 13) (N := some 25) (v := ?_) (a' := ?_) #[true, true, true, true, true, true, true, true, true, true, true, true, false, true, false, false, false, false, false, false, false, false, false, false, false, false, false, false, false, false, false, false, false] rfl rfl (Zal HT_.out (by kernel_rfl)) (fun _ _ _ h => h) (Or.inl ⟨by rfl, ?_⟩) ?_ ?_
    rotate_left
    ·intro w'
     go_simp
     with_reducible rfl
    rotate_left
    ·simp only [Act.put, List.setIfInBounds_toArray, List.set_cons_zero, List.set_cons_succ, Zas, Zat]
     rfl
    refine Zcl (i := 12) (N := some 24) (v := ?_) (a' := ?_) #[true, true, true, true, true, true, true, true, true, true, true, true, true, true, false, false, false, false, false, false, false, false, false, false, false, false, false, false, false, false, false, false, false] rfl rfl (Zbj HT_.out HW_.out (by kernel_rfl)) (fun _ _ _ h => h) (Or.inl ⟨by rfl, ?_⟩) hHeld ?_ ?_
    rotate_left
    ·rintro w' ⟨s0, s1⟩
     go_simp
     with_reducible rfl
    rotate_left
    ·simp only [Act.put, List.setIfInBounds_toArray, List.set_cons_zero, List.set_cons_succ, Zas, Zat]
     rfl
    refine Zcl (i := 14) (N := some 26) (v := ?_) (a' := ?_) #[true, true, true, true, true, true, true, true, true, true, true, true, true, true, true, false, false, false, false, false, false, false, false, false, false, false, false, false, false, false, false, false, false] rfl rfl (Zbj HT_.out HW_.out (by kernel_rfl)) (fun _ _ _ h => h) (Or.inl ⟨by rfl, ?_⟩) hHeld ?_ ?_
    rotate_left
    ·rintro w' ⟨s0, s1⟩
     go_simp
     with_reducible rfl
    rotate_left
    ·simp only [Act.put, List.setIfInBounds_toArray, List.set_cons_zero, List.set_cons_succ, Zas, Zat]
     rfl
    refine Za0 (i := 15) (N := some 27) (v := ?_) (a' := ?_) #[true, true, true, true, true, true, true, true, true, true, true, true, true, true, true, true, false, false, false, false, false, false, false, false, false, false, false, false, false, false, false, false, false] rfl rfl (Zal HT_.out (by kernel_rfl)) (fun _ _ _ h => h) (Or.inl ⟨by rfl, ?_⟩) ?_ ?_
    rotate_left
    ·intro w'
     go_simp
     with_reducible rfl
    rotate_left
    ·simp only [Act.put, List.setIfInBounds_toArray, List.set_cons_zero, List.set_cons_succ, Zas, Zat]
     rfl
    refine Za0 (i := 16) (N := some 28) (v := ?_) (a' := ?_) #[true, true, true, true, true, true, true, true, true, true, true, true, true, true, true, true, true, false, false, false, false, false, false, false, false, false, false, false, false, false, false, false, false] rfl rfl (Zal HT_.out (by kernel_rfl)) (fun _ _ _ h => h) (Or.inl ⟨by rfl, ?_⟩) ?_ ?_
    rotate_left
    ·intro w'
     go_simp
     with_reducible rfl
    rotate_left
    ·simp only [Act.put, List.setIfInBounds_toArray, List.set_cons_zero, List.set_cons_succ, Zas, Zat]
     rfl
    refine Za0 (i := 17) (N := some 29) (v := ?_) (a' := ?_) #[true, true, true, true, true, true, true, true, true, true, true, true, true, true, true, true, true, true, false, false, false, false, false, false, false, false, false, false, false, false, false, false, false] rfl rfl (Zal HT_.out (by kernel_rfl)) (fun _ _ _ h => h) (Or.inl ⟨by rfl, ?_⟩) ?_ ?_
    rotate_left
    ·intro w'
     go_simp
     with_reducible rfl
    rotate_left
    ·simp only [Act.put, List.setIfInBounds_toArray, List.set_cons_zero, List.set_cons_succ, Zas, Zat]
     rfl
    refine Za0 (i := 18) (N := some 30) (v := undef) (a' := ?_) #[true, true, true, true, true, true, true, true, true, true, true, true, true, true, true, true, true, true, true, false, false, false, false, false, false, false, false, false, false, false, false, false, false] rfl rfl (Zal HT_.out (by kernel_rfl)) (fun _ _ _ h => h) (Or.inr ⟨by rfl, rfl⟩) ?_ ?_
    rotate_left
    ·simp only [Act.put, List.setIfInBounds_toArray, List.set_cons_zero, List.set_cons_succ, Zas, Zat]
     rfl
    refine Za0 (i := 19) (N := some 31) (v := undef) (a' := ?_) #[true, true, true, true, true, true, true, true, true, true, true, true, true, true, true, true, true, true, true, true, false, false, false, false, false, false, false, false, false, false, false, false, false] rfl rfl (Zal HT_.out (by kernel_rfl)) (fun _ _ _ h => h) (Or.inr ⟨by rfl, rfl⟩) ?_ ?_
    rotate_left
    ·simp only [Act.put, List.setIfInBounds_toArray, List.set_cons_zero, List.set_cons_succ, Zas, Zat]
     rfl
    refine Za0 (i := 20) (N := some 32) (v := undef) (a' := ?_) #[true, true, true, true, true, true, true, true, true, true, true, true, true, true, true, true, true, true, true, true, true, false, false, false, false, false, false, false, false, false, false, false, false] rfl rfl (Zal HT_.out (by kernel_rfl)) (fun _ _ _ h => h) (Or.inr ⟨by rfl, rfl⟩) ?_ ?_
    rotate_left
    ·simp only [Act.put, List.setIfInBounds_toArray, List.set_cons_zero, List.set_cons_succ, Zas, Zat]
     rfl
    refine Za0 (i := 21) (N := some 33) (v := undef) (a' := ?_) #[true, true, true, true, true, true, true, true, true, true, true, true, true, true, true, true, true, true, true, true, true, true, false, false, false, false, false, false, false, false, false, false, false] rfl rfl (Zal HT_.out (by kernel_rfl)) (fun _ _ _ h => h) (Or.inr ⟨by rfl, rfl⟩) ?_ ?_
    rotate_left
    ·simp only [Act.put, List.setIfInBounds_toArray, List.set_cons_zero, List.set_cons_succ, Zas, Zat]
     rfl
    refine Za0 (i := 22) (N := some 34) (v := undef) (a' := ?_) #[true, true, true, true, true, true, true, true, true, true, true, true, true, true, true, true, true, true, true, true, true, true, true, false, false, false, false, false, false, false, false, false, false] rfl rfl (Zal HT_.out (by kernel_rfl)) (fun _ _ _ h => h) (Or.inr ⟨by rfl, rfl⟩) ?_ ?_
    rotate_left
    ·simp only [Act.put, List.setIfInBounds_toArray, List.set_cons_zero, List.set_cons_succ, Zas, Zat]
     rfl
    refine Za0 (i := 23) (N := some 35) (v := undef) (a' := ?_) #[true, true, true, true, true, true, true, true, true, true, true, true, true, true, true, true, true, true, true, true, true, true, true, true, false, false, false, false, false, false, false, false, false] rfl rfl (Zal HT_.out (by kernel_rfl)) (fun _ _ _ h => h) (Or.inr ⟨by rfl, rfl⟩) ?_ ?_
    rotate_left
    ·simp only [Act.put, List.setIfInBounds_toArray, List.set_cons_zero, List.set_cons_succ, Zas, Zat]
     rfl
    refine Za0 (i := 24) (N := some 36) (v := undef) (a' := ?_) #[true, true, true, true, true, true, true, true, true, true, true, true, true, true, true, true, true, true, true, true, true, true, true, true, true, false, false, false, false, false, false, false, false] rfl rfl (Zal HT_.out (by kernel_rfl)) (fun _ _ _ h => h) (Or.inr ⟨by rfl, rfl⟩) ?_ ?_
    rotate_left
    ·simp only [Act.put, List.setIfInBounds_toArray, List.set_cons_zero, List.set_cons_succ, Zas, Zat]
     rfl
    refine Za0 (i := 25) (N := some 37) (v := undef) (a' := ?_) #[true, true, true, true, true, true, true, true, true, true, true, true, true, true, true, true, true, true, true, true, true, true, true, true, true, true, false, false, false, false, false, false, false] rfl rfl (Zal HT_.out (by kernel_rfl)) (fun _ _ _ h => h) (Or.inr ⟨by rfl, rfl⟩) ?_ ?_
    rotate_left
    ·simp only [Act.put, List.setIfInBounds_toArray, List.set_cons_zero, List.set_cons_succ, Zas, Zat]
     rfl
    refine Za0 (i := 26) (N := some 38) (v := undef) (a' := ?_) #[true, true, true, true, true, true, true, true, true, true, true, true, true, true, true, true, true, true, true, true, true, true, true, true, true, true, true, false, false, false, false, false, false] rfl rfl (Zal HT_.out (by kernel_rfl)) (fun _ _ _ h => h) (Or.inr ⟨by rfl, rfl⟩) ?_ ?_
    rotate_left
    ·simp only [Act.put, List.setIfInBounds_toArray, List.set_cons_zero, List.set_cons_succ, Zas, Zat]
     rfl
    refine Za0 (i := 27) (N := some 39) (v := undef) (a' := ?_) #[true, true, true, true, true, true, true, true, true, true, true, true, true, true, true, true, true, true, true, true, true, true, true, true, true, true, true, true, false, false, false, false, false] rfl rfl (Zal HT_.out (by kernel_rfl)) (fun _ _ _ h => h) (Or.inr ⟨by rfl, rfl⟩) ?_ ?_
    rotate_left
    ·simp only [Act.put, List.setIfInBounds_toArray, List.set_cons_zero, List.set_cons_succ, Zas, Zat]
     rfl
    refine Za0 (i := 28) (N := some 40) (v := undef) (a' := ?_) #[true, true, true, true, true, true, true, true, true, true, true, true, true, true, true, true, true, true, true, true, true, true, true, true, true, true, true, true, true, false, false, false, false] rfl rfl (Zal HT_.out (by kernel_rfl)) (fun _ _ _ h => h) (Or.inr ⟨by rfl, rfl⟩) ?_ ?_
    rotate_left
    ·simp only [Act.put, List.setIfInBounds_toArray, List.set_cons_zero, List.set_cons_succ, Zas, Zat]
     rfl
    refine Za0 (i := 29) (N := some 41) (v := undef) (a' := ?_) #[true, true, true, true, true, true, true, true, true, true, true, true, true, true, true, true, true, true, true, true, true, true, true, true, true, true, true, true, true, true, false, false, false] rfl rfl (Zal HT_.out (by kernel_rfl)) (fun _ _ _ h => h) (Or.inr ⟨by rfl, rfl⟩) ?_ ?_
    rotate_left
    ·simp only [Act.put, List.setIfInBounds_toArray, List.set_cons_zero, List.set_cons_succ, Zas, Zat]
     rfl
    refine Za0 (i := 30) (N := some 42) (v := undef) (a' := ?_) #[true, true, true, true, true, true, true, true, true, true, true, true, true, true, true, true, true, true, true, true, true, true, true, true, true, true, true, true, true, true, true, false, false] rfl rfl (Zal HT_.out (by kernel_rfl)) (fun _ _ _ h => h) (Or.inr ⟨by rfl, rfl⟩) ?_ ?_
    rotate_left
    ·simp only [Act.put, List.setIfInBounds_toArray, List.set_cons_zero, List.set_cons_succ, Zas, Zat]
     rfl
    refine Za0 (i := 31) (N := some 43) (v := undef) (a' := ?_) #[true, true, true, true, true, true, true, true, true, true, true, true, true, true, true, true, true, true, true, true, true, true, true, true, true, true, true, true, true, true, true, true, false] rfl rfl (Zal HT_.out (by kernel_rfl)) (fun _ _ _ h => h) (Or.inr ⟨by rfl, rfl⟩) ?_ ?_
    rotate_left
    ·simp only [Act.put, List.setIfInBounds_toArray, List.set_cons_zero, List.set_cons_succ, Zas, Zat]
     rfl
    refine Za0 (i := 32) (N := some 44) (v := ?_) (a' := ?_) #[true, true, true, true, true, true, true, true, true, true, true, true, true, true, true, true, true, true, true, true, true, true, true, true, true, true, true, true, true, true, true, true, true] rfl rfl (Zal HT_.out (by kernel_rfl)) (fun _ _ _ h => h) (Or.inl ⟨by rfl, ?_⟩) ?_ ?_
    rotate_left
    ·intro w'
     go_simp
     with_reducible rfl
    rotate_left
    ·simp only [Act.put, List.setIfInBounds_toArray, List.set_cons_zero, List.set_cons_succ, Zas, Zat]
     rfl
    refine Ze4 (Zdl HT_.out (by kernel_rfl)) ?_
    try go_wp2
    go_ret
    exact ⟨by first | rfl | (simp [Zam, Zan] <;> rfl) | (simp [*, Zam, Zan] <;> rfl), by repeat (first | (with_reducible first | exact HB.out | apply Zab | apply Zaa | apply Zac | refine Zae ?_ GE340.out) | exact HB.out)⟩
   rw [if_neg c9] at H
   have c9b0 : decide (((Zao l0 x7_1).f1) < ((Zao l0 x7_1).f0)) = false := decide_eq_false c9
   clear c9
   by_cases c14 : x7_1 > 0
   rotate_left
   ·rw [if_neg c14] at H
    have c14b0 : decide (0 < x7_1) = false := decide_eq_false c14
    clear c14
    have H' := Za.mk H
    clear H
    have p339 : 0 ≤ (x7_1 : Int) := of_decide_eq_true (by first | (with_reducible assumption) | assumption)
    have q339 : x7_1 < (l0.length : Int) := of_decide_eq_true (by first | (with_reducible assumption) | assumption)
    obtain ⟨ad339, e339, hx339_0, hx339_1⟩ := Zdf HR0.out x7_1 p339 q339
    cases e339
    replace hx339_0 := (HB.out.cell (World.block_lt_of_cell? w _ hx339_0)).trans hx339_0
    replace hx339_1 := (HB.out.cell (World.block_lt_of_cell? w _ hx339_1)).trans hx339_1
    replace p339 := eq_true p339
    replace q339 := eq_true q339
    try go_wp2_with (first | ((with_reducible refine Zaz (N := 4) rfl ?_); refine Za5 ?hg (N := 4) ?hd (cs := #[.int .i64 0, .int .i64 0]) (t := 48) ?hr ?_; (case hd => rfl); (case hg => rfl); (case hr => first | (go_simp; done) | (go_simp; rfl)); intro gb340 hg w27 hbox hb; have n0_ := Za.mk (Zad (by repeat (first | (with_reducible first | exact HB.out | apply Zab | apply Zaa | apply Zac) | exact HB.out)) hb); have n1_ := Za.mk (hbox); have n2_ := Za.mk ((by rw [hg]; exact (Zaj (by repeat (first | (with_reducible first | exact HB.out | apply Zab | apply Zaa | apply Zac) | exact HB.out))) : w.heap.size ≤ gb340)); have n3_ := Za.mk ((by rw [hg]; exact (Zaj (by repeat (first | (with_reducible first | exact HB.out | apply Zab | apply Zaa | apply Zac) | exact HB.out))) : w.heap.size ≤ gb340)); clear HB; have HB := n0_; have BK340 := n1_; have GW340 := n2_; have GE340 := n3_; clear n0_ n1_ n2_ n3_; clear hb hbox hg; obtain ⟨hcz28_0, hcz28_1, hfz28_0, hfz28_1⟩ := Zdg BK340.out))
    have n0_ : Za (((w27.setCell ⟨gb340, 0, none⟩ (.int .i64 ((Zao l0 x7_1).f0))).setCell ⟨gb340, 1, none⟩ (.int .i64 ((Zao l0 x7_1).f1))).heap[gb340]? = some (.cells #[.int .i64 ((Zao l0 x7_1).f0), .int .i64 ((Zao l0 x7_1).f1)] 48 (0, 0))) := ⟨by (with_reducible repeat (first | refine blk_drewN ?_ _ | refine Zag ?_ | refine Zaf ?_ _)); refine Zax (cs := #[.int .i64 ((Zao l0 x7_1).f0), .int .i64 0]) ?_ 1 _ rfl; (with_reducible repeat (first | refine blk_drewN ?_ _ | refine Zag ?_ | refine Zaf ?_ _)); refine Zax (cs := #[.int .i64 0, .int .i64 0]) ?_ 0 _ rfl; (with_reducible repeat (first | refine blk_drewN ?_ _ | refine Zag ?_ | refine Zaf ?_ _)); exact BK340.out⟩
    have n1_ : Za (Below w.heap.size w ((w27.setCell ⟨gb340, 0, none⟩ (.int .i64 ((Zao l0 x7_1).f0))).setCell ⟨gb340, 1, none⟩ (.int .i64 ((Zao l0 x7_1).f1)))) := ⟨by repeat (first | (with_reducible first | exact HB.out | apply Zab | apply Zaa | apply Zac | refine Zae ?_ GE340.out) | exact HB.out)⟩
    (try clear BK340)
    (try clear HB)
    generalize ((w27.setCell ⟨gb340, 0, none⟩ (.int .i64 ((Zao l0 x7_1).f0))).setCell ⟨gb340, 1, none⟩ (.int .i64 ((Zao l0 x7_1).f1))) = w29 at n0_ n1_ ⊢
    have BK340 := n0_
    have HB := n1_
    clear n0_ n1_
    have n0_ := Za.mk (Zag BK340.out)
    have n1_ := Za.mk (Zac HB.out)
    clear BK340
    clear HB
    have BK340 := n0_
    have HB := n1_
    clear n0_ n1_
    refine Zd0 (n := 33) (S := fun w' => w'.cell? ⟨gb340, 0, none⟩ = some (.int .i64 ((Zao l0 x7_1).f0)) ∧ w'.cell? ⟨gb340, 1, none⟩ = some (.int .i64 ((Zao l0 x7_1).f1))) (ds := []) #[false, false, false, false, false, false, false, false, false, false, false, false, false, false, false, false, false, false, false, false, false, false, false, false, false, false, false, false, false, false, false, false, false] (by kernel_rfl) rfl rfl ⟨(Zah BK340.out 0).trans rfl, (Zah BK340.out 1).trans rfl⟩ (fun hHeld => ?_); refine Zcu Zba.tab4 Zba.bits4 (fun HT_ HW_ => ?_)
    generalize w29.drew = w30 at BK340 HB hHeld ⊢
    refine Za0 (i := 0) (N := some 12) (v := ?_) (a' := ?_) #[true, false, false, false, false, false, false, false, false, false, false, false, false, false, false, false, false, false, false, false, false, false, false, false, false, false, false, false, false, false, false, false, false] rfl rfl (Zal HT_.out (by kernel_rfl)) (fun _ _ _ h => h) (Or.inl ⟨by rfl, ?_⟩) ?_ ?_
    rotate_left
    ·intro w'
     go_simp
     with_reducible rfl
    rotate_left
    ·simp only [Act.put, List.setIfInBounds_toArray, List.set_cons_zero, List.set_cons_succ, Zas, Zat]
     rfl
    refine Zcl (i := 1) (N := some 13) (v := ?_) (a' := ?_) #[true, true, false, false, false, false, false, false, false, false, false, false, false, false, false, false, false, false, false, false, false, false, false, false, false, false, false, false, false, false, false, false, false] rfl rfl (Zbj HT_.out HW_.out (by kernel_rfl)) (fun _ _ _ h => h) (Or.inl ⟨by rfl, ?_⟩) hHeld ?_ ?_
    rotate_left
    ·rintro w' ⟨s0, s1⟩
     go_simp
     with_reducible rfl
    rotate_left
    ·simp only [Act.put, List.setIfInBounds_toArray, List.set_cons_zero, List.set_cons_succ, Zas, Zat]
     rfl
    refine one_ (i := 2) (N := some 14) #[true, true, true, false, false, false, false, false, false, false, false, false, false, false, false, false, false, false, false, false, false, false, false, false, false, false, false, false, false, false, false, false, false] rfl rfl (Zb6 HT_.out (by kernel_rfl)) (by decide) (fun K hK => ?_)
    refine Zc2 Try.func109 (by kernel_rfl) rfl #[.int .i64 ((Zao l0 x7_1).f0)] (by rfl) rfl rfl (by (try simp only [List.map_toArray, List.map_cons, List.map_nil]); first | done | rfl | (simp only [List.length_drop, List.length_take]; rfl)) ?_
    with_reducible refine (Zb2.calls ((Zao l0 x7_1).f0) true _ A5.out).mono ?_
    rintro e w' ⟨rfl, ⟨nd, rfl⟩⟩
    refine ⟨_, rfl, ?_⟩
    refine hK.out _ _ ⟨(Zah BK340.out 0).trans rfl, (Zah BK340.out 1).trans rfl⟩ (fun hHeld => ?_)
    clear hK K
    refine Zcg (a' := ?_) ?_ ?_
    rotate_left
    ·show Act.put _ (some 14) _ = _
     simp only [Act.put, List.setIfInBounds_toArray, List.set_cons_zero, List.set_cons_succ, Zas, Zat]
     rfl
    refine Za0 (i := 3) (N := some 15) (v := ?_) (a' := ?_) #[true, true, true, true, false, false, false, false, false, false, false, false, false, false, false, false, false, false, false, false, false, false, false, false, false, false, false, false, false, false, false, false, false] rfl rfl (Zal HT_.out (by kernel_rfl)) (fun _ _ _ h => h) (Or.inl ⟨by rfl, ?_⟩) ?_ ?_
    rotate_left
    ·intro w'
     go_simp
     with_reducible rfl
    rotate_left
    ·simp only [Act.put, List.setIfInBounds_toArray, List.set_cons_zero, List.set_cons_succ, Zas, Zat]
     rfl
    refine Za0 (i := 4) (N := some 16) (v := ?_) (a' := ?_) #[true, true, true, true, true, false, false, false, false, false, false, false, false, false, false, false, false, false, false, false, false, false, false, false, false, false, false, false, false, false, false, false, false] rfl rfl (Zal HT_.out (by kernel_rfl)) (fun _ _ _ h => h) (Or.inl ⟨by rfl, ?_⟩) ?_ ?_
    rotate_left
    ·intro w'
     go_simp
     with_reducible rfl
    rotate_left
    ·simp only [Act.put, List.setIfInBounds_toArray, List.set_cons_zero, List.set_cons_succ, Zas, Zat]
     rfl
    refine Za0 (i := 5) (N := some 17) (v := ?_) (a' := ?_) #[true, true, true, true, true, true, false, false, false, false, false, false, false, false, false, false, false, false, false, false, false, false, false, false, false, false, false, false, false, false, false, false, false] rfl rfl (Zal HT_.out (by kernel_rfl)) (fun _ _ _ h => h) (Or.inl ⟨by rfl, ?_⟩) ?_ ?_
    rotate_left
    ·intro w'
     go_simp
     with_reducible rfl
    rotate_left
    ·simp only [Act.put, List.setIfInBounds_toArray, List.set_cons_zero, List.set_cons_succ, Zas, Zat]
     rfl
    refine Zcl (i := 6) (N := some 18) (v := ?_) (a' := ?_) #[true, true, true, true, true, true, true, false, false, false, false, false, false, false, false, false, false, false, false, false, false, false, false, false, false, false, false, false, false, false, false, false, false] rfl rfl (Zbj HT_.out HW_.out (by kernel_rfl)) (fun _ _ _ h => h) (Or.inl ⟨by rfl, ?_⟩) hHeld ?_ ?_
    rotate_left
    ·rintro w' ⟨s0, s1⟩
     go_simp
     with_reducible rfl
    rotate_left
    ·simp only [Act.put, List.setIfInBounds_toArray, List.set_cons_zero, List.set_cons_succ, Zas, Zat]
     rfl
    refine one_ (i := 7) (N := some 19) #[true, true, true, true, true, true, true, true, false, false, false, false, false, false, false, false, false, false, false, false, false, false, false, false, false, false, false, false, false, false, false, false, false] rfl rfl (Zb6 HT_.out (by kernel_rfl)) (by decide) (fun K hK => ?_)
    refine Zc2 Try.func109 (by kernel_rfl) rfl #[.int .i64 ((Zao l0 x7_1).f1)] (by rfl) rfl rfl (by (try simp only [List.map_toArray, List.map_cons, List.map_nil]); first | done | rfl | (simp only [List.length_drop, List.length_take]; rfl)) ?_
    with_reducible refine (Zb2.calls ((Zao l0 x7_1).f1) true _ A7.out).mono ?_
    rintro e w' ⟨rfl, ⟨nd, rfl⟩⟩
    refine ⟨_, rfl, ?_⟩
    refine hK.out _ _ ⟨(Zah BK340.out 0).trans rfl, (Zah BK340.out 1).trans rfl⟩ (fun hHeld => ?_)
    clear hK K
    refine Zcg (a' := ?_) ?_ ?_
    rotate_left
    ·show Act.put _ (some 19) _ = _
     simp only [Act.put, List.setIfInBounds_toArray, List.set_cons_zero, List.set_cons_succ, Zas, Zat]
     rfl
    refine Za0 (i := 8) (N := some 20) (v := ?_) (a' := ?_) #[true, true, true, true, true, true, true, true, true, false, false, false, false, false, false, false, false, false, false, false, false, false, false, false, false, false, false, false, false, false, false, false, false] rfl rfl (Zal HT_.out (by kernel_rfl)) (fun _ _ _ h => h) (Or.inl ⟨by rfl, ?_⟩) ?_ ?_
    rotate_left
    ·intro w'
     go_simp
     with_reducible rfl
    rotate_left
    ·simp only [Act.put, List.setIfInBounds_toArray, List.set_cons_zero, List.set_cons_succ, Zas, Zat]
     rfl
    refine Za0 (i := 9) (N := some 21) (v := ?_) (a' := ?_) #[true, true, true, true, true, true, true, true, true, true, false, false, false, false, false, false, false, false, false, false, false, false, false, false, false, false, false, false, false, false, false, false, false] rfl rfl (Zal HT_.out (by kernel_rfl)) (fun _ _ _ h => h) (Or.inl ⟨by rfl, ?_⟩) ?_ ?_
    rotate_left
    ·intro w'
     go_simp
     with_reducible rfl
    rotate_left
    ·simp only [Act.put, List.setIfInBounds_toArray, List.set_cons_zero, List.set_cons_succ, Zas, Zat]
     rfl
    refine Za0 (i := 10) (N := some 22) (v := ?_) (a' := ?_) #[true, true, true, true, true, true, true, true, true, true, true, false, false, false, false, false, false, false, false, false, false, false, false, false, false, false, false, false, false, false, false, false, false] rfl rfl (Zal HT_.out (by kernel_rfl)) (fun _ _ _ h => h) (Or.inl ⟨by rfl, ?_⟩) ?_ ?_
    rotate_left
    ·intro w'
     go_simp
     with_reducible rfl
    rotate_left
    ·simp only [Act.put, List.setIfInBounds_toArray, List.set_cons_zero, List.set_cons_succ, Zas, Zat]
     rfl
    refine Za0 (i := 11) (N := some 23) (v := ?_) (a' := ?_) #[true, true, true, true, true, true, true, true, true, true, true, true, false, false, false, false, false, false, false, false, false, false, false, false, false, false, false, false, false, false, false, false, false] rfl rfl (Zal HT_.out (by kernel_rfl)) (fun _ _ _ h => h) (Or.inl ⟨by rfl, ?_⟩) ?_ ?_
    rotate_left
    ·intro w'
     go_simp
     with_reducible rfl
    rotate_left
    ·simp only [Act.put, List.setIfInBounds_toArray, List.set_cons_zero, List.set_cons_succ, Zas, Zat]
     rfl
    refine Za0 (i := 13) (N := some 25) (v := ?_) (a' := ?_) #[true, true, true, true, true, true, true, true, true, true, true, true, false, true, false, false, false, false, false, false, false, false, false, false, false, false, false, false, false, false, false, false, false] rfl rfl (Zal HT_.out (by kernel_rfl)) (fun _ _ _ h => h) (Or.inl ⟨by rfl, ?_⟩) ?_ ?_
    rotate_left
    ·intro w'
     go_simp
     with_reducible rfl
    rotate_left
    ·simp only [Act.put, List.setIfInBounds_toArray, List.set_cons_zero, List.set_cons_succ, Zas, Zat]
     rfl
    refine Zcl (i := 12) (N := some 24) (v := ?_) (a' := ?_) #[true, true, true, true, true, true, true, true, true, true, true, true, true, true, false, false, false, false, false, false, false, false, false, false, false, false, false, false, false, false, false, false, false] rfl rfl (Zbj HT_.out HW_.out (by kernel_rfl)) (fun _ _ _ h => h) (Or.inl ⟨by rfl, ?_⟩) hHeld ?_ ?_
    rotate_left
    ·rintro w' ⟨s0, s1⟩
     go_simp
     with_reducible rfl
    rotate_left
    ·simp only [Act.put, List.setIfInBounds_toArray, List.set_cons_zero, List.set_cons_succ, Zas, Zat]
     rfl
    refine Zcl (i := 14) (N := some 26) (v := ?_) (a' := ?_) #[true, true, true, true, true, true, true, true, true, true, true, true, true, true, true, false, false, false, false, false, false, false, false, false, false, false, false, false, false, false, false, false, false] rfl rfl (Zbj HT_.out HW_.out (by kernel_rfl)) (fun _ _ _ h => h) (Or.inl ⟨by rfl, ?_⟩) hHeld ?_ ?_
    rotate_left
    ·rintro w' ⟨s0, s1⟩
     go_simp
     with_reducible rfl
    rotate_left
    ·simp only [Act.put, List.setIfInBounds_toArray, List.set_cons_zero, List.set_cons_succ, Zas, Zat]
     rfl
    refine Za0 (i := 15) (N := some 27) (v := ?_) (a' := ?_) #[true, true, true, true, true, true, true, true, true, true, true, true, true, true, true, true, false, false, false, false, false, false, false, false, false, false, false, false, false, false, false, false, false] rfl rfl (Zal HT_.out (by kernel_rfl)) (fun _ _ _ h => h) (Or.inl ⟨by rfl, ?_⟩) ?_ ?_
    rotate_left
    ·intro w'
     go_simp
     with_reducible rfl
    rotate_left
    ·simp only [Act.put, List.setIfInBounds_toArray, List.set_cons_zero, List.set_cons_succ, Zas, Zat]
     rfl
    refine Za0 (i := 16) (N := some 28) (v := ?_) (a' := ?_) #[true, true, true, true, true, true, true, true, true, true, true, true, true, true, true, true, true, false, false, false, false, false, false, false, false, false, false, false, false, false, false, false, false] rfl rfl (Zal HT_.out (by kernel_rfl)) (fun _ _ _ h => h) (Or.inl ⟨by rfl, ?_⟩) ?_ ?_
    rotate_left
    ·intro w'
     go_simp
     with_reducible rfl
    rotate_left
    ·simp only [Act.put, List.setIfInBounds_toArray, List.set_cons_zero, List.set_cons_succ, Zas, Zat]
     rfl
    refine Za0 (i := 17) (N := some 29) (v := ?_) (a' := ?_) #[true, true, true, true, true, true, true, true, true, true, true, true, true, true, true, true, true, true, false, false, false, false, false, false, false, false, false, false, false, false, false, false, false] rfl rfl (Zal HT_.out (by kernel_rfl)) (fun _ _ _ h => h) (Or.inl ⟨by rfl, ?_⟩) ?_ ?_
    rotate_left
    ·intro w'
     go_simp
     with_reducible rfl
    rotate_left
    ·simp only [Act.put, List.setIfInBounds_toArray, List.set_cons_zero, List.set_cons_succ, Zas, Zat]
     rfl
    refine Za0 (i := 18) (N := some 30) (v := ?_) (a' := ?_) #[true, true, true, true, true, true, true, true, true, true, true, true, true, true, true, true, true, true, true, false, false, false, false, false, false, false, false, false, false, false, false, false, false] rfl rfl (Zal HT_.out (by kernel_rfl)) (fun _ _ _ h => h) (Or.inl ⟨by rfl, ?_⟩) ?_ ?_
    rotate_left
    ·intro w'
     go_simp
     with_reducible rfl
    rotate_left
    ·simp only [Act.put, List.setIfInBounds_toArray, List.set_cons_zero, List.set_cons_succ, Zas, Zat]
     rfl
    refine Za0 (i := 19) (N := some 31) (v := ?_) (a' := ?_) #[true, true, true, true, true, true, true, true, true, true, true, true, true, true, true, true, true, true, true, true, false, false, false, false, false, false, false, false, false, false, false, false, false] rfl rfl (Zal HT_.out (by kernel_rfl)) (fun _ _ _ h => h) (Or.inl ⟨by rfl, ?_⟩) ?_ ?_
    rotate_left
    ·intro w'
     go_simp
     with_reducible rfl
    rotate_left
    ·simp only [Act.put, List.setIfInBounds_toArray, List.set_cons_zero, List.set_cons_succ, Zas, Zat]
     rfl
    refine Za0 (i := 20) (N := some 32) (v := ?_) (a' := ?_) #[true, true, true, true, true, true, true, true, true, true, true, true, true, true, true, true, true, true, true, true, true, false, false, false, false, false, false, false, false, false, false, false, false] rfl rfl (Zal HT_.out (by kernel_rfl)) (fun _ _ _ h => h) (Or.inl ⟨by rfl, ?_⟩) ?_ ?_
    rotate_left
    ·intro w'
     go_simp
     with_reducible rfl
    rotate_left
    ·simp only [Act.put, List.setIfInBounds_toArray, List.set_cons_zero, List.set_cons_succ, Zas, Zat]
     rfl
    refine Za0 (i := 21) (N := some 33) (v := undef) (a' := ?_) #[true, true, true, true, true, true, true, true, true, true, true, true, true, true, true, true, true, true, true, true, true, true, false, false, false, false, false, false, false, false, false, false, false] rfl rfl (Zal HT_.out (by kernel_rfl)) (fun _ _ _ h => h) (Or.inr ⟨by rfl, rfl⟩) ?_ ?_
    rotate_left
    ·simp only [Act.put, List.setIfInBounds_toArray, List.set_cons_zero, List.set_cons_succ, Zas, Zat]
     rfl
    refine Za0 (i := 22) (N := some 34) (v := undef) (a' := ?_) #[true, true, true, true, true, true, true, true, true, true, true, true, true, true, true, true, true, true, true, true, true, true, true, false, false, false, false, false, false, false, false, false, false] rfl rfl (Zal HT_.out (by kernel_rfl)) (fun _ _ _ h => h) (Or.inr ⟨by rfl, rfl⟩) ?_ ?_
    rotate_left
    ·simp only [Act.put, List.setIfInBounds_toArray, List.set_cons_zero, List.set_cons_succ, Zas, Zat]
     rfl
    refine Za0 (i := 23) (N := some 35) (v := undef) (a' := ?_) #[true, true, true, true, true, true, true, true, true, true, true, true, true, true, true, true, true, true, true, true, true, true, true, true, false, false, false, false, false, false, false, false, false] rfl rfl (Zal HT_.out (by kernel_rfl)) (fun _ _ _ h => h) (Or.inr ⟨by rfl, rfl⟩) ?_ ?_
    rotate_left
    ·simp only [Act.put, List.setIfInBounds_toArray, List.set_cons_zero, List.set_cons_succ, Zas, Zat]
     rfl
    refine Za0 (i := 24) (N := some 36) (v := undef) (a' := ?_) #[true, true, true, true, true, true, true, true, true, true, true, true, true, true, true, true, true, true, true, true, true, true, true, true, true, false, false, false, false, false, false, false, false] rfl rfl (Zal HT_.out (by kernel_rfl)) (fun _ _ _ h => h) (Or.inr ⟨by rfl, rfl⟩) ?_ ?_
    rotate_left
    ·simp only [Act.put, List.setIfInBounds_toArray, List.set_cons_zero, List.set_cons_succ, Zas, Zat]
     rfl
    refine Za0 (i := 25) (N := some 37) (v := undef) (a' := ?_) #[true, true, true, true, true, true, true, true, true, true, true, true, true, true, true, true, true, true, true, true, true, true, true, true, true, true, false, false, false, false, false, false, false] rfl rfl (Zal HT_.out (by kernel_rfl)) (fun _ _ _ h => h) (Or.inr ⟨by rfl, rfl⟩) ?_ ?_
    rotate_left
    ·simp only [Act.put, List.setIfInBounds_toArray, List.set_cons_zero, List.set_cons_succ, Zas, Zat]
     rfl
    refine Za0 (i := 26) (N := some 38) (v := undef) (a' := ?_) #[true, true, true, true, true, true, true, true, true, true, true, true, true, true, true, true, true, true, true, true, true, true, true, true, true, true, true, false, false, false, false, false, false] rfl rfl (Zal HT_.out (by kernel_rfl)) (fun _ _ _ h => h) (Or.inr ⟨by rfl, rfl⟩) ?_ ?_
    rotate_left
    ·simp only [Act.put, List.setIfInBounds_toArray, List.set_cons_zero, List.set_cons_succ, Zas, Zat]
     rfl
    refine Za0 (i := 27) (N := some 39) (v := undef) (a' := ?_) #[true, true, true, true, true, true, true, true, true, true, true, true, true, true, true, true, true, true, true, true, true, true, true, true, true, true, true, true, false, false, false, false, false] rfl rfl (Zal HT_.out (by kernel_rfl)) (fun _ _ _ h => h) (Or.inr ⟨by rfl, rfl⟩) ?_ ?_
    rotate_left
    ·simp only [Act.put, List.setIfInBounds_toArray, List.set_cons_zero, List.set_cons_succ, Zas, Zat]
     rfl
    refine Za0 (i := 28) (N := some 40) (v := undef) (a' := ?_) #[true, true, true, true, true, true, true, true, true, true, true, true, true, true, true, true, true, true, true, true, true, true, true, true, true, true, true, true, true, false, false, false, false] rfl rfl (Zal HT_.out (by kernel_rfl)) (fun _ _ _ h => h) (Or.inr ⟨by rfl, rfl⟩) ?_ ?_
    rotate_left
    ·simp only [Act.put, List.setIfInBounds_toArray, List.set_cons_zero, List.set_cons_succ, Zas, Zat]
     rfl
    refine Za0 (i := 29) (N := some 41) (v := undef) (a' := ?_) #[true, true, true, true, true, true, true, true, true, true, true, true, true, true, true, true, true, true, true, true, true, true, true, true, true, true, true, true, true, true, false, false, false] rfl rfl (Zal HT_.out (by kernel_rfl)) (fun _ _ _ h => h) (Or.inr ⟨by rfl, rfl⟩) ?_ ?_
    rotate_left
    ·simp only [Act.put, List.setIfInBounds_toArray, List.set_cons_zero, List.set_cons_succ, Zas, Zat]
     rfl
    refine Za0 (i := 30) (N := some 42) (v := undef) (a' := ?_) #[true, true, true, true, true, true, true, true, true, true, true, true, true, true, true, true, true, true, true, true, true, true, true, true, true, true, true, true, true, true, true, false, false] rfl rfl (Zal HT_.out (by kernel_rfl)) (fun _ _ _ h => h) (Or.inr ⟨by rfl, rfl⟩) ?_ ?_
    rotate_left
    ·simp only [Act.put, List.setIfInBounds_toArray, List.set_cons_zero, List.set_cons_succ, Zas, Zat]
     rfl
    refine Za0 (i := 31) (N := some 43) (v := ?_) (a' := ?_) #[true, true, true, true, true, true, true, true, true, true, true, true, true, true, true, true, true, true, true, true, true, true, true, true, true, true, true, true, true, true, true, true, false] rfl rfl (Zal HT_.out (by kernel_rfl)) (fun _ _ _ h => h) (Or.inl ⟨by rfl, ?_⟩) ?_ ?_
    rotate_left
    ·intro w'
     go_simp
     with_reducible rfl
    rotate_left
    ·simp only [Act.put, List.setIfInBounds_toArray, List.set_cons_zero, List.set_cons_succ, Zas, Zat]
     rfl
    refine Za0 (i := 32) (N := some 44) (v := ?_) (a' := ?_) #[true, true, true, true, true, true, true, true, true, true, true, true, true, true, true, true, true, true, true, true, true, true, true, true, true, true, true, true, true, true, true, true, true] rfl rfl (Zal HT_.out (by kernel_rfl)) (fun _ _ _ h => h) (Or.inl ⟨by rfl, ?_⟩) ?_ ?_
    rotate_left
    ·intro w'
     go_simp
     with_reducible rfl
    rotate_left
    ·simp only [Act.put, List.setIfInBounds_toArray, List.set_cons_zero, List.set_cons_succ, Zas, Zat]
     rfl
    refine Ze4 (Zdl HT_.out (by kernel_rfl)) ?_
    try go_wp2
    go_roundg k1
    case measure => have := HK1.out; omega
    case rel => exact ⟨(wrap64 (x7_1 + 1)), (by first | rfl | (simp; done) | (simp [*]; done)), H', ⟨by have := HK1.out; omega⟩, ⟨by repeat (first | (with_reducible first | exact HB.out | apply Zab | apply Zaa | apply Zac | refine Zae ?_ GE340.out) | exact HB.out)⟩⟩
   rw [if_pos c14] at H
   have c14b0 : decide (0 < x7_1) = true := decide_eq_true c14
   clear c14
   obtain ⟨ji15, hji15⟩ : ∃ j_ : Int, (wrap64 (x7_1 - 1)) = j_ := ⟨_, rfl⟩
   replace H : (if 0 ≤ (ji15) then (if (ji15) < (l0.length : Int) then (if ((Zao l0 x7_1).f0) < (wrap64 (((Zao l0 (ji15)).f1) + 2)) then (some false) else (Zba.l0 k1 l0 l0 (l0.length : Int) (wrap64 (x7_1 + 1)))) else (none)) else (none)) = some r := by first | (rw [hji15] at H; exact H) | (simp only [hji15] at H ⊢; exact H)
   (try rw [hji15] at A5)
   (try rw [hji15] at A7)
   have hji15w : (IntKind.i64.wrap (x7_1 - 1)) = ji15 := (Zas _).trans hji15
   by_cases c16 : 0 ≤ (ji15)
   rotate_left
   ·rw [if_neg c16] at H
    exact absurd H (by simp)
   rw [if_pos c16] at H
   have c16b0 : decide (0 ≤ (ji15)) = true := decide_eq_true c16
   clear c16
   by_cases c17 : (ji15) < (l0.length : Int)
   rotate_left
   ·rw [if_neg c17] at H
    exact absurd H (by simp)
   rw [if_pos c17] at H
   have c17b0 : decide ((ji15) < (l0.length : Int)) = true := decide_eq_true c17
   clear c17
   by_cases c18 : ((Zao l0 x7_1).f0) < (wrap64 (((Zao l0 (ji15)).f1) + 2))
   ·rw [if_pos c18] at H
    have c18b0 : decide (((Zao l0 x7_1).f0) < (wrap64 (((Zao l0 (ji15)).f1) + 2))) = true := decide_eq_true c18
    clear c18
    obtain rfl := Option.some.inj H
    have p339 : 0 ≤ (x7_1 : Int) := of_decide_eq_true (by first | (with_reducible assumption) | assumption)
    have q339 : x7_1 < (l0.length : Int) := of_decide_eq_true (by first | (with_reducible assumption) | assumption)
    obtain ⟨ad339, e339, hx339_0, hx339_1⟩ := Zdf HR0.out x7_1 p339 q339
    cases e339
    replace hx339_0 := (HB.out.cell (World.block_lt_of_cell? w _ hx339_0)).trans hx339_0
    replace hx339_1 := (HB.out.cell (World.block_lt_of_cell? w _ hx339_1)).trans hx339_1
    replace p339 := eq_true p339
    replace q339 := eq_true q339
    try go_wp2_with (first | ((with_reducible refine Zaz (N := 4) rfl ?_); refine Za5 ?hg (N := 4) ?hd (cs := #[.int .i64 0, .int .i64 0]) (t := 48) ?hr ?_; (case hd => rfl); (case hg => rfl); (case hr => first | (go_simp; done) | (go_simp; rfl)); intro gb340 hg w19 hbox hb; have n0_ := Za.mk (Zad (by repeat (first | (with_reducible first | exact HB.out | apply Zab | apply Zaa | apply Zac) | exact HB.out)) hb); have n1_ := Za.mk (hbox); have n2_ := Za.mk ((by rw [hg]; exact (Zaj (by repeat (first | (with_reducible first | exact HB.out | apply Zab | apply Zaa | apply Zac) | exact HB.out))) : w.heap.size ≤ gb340)); have n3_ := Za.mk ((by rw [hg]; exact (Zaj (by repeat (first | (with_reducible first | exact HB.out | apply Zab | apply Zaa | apply Zac) | exact HB.out))) : w.heap.size ≤ gb340)); clear HB; have HB := n0_; have BK340 := n1_; have GW340 := n2_; have GE340 := n3_; clear n0_ n1_ n2_ n3_; clear hb hbox hg; obtain ⟨hcz20_0, hcz20_1, hfz20_0, hfz20_1⟩ := Zdg BK340.out))
    have n0_ : Za (((w19.setCell ⟨gb340, 0, none⟩ (.int .i64 ((Zao l0 x7_1).f0))).setCell ⟨gb340, 1, none⟩ (.int .i64 ((Zao l0 x7_1).f1))).heap[gb340]? = some (.cells #[.int .i64 ((Zao l0 x7_1).f0), .int .i64 ((Zao l0 x7_1).f1)] 48 (0, 0))) := ⟨by (with_reducible repeat (first | refine blk_drewN ?_ _ | refine Zag ?_ | refine Zaf ?_ _)); refine Zax (cs := #[.int .i64 ((Zao l0 x7_1).f0), .int .i64 0]) ?_ 1 _ rfl; (with_reducible repeat (first | refine blk_drewN ?_ _ | refine Zag ?_ | refine Zaf ?_ _)); refine Zax (cs := #[.int .i64 0, .int .i64 0]) ?_ 0 _ rfl; (with_reducible repeat (first | refine blk_drewN ?_ _ | refine Zag ?_ | refine Zaf ?_ _)); exact BK340.out⟩
    have n1_ : Za (Below w.heap.size w ((w19.setCell ⟨gb340, 0, none⟩ (.int .i64 ((Zao l0 x7_1).f0))).setCell ⟨gb340, 1, none⟩ (.int .i64 ((Zao l0 x7_1).f1)))) := ⟨by repeat (first | (with_reducible first | exact HB.out | apply Zab | apply Zaa | apply Zac | refine Zae ?_ GE340.out) | exact HB.out)⟩
    (try clear BK340)
    (try clear HB)
    generalize ((w19.setCell ⟨gb340, 0, none⟩ (.int .i64 ((Zao l0 x7_1).f0))).setCell ⟨gb340, 1, none⟩ (.int .i64 ((Zao l0 x7_1).f1))) = w21 at n0_ n1_ ⊢
    have BK340 := n0_
    have HB := n1_
    clear n0_ n1_
    have n0_ := Za.mk (Zag BK340.out)
    have n1_ := Za.mk (Zac HB.out)
    clear BK340
    clear HB
    have BK340 := n0_
    have HB := n1_
    clear n0_ n1_
    have p343 : 0 ≤ ((ji15) : Int) := of_decide_eq_true (by first | (with_reducible assumption) | assumption)
    have q343 : (ji15) < (l0.length : Int) := of_decide_eq_true (by first | (with_reducible assumption) | assumption)
    obtain ⟨ad343, e343, hx343_0, hx343_1⟩ := Zdf HR0.out (ji15) p343 q343
    have hw343_1 := hx343_1
    have hw343_0 := hx343_0
    obtain rfl : ad339 = ad343 := (by injection e343)
    replace hx343_0 := (HB.out.cell (World.block_lt_of_cell? w _ hx343_0)).trans hx343_0
    replace hx343_1 := (HB.out.cell (World.block_lt_of_cell? w _ hx343_1)).trans hx343_1
    replace p343 := eq_true p343
    replace q343 := eq_true q343
    refine Zd0 (n := 33) (S := fun w' => w'.cell? ⟨gb340, 0, none⟩ = some (.int .i64 ((Zao l0 x7_1).f0)) ∧ w'.cell? ⟨gb340, 1, none⟩ = some (.int .i64 ((Zao l0 x7_1).f1)) ∧ w'.cell? (ad339.add (((ji15)).toNat * 2)) = some (.int .i64 ((Zao l0 (ji15)).f0)) ∧ w'.cell? ⟨(ad339.add (((ji15)).toNat * 2)).block, (ad339.add (((ji15)).toNat * 2)).off + 1, none⟩ = some (.int .i64 ((Zao l0 (ji15)).f1))) (ds := []) #[false, false, false, false, false, false, false, false, false, false, false, false, false, false, false, false, false, false, false, false, false, false, false, false, false, false, false, false, false, false, false, false, false] (by kernel_rfl) rfl rfl ⟨(Zah BK340.out 0).trans rfl, (Zah BK340.out 1).trans rfl, ((HB.out.cell (World.block_lt_of_cell? w _ hw343_0)).trans hw343_0), ((HB.out.cell (World.block_lt_of_cell? w _ hw343_1)).trans hw343_1)⟩ (fun hHeld => ?_); refine Zcu Zba.tab4 Zba.bits4 (fun HT_ HW_ => ?_)
    generalize w21.drew = w22 at BK340 HB hx343_0 hx343_1 hHeld ⊢
    refine Za0 (i := 0) (N := some 12) (v := ?_) (a' := ?_) #[true, false, false, false, false, false, false, false, false, false, false, false, false, false, false, false, false, false, false, false, false, false, false, false, false, false, false, false, false, false, false, false, false] rfl rfl (Zal HT_.out (by kernel_rfl)) (fun _ _ _ h => h) (Or.inl ⟨by rfl, ?_⟩) ?_ ?_
    rotate_left
    ·intro w'
     go_simp
     with_reducible rfl
    rotate_left
    ·simp only [Act.put, List.setIfInBounds_toArray, List.set_cons_zero, List.set_cons_succ, Zas, Zat]
     rfl
    refine Zcl (i := 1) (N := some 13) (v := ?_) (a' := ?_) #[true, true, false, false, false, false, false, false, false, false, false, false, false, false, false, false, false, false, false, false, false, false, false, false, false, false, false, false, false, false, false, false, false] rfl rfl (Zbj HT_.out HW_.out (by kernel_rfl)) (fun _ _ _ h => h) (Or.inl ⟨by rfl, ?_⟩) hHeld ?_ ?_
    rotate_left
    ·rintro w' ⟨s0, s1, s2, s3⟩
     go_simp
     with_reducible rfl
    rotate_left
    ·simp only [Act.put, List.setIfInBounds_toArray, List.set_cons_zero, List.set_cons_succ, Zas, Zat]
     rfl
    refine one_ (i := 2) (N := some 14) #[true, true, true, false, false, false, false, false, false, false, false, false, false, false, false, false, false, false, false, false, false, false, false, false, false, false, false, false, false, false, false, false, false] rfl rfl (Zb6 HT_.out (by kernel_rfl)) (by decide) (fun K hK => ?_)
    refine Zc2 Try.func109 (by kernel_rfl) rfl #[.int .i64 ((Zao l0 x7_1).f0)] (by rfl) rfl rfl (by (try simp only [List.map_toArray, List.map_cons, List.map_nil]); first | done | rfl | (simp only [List.length_drop, List.length_take]; rfl)) ?_
    with_reducible refine (Zb2.calls ((Zao l0 x7_1).f0) true _ A5.out).mono ?_
    rintro e w' ⟨rfl, ⟨nd, rfl⟩⟩
    refine ⟨_, rfl, ?_⟩
    refine hK.out _ _ ⟨(Zah BK340.out 0).trans rfl, (Zah BK340.out 1).trans rfl, ((HB.out.cell (World.block_lt_of_cell? w _ hw343_0)).trans hw343_0), ((HB.out.cell (World.block_lt_of_cell? w _ hw343_1)).trans hw343_1)⟩ (fun hHeld => ?_)
    clear hK K
    refine Zcg (a' := ?_) ?_ ?_
    rotate_left
    ·show Act.put _ (some 14) _ = _
     simp only [Act.put, List.setIfInBounds_toArray, List.set_cons_zero, List.set_cons_succ, Zas, Zat]
     rfl
    refine Za0 (i := 3) (N := some 15) (v := ?_) (a' := ?_) #[true, true, true, true, false, false, false, false, false, false, false, false, false, false, false, false, false, false, false, false, false, false, false, false, false, false, false, false, false, false, false, false, false] rfl rfl (Zal HT_.out (by kernel_rfl)) (fun _ _ _ h => h) (Or.inl ⟨by rfl, ?_⟩) ?_ ?_
    rotate_left
    ·intro w'
     go_simp
     with_reducible rfl
    rotate_left
    ·simp only [Act.put, List.setIfInBounds_toArray, List.set_cons_zero, List.set_cons_succ, Zas, Zat]
     rfl
    refine Za0 (i := 4) (N := some 16) (v := ?_) (a' := ?_) #[true, true, true, true, true, false, false, false, false, false, false, false, false, false, false, false, false, false, false, false, false, false, false, false, false, false, false, false, false, false, false, false, false] rfl rfl (Zal HT_.out (by kernel_rfl)) (fun _ _ _ h => h) (Or.inl ⟨by rfl, ?_⟩) ?_ ?_
    rotate_left
    ·intro w'
     go_simp
     with_reducible rfl
    rotate_left
    ·simp only [Act.put, List.setIfInBounds_toArray, List.set_cons_zero, List.set_cons_succ, Zas, Zat]
     rfl
    refine Za0 (i := 5) (N := some 17) (v := ?_) (a' := ?_) #[true, true, true, true, true, true, false, false, false, false, false, false, false, false, false, false, false, false, false, false, false, false, false, false, false, false, false, false, false, false, false, false, false] rfl rfl (Zal HT_.out (by kernel_rfl)) (fun _ _ _ h => h) (Or.inl ⟨by rfl, ?_⟩) ?_ ?_
    rotate_left
    ·intro w'
     go_simp
     with_reducible rfl
    rotate_left
    ·simp only [Act.put, List.setIfInBounds_toArray, List.set_cons_zero, List.set_cons_succ, Zas, Zat]
     rfl
    refine Zcl (i := 6) (N := some 18) (v := ?_) (a' := ?_) #[true, true, true, true, true, true, true, false, false, false, false, false, false, false, false, false, false, false, false, false, false, false, false, false, false, false, false, false, false, false, false, false, false] rfl rfl (Zbj HT_.out HW_.out (by kernel_rfl)) (fun _ _ _ h => h) (Or.inl ⟨by rfl, ?_⟩) hHeld ?_ ?_
    rotate_left
    ·rintro w' ⟨s0, s1, s2, s3⟩
     go_simp
     with_reducible rfl
    rotate_left
    ·simp only [Act.put, List.setIfInBounds_toArray, List.set_cons_zero, List.set_cons_succ, Zas, Zat]
     rfl
    refine one_ (i := 7) (N := some 19) #[true, true, true, true, true, true, true, true, false, false, false, false, false, false, false, false, false, false, false, false, false, false, false, false, false, false, false, false, false, false, false, false, false] rfl rfl (Zb6 HT_.out (by kernel_rfl)) (by decide) (fun K hK => ?_)
    refine Zc2 Try.func109 (by kernel_rfl) rfl #[.int .i64 ((Zao l0 x7_1).f1)] (by rfl) rfl rfl (by (try simp only [List.map_toArray, List.map_cons, List.map_nil]); first | done | rfl | (simp only [List.length_drop, List.length_take]; rfl)) ?_
    with_reducible refine (Zb2.calls ((Zao l0 x7_1).f1) true _ A7.out).mono ?_
    rintro e w' ⟨rfl, ⟨nd, rfl⟩⟩
    refine ⟨_, rfl, ?_⟩
    refine hK.out _ _ ⟨(Zah BK340.out 0).trans rfl, (Zah BK340.out 1).trans rfl, ((HB.out.cell (World.block_lt_of_cell? w _ hw343_0)).trans hw343_0), ((HB.out.cell (World.block_lt_of_cell? w _ hw343_1)).trans hw343_1)⟩ (fun hHeld => ?_)
    clear hK K
    refine Zcg (a' := ?_) ?_ ?_
    rotate_left
    ·show Act.put _ (some 19) _ = _
     simp only [Act.put, List.setIfInBounds_toArray, List.set_cons_zero, List.set_cons_succ, Zas, Zat]
     rfl
    refine Za0 (i := 8) (N := some 20) (v := ?_) (a' := ?_) #[true, true, true, true, true, true, true, true, true, false, false, false, false, false, false, false, false, false, false, false, false, false, false, false, false, false, false, false, false, false, false, false, false] rfl rfl (Zal HT_.out (by kernel_rfl)) (fun _ _ _ h => h) (Or.inl ⟨by rfl, ?_⟩) ?_ ?_
    rotate_left
    ·intro w'
     go_simp
     with_reducible rfl
    rotate_left
    ·simp only [Act.put, List.setIfInBounds_toArray, List.set_cons_zero, List.set_cons_succ, Zas, Zat]
     rfl
    refine Za0 (i := 9) (N := some 21) (v := ?_) (a' := ?_) #[true, true, true, true, true, true, true, true, true, true, false, false, false, false, false, false, false, false, false, false, false, false, false, false, false, false, false, false, false, false, false, false, false] rfl rfl (Zal HT_.out (by kernel_rfl)) (fun _ _ _ h => h) (Or.inl ⟨by rfl, ?_⟩) ?_ ?_
    rotate_left
    ·intro w'
     go_simp
     with_reducible rfl
    rotate_left
    ·simp only [Act.put, List.setIfInBounds_toArray, List.set_cons_zero, List.set_cons_succ, Zas, Zat]
     rfl
    refine Za0 (i := 10) (N := some 22) (v := ?_) (a' := ?_) #[true, true, true, true, true, true, true, true, true, true, true, false, false, false, false, false, false, false, false, false, false, false, false, false, false, false, false, false, false, false, false, false, false] rfl rfl (Zal HT_.out (by kernel_rfl)) (fun _ _ _ h => h) (Or.inl ⟨by rfl, ?_⟩) ?_ ?_
    rotate_left
    ·intro w'
     go_simp
     with_reducible rfl
    rotate_left
    ·simp only [Act.put, List.setIfInBounds_toArray, List.set_cons_zero, List.set_cons_succ, Zas, Zat]
     rfl
    refine Za0 (i := 11) (N := some 23) (v := ?_) (a' := ?_) #[true, true, true, true, true, true, true, true, true, true, true, true, false, false, false, false, false, false, false, false, false, false, false, false, false, false, false, false, false, false, false, false, false] rfl rfl (Zal HT_.out (by kernel_rfl)) (fun _ _ _ h => h) (Or.inl ⟨by rfl, ?_⟩) ?_ ?_
    rotate_left
    ·intro w'
     go_simp
     with_reducible rfl
    rotate_left
    ·simp only [Act.put, List.setIfInBounds_toArray, List.set_cons_zero, List.set_cons_succ, Zas, Zat]
     rfl
    refine Za0 (i := 13) (N := some 25) (v := ?_) (a' := ?_) #[true, true, true, true, true, true, true, true, true, true, true, true, false, true, false, false, false, false, false, false, false, false, false, false, false, false, false, false, false, false, false, false, false] rfl rfl (Zal HT_.out (by kernel_rfl)) (fun _ _ _ h => h) (Or.inl ⟨by rfl, ?_⟩) ?_ ?_
    rotate_left
    ·intro w'
     go_simp
     with_reducible rfl
    rotate_left
    ·simp only [Act.put, List.setIfInBounds_toArray, List.set_cons_zero, List.set_cons_succ, Zas, Zat]
     rfl
    refine Zcl (i := 12) (N := some 24) (v := ?_) (a' := ?_) #[true, true, true, true, true, true, true, true, true, true, true, true, true, true, false, false, false, false, false, false, false, false, false, false, false, false, false, false, false, false, false, false, false] rfl rfl (Zbj HT_.out HW_.out (by kernel_rfl)) (fun _ _ _ h => h) (Or.inl ⟨by rfl, ?_⟩) hHeld ?_ ?_
    rotate_left
    ·rintro w' ⟨s0, s1, s2, s3⟩
     go_simp
     with_reducible rfl
    rotate_left
    ·simp only [Act.put, List.setIfInBounds_toArray, List.set_cons_zero, List.set_cons_succ, Zas, Zat]
     rfl
    refine Zcl (i := 14) (N := some 26) (v := ?_) (a' := ?_) #[true, true, true, true, true, true, true, true, true, true, true, true, true, true, true, false, false, false, false, false, false, false, false, false, false, false, false, false, false, false, false, false, false] rfl rfl (Zbj HT_.out HW_.out (by kernel_rfl)) (fun _ _ _ h => h) (Or.inl ⟨by rfl, ?_⟩) hHeld ?_ ?_
    rotate_left
    ·rintro w' ⟨s0, s1, s2, s3⟩
     go_simp
     with_reducible rfl
    rotate_left
    ·simp only [Act.put, List.setIfInBounds_toArray, List.set_cons_zero, List.set_cons_succ, Zas, Zat]
     rfl
    refine Za0 (i := 15) (N := some 27) (v := ?_) (a' := ?_) #[true, true, true, true, true, true, true, true, true, true, true, true, true, true, true, true, false, false, false, false, false, false, false, false, false, false, false, false, false, false, false, false, false] rfl rfl (Zal HT_.out (by kernel_rfl)) (fun _ _ _ h => h) (Or.inl ⟨by rfl, ?_⟩) ?_ ?_
    rotate_left
    ·intro w'
     go_simp
     with_reducible rfl
    rotate_left
    ·simp only [Act.put, List.setIfInBounds_toArray, List.set_cons_zero, List.set_cons_succ, Zas, Zat]
     rfl
    refine Za0 (i := 16) (N := some 28) (v := ?_) (a' := ?_) #[true, true, true, true, true, true, true, true, true, true, true, true, true, true, true, true, true, false, false, false, false, false, false, false, false, false, false, false, false, false, false, false, false] rfl rfl (Zal HT_.out (by kernel_rfl)) (fun _ _ _ h => h) (Or.inl ⟨by rfl, ?_⟩) ?_ ?_
    rotate_left
    ·intro w'
     go_simp
     with_reducible rfl
    rotate_left
    ·simp only [Act.put, List.setIfInBounds_toArray, List.set_cons_zero, List.set_cons_succ, Zas, Zat]
     rfl
    refine Za0 (i := 17) (N := some 29) (v := ?_) (a' := ?_) #[true, true, true, true, true, true, true, true, true, true, true, true, true, true, true, true, true, true, false, false, false, false, false, false, false, false, false, false, false, false, false, false, false] rfl rfl (Zal HT_.out (by kernel_rfl)) (fun _ _ _ h => h) (Or.inl ⟨by rfl, ?_⟩) ?_ ?_
    rotate_left
    ·intro w'
     go_simp
     with_reducible rfl
    rotate_left
    ·simp only [Act.put, List.setIfInBounds_toArray, List.set_cons_zero, List.set_cons_succ, Zas, Zat]
     rfl
    refine Za0 (i := 18) (N := some 30) (v := ?_) (a' := ?_) #[true, true, true, true, true, true, true, true, true, true, true, true, true, true, true, true, true, true, true, false, false, false, false, false, false, false, false, false, false, false, false, false, false] rfl rfl (Zal HT_.out (by kernel_rfl)) (fun _ _ _ h => h) (Or.inl ⟨by rfl, ?_⟩) ?_ ?_
    rotate_left
    ·intro w'
     go_simp
     with_reducible rfl
    rotate_left
    ·simp only [Act.put, List.setIfInBounds_toArray, List.set_cons_zero, List.set_cons_succ, Zas, Zat]
     rfl
    refine Za0 (i := 19) (N := some 31) (v := ?_) (a' := ?_) #[true, true, true, true, true, true, true, true, true, true, true, true, true, true, true, true, true, true, true, true, false, false, false, false, false, false, false, false, false, false, false, false, false] rfl rfl (Zal HT_.out (by kernel_rfl)) (fun _ _ _ h => h) (Or.inl ⟨by rfl, ?_⟩) ?_ ?_
    rotate_left
    ·intro w'
     go_simp
     with_reducible rfl
    rotate_left
    ·simp only [Act.put, List.setIfInBounds_toArray, List.set_cons_zero, List.set_cons_succ, Zas, Zat]
     rfl
    refine Za0 (i := 20) (N := some 32) (v := ?_) (a' := ?_) #[true, true, true, true, true, true, true, true, true, true, true, true, true, true, true, true, true, true, true, true, true, false, false, false, false, false, false, false, false, false, false, false, false] rfl rfl (Zal HT_.out (by kernel_rfl)) (fun _ _ _ h => h) (Or.inl ⟨by rfl, ?_⟩) ?_ ?_
    rotate_left
    ·intro w'
     go_simp
     with_reducible rfl
    rotate_left
    ·simp only [Act.put, List.setIfInBounds_toArray, List.set_cons_zero, List.set_cons_succ, Zas, Zat]
     rfl
    refine Za0 (i := 21) (N := some 33) (v := ?_) (a' := ?_) #[true, true, true, true, true, true, true, true, true, true, true, true, true, true, true, true, true, true, true, true, true, true, false, false, false, false, false, false, false, false, false, false, false] rfl rfl (Zal HT_.out (by kernel_rfl)) (fun _ _ _ h => h) (Or.inl ⟨by rfl, ?_⟩) ?_ ?_
    rotate_left
    ·intro w'
     go_simp
     with_reducible rfl
    rotate_left
    ·simp only [Act.put, List.setIfInBounds_toArray, List.set_cons_zero, List.set_cons_succ, Zas, Zat]
     rfl
    refine Za0 (i := 23) (N := some 35) (v := ?_) (a' := ?_) #[true, true, true, true, true, true, true, true, true, true, true, true, true, true, true, true, true, true, true, true, true, true, false, true, false, false, false, false, false, false, false, false, false] rfl rfl (Zal HT_.out (by kernel_rfl)) (fun _ _ _ h => h) (Or.inl ⟨by rfl, ?_⟩) ?_ ?_
    rotate_left
    ·intro w'
     go_simp
     with_reducible rfl
    rotate_left
    ·simp only [Act.put, List.setIfInBounds_toArray, List.set_cons_zero, List.set_cons_succ, Zas, Zat]
     rfl
    refine Za0 (i := 24) (N := some 36) (v := ?_) (a' := ?_) #[true, true, true, true, true, true, true, true, true, true, true, true, true, true, true, true, true, true, true, true, true, true, false, true, true, false, false, false, false, false, false, false, false] rfl rfl (Zal HT_.out (by kernel_rfl)) (fun _ _ _ h => h) (Or.inl ⟨by rfl, ?_⟩) ?_ ?_
    rotate_left
    ·intro w'
     go_simp
     with_reducible rfl
    rotate_left
    ·simp only [Act.put, List.setIfInBounds_toArray, List.set_cons_zero, List.set_cons_succ, Zas, Zat]
     rfl
    refine Za0 (i := 25) (N := some 37) (v := ?_) (a' := ?_) #[true, true, true, true, true, true, true, true, true, true, true, true, true, true, true, true, true, true, true, true, true, true, false, true, true, true, false, false, false, false, false, false, false] rfl rfl (Zal HT_.out (by kernel_rfl)) (fun _ _ _ h => h) (Or.inl ⟨by rfl, ?_⟩) ?_ ?_
    rotate_left
    ·intro w'
     go_simp
     with_reducible rfl
    rotate_left
    ·simp only [Act.put, List.setIfInBounds_toArray, List.set_cons_zero, List.set_cons_succ, Zas, Zat]
     rfl
    refine Za0 (i := 26) (N := some 38) (v := ?_) (a' := ?_) #[true, true, true, true, true, true, true, true, true, true, true, true, true, true, true, true, true, true, true, true, true, true, false, true, true, true, true, false, false, false, false, false, false] rfl rfl (Zal HT_.out (by kernel_rfl)) (fun _ _ _ h => h) (Or.inl ⟨by rfl, ?_⟩) ?_ ?_
    rotate_left
    ·intro w'
     go_simp
     with_reducible rfl
    rotate_left
    ·simp only [Act.put, List.setIfInBounds_toArray, List.set_cons_zero, List.set_cons_succ, Zas, Zat]
     rfl
    refine Za0 (i := 27) (N := some 39) (v := ?_) (a' := ?_) #[true, true, true, true, true, true, true, true, true, true, true, true, true, true, true, true, true, true, true, true, true, true, false, true, true, true, true, true, false, false, false, false, false] rfl rfl (Zal HT_.out (by kernel_rfl)) (fun _ _ _ h => h) (Or.inl ⟨by rfl, ?_⟩) ?_ ?_
    rotate_left
    ·intro w'
     go_simp
     with_reducible rfl
    rotate_left
    ·simp only [Act.put, List.setIfInBounds_toArray, List.set_cons_zero, List.set_cons_succ, Zas, Zat]
     rfl
    refine Zcl (i := 22) (N := some 34) (v := ?_) (a' := ?_) #[true, true, true, true, true, true, true, true, true, true, true, true, true, true, true, true, true, true, true, true, true, true, true, true, true, true, true, true, false, false, false, false, false] rfl rfl (Zbj HT_.out HW_.out (by kernel_rfl)) (fun _ _ _ h => h) (Or.inl ⟨by rfl, ?_⟩) hHeld ?_ ?_
    rotate_left
    ·rintro w' ⟨s0, s1, s2, s3⟩
     go_simp
     with_reducible rfl
    rotate_left
    ·simp only [Act.put, List.setIfInBounds_toArray, List.set_cons_zero, List.set_cons_succ, Zas, Zat]
     rfl
    refine Zcl (i := 28) (N := some 40) (v := ?_) (a' := ?_) #[true, true, true, true, true, true, true, true, true, true, true, true, true, true, true, true, true, true, true, true, true, true, true, true, true, true, true, true, true, false, false, false, false] rfl rfl (Zbj HT_.out HW_.out (by kernel_rfl)) (fun _ _ _ h => h) (Or.inl ⟨by rfl, ?_⟩) hHeld ?_ ?_
    rotate_left
    ·rintro w' ⟨s0, s1, s2, s3⟩
     go_simp
     with_reducible rfl
    rotate_left
    ·simp only [Act.put, List.setIfInBounds_toArray, List.set_cons_zero, List.set_cons_succ, Zas, Zat]
     rfl
    refine Za0 (i := 29) (N := some 41) (v := ?_) (a' := ?_) #[true, true, true, true, true, true, true, true, true, true, true, true, true, true, true, true, true, true, true, true, true, true, true, true, true, true, true, true, true, true, false, false, false] rfl rfl (Zal HT_.out (by kernel_rfl)) (fun _ _ _ h => h) (Or.inl ⟨by rfl, ?_⟩) ?_ ?_
    rotate_left
    ·intro w'
     go_simp
     with_reducible rfl
    rotate_left
    ·simp only [Act.put, List.setIfInBounds_toArray, List.set_cons_zero, List.set_cons_succ, Zas, Zat]
     rfl
    refine Za0 (i := 30) (N := some 42) (v := ?_) (a' := ?_) #[true, true, true, true, true, true, true, true, true, true, true, true, true, true, true, true, true, true, true, true, true, true, true, true, true, true, true, true, true, true, true, false, false] rfl rfl (Zal HT_.out (by kernel_rfl)) (fun _ _ _ h => h) (Or.inl ⟨by rfl, ?_⟩) ?_ ?_
    rotate_left
    ·intro w'
     go_simp
     with_reducible rfl
    rotate_left
    ·simp only [Act.put, List.setIfInBounds_toArray, List.set_cons_zero, List.set_cons_succ, Zas, Zat]
     rfl
    refine Za0 (i := 31) (N := some 43) (v := ?_) (a' := ?_) #[true, true, true, true, true, true, true, true, true, true, true, true, true, true, true, true, true, true, true, true, true, true, true, true, true, true, true, true, true, true, true, true, false] rfl rfl (Zal HT_.out (by kernel_rfl)) (fun _ _ _ h => h) (Or.inl ⟨by rfl, ?_⟩) ?_ ?_
    rotate_left
    ·intro w'
     go_simp
     with_reducible rfl
    rotate_left
    ·simp only [Act.put, List.setIfInBounds_toArray, List.set_cons_zero, List.set_cons_succ, Zas, Zat]
     rfl
    refine Za0 (i := 32) (N := some 44) (v := ?_) (a' := ?_) #[true, true, true, true, true, true, true, true, true, true, true, true, true, true, true, true, true, true, true, true, true, true, true, true, true, true, true, true, true, true, true, true, true] rfl rfl (Zal HT_.out (by kernel_rfl)) (fun _ _ _ h => h) (Or.inl ⟨by rfl, ?_⟩) ?_ ?_
    rotate_left
    ·intro w'
     go_simp
     with_reducible rfl
    rotate_left
    ·simp only [Act.put, List.setIfInBounds_toArray, List.set_cons_zero, List.set_cons_succ, Zas, Zat]
     rfl
    refine Ze4 (Zdl HT_.out (by kernel_rfl)) ?_
    try go_wp2
    go_ret
    exact ⟨by first | rfl | (simp [Zam, Zan] <;> rfl) | (simp only [← hji15]; first | rfl | (simp [Zam, Zan] <;> rfl)) | (simp [*, Zam, Zan] <;> rfl), by repeat (first | (with_reducible first | exact HB.out | apply Zab | apply Zaa | apply Zac | refine Zae ?_ GE340.out) | exact HB.out)⟩
   rw [if_neg c18] at H
   have c18b0 : decide (((Zao l0 x7_1).f0) < (wrap64 (((Zao l0 (ji15)).f1) + 2))) = false := decide_eq_false c18
   clear c18
   have H' := Za.mk H
   clear H
   have p339 : 0 ≤ (x7_1 : Int) := of_decide_eq_true (by first | (with_reducible assumption) | assumption)
   have q339 : x7_1 < (l0.length : Int) := of_decide_eq_true (by first | (with_reducible assumption) | assumption)
   obtain ⟨ad339, e339, hx339_0, hx339_1⟩ := Zdf HR0.out x7_1 p339 q339
   cases e339
   replace hx339_0 := (HB.out.cell (World.block_lt_of_cell? w _ hx339_0)).trans hx339_0
   replace hx339_1 := (HB.out.cell (World.block_lt_of_cell? w _ hx339_1)).trans hx339_1
   replace p339 := eq_true p339
   replace q339 := eq_true q339
   try go_wp2_with (first | ((with_reducible refine Zaz (N := 4) rfl ?_); refine Za5 ?hg (N := 4) ?hd (cs := #[.int .i64 0, .int .i64 0]) (t := 48) ?hr ?_; (case hd => rfl); (case hg => rfl); (case hr => first | (go_simp; done) | (go_simp; rfl)); intro gb340 hg w23 hbox hb; have n0_ := Za.mk (Zad (by repeat (first | (with_reducible first | exact HB.out | apply Zab | apply Zaa | apply Zac) | exact HB.out)) hb); have n1_ := Za.mk (hbox); have n2_ := Za.mk ((by rw [hg]; exact (Zaj (by repeat (first | (with_reducible first | exact HB.out | apply Zab | apply Zaa | apply Zac) | exact HB.out))) : w.heap.size ≤ gb340)); have n3_ := Za.mk ((by rw [hg]; exact (Zaj (by repeat (first | (with_reducible first | exact HB.out | apply Zab | apply Zaa | apply Zac) | exact HB.out))) : w.heap.size ≤ gb340)); clear HB; have HB := n0_; have BK340 := n1_; have GW340 := n2_; have GE340 := n3_; clear n0_ n1_ n2_ n3_; clear hb hbox hg; obtain ⟨hcz24_0, hcz24_1, hfz24_0, hfz24_1⟩ := Zdg BK340.out))
   have n0_ : Za (((w23.setCell ⟨gb340, 0, none⟩ (.int .i64 ((Zao l0 x7_1).f0))).setCell ⟨gb340, 1, none⟩ (.int .i64 ((Zao l0 x7_1).f1))).heap[gb340]? = some (.cells #[.int .i64 ((Zao l0 x7_1).f0), .int .i64 ((Zao l0 x7_1).f1)] 48 (0, 0))) := ⟨by (with_reducible repeat (first | refine blk_drewN ?_ _ | refine Zag ?_ | refine Zaf ?_ _)); refine Zax (cs := #[.int .i64 ((Zao l0 x7_1).f0), .int .i64 0]) ?_ 1 _ rfl; (with_reducible repeat (first | refine blk_drewN ?_ _ | refine Zag ?_ | refine Zaf ?_ _)); refine Zax (cs := #[.int .i64 0, .int .i64 0]) ?_ 0 _ rfl; (with_reducible repeat (first | refine blk_drewN ?_ _ | refine Zag ?_ | refine Zaf ?_ _)); exact BK340.out⟩
   have n1_ : Za (Below w.heap.size w ((w23.setCell ⟨gb340, 0, none⟩ (.int .i64 ((Zao l0 x7_1).f0))).setCell ⟨gb340, 1, none⟩ (.int .i64 ((Zao l0 x7_1).f1)))) := ⟨by repeat (first | (with_reducible first | exact HB.out | apply Zab | apply Zaa | apply Zac | refine Zae ?_ GE340.out) | exact HB.out)⟩
   (try clear BK340)
   (try clear HB)
   generalize ((w23.setCell ⟨gb340, 0, none⟩ (.int .i64 ((Zao l0 x7_1).f0))).setCell ⟨gb340, 1, none⟩ (.int .i64 ((Zao l0 x7_1).f1))) = w25 at n0_ n1_ ⊢
   have BK340 := n0_
   have HB := n1_
   clear n0_ n1_
   have n0_ := Za.mk (Zag BK340.out)
   have n1_ := Za.mk (Zac HB.out)
   clear BK340
   clear HB
   have BK340 := n0_
   have HB := n1_
   clear n0_ n1_
   have p343 : 0 ≤ ((ji15) : Int) := of_decide_eq_true (by first | (with_reducible assumption) | assumption)
   have q343 : (ji15) < (l0.length : Int) := of_decide_eq_true (by first | (with_reducible assumption) | assumption)
   obtain ⟨ad343, e343, hx343_0, hx343_1⟩ := Zdf HR0.out (ji15) p343 q343
   have hw343_1 := hx343_1
   have hw343_0 := hx343_0
   obtain rfl : ad339 = ad343 := (by injection e343)
   replace hx343_0 := (HB.out.cell (World.block_lt_of_cell? w _ hx343_0)).trans hx343_0
   replace hx343_1 := (HB.out.cell (World.block_lt_of_cell? w _ hx343_1)).trans hx343_1
   replace p343 := eq_true p343
   replace q343 := eq_true q343
   refine Zd0 (n := 33) (S := fun w' => w'.cell? ⟨gb340, 0, none⟩ = some (.int .i64 ((Zao l0 x7_1).f0)) ∧ w'.cell? ⟨gb340, 1, none⟩ = some (.int .i64 ((Zao l0 x7_1).f1)) ∧ w'.cell? (ad339.add (((ji15)).toNat * 2)) = some (.int .i64 ((Zao l0 (ji15)).f0)) ∧ w'.cell? ⟨(ad339.add (((ji15)).toNat * 2)).block, (ad339.add (((ji15)).toNat * 2)).off + 1, none⟩ = some (.int .i64 ((Zao l0 (ji15)).f1))) (ds := []) #[false, false, false, false, false, false, false, false, false, false, false, false, false, false, false, false, false, false, false, false, false, false, false, false, false, false, false, false, false, false, false, false, false] (by kernel_rfl) rfl rfl ⟨(Zah BK340.out 0).trans rfl, (Zah BK340.out 1).trans rfl, ((HB.out.cell (World.block_lt_of_cell? w _ hw343_0)).trans hw343_0), ((HB.out.cell (World.block_lt_of_cell? w _ hw343_1)).trans hw343_1)⟩ (fun hHeld => ?_); refine Zcu Zba.tab4 Zba.bits4 (fun HT_ HW_ => ?_)
   generalize w25.drew = w26 at BK340 HB hx343_0 hx343_1 hHeld ⊢
   refine Za0 (i := 0) (N := some 12) (v := ?_) (a' := ?_) #[true, false, false, false, false, false, false, false, false, false, false, false, false, false, false, false, false, false, false, false, false, false, false, false, false, false, false, false, false, false, false, false, false] rfl rfl (Zal HT_.out (by kernel_rfl)) (fun _ _ _ h => h) (Or.inl ⟨by rfl, ?_⟩) ?_ ?_
   rotate_left
   ·intro w'
    go_simp
    with_reducible rfl
   rotate_left
   ·simp only [Act.put, List.setIfInBounds_toArray, List.set_cons_zero, List.set_cons_succ, Zas, Zat]
    rfl
   refine Zcl (i := 1) (N := some 13) (v := ?_) (a' := ?_) #[true, true, false, false, false, false, false, false, false, false, false, false, false, false, false, false, false, false, false, false, false, false, false, false, false, false, false, false, false, false, false, false, false] rfl rfl (Zbj HT_.out HW_.out (by kernel_rfl)) (fun _ _ _ h => h) (Or.inl ⟨by rfl, ?_⟩) hHeld ?_ ?_
   rotate_left
   ·rintro w' ⟨s0, s1, s2, s3⟩
    go_simp
    with_reducible rfl
   rotate_left
   ·simp only [Act.put, List.setIfInBounds_toArray, List.set_cons_zero, List.set_cons_succ, Zas, Zat]
    rfl
   refine one_ (i := 2) (N := some 14) #[true, true, true, false, false, false, false, false, false, false, false, false, false, false, false, false, false, false, false, false, false, false, false, false, false, false, false, false, false, false, false, false, false] rfl rfl (Zb6 HT_.out (by kernel_rfl)) (by decide) (fun K hK => ?_)
   refine Zc2 Try.func109 (by kernel_rfl) rfl #[.int .i64 ((Zao l0 x7_1).f0)] (by rfl) rfl rfl (by (try simp only [List.map_toArray, List.map_cons, List.map_nil]); first | done | rfl | (simp only [List.length_drop, List.length_take]; rfl)) ?_
   with_reducible refine (Zb2.calls ((Zao l0 x7_1).f0) true _ A5.out).mono ?_
   rintro e w' ⟨rfl, ⟨nd, rfl⟩⟩
   refine ⟨_, rfl, ?_⟩
   refine hK.out _ _ ⟨(Zah BK340.out 0).trans rfl, (Zah BK340.out 1).trans rfl, ((HB.out.cell (World.block_lt_of_cell? w _ hw343_0)).trans hw343_0), ((HB.out.cell (World.block_lt_of_cell? w _ hw343_1)).trans hw343_1)⟩ (fun hHeld => ?_)
   clear hK K
   refine Zcg (a' := ?_) ?_ ?_
   rotate_left
   ·show Act.put _ (some 14) _ = _
    simp only [Act.put, List.setIfInBounds_toArray, List.set_cons_zero, List.set_cons_succ, Zas, Zat]
    rfl
   refine Za0 (i := 3) (N := some 15) (v := ?_) (a' := ?_) #[true, true, true, true, false, false, false, false, false, false, false, false, false, false, false, false, false, false, false, false, false, false, false, false, false, false, false, false, false, false, false, false, false] rfl rfl (Zal HT_.out (by kernel_rfl)) (fun _ _ _ h => h) (Or.inl ⟨by rfl, ?_⟩) ?_ ?_
   rotate_left
   ·intro w'
    go_simp
    with_reducible rfl
   rotate_left
   ·simp only [Act.put, List.setIfInBounds_toArray, List.set_cons_zero, List.set_cons_succ, Zas, Zat]
    rfl
   refine Za0 (i := 4) (N := some 16) (v := ?_) (a' := ?_) #[true, true, true, true, true, false, false, false, false, false, false, false, false, false, false, false, false, false, false, false, false, false, false, false, false, false, false, false, false, false, false, false, false] rfl rfl (Zal HT_.out (by kernel_rfl)) (fun _ _ _ h => h) (Or.inl ⟨by rfl, ?_⟩) ?_ ?_
   rotate_left
   ·intro w'
    go_simp
    with_reducible rfl
   rotate_left
   ·simp only [Act.put, List.setIfInBounds_toArray, List.set_cons_zero, List.set_cons_succ, Zas, Zat]
    rfl
   refine Za0 (i := 5) (N := some 17) (v := ?_) (a' := ?_) #[true, true, true, true, true, true, false, false, false, false, false, false, false, false, false, false, false, false, false, false, false, false, false, false, false, false, false, false, false, false, false, false, false] rfl rfl (Zal HT_.out (by kernel_rfl)) (fun _ _ _ h => h) (Or.inl ⟨by rfl, ?_⟩) ?_ ?_
   rotate_left
   ·intro w'
    go_simp
    with_reducible rfl
   rotate_left
   ·simp only [Act.put, List.setIfInBounds_toArray, List.set_cons_zero, List.set_cons_succ, Zas, Zat]
    rfl
   refine Zcl (i := 6) (N := some 18) (v := ?_) (a' := ?_) #[true, true, true, true, true, true, true, false, false, false, false, false, false, false, false, false, false, false, false, false, false, false, false, false, false, false, false, false, false, false, false, false, false] rfl rfl (Zbj HT_.out HW_.out (by kernel_rfl)) (fun _ _ _ h => h) (Or.inl ⟨by rfl, ?_⟩) hHeld ?_ ?_
   rotate_left
   ·rintro w' ⟨s0, s1, s2, s3⟩
    go_simp
    with_reducible rfl
   rotate_left
   ·simp only [Act.put, List.setIfInBounds_toArray, List.set_cons_zero, List.set_cons_succ, Zas, Zat]
    rfl
   refine one_ (i := 7) (N := some 19) #[true, true, true, true, true, true, true, true, false, false, false, false, false, false, false, false, false, false, false, false, false, false, false, false, false, false, false, false, false, false, false, false, false] rfl rfl (Zb6 HT_.out (by kernel_rfl)) (by decide) (fun K hK => ?_)
   refine Zc2 Try.func109 (by kernel_rfl) rfl #[.int .i64 ((Zao l0 x7_1).f1)] (by rfl) rfl rfl (by (try simp only [List.map_toArray, List.map_cons, List.map_nil]); first | done | rfl | (simp only [List.length_drop, List.length_take]; rfl)) ?_
   with_reducible refine (Zb2.calls ((Zao l0 x7_1).f1) true _ A7.out).mono ?_
   rintro e w' ⟨rfl, ⟨nd, rfl⟩⟩
   refine ⟨_, rfl, ?_⟩
   refine hK.out _ _ ⟨(Zah BK340.out 0).trans rfl, (Zah BK340.out 1).trans rfl, ((HB.out.cell (World.block_lt_of_cell? w _ hw343_0)).trans hw343_0), ((HB.out.cell (World.block_lt_of_cell? w _ hw343_1)).trans hw343_1)⟩ (fun hHeld => ?_)
   clear hK K
   refine Zcg (a' := ?_) ?_ ?_
   rotate_left
   ·show Act.put _ (some 19) _ = _
    simp only [Act.put, List.setIfInBounds_toArray, List.set_cons_zero, List.set_cons_succ, Zas, Zat]
    rfl
   refine Za0 (i := 8) (N := some 20) (v := ?_) (a' := ?_) #[true, true, true, true, true, true, true, true, true, false, false, false, false, false, false, false, false, false, false, false, false, false, false, false, false, false, false, false, false, false, false, false, false] rfl rfl (Zal HT_.out (by kernel_rfl)) (fun _ _ _ h => h) (Or.inl ⟨by rfl, ?_⟩) ?_ ?_
   rotate_left
   ·intro w'
    go_simp
    with_reducible rfl
   rotate_left
   ·simp only [Act.put, List.setIfInBounds_toArray, List.set_cons_zero, List.set_cons_succ, Zas, Zat]
    rfl
   refine Za0 (i := 9) (N := some 21) (v := ?_) (a' := ?_) #[true, true, true, true, true, true, true, true, true, true, false, false, false, false, false, false, false, false, false, false, false, false, false, false, false, false, false, false, false, false, false, false, false] rfl rfl (Zal HT_.out (by kernel_rfl)) (fun _ _ _ h => h) (Or.inl ⟨by rfl, ?_⟩) ?_ ?_
   rotate_left
   ·intro w'
    go_simp
    with_reducible rfl
   rotate_left
   ·simp only [Act.put, List.setIfInBounds_toArray, List.set_cons_zero, List.set_cons_succ, Zas, Zat]
    rfl
   refine Za0 (i := 10) (N := some 22) (v := ?_) (a' := ?_) #[true, true, true, true, true, true, true, true, true, true, true, false, false, false, false, false, false, false, false, false, false, false, false, false, false, false, false, false, false, false, false, false, false] rfl rfl (Zal HT_.out (by kernel_rfl)) (fun _ _ _ h => h) (Or.inl ⟨by rfl, ?_⟩) ?_ ?_
   rotate_left
   ·intro w'
    go_simp
    with_reducible rfl
   rotate_left
   ·simp only [Act.put, List.setIfInBounds_toArray, List.set_cons_zero, List.set_cons_succ, Zas, Zat]
    rfl
   refine Za0 (i := 11) (N := some 23) (v := ?_) (a' := ?_) #[true, true, true, true, true, true, true, true, true, true, true, true, false, false, false, false, false, false, false, false, false, false, false, false, false, false, false, false, false, false, false, false, false] rfl rfl (Zal HT_.out (by kernel_rfl)) (fun _ _ _ h => h) (Or.inl ⟨by rfl, ?_⟩) ?_ ?_
   rotate_left
   ·intro w'
    go_simp
    with_reducible rfl
   rotate_left
   ·simp only [Act.put, List.setIfInBounds_toArray, List.set_cons_zero, List.set_cons_succ, Zas, Zat]
    rfl
   refine Za0 (i := 13) (N := some 25) (v := ?_) (a' := ?_) #[true, true, true, true, true, true, true, true, true, true, true, true, false, true, false, false, false, false, false, false, false, false, false, false, false, false, false, false, false, false, false, false, false] rfl rfl (Zal HT_.out (by kernel_rfl)) (fun _ _ _ h => h) (Or.inl ⟨by rfl, ?_⟩) ?_ ?_
   rotate_left
   ·intro w'
    go_simp
    with_reducible rfl
   rotate_left
   ·simp only [Act.put, List.setIfInBounds_toArray, List.set_cons_zero, List.set_cons_succ, Zas, Zat]
    rfl
   refine Zcl (i := 12) (N := some 24) (v := ?_) (a' := ?_) #[true, true, true, true, true, true, true, true, true, true, true, true, true, true, false, false, false, false, false, false, false, false, false, false, false, false, false, false, false, false, false, false, false] rfl rfl (Zbj HT_.out HW_.out (by kernel_rfl)) (fun _ _ _ h => h) (Or.inl ⟨by rfl, ?_⟩) hHeld ?_ ?_
   rotate_left
   ·rintro w' ⟨s0, s1, s2, s3⟩
    go_simp
    with_reducible rfl
   rotate_left
   ·simp only [Act.put, List.setIfInBounds_toArray, List.set_cons_zero, List.set_cons_succ, Zas, Zat]
    rfl
   refine Zcl (i := 14) (N := some 26) (v := ?_) (a' := ?_) #[true, true, true, true, true, true, true, true, true, true, true, true, true, true, true, false, false, false, false, false, false, false, false, false, false, false, false, false, false, false, false, false, false] rfl rfl (Zbj HT_.out HW_.out (by kernel_rfl)) (fun _ _ _ h => h) (Or.inl ⟨by rfl, ?_⟩) hHeld ?_ ?_
   rotate_left
   ·rintro w' ⟨s0, s1, s2, s3⟩
    go_simp
    with_reducible rfl
   rotate_left
   ·simp only [Act.put, List.setIfInBounds_toArray, List.set_cons_zero, List.set_cons_succ, Zas, Zat]
    rfl
   refine Za0 (i := 15) (N := some 27) (v := ?_) (a' := ?_) #[true, true, true, true, true, true, true, true, true, true, true, true, true, true, true, true, false, false, false, false, false, false, false, false, false, false, false, false, false, false, false, false, false] rfl rfl (Zal HT_.out (by kernel_rfl)) (fun _ _ _ h => h) (Or.inl ⟨by rfl, ?_⟩) ?_ ?_
   rotate_left
   ·intro w'
    go_simp
    with_reducible rfl
   rotate_left
   ·simp only [Act.put, List.setIfInBounds_toArray, List.set_cons_zero, List.set_cons_succ, Zas, Zat]
    rfl
   refine Za0 (i := 16) (N := some 28) (v := ?_) (a' := ?_) #[true, true, true, true, true, true, true, true, true, true, true, true, true, true, true, true, true, false, false, false, false, false, false, false, false, false, false, false, false, false, false, false, false] rfl rfl (Zal HT_.out (by kernel_rfl)) (fun _ _ _ h => h) (Or.inl ⟨by rfl, ?_⟩) ?_ ?_
   rotate_left
   ·intro w'
    go_simp
    with_reducible rfl
   rotate_left
   ·simp only [Act.put, List.setIfInBounds_toArray, List.set_cons_zero, List.set_cons_succ, Zas, Zat]
    rfl
   refine Za0 (i := 17) (N := some 29) (v := ?_) (a' := ?_) #[true, true, true, true, true, true, true, true, true, true, true, true, true, true, true, true, true, true, false, false, false, false, false, false, false, false, false, false, false, false, false, false, false] rfl rfl (Zal HT_.out (by kernel_rfl)) (fun _ _ _ h => h) (Or.inl ⟨by rfl, ?_⟩) ?_ ?_
   rotate_left
   ·intro w'
    go_simp
    with_reducible rfl
   rotate_left
   ·simp only [Act.put, List.setIfInBounds_toArray, List.set_cons_zero, List.set_cons_succ, Zas, Zat]
    rfl
   refine Za0 (i := 18) (N := some 30) (v := ?_) (a' := ?_) #[true, true, true, true, true, true, true, true, true, true, true, true, true, true, true, true, true, true, true, false, false, false, false, false, false, false, false, false, false, false, false, false, false] rfl rfl (Zal HT_.out (by kernel_rfl)) (fun _ _ _ h => h) (Or.inl ⟨by rfl, ?_⟩) ?_ ?_
   rotate_left
   ·intro w'
    go_simp
    with_reducible rfl
   rotate_left
   ·simp only [Act.put, List.setIfInBounds_toArray, List.set_cons_zero, List.set_cons_succ, Zas, Zat]
    rfl
   refine Za0 (i := 19) (N := some 31) (v := ?_) (a' := ?_) #[true, true, true, true, true, true, true, true, true, true, true, true, true, true, true, true, true, true, true, true, false, false, false, false, false, false, false, false, false, false, false, false, false] rfl rfl (Zal HT_.out (by kernel_rfl)) (fun _ _ _ h => h) (Or.inl ⟨by rfl, ?_⟩) ?_ ?_
   rotate_left
   ·intro w'
    go_simp
    with_reducible rfl
   rotate_left
   ·simp only [Act.put, List.setIfInBounds_toArray, List.set_cons_zero, List.set_cons_succ, Zas, Zat]
    rfl
   refine Za0 (i := 20) (N := some 32) (v := ?_) (a' := ?_) #[true, true, true, true, true, true, true, true, true, true, true, true, true, true, true, true, true, true, true, true, true, false, false, false, false, false, false, false, false, false, false, false, false] rfl rfl (Zal HT_.out (by kernel_rfl)) (fun _ _ _ h => h) (Or.inl ⟨by rfl, ?_⟩) ?_ ?_
   rotate_left
   ·intro w'
    go_simp
    with_reducible rfl
   rotate_left
   ·simp only [Act.put, List.setIfInBounds_toArray, List.set_cons_zero, List.set_cons_succ, Zas, Zat]
    rfl
   refine Za0 (i := 21) (N := some 33) (v := ?_) (a' := ?_) #[true, true, true, true, true, true, true, true, true, true, true, true, true, true, true, true, true, true, true, true, true, true, false, false, false, false, false, false, false, false, false, false, false] rfl rfl (Zal HT_.out (by kernel_rfl)) (fun _ _ _ h => h) (Or.inl ⟨by rfl, ?_⟩) ?_ ?_
   rotate_left
   ·intro w'
    go_simp
    with_reducible rfl
   rotate_left
   ·simp only [Act.put, List.setIfInBounds_toArray, List.set_cons_zero, List.set_cons_succ, Zas, Zat]
    rfl
   refine Za0 (i := 23) (N := some 35) (v := ?_) (a' := ?_) #[true, true, true, true, true, true, true, true, true, true, true, true, true, true, true, true, true, true, true, true, true, true, false, true, false, false, false, false, false, false, false, false, false] rfl rfl (Zal HT_.out (by kernel_rfl)) (fun _ _ _ h => h) (Or.inl ⟨by rfl, ?_⟩) ?_ ?_
   rotate_left
   ·intro w'
    go_simp
    with_reducible rfl
   rotate_left
   ·simp only [Act.put, List.setIfInBounds_toArray, List.set_cons_zero, List.set_cons_succ, Zas, Zat]
    rfl
   refine Za0 (i := 24) (N := some 36) (v := ?_) (a' := ?_) #[true, true, true, true, true, true, true, true, true, true, true, true, true, true, true, true, true, true, true, true, true, true, false, true, true, false, false, false, false, false, false, false, false] rfl rfl (Zal HT_.out (by kernel_rfl)) (fun _ _ _ h => h) (Or.inl ⟨by rfl, ?_⟩) ?_ ?_
   rotate_left
   ·intro w'
    go_simp
    with_reducible rfl
   rotate_left
   ·simp only [Act.put, List.setIfInBounds_toArray, List.set_cons_zero, List.set_cons_succ, Zas, Zat]
    rfl
   refine Za0 (i := 25) (N := some 37) (v := ?_) (a' := ?_) #[true, true, true, true, true, true, true, true, true, true, true, true, true, true, true, true, true, true, true, true, true, true, false, true, true, true, false, false, false, false, false, false, false] rfl rfl (Zal HT_.out (by kernel_rfl)) (fun _ _ _ h => h) (Or.inl ⟨by rfl, ?_⟩) ?_ ?_
   rotate_left
   ·intro w'
    go_simp
    with_reducible rfl
   rotate_left
   ·simp only [Act.put, List.setIfInBounds_toArray, List.set_cons_zero, List.set_cons_succ, Zas, Zat]
    rfl
   refine Za0 (i := 26) (N := some 38) (v := ?_) (a' := ?_) #[true, true, true, true, true, true, true, true, true, true, true, true, true, true, true, true, true, true, true, true, true, true, false, true, true, true, true, false, false, false, false, false, false] rfl rfl (Zal HT_.out (by kernel_rfl)) (fun _ _ _ h => h) (Or.inl ⟨by rfl, ?_⟩) ?_ ?_
   rotate_left
   ·intro w'
    go_simp
    with_reducible rfl
   rotate_left
   ·simp only [Act.put, List.setIfInBounds_toArray, List.set_cons_zero, List.set_cons_succ, Zas, Zat]
    rfl
   refine Za0 (i := 27) (N := some 39) (v := ?_) (a' := ?_) #[true, true, true, true, true, true, true, true, true, true, true, true, true, true, true, true, true, true, true, true, true, true, false, true, true, true, true, true, false, false, false, false, false] rfl rfl (Zal HT_.out (by kernel_rfl)) (fun _ _ _ h => h) (Or.inl ⟨by rfl, ?_⟩) ?_ ?_
   rotate_left
   ·intro w'
    go_simp
    with_reducible rfl
   rotate_left
   ·simp only [Act.put, List.setIfInBounds_toArray, List.set_cons_zero, List.set_cons_succ, Zas, Zat]
    rfl
   refine Zcl (i := 22) (N := some 34) (v := ?_) (a' := ?_) #[true, true, true, true, true, true, true, true, true, true, true, true, true, true, true, true, true, true, true, true, true, true, true, true, true, true, true, true, false, false, false, false, false] rfl rfl (Zbj HT_.out HW_.out (by kernel_rfl)) (fun _ _ _ h => h) (Or.inl ⟨by rfl, ?_⟩) hHeld ?_ ?_
   rotate_left
   ·rintro w' ⟨s0, s1, s2, s3⟩
    go_simp
    with_reducible rfl
   rotate_left
   ·simp only [Act.put, List.setIfInBounds_toArray, List.set_cons_zero, List.set_cons_succ, Zas, Zat]
    rfl
   refine Zcl (i := 28) (N := some 40) (v := ?_) (a' := ?_) #[true, true, true, true, true, true, true, true, true, true, true, true, true, true, true, true, true, true, true, true, true, true, true, true, true, true, true, true, true, false, false, false, false] rfl rfl (Zbj HT_.out HW_.out (by kernel_rfl)) (fun _ _ _ h => h) (Or.inl ⟨by rfl, ?_⟩) hHeld ?_ ?_
   rotate_left
   ·rintro w' ⟨s0, s1, s2, s3⟩
    go_simp
    with_reducible rfl
   rotate_left
   ·simp only [Act.put, List.setIfInBounds_toArray, List.set_cons_zero, List.set_cons_succ, Zas, Zat]
    rfl
   refine Za0 (i := 29) (N := some 41) (v := ?_) (a' := ?_) #[true, true, true, true, true, true, true, true, true, true, true, true, true, true, true, true, true, true, true, true, true, true, true, true, true, true, true, true, true, true, false, false, false] rfl rfl (Zal HT_.out (by kernel_rfl)) (fun _ _ _ h => h) (Or.inl ⟨by rfl, ?_⟩) ?_ ?_
   rotate_left
   ·intro w'
    go_simp
    with_reducible rfl
   rotate_left
   ·simp only [Act.put, List.setIfInBounds_toArray, List.set_cons_zero, List.set_cons_succ, Zas, Zat]
    rfl
   refine Za0 (i := 30) (N := some 42) (v := ?_) (a' := ?_) #[true, true, true, true, true, true, true, true, true, true, true, true, true, true, true, true, true, true, true, true, true, true, true, true, true, true, true, true, true, true, true, false, false] rfl rfl (Zal HT_.out (by kernel_rfl)) (fun _ _ _ h => h) (Or.inl ⟨by rfl, ?_⟩) ?_ ?_
   rotate_left
   ·intro w'
    go_simp
    with_reducible rfl
   rotate_left
   ·simp only [Act.put, List.setIfInBounds_toArray, List.set_cons_zero, List.set_cons_succ, Zas, Zat]
    rfl
   refine Za0 (i := 31) (N := some 43) (v := ?_) (a' := ?_) #[true, true, true, true, true, true, true, true, true, true, true, true, true, true, true, true, true, true, true, true, true, true, true, true, true, true, true, true, true, true, true, true, false] rfl rfl (Zal HT_.out (by kernel_rfl)) (fun _ _ _ h => h) (Or.inl ⟨by rfl, ?_⟩) ?_ ?_
   rotate_left
   ·intro w'
    go_simp
    with_reducible rfl
   rotate_left
   ·simp only [Act.put, List.setIfInBounds_toArray, List.set_cons_zero, List.set_cons_succ, Zas, Zat]
    rfl
   refine Za0 (i := 32) (N := some 44) (v := ?_) (a' := ?_) #[true, true, true, true, true, true, true, true, true, true, true, true, true, true, true, true, true, true, true, true, true, true, true, true, true, true, true, true, true, true, true, true, true] rfl rfl (Zal HT_.out (by kernel_rfl)) (fun _ _ _ h => h) (Or.inl ⟨by rfl, ?_⟩) ?_ ?_
   rotate_left
   ·intro w'
    go_simp
    with_reducible rfl
   rotate_left
   ·simp only [Act.put, List.setIfInBounds_toArray, List.set_cons_zero, List.set_cons_succ, Zas, Zat]
    rfl
   refine Ze4 (Zdl HT_.out (by kernel_rfl)) ?_
   try go_wp2
   go_roundg k1
   case measure => have := HK1.out; omega
   case rel => exact ⟨(wrap64 (x7_1 + 1)), (by first | rfl | (simp; done) | (simp [*]; done)), H', ⟨by have := HK1.out; omega⟩, ⟨by repeat (first | (with_reducible first | exact HB.out | apply Zab | apply Zaa | apply Zac | refine Zae ?_ GE340.out) | exact HB.out)⟩⟩
def Zcj.l0 : Nat → Int → List (S48) → Int → Int → Option (Int)
 | 0, _, _, _, _ => none
 | k + 1, x3, x6, x7, x8 => if x8 < x7 then (if 0 ≤ x8 then (if x8 < (x6.length : Int) then (Zcj.l0 k (wrap64 (x3 + (wrap64 ((wrap64 (((Zao x6 x8).f1) - ((Zao x6 x8).f0))) + 1)))) x6 x7 (wrap64 (x8 + 1))) else (none)) else (none)) else (some x3)
def Zcj.f (k : Nat) (l0 : List (S48)) : Option (Int) := Zcj.l0 k 0 l0 (l0.length : Int) 0
set_option maxHeartbeats 8000000 in
set_option maxRecDepth 100000 in
theorem Zcj.calls (k : Nat) (A0 : Option Addr) (c0 : Nat) (l0 : List (S48)) (r : Int) (w : World) (hr0 : Kd.C k48 w A0 l0.length l0) (hc0 : l0.length ≤ c0) (h : Zcj.f k l0 = some r) :
  Calls Try.prog 86 #[.slice A0 l0.length c0] w fun e w' => e = .returned (.int .i64 r) ∧ Below w.heap.size w w' := by
 have hu48 := Try.underlying48
 have HR0 := Za.mk hr0
 have HC0 := Za.mk hc0
 clear hr0 hc0
 have HB := Za.mk (Below.refl w.heap.size w)
 have H : (Zcj.l0 k 0 l0 (l0.length : Int) 0) = some r := h
 clear h
 have H' := Za.mk H
 clear H
 go_enter Try.func86, Try.ntmps86
 go_wp2
 go_loopg [3, 8] k (fun kq v3 v8 w' => ∃ (x3_1 : Int) (x8_1 : Int), v3 = .int .i64 x3_1 ∧ v8 = .int .i64 x8_1 ∧ Za (Zcj.l0 kq x3_1 l0 (l0.length : Int) x8_1 = some r) ∧ Za (kq ≤ k) ∧ Za (Below w.heap.size w w'))
 case atStart => exact ⟨(0), (0), (by first | rfl | (simp; done) | (simp [*]; done)), (by first | rfl | (simp; done) | (simp [*]; done)), H', ⟨Nat.le_refl _⟩, ⟨by repeat (first | (with_reducible first | exact HB.out | apply Zab | apply Zaa | apply Zac) | exact HB.out)⟩⟩
 case round =>
  clear H'
  obtain ⟨x3_1, x8_1, rfl, rfl, HA, HK1, HB⟩ := hrel
  cases gk with
  | zero => exact absurd HA.out (by simp [Zcj.l0])
  | succ k1 =>
   have H := HA.out
   clear HA
   simp only [Zcj.l0] at H
   by_cases c2 : x8_1 < (l0.length : Int)
   rotate_left
   ·rw [if_neg c2] at H
    have c2b0 : decide (x8_1 < (l0.length : Int)) = false := decide_eq_false c2
    clear c2
    obtain rfl := Option.some.inj H
    go_wp2
    go_ret
    exact ⟨by first | rfl | (simp [Zam, Zan] <;> rfl) | (simp [*, Zam, Zan] <;> rfl), by repeat (first | (with_reducible first | exact HB.out | apply Zab | apply Zaa | apply Zac) | exact HB.out)⟩
   rw [if_pos c2] at H
   have c2b0 : decide (x8_1 < (l0.length : Int)) = true := decide_eq_true c2
   clear c2
   by_cases c3 : 0 ≤ x8_1
   rotate_left
   ·rw [if_neg c3] at H
    exact absurd H (by simp)
   rw [if_pos c3] at H
   have c3b0 : decide (0 ≤ x8_1) = true := decide_eq_true c3
   clear c3
   by_cases c4 : x8_1 < (l0.length : Int)
   rotate_left
   ·rw [if_neg c4] at H
    exact absurd H (by simp)
   rw [if_pos c4] at H
   have c4b0 : decide (x8_1 < (l0.length : Int)) = true := decide_eq_true c4
   clear c4
   have H' := Za.mk H
   clear H
   have p344 : 0 ≤ (x8_1 : Int) := of_decide_eq_true (by first | (with_reducible assumption) | assumption)
   have q344 : x8_1 < (l0.length : Int) := of_decide_eq_true (by first | (with_reducible assumption) | assumption)
   obtain ⟨ad344, e344, hx344_0, hx344_1⟩ := Zdf HR0.out x8_1 p344 q344
   cases e344
   replace hx344_0 := (HB.out.cell (World.block_lt_of_cell? w _ hx344_0)).trans hx344_0
   replace hx344_1 := (HB.out.cell (World.block_lt_of_cell? w _ hx344_1)).trans hx344_1
   replace p344 := eq_true p344
   replace q344 := eq_true q344
   go_wp2_with (first | ((with_reducible refine Zaz (N := 5) rfl ?_); refine Za5 ?hg (N := 5) ?hd (cs := #[.int .i64 0, .int .i64 0]) (t := 48) ?hr ?_; (case hd => rfl); (case hg => rfl); (case hr => first | (go_simp; done) | (go_simp; rfl)); intro gb345 hg w5 hbox hb; have n0_ := Za.mk (Zad (by repeat (first | (with_reducible first | exact HB.out | apply Zab | apply Zaa | apply Zac) | exact HB.out)) hb); have n1_ := Za.mk (hbox); have n2_ := Za.mk ((by rw [hg]; exact (Zaj (by repeat (first | (with_reducible first | exact HB.out | apply Zab | apply Zaa | apply Zac) | exact HB.out))) : w.heap.size ≤ gb345)); have n3_ := Za.mk ((by rw [hg]; exact (Zaj (by repeat (first | (with_reducible first | exact HB.out | apply Zab | apply Zaa | apply Zac) | exact HB.out))) : w.heap.size ≤ gb345)); clear HB; have HB := n0_; have BK345 := n1_; have GW345 := n2_; have GE345 := n3_; clear n0_ n1_ n2_ n3_; clear hb hbox hg; obtain ⟨hcz6_0, hcz6_1, hfz6_0, hfz6_1⟩ := Zdg BK345.out))
   go_roundg k1
   case measure => have := HK1.out; omega
   case rel => exact ⟨(wrap64 (x3_1 + (wrap64 ((wrap64 (((Zao l0 x8_1).f1) - ((Zao l0 x8_1).f0))) + 1)))), (wrap64 (x8_1 + 1)), (by first | rfl | (simp; done) | (simp [*]; done)), (by first | rfl | (simp; done) | (simp [*]; done)), H', ⟨by have := HK1.out; omega⟩, ⟨by repeat (first | (with_reducible first | exact HB.out | apply Zab | apply Zaa | apply Zac | refine Zae ?_ GE345.out) | exact HB.out)⟩⟩
def Zdu.f (k : Nat) (l0 : List (S48)) : Option (Int) := (Zba.f k l0).bind fun t346 => (if t346 = true then ((Zcj.f k l0).bind fun t347 => (if t347 > 4096 then (some 2) else (some 0))) else (some 20))
set_option maxHeartbeats 8000000 in
set_option maxRecDepth 100000 in
theorem Zdu.calls (k : Nat) (A0 : Option Addr) (c0 : Nat) (l0 : List (S48)) (r : Int) (w : World) (hr0 : Kd.C k48 w A0 l0.length l0) (hc0 : l0.length ≤ c0) (h : Zdu.f k l0 = some r) :
  Calls Try.prog 57 #[.slice A0 l0.length c0] w fun e w' => e = .returned (.int .i64 r) ∧ Below w.heap.size w w' := by
 have HR0 := Za.mk hr0
 have HC0 := Za.mk hc0
 clear hr0 hc0
 have HB := Za.mk (Below.refl w.heap.size w)
 have H : ((Zba.f k l0).bind fun t346 => (if t346 = true then ((Zcj.f k l0).bind fun t347 => (if t347 > 4096 then (some 2) else (some 0))) else (some 20))) = some r := h
 clear h
 replace H := Option.bind_eq_some_iff.mp H
 obtain ⟨t346, A20, H⟩ := H
 replace H : (if t346 = true then ((Zcj.f k l0).bind fun t347 => (if t347 > 4096 then (some 2) else (some 0))) else (some 20)) = some r := H
 have A2 := Za.mk A20
 clear A20
 by_cases c3 : t346 = true
 rotate_left
 ·replace c3 := Bool.eq_false_iff.mpr c3
  subst c3
  have H1 : (some 20) = some r := by rw [if_neg (show ¬ (false = true) by decide)] at H; exact H
  clear H
  have H := H1
  clear H1
  obtain rfl := Option.some.inj H
  go_enter Try.func57, Try.ntmps57
  go_wp2_with (first | ((with_reducible refine Zaw (f := 85) rfl ?_); refine Zbk (some 5) rfl rfl Try.func85 (by kernel_rfl) rfl #[.slice A0 l0.length c0] rfl (by (try simp only [List.map_toArray, List.map_cons, List.map_nil]); first | done | rfl | (simp only [List.length_drop, List.length_take]; rfl)) ?_; (with_reducible refine (Zba.calls k _ _ l0 false _ ?side1 ?side2 A2.out).mono ?_); (case side1 => repeat (first | exact HR0.out | (with_reducible refine Kd.C_alloc ?_ _) | (with_reducible refine Kd.C_drewN ?_ _) | (with_reducible refine Kd.C_drew ?_))); (case side2 => exact HC0.out); rintro e w10 ⟨rfl, hb⟩; refine ⟨_, rfl, ?_⟩; have n0_ := Za.mk (Zad (by repeat (first | (with_reducible first | exact HB.out | apply Zab | apply Zaa | apply Zac) | exact HB.out)) hb); clear HB; have HB := n0_; clear n0_; (try clear hb); (try clear hb2); (try clear hk); (try clear hi)))
  go_ret
  exact ⟨by first | rfl | (simp [Zam, Zan] <;> rfl) | (simp [*, Zam, Zan] <;> rfl), by repeat (first | (with_reducible first | exact HB.out | apply Zab | apply Zaa | apply Zac) | exact HB.out)⟩
 subst c3
 have H1 : ((Zcj.f k l0).bind fun t347 => (if t347 > 4096 then (some 2) else (some 0))) = some r := by rw [if_pos rfl] at H; exact H
 clear H
 have H := H1
 clear H1
 replace H := Option.bind_eq_some_iff.mp H
 obtain ⟨t347, A40, H⟩ := H
 replace H : (if t347 > 4096 then (some 2) else (some 0)) = some r := H
 have A4 := Za.mk A40
 clear A40
 by_cases c5 : t347 > 4096
 ·rw [if_pos c5] at H
  have c5b0 : decide (4096 < t347) = true := decide_eq_true c5
  clear c5
  obtain rfl := Option.some.inj H
  go_enter Try.func57, Try.ntmps57
  go_wp2_with (first | ((with_reducible refine Zaw (f := 85) rfl ?_); refine Zbk (some 5) rfl rfl Try.func85 (by kernel_rfl) rfl #[.slice A0 l0.length c0] rfl (by (try simp only [List.map_toArray, List.map_cons, List.map_nil]); first | done | rfl | (simp only [List.length_drop, List.length_take]; rfl)) ?_; (with_reducible refine (Zba.calls k _ _ l0 true _ ?side1 ?side2 A2.out).mono ?_); (case side1 => repeat (first | exact HR0.out | (with_reducible refine Kd.C_alloc ?_ _) | (with_reducible refine Kd.C_drewN ?_ _) | (with_reducible refine Kd.C_drew ?_))); (case side2 => exact HC0.out); rintro e w6 ⟨rfl, hb⟩; refine ⟨_, rfl, ?_⟩; have n0_ := Za.mk (Zad (by repeat (first | (with_reducible first | exact HB.out | apply Zab | apply Zaa | apply Zac) | exact HB.out)) hb); clear HB; have HB := n0_; clear n0_; (try clear hb); (try clear hb2); (try clear hk); (try clear hi)) | ((with_reducible refine Zaw (f := 86) rfl ?_); refine Zbk (some 9) rfl rfl Try.func86 (by kernel_rfl) rfl #[.slice A0 l0.length c0] rfl (by (try simp only [List.map_toArray, List.map_cons, List.map_nil]); first | done | rfl | (simp only [List.length_drop, List.length_take]; rfl)) ?_; (with_reducible refine (Zcj.calls k _ _ l0 t347 _ ?side1 ?side2 A4.out).mono ?_); (case side1 => repeat (first | exact (Kd.Zak HR0.out HB.out) | (with_reducible refine Kd.C_alloc ?_ _) | (with_reducible refine Kd.C_drewN ?_ _) | (with_reducible refine Kd.C_drew ?_))); (case side2 => exact HC0.out); rintro e w7 ⟨rfl, hb⟩; refine ⟨_, rfl, ?_⟩; have n0_ := Za.mk (Zad (by repeat (first | (with_reducible first | exact HB.out | apply Zab | apply Zaa | apply Zac) | exact HB.out)) hb); clear HB; have HB := n0_; clear n0_; (try clear hb); (try clear hb2); (try clear hk); (try clear hi)))
  go_ret
  exact ⟨by first | rfl | (simp [Zam, Zan] <;> rfl) | (simp [*, Zam, Zan] <;> rfl), by repeat (first | (with_reducible first | exact HB.out | apply Zab | apply Zaa | apply Zac) | exact HB.out)⟩
 rw [if_neg c5] at H
 have c5b0 : decide (4096 < t347) = false := decide_eq_false c5
 clear c5
 obtain rfl := Option.some.inj H
 go_enter Try.func57, Try.ntmps57
 go_wp2_with (first | ((with_reducible refine Zaw (f := 85) rfl ?_); refine Zbk (some 5) rfl rfl Try.func85 (by kernel_rfl) rfl #[.slice A0 l0.length c0] rfl (by (try simp only [List.map_toArray, List.map_cons, List.map_nil]); first | done | rfl | (simp only [List.length_drop, List.length_take]; rfl)) ?_; (with_reducible refine (Zba.calls k _ _ l0 true _ ?side1 ?side2 A2.out).mono ?_); (case side1 => repeat (first | exact HR0.out | (with_reducible refine Kd.C_alloc ?_ _) | (with_reducible refine Kd.C_drewN ?_ _) | (with_reducible refine Kd.C_drew ?_))); (case side2 => exact HC0.out); rintro e w8 ⟨rfl, hb⟩; refine ⟨_, rfl, ?_⟩; have n0_ := Za.mk (Zad (by repeat (first | (with_reducible first | exact HB.out | apply Zab | apply Zaa | apply Zac) | exact HB.out)) hb); clear HB; have HB := n0_; clear n0_; (try clear hb); (try clear hb2); (try clear hk); (try clear hi)) | ((with_reducible refine Zaw (f := 86) rfl ?_); refine Zbk (some 9) rfl rfl Try.func86 (by kernel_rfl) rfl #[.slice A0 l0.length c0] rfl (by (try simp only [List.map_toArray, List.map_cons, List.map_nil]); first | done | rfl | (simp only [List.length_drop, List.length_take]; rfl)) ?_; (with_reducible refine (Zcj.calls k _ _ l0 t347 _ ?side1 ?side2 A4.out).mono ?_); (case side1 => repeat (first | exact (Kd.Zak HR0.out HB.out) | (with_reducible refine Kd.C_alloc ?_ _) | (with_reducible refine Kd.C_drewN ?_ _) | (with_reducible refine Kd.C_drew ?_))); (case side2 => exact HC0.out); rintro e w9 ⟨rfl, hb⟩; refine ⟨_, rfl, ?_⟩; have n0_ := Za.mk (Zad (by repeat (first | (with_reducible first | exact HB.out | apply Zab | apply Zaa | apply Zac) | exact HB.out)) hb); clear HB; have HB := n0_; clear n0_; (try clear hb); (try clear hb2); (try clear hk); (try clear hi)))
 go_ret
 exact ⟨by first | rfl | (simp [Zam, Zan] <;> rfl) | (simp [*, Zam, Zan] <;> rfl), by repeat (first | (with_reducible first | exact HB.out | apply Zab | apply Zaa | apply Zac) | exact HB.out)⟩
end Go.Proofs.Ytkgjaklnbgdmiaa.P
