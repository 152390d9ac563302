/- Proved: what each function of the program that the statements of this seat reach comes to, for whatever memory and arguments it is called with (on condition that its plain text tells a result). -/
import Derived.Test.YtkgjaklnbgdmiaaZ1
import Derived.Test.YtkgjaklnbgdmiaaZ2
import Derived.Carry
import Derived.Shelf.GgClosure.Gives
import Derived.Deep.LoopGhost
namespace Go.Proofs.Ytkgjaklnbgdmiaa.P
open Go.RowKit Go.Proofs.YtkgjaklnbgdmiaaW.PrintWords Go.Proofs.YtkgjaklnbgdmiaaW.PrintLast Go.Proofs.YtkgjaklnbgdmiaaW.PrintMore
attribute [local go_sem] Zcs Zcu Zc7 Zc8 Zcc Zcd Zct Zcv
set_option linter.unusedVariables false
set_option linter.unusedSimpArgs false
def Zbz.j0 : Nat → Int → Int → Int → Bool → Option (Int × Bool)
 | 0, _, _, _, _ => none
 | k + 1, x0, x1, x7, x26 => if x26 = true then (some (0, false)) else (if ((decide (x0 < 0)) != (decide (x1 < 0))) = true then (some (wrap64 (-(wrap64 (x7))), true)) else (some (wrap64 (x7), true)))
def Zbz.f (k : Nat) (a0 : Int) (a1 : Int) : Option (Int × Bool) := (Zbe.f k (([a0, a1] : List Int))).bind fun t291 => (if t291 = true then ((Zca.f a0).bind fun t292 => ((Zca.f a1).bind fun t293 => ((bits_Mul64.f t292 t293).bind fun bt294 => (if bt294.1 = 0 then (Zbz.j0 k a0 a1 bt294.2 (decide (bt294.2 > 4611686018427387904))) else (Zbz.j0 k a0 a1 bt294.2 true))))) else (some (0, false)))
set_option maxHeartbeats 8000000 in
set_option maxRecDepth 100000 in
theorem Zbz.calls (k : Nat) (a0 : Int) (a1 : Int) (r1 : Int) (r2 : Bool) (w : World) (h : Zbz.f k a0 a1 = some (r1, r2)) :
  Calls Try.prog 73 #[.int .i64 a0, .int .i64 a1] w fun e w' => e = .returned (.tuple #[.int .i64 r1, .bool r2]) ∧ Below w.heap.size w w' := by
 have HB := Za.mk (Below.refl w.heap.size w)
 have H : ((Zbe.f k (([a0, a1] : List Int))).bind fun t291 => (if t291 = true then ((Zca.f a0).bind fun t292 => ((Zca.f a1).bind fun t293 => ((bits_Mul64.f t292 t293).bind fun bt294 => (if bt294.1 = 0 then (Zbz.j0 k a0 a1 bt294.2 (decide (bt294.2 > 4611686018427387904))) else (Zbz.j0 k a0 a1 bt294.2 true))))) else (some (0, false)))) = some (r1, r2) := h
 clear h
 obtain ⟨y288, hy288⟩ : ∃ y_ : List Int, y_ = (([a0, a1] : List Int)) := ⟨_, rfl⟩
 replace H : ((Zbe.f k y288).bind fun t291 => (if t291 = true then ((Zca.f a0).bind fun t292 => ((Zca.f a1).bind fun t293 => ((bits_Mul64.f t292 t293).bind fun bt294 => (if bt294.1 = 0 then (Zbz.j0 k a0 a1 bt294.2 (decide (bt294.2 > 4611686018427387904))) else (Zbz.j0 k a0 a1 bt294.2 true))))) else (some (0, false)))) = some (r1, r2) := by first | (rw [hy288]; with_reducible exact H) | (have H2_ := (Option.bind_some _ _).symm.trans H; rw [hy288]; with_reducible exact H2_) | (have H2_ := (Option.bind_some _ _).symm.trans H; with_reducible exact H2_) | with_reducible exact H | (rw [hy288]; exact H) | exact H
 have Ny288 := Za.mk hy288
 clear hy288
 replace H := Option.bind_eq_some_iff.mp H
 obtain ⟨t291, A30, H⟩ := H
 replace H : (if t291 = true then ((Zca.f a0).bind fun t292 => ((Zca.f a1).bind fun t293 => ((bits_Mul64.f t292 t293).bind fun bt294 => (if bt294.1 = 0 then (Zbz.j0 k a0 a1 bt294.2 (decide (bt294.2 > 4611686018427387904))) else (Zbz.j0 k a0 a1 bt294.2 true))))) else (some (0, false))) = some (r1, r2) := H
 have A3 := Za.mk A30
 clear A30
 by_cases c4 : t291 = true
 rotate_left
 ·replace c4 := Bool.eq_false_iff.mpr c4
  subst c4
  have H1 : (some (0, false)) = some (r1, r2) := by rw [if_neg (show ¬ (false = true) by decide)] at H; exact H
  clear H
  have H := H1
  clear H1
  simp only [Option.some.injEq, Prod.mk.injEq] at H
  obtain ⟨rfl, rfl⟩ := H
  go_enter Try.func73, Try.ntmps73
  go_wp2_with (first | ((with_reducible refine Zax (N := 10) rfl ?_); refine Kd.Zc9 (Kd.int .i64) _ 3 ?hg (N := 10) ?hd (xs := ([a0, a1] : List Int)) (inner := [.int .i64 a0, .int .i64 a1]) (ok := fun _ => True) (okp := fun _ => True) ?hr ?hp (fun _ hk => hk) trivial (Below.refl _ _) (Nat.le_refl _) (by simp) ?_; (case hd => rfl); (case hg => rfl); (case hr => first | (go_simp; done) | (go_simp; rfl)); (case hp => exact (Reps.one (show Kd.M (Kd.int .i64) _ _ _ a0 [.int .i64 a0] from rfl) (Reps.one (show Kd.M (Kd.int .i64) _ _ _ a1 [.int .i64 a1] from rfl) (Reps.none _ _)))); intro v289 w15 ho16 hb hg_ hnew_; clear hg_ hnew_; (first | rw [← Ny288.out] at ho16 | (simp only [Int.reduceToNat] at ho16; rw [← Ny288.out] at ho16)); have n0_ := Za.mk (Kd.Zbp ho16 (Zan (by repeat (first | (with_reducible first | exact HB.out | apply Zab | apply Zaa | apply Zad) | exact HB.out)))); have n1_ := Za.mk (Zaf (by repeat (first | (with_reducible first | exact HB.out | apply Zab | apply Zaa | apply Zad) | exact HB.out)) hb); clear HB; have HO290 := n0_; have HB := n1_; clear n0_ n1_; clear hb ho16; obtain ⟨Ao17, co17, eo17⟩ := Kd.Za9 HO290.out; subst eo17) | ((with_reducible refine Zay (f := 94) rfl ?_); refine Zbu (some 11) rfl rfl Try.func94 (by kernel_rfl) rfl #[.slice Ao17 y288.length co17] rfl (by (try simp only [List.map_toArray, List.map_cons, List.map_nil]); first | done | rfl | (simp only [List.length_drop, List.length_take]; rfl)) ?_; (with_reducible refine (Zbe.calls k _ _ y288 false _ ?side1 ?side2 A3.out).mono ?_); (case side1 => repeat (first | exact (Kd.Za0 HO290.out).2.2 | (with_reducible refine Kd.C_alloc ?_ _) | (with_reducible refine Kd.Zaw ?_ _) | (with_reducible refine Kd.C_drew ?_))); (case side2 => exact (Kd.Za0 HO290.out).2.1); rintro e w' ⟨rfl, ⟨nd, rfl⟩⟩; refine ⟨_, rfl, ?_⟩))
  go_ret2
  exact ⟨by first | rfl | (simp [Zar, Zas] <;> rfl) | (simp [*, Zar, Zas] <;> rfl), by repeat (first | (with_reducible first | exact HB.out | apply Zab | apply Zaa | apply Zad) | exact HB.out)⟩
 subst c4
 have H1 : ((Zca.f a0).bind fun t292 => ((Zca.f a1).bind fun t293 => ((bits_Mul64.f t292 t293).bind fun bt294 => (if bt294.1 = 0 then (Zbz.j0 k a0 a1 bt294.2 (decide (bt294.2 > 4611686018427387904))) else (Zbz.j0 k a0 a1 bt294.2 true))))) = some (r1, r2) := by rw [if_pos rfl] at H; exact H
 clear H
 have H := H1
 clear H1
 replace H := Option.bind_eq_some_iff.mp H
 obtain ⟨t292, A50, H⟩ := H
 replace H : ((Zca.f a1).bind fun t293 => ((bits_Mul64.f t292 t293).bind fun bt294 => (if bt294.1 = 0 then (Zbz.j0 k a0 a1 bt294.2 (decide (bt294.2 > 4611686018427387904))) else (Zbz.j0 k a0 a1 bt294.2 true)))) = some (r1, r2) := H
 have A5 := Za.mk A50
 clear A50
 replace H := Option.bind_eq_some_iff.mp H
 obtain ⟨t293, A60, H⟩ := H
 replace H : ((bits_Mul64.f t292 t293).bind fun bt294 => (if bt294.1 = 0 then (Zbz.j0 k a0 a1 bt294.2 (decide (bt294.2 > 4611686018427387904))) else (Zbz.j0 k a0 a1 bt294.2 true))) = some (r1, r2) := H
 have A6 := Za.mk A60
 clear A60
 replace H := Option.bind_eq_some_iff.mp H
 obtain ⟨⟨t294, t295⟩, A70, H⟩ := H
 replace H : (if t294 = 0 then (Zbz.j0 k a0 a1 t295 (decide (t295 > 4611686018427387904))) else (Zbz.j0 k a0 a1 t295 true)) = some (r1, r2) := H
 have A7 := Za.mk A70
 clear A70
 have HC8 := Za.mk H
 clear H
 go_enter Try.func73, Try.ntmps73
 go_upto_region 4 with (first | ((with_reducible refine Zax (N := 10) rfl ?_); refine Kd.Zc9 (Kd.int .i64) _ 3 ?hg (N := 10) ?hd (xs := ([a0, a1] : List Int)) (inner := [.int .i64 a0, .int .i64 a1]) (ok := fun _ => True) (okp := fun _ => True) ?hr ?hp (fun _ hk => hk) trivial (Below.refl _ _) (Nat.le_refl _) (by simp) ?_; (case hd => rfl); (case hg => rfl); (case hr => first | (go_simp; done) | (go_simp; rfl)); (case hp => exact (Reps.one (show Kd.M (Kd.int .i64) _ _ _ a0 [.int .i64 a0] from rfl) (Reps.one (show Kd.M (Kd.int .i64) _ _ _ a1 [.int .i64 a1] from rfl) (Reps.none _ _)))); intro v289 w9 ho10 hb hg_ hnew_; clear hg_ hnew_; (first | rw [← Ny288.out] at ho10 | (simp only [Int.reduceToNat] at ho10; rw [← Ny288.out] at ho10)); have n0_ := Za.mk (Kd.Zbp ho10 (Zan (by repeat (first | (with_reducible first | exact HB.out | apply Zab | apply Zaa | apply Zad) | exact HB.out)))); have n1_ := Za.mk (Zaf (by repeat (first | (with_reducible first | exact HB.out | apply Zab | apply Zaa | apply Zad) | exact HB.out)) hb); clear HB; have HO290 := n0_; have HB := n1_; clear n0_ n1_; clear hb ho10; obtain ⟨Ao11, co11, eo11⟩ := Kd.Za9 HO290.out; subst eo11) | ((with_reducible refine Zay (f := 94) rfl ?_); refine Zbu (some 11) rfl rfl Try.func94 (by kernel_rfl) rfl #[.slice Ao11 y288.length co11] rfl (by (try simp only [List.map_toArray, List.map_cons, List.map_nil]); first | done | rfl | (simp only [List.length_drop, List.length_take]; rfl)) ?_; (with_reducible refine (Zbe.calls k _ _ y288 true _ ?side1 ?side2 A3.out).mono ?_); (case side1 => repeat (first | exact (Kd.Za0 HO290.out).2.2 | (with_reducible refine Kd.C_alloc ?_ _) | (with_reducible refine Kd.Zaw ?_ _) | (with_reducible refine Kd.C_drew ?_))); (case side2 => exact (Kd.Za0 HO290.out).2.1); rintro e w' ⟨rfl, ⟨nd, rfl⟩⟩; refine ⟨_, rfl, ?_⟩) | ((with_reducible refine Zay (f := 96) rfl ?_); refine Zbu (some 15) rfl rfl Try.func96 (by kernel_rfl) rfl #[.int .i64 a0] rfl (by (try simp only [List.map_toArray, List.map_cons, List.map_nil]); first | done | rfl | (simp only [List.length_drop, List.length_take]; rfl)) ?_; (with_reducible refine (Zca.calls a0 t292 _ A5.out).mono ?_); rintro e w' ⟨rfl, ⟨nd, rfl⟩⟩; refine ⟨_, rfl, ?_⟩) | ((with_reducible refine Zay (f := 96) rfl ?_); refine Zbu (some 17) rfl rfl Try.func96 (by kernel_rfl) rfl #[.int .i64 a1] rfl (by (try simp only [List.map_toArray, List.map_cons, List.map_nil]); first | done | rfl | (simp only [List.length_drop, List.length_take]; rfl)) ?_; (with_reducible refine (Zca.calls a1 t293 _ A6.out).mono ?_); rintro e w' ⟨rfl, ⟨nd, rfl⟩⟩; refine ⟨_, rfl, ?_⟩) | ((with_reducible refine Zay (f := 95) rfl ?_); refine Zbu (some 18) rfl rfl Try.func95 (by kernel_rfl) rfl #[.int .u64 t292, .int .u64 t293] rfl (by (try simp only [List.map_toArray, List.map_cons, List.map_nil]); first | done | rfl | (simp only [List.length_drop, List.length_take]; rfl)) ?_; (with_reducible refine (bits_Mul64.calls t292 t293 t294 t295 _ A7.out).mono ?_); rintro e w' ⟨rfl, ⟨nd, rfl⟩⟩; refine ⟨_, rfl, ?_⟩))
 (try simp only [Act.put, List.setIfInBounds_toArray, List.set_cons_zero, List.set_cons_succ])
 go_cut [26] (fun v26 wc => ∃ (kq : Nat) (x26_7 : Bool), v26 = .bool x26_7 ∧ Za (Zbz.j0 kq a0 a1 t295 x26_7 = some (r1, r2)) ∧ Za (kq ≤ k) ∧ Za (Below w.heap.size w wc))
 case first =>
  have H := HC8.out
  clear HC8
  by_cases c12 : t294 = 0
  rotate_left
  ·rw [if_neg c12] at H
   have c12b0 : (t294 == 0) = false := beq_eq_false_iff_ne.mpr c12
   have c12b1 : (t294 != 0) = true := bne_iff_ne.mpr c12
   (first | rw [c12b0] | (simp only [Zbb, Zbd]; rw [c12b0]) | skip)
   have H' := Za.mk H
   clear H
   go_wp2
   go_meet
   case rel => exact ⟨_, (true), (by first | rfl | (simp; done) | (simp [*]; done)), H', ⟨by first | omega | exact Nat.le_refl _⟩, ⟨by repeat (first | (with_reducible first | exact HB.out | apply Zab | apply Zaa | apply Zad) | exact HB.out)⟩⟩
  rw [if_pos c12] at H
  have c12b0 : (t294 == 0) = true := beq_iff_eq.mpr c12
  have c12b1 : (t294 != 0) = false := bne_eq_false_iff_eq.mpr c12
  clear c12
  (first | rw [c12b0] | (simp only [Zbb, Zbd]; rw [c12b0]) | skip)
  have H' := Za.mk H
  clear H
  go_wp2
  go_meet
  case rel => exact ⟨_, (decide (t295 > 4611686018427387904)), (by first | rfl | (simp; done) | (simp [*]; done)), H', ⟨by first | omega | exact Nat.le_refl _⟩, ⟨by repeat (first | (with_reducible first | exact HB.out | apply Zab | apply Zaa | apply Zad) | exact HB.out)⟩⟩
 case rest =>
  clear HC8
  try clear c1
  try clear p2
  try clear c4
  try clear c7
  try clear c9
  try clear c12
  try clear c12b0
  try clear c12b1
  obtain ⟨kq, x26_7, rfl, HA, HJ7, HB⟩ := hcut
  cases kq with
  | zero => exact absurd HA.out (by simp [Zbz.j0])
  | succ kj7 =>
   have H := HA.out
   clear HA
   simp only [Zbz.j0] at H
   by_cases c13 : x26_7 = true
   ·subst c13
    have H1 : (some (0, false)) = some (r1, r2) := by rw [if_pos rfl] at H; exact H
    clear H
    have H := H1
    clear H1
    simp only [Option.some.injEq, Prod.mk.injEq] at H
    obtain ⟨rfl, rfl⟩ := H
    go_wp2
    go_ret2
    exact ⟨by first | rfl | (simp [Zar, Zas] <;> rfl) | (simp [*, Zar, Zas] <;> rfl), by repeat (first | (with_reducible first | exact HB.out | apply Zab | apply Zaa | apply Zad) | exact HB.out)⟩
   replace c13 := Bool.eq_false_iff.mpr c13
   subst c13
   have H1 : (if ((decide (a0 < 0)) != (decide (a1 < 0))) = true then (some (wrap64 (-(wrap64 (t295))), true)) else (some (wrap64 (t295), true))) = some (r1, r2) := by rw [if_neg (show ¬ (false = true) by decide)] at H; exact H
   clear H
   have H := H1
   clear H1
   by_cases c14 : ((decide (a0 < 0)) != (decide (a1 < 0))) = true
   rotate_left
   ·rw [if_neg c14] at H
    have c14b0 : ((decide (a0 < 0)) != (decide (a1 < 0))) = false := by simpa using c14
    (try (have c14b1 : decide ((decide (a0 < 0)) = (decide (a1 < 0))) = true := by simpa using c14))
    (try (have c14b2 : ((decide (a0 < 0)) == (decide (a1 < 0))) = true := by simpa using c14))
    clear c14
    simp only [Option.some.injEq, Prod.mk.injEq] at H
    obtain ⟨rfl, rfl⟩ := H
    go_wp2
    go_ret2
    exact ⟨by first | rfl | (simp [Zar, Zas] <;> rfl) | (simp [*, Zar, Zas] <;> rfl), by repeat (first | (with_reducible first | exact HB.out | apply Zab | apply Zaa | apply Zad) | exact HB.out)⟩
   rw [if_pos c14] at H
   have c14b0 : ((decide (a0 < 0)) != (decide (a1 < 0))) = true := c14
   (try (have c14b1 : decide ((decide (a0 < 0)) = (decide (a1 < 0))) = false := by simpa using c14))
   (try (have c14b2 : ((decide (a0 < 0)) == (decide (a1 < 0))) = false := by simpa using c14))
   (try (have c14b3 : ¬ ((decide (a0 < 0)) = (decide (a1 < 0))) := by simpa using c14))
   clear c14
   simp only [Option.some.injEq, Prod.mk.injEq] at H
   obtain ⟨rfl, rfl⟩ := H
   go_wp2
   go_ret2
   exact ⟨by first | rfl | (simp [Zar, Zas] <;> rfl) | (simp [*, Zar, Zas] <;> rfl), by repeat (first | (with_reducible first | exact HB.out | apply Zab | apply Zaa | apply Zad) | exact HB.out)⟩
def Zb0.l0 : Nat → Int → Bool → List Int → Int → Int → Option (Bool)
 | 0, _, _, _, _, _ => none
 | k + 1, x5, x6, x16, x17, x18 => if x18 < x17 then (if 0 ≤ x18 then (if x18 < (x16.length : Int) then ((Zcx.f k (rd x16 x18)).bind fun bt299 => (if bt299.2 = true then ((Zbz.f k bt299.1 1048576).bind fun bt301 => (if bt301.2 = true then (if x6 = true then ((Zcg.f k x5 bt301.1).bind fun bt303 => (Zb0.l0 k bt303.1 bt303.2 x16 x17 (wrap64 (x18 + 1)))) else (some true)) else (some true))) else (some true))) else (none)) else (none)) else (some (!x6))
def Zb0.f (k : Nat) (l0 : List Int) (a1 : Int) : Option (Bool) := (Zcx.f k a1).bind fun bt296 => (Zb0.l0 k bt296.1 bt296.2 l0 (l0.length : Int) 0)
set_option maxHeartbeats 8000000 in
set_option maxRecDepth 100000 in
theorem Zb0.calls (k : Nat) (A0 : Option Addr) (c0 : Nat) (l0 : List Int) (a1 : Int) (r : Bool) (w : World) (hr0 : Kd.C (Kd.int .i64) w A0 l0.length l0) (hc0 : l0.length ≤ c0) (h : Zb0.f k l0 a1 = some r) :
  Calls Try.prog 41 #[.slice A0 l0.length c0, .int .i64 a1] w fun e w' => e = .returned (.bool r) ∧ Below w.heap.size w w' := by
 have HR0 := Za.mk hr0
 have HC0 := Za.mk hc0
 clear hr0 hc0
 have HB := Za.mk (Below.refl w.heap.size w)
 have H : ((Zcx.f k a1).bind fun bt296 => (Zb0.l0 k bt296.1 bt296.2 l0 (l0.length : Int) 0)) = some r := h
 clear h
 replace H := Option.bind_eq_some_iff.mp H
 obtain ⟨⟨t296, t297⟩, A30, H⟩ := H
 replace H : (Zb0.l0 k t296 t297 l0 (l0.length : Int) 0) = some r := H
 have A3 := Za.mk A30
 clear A30
 have H' := Za.mk H
 clear H
 go_enter Try.func41, Try.ntmps41
 go_wp2_with (first | ((with_reducible refine Zay (f := 72) rfl ?_); refine Zbu (some 13) rfl rfl Try.func72 (by kernel_rfl) rfl #[.int .i64 a1] rfl (by (try simp only [List.map_toArray, List.map_cons, List.map_nil]); first | done | rfl | (simp only [List.length_drop, List.length_take]; rfl)) ?_; (with_reducible refine (Zcx.calls k a1 t296 t297 _ A3.out).mono ?_); rintro e w4 ⟨rfl, hb⟩; refine ⟨_, rfl, ?_⟩; have n0_ := Za.mk (Zaf (by repeat (first | (with_reducible first | exact HB.out | apply Zab | apply Zaa | apply Zad) | exact HB.out)) hb); clear HB; have HB := n0_; clear n0_; (try clear hb); (try clear hb2); (try clear hk); (try clear hi)))
 go_loopg [5, 6, 18] k (fun kq v5 v6 v18 w' => ∃ (x5_1 : Int) (x6_1 : Bool) (x18_1 : Int), v5 = .int .i64 x5_1 ∧ v6 = .bool x6_1 ∧ v18 = .int .i64 x18_1 ∧ Za (Zb0.l0 kq x5_1 x6_1 l0 (l0.length : Int) x18_1 = some r) ∧ Za (kq ≤ k) ∧ Za (Below w.heap.size w w'))
 case atStart => exact ⟨(t296), (t297), (0), (by first | rfl | (simp; done) | (simp [*]; done)), (by first | rfl | (simp; done) | (simp [*]; done)), (by first | rfl | (simp; done) | (simp [*]; done)), H', ⟨Nat.le_refl _⟩, ⟨by repeat (first | (with_reducible first | exact HB.out | apply Zab | apply Zaa | apply Zad) | exact HB.out)⟩⟩
 case round =>
  clear H'
  try clear p2
  try clear c4
  obtain ⟨x5_1, x6_1, x18_1, rfl, rfl, rfl, HA, HK1, HB⟩ := hrel
  cases gk with
  | zero => exact absurd HA.out (by simp [Zb0.l0])
  | succ k1 =>
   have H := HA.out
   clear HA
   simp only [Zb0.l0] at H
   by_cases c5 : x18_1 < (l0.length : Int)
   rotate_left
   ·rw [if_neg c5] at H
    have c5b0 : decide (x18_1 < (l0.length : Int)) = false := decide_eq_false c5
    clear c5
    obtain rfl := Option.some.inj H
    go_wp2
    go_ret
    exact ⟨by first | rfl | (simp [Zar, Zas] <;> rfl) | (simp [*, Zar, Zas] <;> rfl), by repeat (first | (with_reducible first | exact HB.out | apply Zab | apply Zaa | apply Zad) | exact HB.out)⟩
   rw [if_pos c5] at H
   have c5b0 : decide (x18_1 < (l0.length : Int)) = true := decide_eq_true c5
   clear c5
   by_cases c6 : 0 ≤ x18_1
   rotate_left
   ·rw [if_neg c6] at H
    exact absurd H (by simp)
   rw [if_pos c6] at H
   have c6b0 : decide (0 ≤ x18_1) = true := decide_eq_true c6
   clear c6
   by_cases c7 : x18_1 < (l0.length : Int)
   rotate_left
   ·rw [if_neg c7] at H
    exact absurd H (by simp)
   rw [if_pos c7] at H
   have c7b0 : decide (x18_1 < (l0.length : Int)) = true := decide_eq_true c7
   clear c7
   replace H := Option.bind_eq_some_iff.mp H
   obtain ⟨⟨t299, t300⟩, A80, H⟩ := H
   replace H : (if t300 = true then ((Zbz.f k1 t299 1048576).bind fun bt301 => (if bt301.2 = true then (if x6_1 = true then ((Zcg.f k1 x5_1 bt301.1).bind fun bt303 => (Zb0.l0 k1 bt303.1 bt303.2 l0 (l0.length : Int) (wrap64 (x18_1 + 1)))) else (some true)) else (some true))) else (some true)) = some r := H
   have A8 := Za.mk A80
   clear A80
   by_cases c9 : t300 = true
   rotate_left
   ·replace c9 := Bool.eq_false_iff.mpr c9
    subst c9
    have H1 : (some true) = some r := by rw [if_neg (show ¬ (false = true) by decide)] at H; exact H
    clear H
    have H := H1
    clear H1
    obtain rfl := Option.some.inj H
    have p298 : 0 ≤ (x18_1 : Int) := of_decide_eq_true (by first | (with_reducible assumption) | assumption)
    have q298 : x18_1 < (l0.length : Int) := of_decide_eq_true (by first | (with_reducible assumption) | assumption)
    obtain ⟨ad298, e298, hx298_0⟩ := Kd.Zcq HR0.out x18_1 p298 q298
    cases e298
    replace hx298_0 := (HB.out.cell (World.block_lt_of_cell? w _ hx298_0)).trans hx298_0
    replace p298 := eq_true p298
    replace q298 := eq_true q298
    go_wp2_with (first | ((with_reducible refine Zay (f := 72) rfl ?_); refine Zbu (some 24) rfl rfl Try.func72 (by kernel_rfl) rfl #[.int .i64 (rd l0 x18_1)] rfl (by (try simp only [List.map_toArray, List.map_cons, List.map_nil]); first | done | rfl | (simp only [List.length_drop, List.length_take]; rfl)) ?_; (with_reducible refine (Zcx.calls k1 (rd l0 x18_1) t299 false _ A8.out).mono ?_); rintro e w21 ⟨rfl, hb⟩; refine ⟨_, rfl, ?_⟩; have n0_ := Za.mk (Zaf (by repeat (first | (with_reducible first | exact HB.out | apply Zab | apply Zaa | apply Zad) | exact HB.out)) hb); clear HB; have HB := n0_; clear n0_; (try clear hb); (try clear hb2); (try clear hk); (try clear hi)))
    go_ret
    exact ⟨by first | rfl | (simp [Zar, Zas] <;> rfl) | (simp [*, Zar, Zas] <;> rfl), by repeat (first | (with_reducible first | exact HB.out | apply Zab | apply Zaa | apply Zad) | exact HB.out)⟩
   subst c9
   have H1 : ((Zbz.f k1 t299 1048576).bind fun bt301 => (if bt301.2 = true then (if x6_1 = true then ((Zcg.f k1 x5_1 bt301.1).bind fun bt303 => (Zb0.l0 k1 bt303.1 bt303.2 l0 (l0.length : Int) (wrap64 (x18_1 + 1)))) else (some true)) else (some true))) = some r := by rw [if_pos rfl] at H; exact H
   clear H
   have H := H1
   clear H1
   replace H := Option.bind_eq_some_iff.mp H
   obtain ⟨⟨t301, t302⟩, A100, H⟩ := H
   replace H : (if t302 = true then (if x6_1 = true then ((Zcg.f k1 x5_1 t301).bind fun bt303 => (Zb0.l0 k1 bt303.1 bt303.2 l0 (l0.length : Int) (wrap64 (x18_1 + 1)))) else (some true)) else (some true)) = some r := H
   have A10 := Za.mk A100
   clear A100
   by_cases c11 : t302 = true
   rotate_left
   ·replace c11 := Bool.eq_false_iff.mpr c11
    subst c11
    have H1 : (some true) = some r := by rw [if_neg (show ¬ (false = true) by decide)] at H; exact H
    clear H
    have H := H1
    clear H1
    obtain rfl := Option.some.inj H
    have p298 : 0 ≤ (x18_1 : Int) := of_decide_eq_true (by first | (with_reducible assumption) | assumption)
    have q298 : x18_1 < (l0.length : Int) := of_decide_eq_true (by first | (with_reducible assumption) | assumption)
    obtain ⟨ad298, e298, hx298_0⟩ := Kd.Zcq HR0.out x18_1 p298 q298
    cases e298
    replace hx298_0 := (HB.out.cell (World.block_lt_of_cell? w _ hx298_0)).trans hx298_0
    replace p298 := eq_true p298
    replace q298 := eq_true q298
    go_wp2_with (first | ((with_reducible refine Zay (f := 72) rfl ?_); refine Zbu (some 24) rfl rfl Try.func72 (by kernel_rfl) rfl #[.int .i64 (rd l0 x18_1)] rfl (by (try simp only [List.map_toArray, List.map_cons, List.map_nil]); first | done | rfl | (simp only [List.length_drop, List.length_take]; rfl)) ?_; (with_reducible refine (Zcx.calls k1 (rd l0 x18_1) t299 true _ A8.out).mono ?_); rintro e w19 ⟨rfl, hb⟩; refine ⟨_, rfl, ?_⟩; have n0_ := Za.mk (Zaf (by repeat (first | (with_reducible first | exact HB.out | apply Zab | apply Zaa | apply Zad) | exact HB.out)) hb); clear HB; have HB := n0_; clear n0_; (try clear hb); (try clear hb2); (try clear hk); (try clear hi)) | ((with_reducible refine Zay (f := 73) rfl ?_); refine Zbu (some 30) rfl rfl Try.func73 (by kernel_rfl) rfl #[.int .i64 t299, .int .i64 1048576] rfl (by (try simp only [List.map_toArray, List.map_cons, List.map_nil]); first | done | rfl | (simp only [List.length_drop, List.length_take]; rfl)) ?_; (with_reducible refine (Zbz.calls k1 t299 1048576 t301 false _ A10.out).mono ?_); rintro e w20 ⟨rfl, hb⟩; refine ⟨_, rfl, ?_⟩; have n0_ := Za.mk (Zaf (by repeat (first | (with_reducible first | exact HB.out | apply Zab | apply Zaa | apply Zad) | exact HB.out)) hb); clear HB; have HB := n0_; clear n0_; (try clear hb); (try clear hb2); (try clear hk); (try clear hi)))
    go_ret
    exact ⟨by first | rfl | (simp [Zar, Zas] <;> rfl) | (simp [*, Zar, Zas] <;> rfl), by repeat (first | (with_reducible first | exact HB.out | apply Zab | apply Zaa | apply Zad) | exact HB.out)⟩
   subst c11
   have H1 : (if x6_1 = true then ((Zcg.f k1 x5_1 t301).bind fun bt303 => (Zb0.l0 k1 bt303.1 bt303.2 l0 (l0.length : Int) (wrap64 (x18_1 + 1)))) else (some true)) = some r := by rw [if_pos rfl] at H; exact H
   clear H
   have H := H1
   clear H1
   by_cases c12 : x6_1 = true
   rotate_left
   ·replace c12 := Bool.eq_false_iff.mpr c12
    subst c12
    have H1 : (some true) = some r := by rw [if_neg (show ¬ (false = true) by decide)] at H; exact H
    clear H
    have H := H1
    clear H1
    obtain rfl := Option.some.inj H
    have p298 : 0 ≤ (x18_1 : Int) := of_decide_eq_true (by first | (with_reducible assumption) | assumption)
    have q298 : x18_1 < (l0.length : Int) := of_decide_eq_true (by first | (with_reducible assumption) | assumption)
    obtain ⟨ad298, e298, hx298_0⟩ := Kd.Zcq HR0.out x18_1 p298 q298
    cases e298
    replace hx298_0 := (HB.out.cell (World.block_lt_of_cell? w _ hx298_0)).trans hx298_0
    replace p298 := eq_true p298
    replace q298 := eq_true q298
    go_wp2_with (first | ((with_reducible refine Zay (f := 72) rfl ?_); refine Zbu (some 24) rfl rfl Try.func72 (by kernel_rfl) rfl #[.int .i64 (rd l0 x18_1)] rfl (by (try simp only [List.map_toArray, List.map_cons, List.map_nil]); first | done | rfl | (simp only [List.length_drop, List.length_take]; rfl)) ?_; (with_reducible refine (Zcx.calls k1 (rd l0 x18_1) t299 true _ A8.out).mono ?_); rintro e w17 ⟨rfl, hb⟩; refine ⟨_, rfl, ?_⟩; have n0_ := Za.mk (Zaf (by repeat (first | (with_reducible first | exact HB.out | apply Zab | apply Zaa | apply Zad) | exact HB.out)) hb); clear HB; have HB := n0_; clear n0_; (try clear hb); (try clear hb2); (try clear hk); (try clear hi)) | ((with_reducible refine Zay (f := 73) rfl ?_); refine Zbu (some 30) rfl rfl Try.func73 (by kernel_rfl) rfl #[.int .i64 t299, .int .i64 1048576] rfl (by (try simp only [List.map_toArray, List.map_cons, List.map_nil]); first | done | rfl | (simp only [List.length_drop, List.length_take]; rfl)) ?_; (with_reducible refine (Zbz.calls k1 t299 1048576 t301 true _ A10.out).mono ?_); rintro e w18 ⟨rfl, hb⟩; refine ⟨_, rfl, ?_⟩; have n0_ := Za.mk (Zaf (by repeat (first | (with_reducible first | exact HB.out | apply Zab | apply Zaa | apply Zad) | exact HB.out)) hb); clear HB; have HB := n0_; clear n0_; (try clear hb); (try clear hb2); (try clear hk); (try clear hi)))
    go_ret
    exact ⟨by first | rfl | (simp [Zar, Zas] <;> rfl) | (simp [*, Zar, Zas] <;> rfl), by repeat (first | (with_reducible first | exact HB.out | apply Zab | apply Zaa | apply Zad) | exact HB.out)⟩
   subst c12
   have H1 : ((Zcg.f k1 x5_1 t301).bind fun bt303 => (Zb0.l0 k1 bt303.1 bt303.2 l0 (l0.length : Int) (wrap64 (x18_1 + 1)))) = some r := by rw [if_pos rfl] at H; exact H
   clear H
   have H := H1
   clear H1
   replace H := Option.bind_eq_some_iff.mp H
   obtain ⟨⟨t303, t304⟩, A130, H⟩ := H
   replace H : (Zb0.l0 k1 t303 t304 l0 (l0.length : Int) (wrap64 (x18_1 + 1))) = some r := H
   have A13 := Za.mk A130
   clear A130
   have H' := Za.mk H
   clear H
   have p298 : 0 ≤ (x18_1 : Int) := of_decide_eq_true (by first | (with_reducible assumption) | assumption)
   have q298 : x18_1 < (l0.length : Int) := of_decide_eq_true (by first | (with_reducible assumption) | assumption)
   obtain ⟨ad298, e298, hx298_0⟩ := Kd.Zcq HR0.out x18_1 p298 q298
   cases e298
   replace hx298_0 := (HB.out.cell (World.block_lt_of_cell? w _ hx298_0)).trans hx298_0
   replace p298 := eq_true p298
   replace q298 := eq_true q298
   go_wp2_with (first | ((with_reducible refine Zay (f := 72) rfl ?_); refine Zbu (some 24) rfl rfl Try.func72 (by kernel_rfl) rfl #[.int .i64 (rd l0 x18_1)] rfl (by (try simp only [List.map_toArray, List.map_cons, List.map_nil]); first | done | rfl | (simp only [List.length_drop, List.length_take]; rfl)) ?_; (with_reducible refine (Zcx.calls k1 (rd l0 x18_1) t299 true _ A8.out).mono ?_); rintro e w14 ⟨rfl, hb⟩; refine ⟨_, rfl, ?_⟩; have n0_ := Za.mk (Zaf (by repeat (first | (with_reducible first | exact HB.out | apply Zab | apply Zaa | apply Zad) | exact HB.out)) hb); clear HB; have HB := n0_; clear n0_; (try clear hb); (try clear hb2); (try clear hk); (try clear hi)) | ((with_reducible refine Zay (f := 73) rfl ?_); refine Zbu (some 30) rfl rfl Try.func73 (by kernel_rfl) rfl #[.int .i64 t299, .int .i64 1048576] rfl (by (try simp only [List.map_toArray, List.map_cons, List.map_nil]); first | done | rfl | (simp only [List.length_drop, List.length_take]; rfl)) ?_; (with_reducible refine (Zbz.calls k1 t299 1048576 t301 true _ A10.out).mono ?_); rintro e w15 ⟨rfl, hb⟩; refine ⟨_, rfl, ?_⟩; have n0_ := Za.mk (Zaf (by repeat (first | (with_reducible first | exact HB.out | apply Zab | apply Zaa | apply Zad) | exact HB.out)) hb); clear HB; have HB := n0_; clear n0_; (try clear hb); (try clear hb2); (try clear hk); (try clear hi)) | ((with_reducible refine Zay (f := 74) rfl ?_); refine Zbu (some 42) rfl rfl Try.func74 (by kernel_rfl) rfl #[.int .i64 x5_1, .int .i64 t301] rfl (by (try simp only [List.map_toArray, List.map_cons, List.map_nil]); first | done | rfl | (simp only [List.length_drop, List.length_take]; rfl)) ?_; (with_reducible refine (Zcg.calls k1 x5_1 t301 t303 t304 _ A13.out).mono ?_); rintro e w16 ⟨rfl, hb⟩; refine ⟨_, rfl, ?_⟩; have n0_ := Za.mk (Zaf (by repeat (first | (with_reducible first | exact HB.out | apply Zab | apply Zaa | apply Zad) | exact HB.out)) hb); clear HB; have HB := n0_; clear n0_; (try clear hb); (try clear hb2); (try clear hk); (try clear hi)))
   go_roundg k1
   case measure => have := HK1.out; omega
   case rel => exact ⟨(t303), (t304), (wrap64 (x18_1 + 1)), (by first | rfl | (simp; done) | (simp [*]; done)), (by first | rfl | (simp; done) | (simp [*]; done)), (by first | rfl | (simp; done) | (simp [*]; done)), H', ⟨by have := HK1.out; omega⟩, ⟨by repeat (first | (with_reducible first | exact HB.out | apply Zab | apply Zaa | apply Zad) | exact HB.out)⟩⟩
end Go.Proofs.Ytkgjaklnbgdmiaa.P
/- model.Con: may a constraint be? -/
namespace Go.Proofs.Ytkgjaklnbgdmiaa.P
open Go.RowKit Go.Shelf Go.Proofs.YtkgjaklnbgdmiaaW.PrintWords Go.Proofs.YtkgjaklnbgdmiaaW.PrintLast Go.Proofs.YtkgjaklnbgdmiaaW.PrintMore
set_option linter.unusedVariables false
set_option linter.unusedSimpArgs false
def Zcz.f (k : Nat) (l0 : List (List S48)) (kd : Int) (vars coefs : List Int) (op rhs : Int) (rows : List (List Int)) (b : Int) : Option Int :=
  if kd < 0 ∨ 7 ≤ kd then some 44
  else if vars.any (awayV l0.length) = true then some 43
  else if kd = 4 ∧ awayV l0.length b = true then some 43
  else (Zbo.f k l0 kd vars coefs op rhs rows b).bind fun r => if r = false then some 44 else (Zb0.f k coefs rhs).bind fun g => some (if g = true then 45 else 0)
set_option maxHeartbeats 1500000 in
set_option maxRecDepth 100000 in
theorem Zcz.calls (k : Nat) (A0 : Option Addr) (c0 : Nat) (l0 : List (List S48)) (kd : Int) (A1 : Option Addr) (c1 : Nat) (vars : List Int) (A2 : Option Addr) (c2 : Nat) (coefs : List Int) (op rhs : Int) (A5 : Option Addr) (c5 : Nat) (rows : List (List Int)) (b : Int) (r : Int) (w : World) (hr0 : Kd.C (Kd.slice 48 k48) w A0 l0.length l0) (hc0 : l0.length ≤ c0) (hr1 : Kd.C (Kd.int .i64) w A1 vars.length vars) (hc1 : vars.length ≤ c1) (hr2 : Kd.C (Kd.int .i64) w A2 coefs.length coefs) (hc2 : coefs.length ≤ c2) (hr5 : Kd.C (Kd.slice 3 (Kd.int .i64)) w A5 rows.length rows) (hc5 : rows.length ≤ c5) (h : Zcz.f k l0 kd vars coefs op rhs rows b = some r) :
    Calls Try.prog 14 #[.slice A0 l0.length c0, .agg #[.int .i64 kd, .slice A1 vars.length c1, .slice A2 coefs.length c2, .int .i64 op, .int .i64 rhs, .slice A5 rows.length c5, .int .i64 b]] w fun e w' => e = .returned (.int .i64 r) ∧ Below w.heap.size w w' := by
  have HC := Za.mk (Zda A0 c0 l0 kd A1 c1 vars A2 c2 coefs op rhs A5 c5 rows b w hr0 hc0 hr1 hc1 hr2 hc2 hr5 hc5)
  have hwB : Below w.heap.size w ((w.alloc (.cells #[.slice A0 l0.length c0] 33)).alloc (.cells #[.int .i64 kd, .slice A1 vars.length c1, .slice A2 coefs.length c2, .int .i64 op, .int .i64 rhs, .slice A5 rows.length c5, .int .i64 b] 31)) := Zab (Zab (Below.refl _ _) _) _
  have HWB := Za.mk hwB
  clear hwB hr0 hr1 hr2 hr5
  have CC := Za.mk (fun (w' : World) (hw : Below ((w.alloc (.cells #[.slice A0 l0.length c0] 33)).alloc (.cells #[.int .i64 kd, .slice A1 vars.length c1, .slice A2 coefs.length c2, .int .i64 op, .int .i64 rhs, .slice A5 rows.length c5, .int .i64 b] 31)).heap.size ((w.alloc (.cells #[.slice A0 l0.length c0] 33)).alloc (.cells #[.int .i64 kd, .slice A1 vars.length c1, .slice A2 coefs.length c2, .int .i64 op, .int .i64 rhs, .slice A5 rows.length c5, .int .i64 b] 31)) w') => Zdn (awayV l0.length) 38 #[.pointer (some ⟨w.heap.size, 0, none⟩)] (enters_of Try.func38 (by kernel_rfl) rfl) A1 c1 vars w' (Kd.Zal HC.out.r1 hw) (fun k _ q => awayPred _ _ A0 l0.length c0 _ ((HC.out.below (Zaf hw (Zaa (Below.refl _ _) q))).ed)))
  have CB := Za.mk (fun (w' : World) (hw : Below ((w.alloc (.cells #[.slice A0 l0.length c0] 33)).alloc (.cells #[.int .i64 kd, .slice A1 vars.length c1, .slice A2 coefs.length c2, .int .i64 op, .int .i64 rhs, .slice A5 rows.length c5, .int .i64 b] 31)).heap.size ((w.alloc (.cells #[.slice A0 l0.length c0] 33)).alloc (.cells #[.int .i64 kd, .slice A1 vars.length c1, .slice A2 coefs.length c2, .int .i64 op, .int .i64 rhs, .slice A5 rows.length c5, .int .i64 b] 31)) w') => awayPred b w.heap.size A0 l0.length c0 w' ((HC.out.below hw).ed))
  have CR := Za.mk (fun (w' : World) (hw : Below ((w.alloc (.cells #[.slice A0 l0.length c0] 33)).alloc (.cells #[.int .i64 kd, .slice A1 vars.length c1, .slice A2 coefs.length c2, .int .i64 op, .int .i64 rhs, .slice A5 rows.length c5, .int .i64 b] 31)).heap.size ((w.alloc (.cells #[.slice A0 l0.length c0] 33)).alloc (.cells #[.int .i64 kd, .slice A1 vars.length c1, .slice A2 coefs.length c2, .int .i64 op, .int .i64 rhs, .slice A5 rows.length c5, .int .i64 b] 31)) w') (q : Bool) (hq : Zbo.f k l0 kd vars coefs op rhs rows b = some q) => Zbo.calls k A0 c0 l0 kd A1 c1 vars A2 c2 coefs op rhs A5 c5 rows b q w' (Kd.Zal HC.out.rd hw) hc0 (Kd.Zal HC.out.r1 hw) hc1 (Kd.Zal HC.out.r2 hw) hc2 (Kd.Zal HC.out.r5 hw) hc5 hq)
  have CG := Za.mk (fun (w' : World) (hw : Below ((w.alloc (.cells #[.slice A0 l0.length c0] 33)).alloc (.cells #[.int .i64 kd, .slice A1 vars.length c1, .slice A2 coefs.length c2, .int .i64 op, .int .i64 rhs, .slice A5 rows.length c5, .int .i64 b] 31)).heap.size ((w.alloc (.cells #[.slice A0 l0.length c0] 33)).alloc (.cells #[.int .i64 kd, .slice A1 vars.length c1, .slice A2 coefs.length c2, .int .i64 op, .int .i64 rhs, .slice A5 rows.length c5, .int .i64 b] 31)) w') (q : Bool) (hq : Zb0.f k coefs rhs = some q) => Zb0.calls k A2 c2 coefs rhs q w' (Kd.Zal HC.out.r2 hw) hc2 hq)
  have BW := Za.mk (Below.refl ((w.alloc (.cells #[.slice A0 l0.length c0] 33)).alloc (.cells #[.int .i64 kd, .slice A1 vars.length c1, .slice A2 coefs.length c2, .int .i64 op, .int .i64 rhs, .slice A5 rows.length c5, .int .i64 b] 31)).heap.size ((w.alloc (.cells #[.slice A0 l0.length c0] 33)).alloc (.cells #[.int .i64 kd, .slice A1 vars.length c1, .slice A2 coefs.length c2, .int .i64 op, .int .i64 rhs, .slice A5 rows.length c5, .int .i64 b] 31)))
  unfold Zcz.f at h
  by_cases n0 : kd < 0
  · rw [if_pos (Or.inl n0)] at h; obtain rfl := Option.some.inj h; clear h
    have d0_ : decide (kd < 0) = true := decide_eq_true n0
    clear n0
    go_enter Try.func14, Try.ntmps14
    go_wp2
    go_ret
    exact ⟨by first | rfl | (simp [*]; done) | (simp [*]; rfl), Zaf HWB.out (mvB BW.out)⟩
  have d0_ : decide (kd < 0) = false := decide_eq_false n0
  by_cases n7 : 7 ≤ kd
  · rw [if_pos (Or.inr n7)] at h; obtain rfl := Option.some.inj h; clear h
    have d7_ : decide (7 ≤ kd) = true := decide_eq_true n7
    clear n0 n7
    go_enter Try.func14, Try.ntmps14
    go_wp2
    go_ret
    exact ⟨by first | rfl | (simp [*]; done) | (simp [*]; rfl), Zaf HWB.out (mvB BW.out)⟩
  have d7_ : decide (7 ≤ kd) = false := decide_eq_false n7
  rw [if_neg (fun h_ => h_.elim n0 n7)] at h
  clear n0 n7
  generalize hav : vars.any (awayV l0.length) = av at CC h
  have HAV := Za.mk hav
  clear hav
  cases av with
  | true =>
    rw [if_pos rfl] at h; obtain rfl := Option.some.inj h; clear h
    go_enter Try.func14, Try.ntmps14
    go_wp2_with (first | (go_at_call 39; go_loud (refine (CC.out _ ?hB).mono ?_; (case hB => exact mvB BW.out); rintro e w' ⟨rfl, nd, rfl⟩)))
    go_ret
    exact ⟨by first | rfl | (simp [*]; done) | (simp [*]; rfl), Zaf HWB.out (mvB BW.out)⟩
  | false =>
    rw [if_neg (by decide)] at h
    by_cases n4 : kd = 4
    rotate_left
    · rw [if_neg (fun h_ => n4 h_.1)] at h
      have d4_ : decide (kd = 4) = false := decide_eq_false n4
      have e4_ : (kd == 4) = false := beq_eq_false_iff_ne.2 n4
      clear n4
      obtain ⟨q, hq, h2_⟩ := Option.bind_eq_some_iff.1 h
      clear h; have h := h2_; clear h2_; have HR := Za.mk hq; clear hq
      cases q with
      | false =>
        rw [if_pos rfl] at h; obtain rfl := Option.some.inj h; clear h
        go_enter Try.func14, Try.ntmps14
        go_wp2_with (first | (go_at_call 39; go_loud (refine (CC.out _ ?hB).mono ?_; (case hB => exact mvB BW.out); rintro e w' ⟨rfl, nd, rfl⟩)) | (go_at_call 40; go_loud (refine (CR.out _ ?hB _ HR.out).mono ?_; (case hB => exact mvB BW.out); rintro e w' ⟨rfl, hb⟩; have BW1 := Za.mk (Zaf (mvB BW.out) hb); clear BW hb; have BW := BW1; clear BW1; have hx_ := HC.out.below BW.out; have ed := hx_.ed; have k0 := hx_.k0; have k1 := hx_.k1; have k2 := hx_.k2; have k3 := hx_.k3; have k4 := hx_.k4; have k5 := hx_.k5; have k6 := hx_.k6; clear hx_)))
        go_ret
        exact ⟨by first | rfl | (simp [*]; done) | (simp [*]; rfl), Zaf HWB.out (mvB BW.out)⟩
      | true =>
        rw [if_neg (by decide)] at h
        obtain ⟨g, hg, h2_⟩ := Option.bind_eq_some_iff.1 h
        clear h; have h := h2_; clear h2_; have HG := Za.mk hg; clear hg; obtain rfl := Option.some.inj h; clear h
        cases g with
        | false =>
          go_enter Try.func14, Try.ntmps14
          go_wp2_with (first | (go_at_call 39; go_loud (refine (CC.out _ ?hB).mono ?_; (case hB => exact mvB BW.out); rintro e w' ⟨rfl, nd, rfl⟩)) | (go_at_call 40; go_loud (refine (CR.out _ ?hB _ HR.out).mono ?_; (case hB => exact mvB BW.out); rintro e w' ⟨rfl, hb⟩; have BW1 := Za.mk (Zaf (mvB BW.out) hb); clear BW hb; have BW := BW1; clear BW1; have hx_ := HC.out.below BW.out; have ed := hx_.ed; have k0 := hx_.k0; have k1 := hx_.k1; have k2 := hx_.k2; have k3 := hx_.k3; have k4 := hx_.k4; have k5 := hx_.k5; have k6 := hx_.k6; clear hx_)) | (go_at_call 41; go_loud (refine (CG.out _ ?hB _ HG.out).mono ?_; (case hB => exact mvB BW.out); rintro e w' ⟨rfl, hb⟩; have BW1 := Za.mk (Zaf (mvB BW.out) hb); clear BW hb; have BW := BW1; clear BW1; have hx_ := HC.out.below BW.out; have ed := hx_.ed; have k0 := hx_.k0; have k1 := hx_.k1; have k2 := hx_.k2; have k3 := hx_.k3; have k4 := hx_.k4; have k5 := hx_.k5; have k6 := hx_.k6; clear hx_)))
          go_ret
          exact ⟨by first | rfl | (simp [*]; done) | (simp [*]; rfl), Zaf HWB.out (mvB BW.out)⟩
        | true =>
          go_enter Try.func14, Try.ntmps14
          go_wp2_with (first | (go_at_call 39; go_loud (refine (CC.out _ ?hB).mono ?_; (case hB => exact mvB BW.out); rintro e w' ⟨rfl, nd, rfl⟩)) | (go_at_call 40; go_loud (refine (CR.out _ ?hB _ HR.out).mono ?_; (case hB => exact mvB BW.out); rintro e w' ⟨rfl, hb⟩; have BW1 := Za.mk (Zaf (mvB BW.out) hb); clear BW hb; have BW := BW1; clear BW1; have hx_ := HC.out.below BW.out; have ed := hx_.ed; have k0 := hx_.k0; have k1 := hx_.k1; have k2 := hx_.k2; have k3 := hx_.k3; have k4 := hx_.k4; have k5 := hx_.k5; have k6 := hx_.k6; clear hx_)) | (go_at_call 41; go_loud (refine (CG.out _ ?hB _ HG.out).mono ?_; (case hB => exact mvB BW.out); rintro e w' ⟨rfl, hb⟩; have BW1 := Za.mk (Zaf (mvB BW.out) hb); clear BW hb; have BW := BW1; clear BW1; have hx_ := HC.out.below BW.out; have ed := hx_.ed; have k0 := hx_.k0; have k1 := hx_.k1; have k2 := hx_.k2; have k3 := hx_.k3; have k4 := hx_.k4; have k5 := hx_.k5; have k6 := hx_.k6; clear hx_)))
          go_ret
          exact ⟨by first | rfl | (simp [*]; done) | (simp [*]; rfl), Zaf HWB.out (mvB BW.out)⟩
    subst n4
    generalize hab : awayV l0.length b = ab at CB h
    have HAB := Za.mk hab
    clear hab
    cases ab with
    | true =>
      rw [if_pos ⟨rfl, rfl⟩] at h; obtain rfl := Option.some.inj h; clear h
      go_enter Try.func14, Try.ntmps14
      go_wp2_with (first | (go_at_call 39; go_loud (refine (CC.out _ ?hB).mono ?_; (case hB => exact mvB BW.out); rintro e w' ⟨rfl, nd, rfl⟩)))
      refine (CB.out _ ?hB).mono ?_
      case hB => exact mvB BW.out
      rintro e w' ⟨rfl, nd2, rfl⟩
      go_wp2
      go_ret
      exact ⟨by first | rfl | (simp [*]; done) | (simp [*]; rfl), Zaf HWB.out (mvB BW.out)⟩
    | false =>
      rw [if_neg (fun h_ => absurd h_.2 (by decide))] at h
      obtain ⟨q, hq, h2_⟩ := Option.bind_eq_some_iff.1 h
      clear h; have h := h2_; clear h2_; have HR := Za.mk hq; clear hq
      cases q with
      | false =>
        rw [if_pos rfl] at h; obtain rfl := Option.some.inj h; clear h
        go_enter Try.func14, Try.ntmps14
        go_wp2_with (first | (go_at_call 39; go_loud (refine (CC.out _ ?hB).mono ?_; (case hB => exact mvB BW.out); rintro e w' ⟨rfl, nd, rfl⟩)) | (go_at_call 40; go_loud (refine (CR.out _ ?hB _ HR.out).mono ?_; (case hB => exact mvB BW.out); rintro e w' ⟨rfl, hb⟩; have BW1 := Za.mk (Zaf (mvB BW.out) hb); clear BW hb; have BW := BW1; clear BW1; have hx_ := HC.out.below BW.out; have ed := hx_.ed; have k0 := hx_.k0; have k1 := hx_.k1; have k2 := hx_.k2; have k3 := hx_.k3; have k4 := hx_.k4; have k5 := hx_.k5; have k6 := hx_.k6; clear hx_)))
        refine (CB.out _ ?hB).mono ?_
        case hB => exact mvB BW.out
        rintro e w' ⟨rfl, nd2, rfl⟩
        go_wp2_with (first | (go_at_call 40; go_loud (refine (CR.out _ ?hB _ HR.out).mono ?_; (case hB => exact mvB BW.out); rintro e w' ⟨rfl, hb⟩; have BW1 := Za.mk (Zaf (mvB BW.out) hb); clear BW hb; have BW := BW1; clear BW1; have hx_ := HC.out.below BW.out; have ed := hx_.ed; have k0 := hx_.k0; have k1 := hx_.k1; have k2 := hx_.k2; have k3 := hx_.k3; have k4 := hx_.k4; have k5 := hx_.k5; have k6 := hx_.k6; clear hx_)) | (go_at_call 41; go_loud (refine (CG.out _ ?hB _ HG.out).mono ?_; (case hB => exact mvB BW.out); rintro e w' ⟨rfl, hb⟩; have BW1 := Za.mk (Zaf (mvB BW.out) hb); clear BW hb; have BW := BW1; clear BW1; have hx_ := HC.out.below BW.out; have ed := hx_.ed; have k0 := hx_.k0; have k1 := hx_.k1; have k2 := hx_.k2; have k3 := hx_.k3; have k4 := hx_.k4; have k5 := hx_.k5; have k6 := hx_.k6; clear hx_)))
        go_ret
        exact ⟨by first | rfl | (simp [*]; done) | (simp [*]; rfl), Zaf HWB.out (mvB BW.out)⟩
      | true =>
        rw [if_neg (by decide)] at h
        obtain ⟨g, hg, h2_⟩ := Option.bind_eq_some_iff.1 h
        clear h; have h := h2_; clear h2_; have HG := Za.mk hg; clear hg; obtain rfl := Option.some.inj h; clear h
        cases g with
        | false =>
          go_enter Try.func14, Try.ntmps14
          go_wp2_with (first | (go_at_call 39; go_loud (refine (CC.out _ ?hB).mono ?_; (case hB => exact mvB BW.out); rintro e w' ⟨rfl, nd, rfl⟩)) | (go_at_call 40; go_loud (refine (CR.out _ ?hB _ HR.out).mono ?_; (case hB => exact mvB BW.out); rintro e w' ⟨rfl, hb⟩; have BW1 := Za.mk (Zaf (mvB BW.out) hb); clear BW hb; have BW := BW1; clear BW1; have hx_ := HC.out.below BW.out; have ed := hx_.ed; have k0 := hx_.k0; have k1 := hx_.k1; have k2 := hx_.k2; have k3 := hx_.k3; have k4 := hx_.k4; have k5 := hx_.k5; have k6 := hx_.k6; clear hx_)) | (go_at_call 41; go_loud (refine (CG.out _ ?hB _ HG.out).mono ?_; (case hB => exact mvB BW.out); rintro e w' ⟨rfl, hb⟩; have BW1 := Za.mk (Zaf (mvB BW.out) hb); clear BW hb; have BW := BW1; clear BW1; have hx_ := HC.out.below BW.out; have ed := hx_.ed; have k0 := hx_.k0; have k1 := hx_.k1; have k2 := hx_.k2; have k3 := hx_.k3; have k4 := hx_.k4; have k5 := hx_.k5; have k6 := hx_.k6; clear hx_)))
          refine (CB.out _ ?hB).mono ?_
          case hB => exact mvB BW.out
          rintro e w' ⟨rfl, nd2, rfl⟩
          go_wp2_with (first | (go_at_call 40; go_loud (refine (CR.out _ ?hB _ HR.out).mono ?_; (case hB => exact mvB BW.out); rintro e w' ⟨rfl, hb⟩; have BW1 := Za.mk (Zaf (mvB BW.out) hb); clear BW hb; have BW := BW1; clear BW1; have hx_ := HC.out.below BW.out; have ed := hx_.ed; have k0 := hx_.k0; have k1 := hx_.k1; have k2 := hx_.k2; have k3 := hx_.k3; have k4 := hx_.k4; have k5 := hx_.k5; have k6 := hx_.k6; clear hx_)) | (go_at_call 41; go_loud (refine (CG.out _ ?hB _ HG.out).mono ?_; (case hB => exact mvB BW.out); rintro e w' ⟨rfl, hb⟩; have BW1 := Za.mk (Zaf (mvB BW.out) hb); clear BW hb; have BW := BW1; clear BW1; have hx_ := HC.out.below BW.out; have ed := hx_.ed; have k0 := hx_.k0; have k1 := hx_.k1; have k2 := hx_.k2; have k3 := hx_.k3; have k4 := hx_.k4; have k5 := hx_.k5; have k6 := hx_.k6; clear hx_)))
          go_ret
          exact ⟨by first | rfl | (simp [*]; done) | (simp [*]; rfl), Zaf HWB.out (mvB BW.out)⟩
        | true =>
          go_enter Try.func14, Try.ntmps14
          go_wp2_with (first | (go_at_call 39; go_loud (refine (CC.out _ ?hB).mono ?_; (case hB => exact mvB BW.out); rintro e w' ⟨rfl, nd, rfl⟩)) | (go_at_call 40; go_loud (refine (CR.out _ ?hB _ HR.out).mono ?_; (case hB => exact mvB BW.out); rintro e w' ⟨rfl, hb⟩; have BW1 := Za.mk (Zaf (mvB BW.out) hb); clear BW hb; have BW := BW1; clear BW1; have hx_ := HC.out.below BW.out; have ed := hx_.ed; have k0 := hx_.k0; have k1 := hx_.k1; have k2 := hx_.k2; have k3 := hx_.k3; have k4 := hx_.k4; have k5 := hx_.k5; have k6 := hx_.k6; clear hx_)) | (go_at_call 41; go_loud (refine (CG.out _ ?hB _ HG.out).mono ?_; (case hB => exact mvB BW.out); rintro e w' ⟨rfl, hb⟩; have BW1 := Za.mk (Zaf (mvB BW.out) hb); clear BW hb; have BW := BW1; clear BW1; have hx_ := HC.out.below BW.out; have ed := hx_.ed; have k0 := hx_.k0; have k1 := hx_.k1; have k2 := hx_.k2; have k3 := hx_.k3; have k4 := hx_.k4; have k5 := hx_.k5; have k6 := hx_.k6; clear hx_)))
          refine (CB.out _ ?hB).mono ?_
          case hB => exact mvB BW.out
          rintro e w' ⟨rfl, nd2, rfl⟩
          go_wp2_with (first | (go_at_call 40; go_loud (refine (CR.out _ ?hB _ HR.out).mono ?_; (case hB => exact mvB BW.out); rintro e w' ⟨rfl, hb⟩; have BW1 := Za.mk (Zaf (mvB BW.out) hb); clear BW hb; have BW := BW1; clear BW1; have hx_ := HC.out.below BW.out; have ed := hx_.ed; have k0 := hx_.k0; have k1 := hx_.k1; have k2 := hx_.k2; have k3 := hx_.k3; have k4 := hx_.k4; have k5 := hx_.k5; have k6 := hx_.k6; clear hx_)) | (go_at_call 41; go_loud (refine (CG.out _ ?hB _ HG.out).mono ?_; (case hB => exact mvB BW.out); rintro e w' ⟨rfl, hb⟩; have BW1 := Za.mk (Zaf (mvB BW.out) hb); clear BW hb; have BW := BW1; clear BW1; have hx_ := HC.out.below BW.out; have ed := hx_.ed; have k0 := hx_.k0; have k1 := hx_.k1; have k2 := hx_.k2; have k3 := hx_.k3; have k4 := hx_.k4; have k5 := hx_.k5; have k6 := hx_.k6; clear hx_)))
          go_ret
          exact ⟨by first | rfl | (simp [*]; done) | (simp [*]; rfl), Zaf HWB.out (mvB BW.out)⟩
end Go.Proofs.Ytkgjaklnbgdmiaa.P
namespace Go.Proofs.Ytkgjaklnbgdmiaa.P
open Go.RowKit Go.Proofs.YtkgjaklnbgdmiaaW.PrintWords Go.Proofs.YtkgjaklnbgdmiaaW.PrintLast Go.Proofs.YtkgjaklnbgdmiaaW.PrintMore
attribute [local go_sem] Zcs Zcu Zc7 Zc8 Zcc Zcd Zct Zcv
set_option linter.unusedVariables false
set_option linter.unusedSimpArgs false
def Zcn.l0 : Nat → Int → List (S48) → Int → Int → Option (Int)
 | 0, _, _, _, _ => none
 | k + 1, x3, x6, x7, x8 => if x8 < x7 then (if 0 ≤ x8 then (if x8 < (x6.length : Int) then (Zcn.l0 k (wrap64 (x3 + (wrap64 ((wrap64 (((Zb x6 x8).f1) - ((Zb x6 x8).f0))) + 1)))) x6 x7 (wrap64 (x8 + 1))) else (none)) else (none)) else (some x3)
def Zcn.f (k : Nat) (l0 : List (S48)) : Option (Int) := Zcn.l0 k 0 l0 (l0.length : Int) 0
set_option maxHeartbeats 8000000 in
set_option maxRecDepth 100000 in
theorem Zcn.calls (k : Nat) (A0 : Option Addr) (c0 : Nat) (l0 : List (S48)) (r : Int) (w : World) (hr0 : Kd.C k48 w A0 l0.length l0) (hc0 : l0.length ≤ c0) (h : Zcn.f k l0 = some r) :
  Calls Try.prog 86 #[.slice A0 l0.length c0] w fun e w' => e = .returned (.int .i64 r) ∧ Below w.heap.size w w' := by
 have hu48 := Try.underlying48
 have HR0 := Za.mk hr0
 have HC0 := Za.mk hc0
 clear hr0 hc0
 have HB := Za.mk (Below.refl w.heap.size w)
 have H : (Zcn.l0 k 0 l0 (l0.length : Int) 0) = some r := h
 clear h
 have H' := Za.mk H
 clear H
 go_enter Try.func86, Try.ntmps86
 go_wp2
 go_loopg [3, 8] k (fun kq v3 v8 w' => ∃ (x3_1 : Int) (x8_1 : Int), v3 = .int .i64 x3_1 ∧ v8 = .int .i64 x8_1 ∧ Za (Zcn.l0 kq x3_1 l0 (l0.length : Int) x8_1 = some r) ∧ Za (kq ≤ k) ∧ Za (Below w.heap.size w w'))
 case atStart => exact ⟨(0), (0), (by first | rfl | (simp; done) | (simp [*]; done)), (by first | rfl | (simp; done) | (simp [*]; done)), H', ⟨Nat.le_refl _⟩, ⟨by repeat (first | (with_reducible first | exact HB.out | apply Zab | apply Zaa | apply Zad) | exact HB.out)⟩⟩
 case round =>
  clear H'
  obtain ⟨x3_1, x8_1, rfl, rfl, HA, HK1, HB⟩ := hrel
  cases gk with
  | zero => exact absurd HA.out (by simp [Zcn.l0])
  | succ k1 =>
   have H := HA.out
   clear HA
   simp only [Zcn.l0] at H
   by_cases c2 : x8_1 < (l0.length : Int)
   rotate_left
   ·rw [if_neg c2] at H
    have c2b0 : decide (x8_1 < (l0.length : Int)) = false := decide_eq_false c2
    clear c2
    obtain rfl := Option.some.inj H
    go_wp2
    go_ret
    exact ⟨by first | rfl | (simp [Zar, Zas] <;> rfl) | (simp [*, Zar, Zas] <;> rfl), by repeat (first | (with_reducible first | exact HB.out | apply Zab | apply Zaa | apply Zad) | exact HB.out)⟩
   rw [if_pos c2] at H
   have c2b0 : decide (x8_1 < (l0.length : Int)) = true := decide_eq_true c2
   clear c2
   by_cases c3 : 0 ≤ x8_1
   rotate_left
   ·rw [if_neg c3] at H
    exact absurd H (by simp)
   rw [if_pos c3] at H
   have c3b0 : decide (0 ≤ x8_1) = true := decide_eq_true c3
   clear c3
   by_cases c4 : x8_1 < (l0.length : Int)
   rotate_left
   ·rw [if_neg c4] at H
    exact absurd H (by simp)
   rw [if_pos c4] at H
   have c4b0 : decide (x8_1 < (l0.length : Int)) = true := decide_eq_true c4
   clear c4
   have H' := Za.mk H
   clear H
   have p332 : 0 ≤ (x8_1 : Int) := of_decide_eq_true (by first | (with_reducible assumption) | assumption)
   have q332 : x8_1 < (l0.length : Int) := of_decide_eq_true (by first | (with_reducible assumption) | assumption)
   obtain ⟨ad332, e332, hx332_0, hx332_1⟩ := Zeq HR0.out x8_1 p332 q332
   cases e332
   replace hx332_0 := (HB.out.cell (World.block_lt_of_cell? w _ hx332_0)).trans hx332_0
   replace hx332_1 := (HB.out.cell (World.block_lt_of_cell? w _ hx332_1)).trans hx332_1
   replace p332 := eq_true p332
   replace q332 := eq_true q332
   go_wp2_with (first | ((with_reducible refine Zax (N := 5) rfl ?_); refine Za7 ?hg (N := 5) ?hd (cs := #[.int .i64 0, .int .i64 0]) (t := 48) ?hr ?_; (case hd => rfl); (case hg => rfl); (case hr => first | (go_simp; done) | (go_simp; rfl)); intro gb333 hg w5 hbox hb; have n0_ := Za.mk (Zaf (by repeat (first | (with_reducible first | exact HB.out | apply Zab | apply Zaa | apply Zad) | exact HB.out)) hb); have n1_ := Za.mk (hbox); have n3_ := Za.mk ((by rw [hg]; exact (Zan (by repeat (first | (with_reducible first | exact HB.out | apply Zab | apply Zaa | apply Zad) | exact HB.out))) : w.heap.size ≤ gb333)); clear HB; have HB := n0_; have BK333 := n1_; have GE333 := n3_; clear n0_ n1_ n3_; clear hb hbox hg; obtain ⟨hcz6_0, hcz6_1, hfz6_0, hfz6_1⟩ := Zd8 BK333.out))
   go_roundg k1
   case measure => have := HK1.out; omega
   case rel => exact ⟨(wrap64 (x3_1 + (wrap64 ((wrap64 (((Zb l0 x8_1).f1) - ((Zb l0 x8_1).f0))) + 1)))), (wrap64 (x8_1 + 1)), (by first | rfl | (simp; done) | (simp [*]; done)), (by first | rfl | (simp; done) | (simp [*]; done)), H', ⟨by have := HK1.out; omega⟩, ⟨by repeat (first | (with_reducible first | exact HB.out | apply Zab | apply Zaa | apply Zad | refine Zac ?_ GE333.out) | exact HB.out)⟩⟩
def Zcb.f (a0 : Int) : Option (Bool) := if a0 ≥ (-1048576) then (some (decide (a0 ≤ 1048576))) else (some false)
set_option maxHeartbeats 8000000 in
set_option maxRecDepth 100000 in
theorem Zcb.calls (a0 : Int) (r : Bool) (w : World) (h : Zcb.f a0 = some r) :
  Calls Try.prog 109 #[.int .i64 a0] w fun e w' => e = .returned (.bool r) ∧ Zbf w w' := by
 have H : (if a0 ≥ (-1048576) then (some (decide (a0 ≤ 1048576))) else (some false)) = some r := h
 clear h
 by_cases c2 : a0 ≥ (-1048576)
 ·rw [if_pos c2] at H
  have c2b0 : decide ((-1048576) ≤ a0) = true := decide_eq_true c2
  clear c2
  obtain rfl := Option.some.inj H
  go_enter Try.func109, Try.ntmps109
  go_wp2
  go_ret
  exact ⟨by first | rfl | (simp; done) | (simp [*]; done), by repeat (first | exact Zbf.refl _ | apply Zbf.step)⟩
 rw [if_neg c2] at H
 have c2b0 : decide ((-1048576) ≤ a0) = false := decide_eq_false c2
 clear c2
 obtain rfl := Option.some.inj H
 go_enter Try.func109, Try.ntmps109
 go_wp2
 go_ret
 exact ⟨by first | rfl | (simp; done) | (simp [*]; done), by repeat (first | exact Zbf.refl _ | apply Zbf.step)⟩
end Go.Proofs.Ytkgjaklnbgdmiaa.P
/- secateur/dom.right: over a list of ranges. -/
namespace Go.Proofs.Ytkgjaklnbgdmiaa.P
open Go.RowKit Go.Proofs.YtkgjaklnbgdmiaaW.PrintWords Go.Proofs.YtkgjaklnbgdmiaaW.PrintLast Go.Proofs.YtkgjaklnbgdmiaaW.PrintMore
set_option linter.unusedVariables false
set_option linter.unusedSimpArgs false
def Zb5.l0 : Nat → List (S48) → List (S48) → Int → Int → Option (Bool)
 | 0, _, _, _, _ => none
 | k + 1, x0, x5, x6, x7 => if x7 < x6 then (if 0 ≤ x7 then (if x7 < (x5.length : Int) then ((Zcb.f ((Zb x5 x7).f0)).bind fun ta => (if ta = true then ((Zcb.f ((Zb x5 x7).f1)).bind fun tb => (if tb = true then (if ((Zb x5 x7).f0) > ((Zb x5 x7).f1) then (some false) else (if x7 > 0 then (if 0 ≤ (wrap64 (x7 - 1)) then (if (wrap64 (x7 - 1)) < (x0.length : Int) then (if ((Zb x5 x7).f0) < (wrap64 (((Zb x0 (wrap64 (x7 - 1))).f1) + 2)) then (some false) else (Zb5.l0 k x0 x5 x6 (wrap64 (x7 + 1)))) else (none)) else (none)) else (Zb5.l0 k x0 x5 x6 (wrap64 (x7 + 1))))) else (some false))) else (some false))) else (none)) else (none)) else (some true)
def Zb5.f (k : Nat) (l0 : List (S48)) : Option (Bool) := Zb5.l0 k l0 l0 (l0.length : Int) 0
set_option maxHeartbeats 8000000 in
set_option maxRecDepth 100000 in
theorem Zb5.calls (k : Nat) (A0 : Option Addr) (c0 : Nat) (l0 : List (S48)) (r : Bool) (w : World) (hr0 : Kd.C k48 w A0 l0.length l0) (hc0 : l0.length ≤ c0) (h : Zb5.f k l0 = some r) :
  Calls Try.prog 85 #[.slice A0 l0.length c0] w fun e w' => e = .returned (.bool r) ∧ Below w.heap.size w w' := by
 have hu := Try.underlying48
 have HR0 := Za.mk hr0
 clear hr0 hc0
 have HB := Za.mk (Below.refl w.heap.size w)
 have H' := Za.mk (show Zb5.l0 k l0 l0 (l0.length : Int) 0 = some r from h)
 clear h
 go_enter Try.func85, Try.ntmps85
 go_wp2
 go_loopg [7] k (fun kq v7 w' => ∃ (x : Int), v7 = .int .i64 x ∧ Za (Zb5.l0 kq l0 l0 (l0.length : Int) x = some r) ∧ Za (kq ≤ k) ∧ Za (Below w.heap.size w w'))
 case atStart => exact ⟨0, rfl, H', ⟨Nat.le_refl _⟩, ⟨mvB HB.out⟩⟩
 case round =>
  clear H' HB
  obtain ⟨x, rfl, HA, HK1, HB⟩ := hrel
  cases gk with
  | zero => exact absurd HA.out (by simp [Zb5.l0])
  | succ k1 =>
   have H := HA.out
   clear HA
   simp only [Zb5.l0] at H
   by_cases c2 : x < (l0.length : Int)
   rotate_left
   ·rw [if_neg c2] at H
    have p1_ : decide (x < (l0.length : Int)) = false := decide_eq_false c2
    clear c2
    obtain rfl := Option.some.inj H
    clear H
    go_wp2
    go_ret
    exact ⟨rfl, mvB HB.out⟩
   rw [if_pos c2] at H
   have p1_ : decide (x < (l0.length : Int)) = true := decide_eq_true c2
   by_cases c3 : 0 ≤ x
   rotate_left
   ·rw [if_neg c3] at H
    exact absurd H (by simp)
   rw [if_pos c3] at H
   rw [if_pos c2] at H
   have p2_ : decide (0 ≤ x) = true := decide_eq_true c3
   obtain ⟨ad, e_, hx0, hx1⟩ := Zeq (Kd.Zal HR0.out HB.out) x c3 c2
   cases e_
   replace c2 := eq_true c2
   replace c3 := eq_true c3
   generalize (Zb l0 x).f0 = a at hx0 H
   generalize (Zb l0 x).f1 = b at hx1 H
   obtain ⟨va, hva, H2_⟩ := Option.bind_eq_some_iff.1 H
   clear H
   have H := H2_
   clear H2_
   have HVa := Za.mk hva
   clear hva
   cases va with
   | false =>
    rw [if_neg Bool.false_ne_true] at H
    obtain rfl := Option.some.inj H
    clear H
    go_wp2_with (first | ((with_reducible refine Zax (N := 4) rfl ?_); refine Za7 ?hg (N := 4) ?hd (cs := #[.int .i64 0, .int .i64 0]) (t := 48) ?hr ?_; (case hd => rfl); (case hg => rfl); (case hr => first | (go_simp; done) | (go_simp; rfl)); intro g4 hg4 w9 hbox hb; have BX := Za.mk hbox; have hcz0 : w9.cell? ⟨g4, 0, none⟩ = some (.int .i64 0) := (Zaj hbox 0).trans rfl; have hcz1 : w9.cell? ⟨g4, 1, none⟩ = some (.int .i64 0) := (Zaj hbox 1).trans rfl; have hfz0 := Zao hbox 0; have hfz1 := Zao hbox 1; have BV := Za.mk (Zaf (mvB (Below.refl wr.heap.size wr)) hb); have HG4 : Za (wr.heap.size ≤ g4) := ⟨by rw [hg4]; exact (mvB (Below.refl wr.heap.size wr)).size⟩; clear hbox hb hg4))
    have BXq := Za.mk (Zaq (cs' := #[.int .i64 a, .int .i64 b]) (Zaq (cs' := #[.int .i64 a, .int .i64 0]) BX.out 0 (.int .i64 a) rfl) 1 (.int .i64 b) rfl)
    have BVq := Za.mk (show Below wr.heap.size wr ((w9.setCell ⟨g4, 0, none⟩ (.int .i64 a)).setCell ⟨g4, 1, none⟩ (.int .i64 b)) from Zac (Zac BV.out HG4.out) HG4.out)
    clear hcz0 hcz1 hfz0 hfz1
    generalize ((w9.setCell ⟨g4, 0, none⟩ (.int .i64 a)).setCell ⟨g4, 1, none⟩ (.int .i64 b)) = wq at BXq BVq ⊢
    have hq0 : wq.cell? ⟨g4, 0, none⟩ = some (.int .i64 a) := (Zaj BXq.out 0).trans rfl
    have hq1 : wq.cell? ⟨g4, 1, none⟩ = some (.int .i64 b) := (Zaj BXq.out 1).trans rfl
    clear hx0 hx1
    have HCa : Za (∀ n, Calls Try.prog 109 #[.int .i64 a] (wq.drewN n) fun e w'' => e = .returned (.bool false) ∧ ∃ m, w'' = wq.drewN m) := ⟨fun n => Calls.quiet_of ((Zcb.calls a _ _ HVa.out).mono fun e w' h_ => ⟨h_.1, h_.2.out⟩)⟩
    go_quiet (with_reducible exact HCa.out _)
    go_wp2
    go_ret
    exact ⟨rfl, mvB (Zaf HB.out BVq.out)⟩
   | true =>
    rw [if_pos rfl] at H
    obtain ⟨vb, hvb, H2_⟩ := Option.bind_eq_some_iff.1 H
    clear H
    have H := H2_
    clear H2_
    have HVb := Za.mk hvb
    clear hvb
    cases vb with
    | false =>
     rw [if_neg Bool.false_ne_true] at H
     obtain rfl := Option.some.inj H
     clear H
     go_wp2_with (first | ((with_reducible refine Zax (N := 4) rfl ?_); refine Za7 ?hg (N := 4) ?hd (cs := #[.int .i64 0, .int .i64 0]) (t := 48) ?hr ?_; (case hd => rfl); (case hg => rfl); (case hr => first | (go_simp; done) | (go_simp; rfl)); intro g4 hg4 w9 hbox hb; have BX := Za.mk hbox; have hcz0 : w9.cell? ⟨g4, 0, none⟩ = some (.int .i64 0) := (Zaj hbox 0).trans rfl; have hcz1 : w9.cell? ⟨g4, 1, none⟩ = some (.int .i64 0) := (Zaj hbox 1).trans rfl; have hfz0 := Zao hbox 0; have hfz1 := Zao hbox 1; have BV := Za.mk (Zaf (mvB (Below.refl wr.heap.size wr)) hb); have HG4 : Za (wr.heap.size ≤ g4) := ⟨by rw [hg4]; exact (mvB (Below.refl wr.heap.size wr)).size⟩; clear hbox hb hg4))
     have BXq := Za.mk (Zaq (cs' := #[.int .i64 a, .int .i64 b]) (Zaq (cs' := #[.int .i64 a, .int .i64 0]) BX.out 0 (.int .i64 a) rfl) 1 (.int .i64 b) rfl)
     have BVq := Za.mk (show Below wr.heap.size wr ((w9.setCell ⟨g4, 0, none⟩ (.int .i64 a)).setCell ⟨g4, 1, none⟩ (.int .i64 b)) from Zac (Zac BV.out HG4.out) HG4.out)
     clear hcz0 hcz1 hfz0 hfz1
     generalize ((w9.setCell ⟨g4, 0, none⟩ (.int .i64 a)).setCell ⟨g4, 1, none⟩ (.int .i64 b)) = wq at BXq BVq ⊢
     have hq0 : wq.cell? ⟨g4, 0, none⟩ = some (.int .i64 a) := (Zaj BXq.out 0).trans rfl
     have hq1 : wq.cell? ⟨g4, 1, none⟩ = some (.int .i64 b) := (Zaj BXq.out 1).trans rfl
     clear hx0 hx1
     have HCa : Za (∀ n, Calls Try.prog 109 #[.int .i64 a] (wq.drewN n) fun e w'' => e = .returned (.bool true) ∧ ∃ m, w'' = wq.drewN m) := ⟨fun n => Calls.quiet_of ((Zcb.calls a _ _ HVa.out).mono fun e w' h_ => ⟨h_.1, h_.2.out⟩)⟩
     have HCb : Za (∀ n, Calls Try.prog 109 #[.int .i64 b] (wq.drewN n) fun e w'' => e = .returned (.bool false) ∧ ∃ m, w'' = wq.drewN m) := ⟨fun n => Calls.quiet_of ((Zcb.calls b _ _ HVb.out).mono fun e w' h_ => ⟨h_.1, h_.2.out⟩)⟩
     go_quiet (first | with_reducible exact HCa.out _ | with_reducible exact HCb.out _)
     go_wp2
     go_ret
     exact ⟨rfl, mvB (Zaf HB.out BVq.out)⟩
    | true =>
     rw [if_pos rfl] at H
     by_cases c9 : a > b
     ·rw [if_pos c9] at H
      have d9_ : decide (b < a) = true := decide_eq_true c9
      clear c9
      obtain rfl := Option.some.inj H
      clear H
      go_wp2_with (first | ((with_reducible refine Zax (N := 4) rfl ?_); refine Za7 ?hg (N := 4) ?hd (cs := #[.int .i64 0, .int .i64 0]) (t := 48) ?hr ?_; (case hd => rfl); (case hg => rfl); (case hr => first | (go_simp; done) | (go_simp; rfl)); intro g4 hg4 w9 hbox hb; have BX := Za.mk hbox; have hcz0 : w9.cell? ⟨g4, 0, none⟩ = some (.int .i64 0) := (Zaj hbox 0).trans rfl; have hcz1 : w9.cell? ⟨g4, 1, none⟩ = some (.int .i64 0) := (Zaj hbox 1).trans rfl; have hfz0 := Zao hbox 0; have hfz1 := Zao hbox 1; have BV := Za.mk (Zaf (mvB (Below.refl wr.heap.size wr)) hb); have HG4 : Za (wr.heap.size ≤ g4) := ⟨by rw [hg4]; exact (mvB (Below.refl wr.heap.size wr)).size⟩; clear hbox hb hg4))
      have BXq := Za.mk (Zaq (cs' := #[.int .i64 a, .int .i64 b]) (Zaq (cs' := #[.int .i64 a, .int .i64 0]) BX.out 0 (.int .i64 a) rfl) 1 (.int .i64 b) rfl)
      have BVq := Za.mk (show Below wr.heap.size wr ((w9.setCell ⟨g4, 0, none⟩ (.int .i64 a)).setCell ⟨g4, 1, none⟩ (.int .i64 b)) from Zac (Zac BV.out HG4.out) HG4.out)
      clear hcz0 hcz1 hfz0 hfz1
      generalize ((w9.setCell ⟨g4, 0, none⟩ (.int .i64 a)).setCell ⟨g4, 1, none⟩ (.int .i64 b)) = wq at BXq BVq ⊢
      have hq0 : wq.cell? ⟨g4, 0, none⟩ = some (.int .i64 a) := (Zaj BXq.out 0).trans rfl
      have hq1 : wq.cell? ⟨g4, 1, none⟩ = some (.int .i64 b) := (Zaj BXq.out 1).trans rfl
      clear hx0 hx1
      have HCa : Za (∀ n, Calls Try.prog 109 #[.int .i64 a] (wq.drewN n) fun e w'' => e = .returned (.bool true) ∧ ∃ m, w'' = wq.drewN m) := ⟨fun n => Calls.quiet_of ((Zcb.calls a _ _ HVa.out).mono fun e w' h_ => ⟨h_.1, h_.2.out⟩)⟩
      have HCb : Za (∀ n, Calls Try.prog 109 #[.int .i64 b] (wq.drewN n) fun e w'' => e = .returned (.bool true) ∧ ∃ m, w'' = wq.drewN m) := ⟨fun n => Calls.quiet_of ((Zcb.calls b _ _ HVb.out).mono fun e w' h_ => ⟨h_.1, h_.2.out⟩)⟩
      go_quiet (first | with_reducible exact HCa.out _ | with_reducible exact HCb.out _)
      go_wp2
      go_ret
      exact ⟨rfl, mvB (Zaf HB.out BVq.out)⟩
     rw [if_neg c9] at H
     have d9_ : decide (b < a) = false := decide_eq_false c9
     clear c9
     by_cases c10 : x > 0
     rotate_left
     ·rw [if_neg c10] at H
      have d10_ : decide (0 < x) = false := decide_eq_false c10
      clear c10
      have H' := Za.mk H
      clear H
      go_wp2_with (first | ((with_reducible refine Zax (N := 4) rfl ?_); refine Za7 ?hg (N := 4) ?hd (cs := #[.int .i64 0, .int .i64 0]) (t := 48) ?hr ?_; (case hd => rfl); (case hg => rfl); (case hr => first | (go_simp; done) | (go_simp; rfl)); intro g4 hg4 w9 hbox hb; have BX := Za.mk hbox; have hcz0 : w9.cell? ⟨g4, 0, none⟩ = some (.int .i64 0) := (Zaj hbox 0).trans rfl; have hcz1 : w9.cell? ⟨g4, 1, none⟩ = some (.int .i64 0) := (Zaj hbox 1).trans rfl; have hfz0 := Zao hbox 0; have hfz1 := Zao hbox 1; have BV := Za.mk (Zaf (mvB (Below.refl wr.heap.size wr)) hb); have HG4 : Za (wr.heap.size ≤ g4) := ⟨by rw [hg4]; exact (mvB (Below.refl wr.heap.size wr)).size⟩; clear hbox hb hg4))
      have BXq := Za.mk (Zaq (cs' := #[.int .i64 a, .int .i64 b]) (Zaq (cs' := #[.int .i64 a, .int .i64 0]) BX.out 0 (.int .i64 a) rfl) 1 (.int .i64 b) rfl)
      have BVq := Za.mk (show Below wr.heap.size wr ((w9.setCell ⟨g4, 0, none⟩ (.int .i64 a)).setCell ⟨g4, 1, none⟩ (.int .i64 b)) from Zac (Zac BV.out HG4.out) HG4.out)
      clear hcz0 hcz1 hfz0 hfz1
      generalize ((w9.setCell ⟨g4, 0, none⟩ (.int .i64 a)).setCell ⟨g4, 1, none⟩ (.int .i64 b)) = wq at BXq BVq ⊢
      have hq0 : wq.cell? ⟨g4, 0, none⟩ = some (.int .i64 a) := (Zaj BXq.out 0).trans rfl
      have hq1 : wq.cell? ⟨g4, 1, none⟩ = some (.int .i64 b) := (Zaj BXq.out 1).trans rfl
      clear hx0 hx1
      have HCa : Za (∀ n, Calls Try.prog 109 #[.int .i64 a] (wq.drewN n) fun e w'' => e = .returned (.bool true) ∧ ∃ m, w'' = wq.drewN m) := ⟨fun n => Calls.quiet_of ((Zcb.calls a _ _ HVa.out).mono fun e w' h_ => ⟨h_.1, h_.2.out⟩)⟩
      have HCb : Za (∀ n, Calls Try.prog 109 #[.int .i64 b] (wq.drewN n) fun e w'' => e = .returned (.bool true) ∧ ∃ m, w'' = wq.drewN m) := ⟨fun n => Calls.quiet_of ((Zcb.calls b _ _ HVb.out).mono fun e w' h_ => ⟨h_.1, h_.2.out⟩)⟩
      go_quiet (first | with_reducible exact HCa.out _ | with_reducible exact HCb.out _)
      go_wp2
      go_roundg k1
      case measure => exact Nat.lt_succ_self _
      case rel => exact ⟨_, (by first | rfl | (simp; done) | (simp [*]; done)), H', ⟨by have := HK1.out; omega⟩, ⟨mvB (Zaf HB.out BVq.out)⟩⟩
     rw [if_pos c10] at H
     have d10_ : decide (0 < x) = true := decide_eq_true c10
     clear c10
     obtain ⟨j, hj⟩ : ∃ j_ : Int, wrap64 (x - 1) = j_ := ⟨_, rfl⟩
     rw [hj] at H
     have hjw : IntKind.i64.wrap (x - 1) = j := (Zbb _).trans hj
     clear hj
     by_cases c11 : 0 ≤ j
     case neg => rw [if_neg c11] at H; exact absurd H (by simp)
     rw [if_pos c11] at H
     by_cases c12 : j < (l0.length : Int)
     case neg => rw [if_neg c12] at H; exact absurd H (by simp)
     rw [if_pos c12] at H
     obtain ⟨ad2, e2_, hy0, hy1⟩ := Zeq (Kd.Zal HR0.out HB.out) j c11 c12
     obtain rfl : ad = ad2 := (by injection e2_)
     clear e2_
     have d11_ : decide (0 ≤ j) = true := decide_eq_true c11
     have d12_ : decide (j < (l0.length : Int)) = true := decide_eq_true c12
     replace c11 := eq_true c11
     replace c12 := eq_true c12
     generalize (Zb l0 j).f1 = q at hy1 H
     obtain ⟨g, hg⟩ : ∃ g_ : Int, wrap64 (q + 2) = g_ := ⟨_, rfl⟩
     rw [hg] at H
     have hgw : IntKind.i64.wrap (q + 2) = g := (Zbb _).trans hg
     clear hg
     by_cases c13 : a < g
     ·rw [if_pos c13] at H
      have d13_ : decide (a < g) = true := decide_eq_true c13
      clear c13
      obtain rfl := Option.some.inj H
      clear H
      go_wp2_with (first | ((with_reducible refine Zax (N := 4) rfl ?_); refine Za7 ?hg (N := 4) ?hd (cs := #[.int .i64 0, .int .i64 0]) (t := 48) ?hr ?_; (case hd => rfl); (case hg => rfl); (case hr => first | (go_simp; done) | (go_simp; rfl)); intro g4 hg4 w9 hbox hb; have BX := Za.mk hbox; have hcz0 : w9.cell? ⟨g4, 0, none⟩ = some (.int .i64 0) := (Zaj hbox 0).trans rfl; have hcz1 : w9.cell? ⟨g4, 1, none⟩ = some (.int .i64 0) := (Zaj hbox 1).trans rfl; have hfz0 := Zao hbox 0; have hfz1 := Zao hbox 1; have BV := Za.mk (Zaf (mvB (Below.refl wr.heap.size wr)) hb); have HG4 : Za (wr.heap.size ≤ g4) := ⟨by rw [hg4]; exact (mvB (Below.refl wr.heap.size wr)).size⟩; clear hbox hb hg4))
      have BXq := Za.mk (Zaq (cs' := #[.int .i64 a, .int .i64 b]) (Zaq (cs' := #[.int .i64 a, .int .i64 0]) BX.out 0 (.int .i64 a) rfl) 1 (.int .i64 b) rfl)
      have BVq := Za.mk (show Below wr.heap.size wr ((w9.setCell ⟨g4, 0, none⟩ (.int .i64 a)).setCell ⟨g4, 1, none⟩ (.int .i64 b)) from Zac (Zac BV.out HG4.out) HG4.out)
      clear hcz0 hcz1 hfz0 hfz1
      generalize ((w9.setCell ⟨g4, 0, none⟩ (.int .i64 a)).setCell ⟨g4, 1, none⟩ (.int .i64 b)) = wq at BXq BVq ⊢
      have hq0 : wq.cell? ⟨g4, 0, none⟩ = some (.int .i64 a) := (Zaj BXq.out 0).trans rfl
      have hq1 : wq.cell? ⟨g4, 1, none⟩ = some (.int .i64 b) := (Zaj BXq.out 1).trans rfl
      have hq2 := (BVq.out.cell (World.block_lt_of_cell? wr _ hy1)).trans hy1
      clear hy0 hy1
      clear hx0 hx1
      have HCa : Za (∀ n, Calls Try.prog 109 #[.int .i64 a] (wq.drewN n) fun e w'' => e = .returned (.bool true) ∧ ∃ m, w'' = wq.drewN m) := ⟨fun n => Calls.quiet_of ((Zcb.calls a _ _ HVa.out).mono fun e w' h_ => ⟨h_.1, h_.2.out⟩)⟩
      have HCb : Za (∀ n, Calls Try.prog 109 #[.int .i64 b] (wq.drewN n) fun e w'' => e = .returned (.bool true) ∧ ∃ m, w'' = wq.drewN m) := ⟨fun n => Calls.quiet_of ((Zcb.calls b _ _ HVb.out).mono fun e w' h_ => ⟨h_.1, h_.2.out⟩)⟩
      go_quiet (first | with_reducible exact HCa.out _ | with_reducible exact HCb.out _)
      go_wp2
      go_ret
      exact ⟨rfl, mvB (Zaf HB.out BVq.out)⟩
     rw [if_neg c13] at H
     have d13_ : decide (a < g) = false := decide_eq_false c13
     clear c13
     have H' := Za.mk H
     clear H
     go_wp2_with (first | ((with_reducible refine Zax (N := 4) rfl ?_); refine Za7 ?hg (N := 4) ?hd (cs := #[.int .i64 0, .int .i64 0]) (t := 48) ?hr ?_; (case hd => rfl); (case hg => rfl); (case hr => first | (go_simp; done) | (go_simp; rfl)); intro g4 hg4 w9 hbox hb; have BX := Za.mk hbox; have hcz0 : w9.cell? ⟨g4, 0, none⟩ = some (.int .i64 0) := (Zaj hbox 0).trans rfl; have hcz1 : w9.cell? ⟨g4, 1, none⟩ = some (.int .i64 0) := (Zaj hbox 1).trans rfl; have hfz0 := Zao hbox 0; have hfz1 := Zao hbox 1; have BV := Za.mk (Zaf (mvB (Below.refl wr.heap.size wr)) hb); have HG4 : Za (wr.heap.size ≤ g4) := ⟨by rw [hg4]; exact (mvB (Below.refl wr.heap.size wr)).size⟩; clear hbox hb hg4))
     have BXq := Za.mk (Zaq (cs' := #[.int .i64 a, .int .i64 b]) (Zaq (cs' := #[.int .i64 a, .int .i64 0]) BX.out 0 (.int .i64 a) rfl) 1 (.int .i64 b) rfl)
     have BVq := Za.mk (show Below wr.heap.size wr ((w9.setCell ⟨g4, 0, none⟩ (.int .i64 a)).setCell ⟨g4, 1, none⟩ (.int .i64 b)) from Zac (Zac BV.out HG4.out) HG4.out)
     clear hcz0 hcz1 hfz0 hfz1
     generalize ((w9.setCell ⟨g4, 0, none⟩ (.int .i64 a)).setCell ⟨g4, 1, none⟩ (.int .i64 b)) = wq at BXq BVq ⊢
     have hq0 : wq.cell? ⟨g4, 0, none⟩ = some (.int .i64 a) := (Zaj BXq.out 0).trans rfl
     have hq1 : wq.cell? ⟨g4, 1, none⟩ = some (.int .i64 b) := (Zaj BXq.out 1).trans rfl
     have hq2 := (BVq.out.cell (World.block_lt_of_cell? wr _ hy1)).trans hy1
     clear hy0 hy1
     clear hx0 hx1
     have HCa : Za (∀ n, Calls Try.prog 109 #[.int .i64 a] (wq.drewN n) fun e w'' => e = .returned (.bool true) ∧ ∃ m, w'' = wq.drewN m) := ⟨fun n => Calls.quiet_of ((Zcb.calls a _ _ HVa.out).mono fun e w' h_ => ⟨h_.1, h_.2.out⟩)⟩
     have HCb : Za (∀ n, Calls Try.prog 109 #[.int .i64 b] (wq.drewN n) fun e w'' => e = .returned (.bool true) ∧ ∃ m, w'' = wq.drewN m) := ⟨fun n => Calls.quiet_of ((Zcb.calls b _ _ HVb.out).mono fun e w' h_ => ⟨h_.1, h_.2.out⟩)⟩
     go_quiet (first | with_reducible exact HCa.out _ | with_reducible exact HCb.out _)
     go_wp2
     go_roundg k1
     case measure => exact Nat.lt_succ_self _
     case rel => exact ⟨_, (by first | rfl | (simp; done) | (simp [*]; done)), H', ⟨by have := HK1.out; omega⟩, ⟨mvB (Zaf HB.out BVq.out)⟩⟩
end Go.Proofs.Ytkgjaklnbgdmiaa.P
namespace Go.Proofs.Ytkgjaklnbgdmiaa.P
open Go.RowKit Go.Proofs.YtkgjaklnbgdmiaaW.PrintWords Go.Proofs.YtkgjaklnbgdmiaaW.PrintLast Go.Proofs.YtkgjaklnbgdmiaaW.PrintMore
attribute [local go_sem] Zcs Zcu Zc7 Zc8 Zcc Zcd Zct Zcv
set_option linter.unusedVariables false
set_option linter.unusedSimpArgs false
def Zdz.f (k : Nat) (l0 : List (S48)) : Option (Int) := (Zb5.f k l0).bind fun t334 => (if t334 = true then ((Zcn.f k l0).bind fun t335 => (if t335 > 4096 then (some 2) else (some 0))) else (some 20))
set_option maxHeartbeats 8000000 in
set_option maxRecDepth 100000 in
theorem Zdz.calls (k : Nat) (A0 : Option Addr) (c0 : Nat) (l0 : List (S48)) (r : Int) (w : World) (hr0 : Kd.C k48 w A0 l0.length l0) (hc0 : l0.length ≤ c0) (h : Zdz.f k l0 = some r) :
  Calls Try.prog 57 #[.slice A0 l0.length c0] w fun e w' => e = .returned (.int .i64 r) ∧ Below w.heap.size w w' := by
 have HR0 := Za.mk hr0
 have HC0 := Za.mk hc0
 clear hr0 hc0
 have HB := Za.mk (Below.refl w.heap.size w)
 have H : ((Zb5.f k l0).bind fun t334 => (if t334 = true then ((Zcn.f k l0).bind fun t335 => (if t335 > 4096 then (some 2) else (some 0))) else (some 20))) = some r := h
 clear h
 replace H := Option.bind_eq_some_iff.mp H
 obtain ⟨t334, A20, H⟩ := H
 replace H : (if t334 = true then ((Zcn.f k l0).bind fun t335 => (if t335 > 4096 then (some 2) else (some 0))) else (some 20)) = some r := H
 have A2 := Za.mk A20
 clear A20
 by_cases c3 : t334 = true
 rotate_left
 ·replace c3 := Bool.eq_false_iff.mpr c3
  subst c3
  have H1 : (some 20) = some r := by rw [if_neg (show ¬ (false = true) by decide)] at H; exact H
  clear H
  have H := H1
  clear H1
  obtain rfl := Option.some.inj H
  go_enter Try.func57, Try.ntmps57
  go_wp2_with (first | ((with_reducible refine Zay (f := 85) rfl ?_); refine Zbu (some 5) rfl rfl Try.func85 (by kernel_rfl) rfl #[.slice A0 l0.length c0] rfl (by (try simp only [List.map_toArray, List.map_cons, List.map_nil]); first | done | rfl | (simp only [List.length_drop, List.length_take]; rfl)) ?_; (with_reducible refine (Zb5.calls k _ _ l0 false _ ?side1 ?side2 A2.out).mono ?_); (case side1 => repeat (first | exact HR0.out | (with_reducible refine Kd.C_alloc ?_ _) | (with_reducible refine Kd.Zaw ?_ _) | (with_reducible refine Kd.C_drew ?_))); (case side2 => exact HC0.out); rintro e w10 ⟨rfl, hb⟩; refine ⟨_, rfl, ?_⟩; have n0_ := Za.mk (Zaf (by repeat (first | (with_reducible first | exact HB.out | apply Zab | apply Zaa | apply Zad) | exact HB.out)) hb); clear HB; have HB := n0_; clear n0_; (try clear hb); (try clear hb2); (try clear hk); (try clear hi)))
  go_ret
  exact ⟨by first | rfl | (simp [Zar, Zas] <;> rfl) | (simp [*, Zar, Zas] <;> rfl), by repeat (first | (with_reducible first | exact HB.out | apply Zab | apply Zaa | apply Zad) | exact HB.out)⟩
 subst c3
 have H1 : ((Zcn.f k l0).bind fun t335 => (if t335 > 4096 then (some 2) else (some 0))) = some r := by rw [if_pos rfl] at H; exact H
 clear H
 have H := H1
 clear H1
 replace H := Option.bind_eq_some_iff.mp H
 obtain ⟨t335, A40, H⟩ := H
 replace H : (if t335 > 4096 then (some 2) else (some 0)) = some r := H
 have A4 := Za.mk A40
 clear A40
 by_cases c5 : t335 > 4096
 ·rw [if_pos c5] at H
  have c5b0 : decide (4096 < t335) = true := decide_eq_true c5
  clear c5
  obtain rfl := Option.some.inj H
  go_enter Try.func57, Try.ntmps57
  go_wp2_with (first | ((with_reducible refine Zay (f := 85) rfl ?_); refine Zbu (some 5) rfl rfl Try.func85 (by kernel_rfl) rfl #[.slice A0 l0.length c0] rfl (by (try simp only [List.map_toArray, List.map_cons, List.map_nil]); first | done | rfl | (simp only [List.length_drop, List.length_take]; rfl)) ?_; (with_reducible refine (Zb5.calls k _ _ l0 true _ ?side1 ?side2 A2.out).mono ?_); (case side1 => repeat (first | exact HR0.out | (with_reducible refine Kd.C_alloc ?_ _) | (with_reducible refine Kd.Zaw ?_ _) | (with_reducible refine Kd.C_drew ?_))); (case side2 => exact HC0.out); rintro e w6 ⟨rfl, hb⟩; refine ⟨_, rfl, ?_⟩; have n0_ := Za.mk (Zaf (by repeat (first | (with_reducible first | exact HB.out | apply Zab | apply Zaa | apply Zad) | exact HB.out)) hb); clear HB; have HB := n0_; clear n0_; (try clear hb); (try clear hb2); (try clear hk); (try clear hi)) | ((with_reducible refine Zay (f := 86) rfl ?_); refine Zbu (some 9) rfl rfl Try.func86 (by kernel_rfl) rfl #[.slice A0 l0.length c0] rfl (by (try simp only [List.map_toArray, List.map_cons, List.map_nil]); first | done | rfl | (simp only [List.length_drop, List.length_take]; rfl)) ?_; (with_reducible refine (Zcn.calls k _ _ l0 t335 _ ?side1 ?side2 A4.out).mono ?_); (case side1 => repeat (first | exact (Kd.Zal HR0.out HB.out) | (with_reducible refine Kd.C_alloc ?_ _) | (with_reducible refine Kd.Zaw ?_ _) | (with_reducible refine Kd.C_drew ?_))); (case side2 => exact HC0.out); rintro e w7 ⟨rfl, hb⟩; refine ⟨_, rfl, ?_⟩; have n0_ := Za.mk (Zaf (by repeat (first | (with_reducible first | exact HB.out | apply Zab | apply Zaa | apply Zad) | exact HB.out)) hb); clear HB; have HB := n0_; clear n0_; (try clear hb); (try clear hb2); (try clear hk); (try clear hi)))
  go_ret
  exact ⟨by first | rfl | (simp [Zar, Zas] <;> rfl) | (simp [*, Zar, Zas] <;> rfl), by repeat (first | (with_reducible first | exact HB.out | apply Zab | apply Zaa | apply Zad) | exact HB.out)⟩
 rw [if_neg c5] at H
 have c5b0 : decide (4096 < t335) = false := decide_eq_false c5
 clear c5
 obtain rfl := Option.some.inj H
 go_enter Try.func57, Try.ntmps57
 go_wp2_with (first | ((with_reducible refine Zay (f := 85) rfl ?_); refine Zbu (some 5) rfl rfl Try.func85 (by kernel_rfl) rfl #[.slice A0 l0.length c0] rfl (by (try simp only [List.map_toArray, List.map_cons, List.map_nil]); first | done | rfl | (simp only [List.length_drop, List.length_take]; rfl)) ?_; (with_reducible refine (Zb5.calls k _ _ l0 true _ ?side1 ?side2 A2.out).mono ?_); (case side1 => repeat (first | exact HR0.out | (with_reducible refine Kd.C_alloc ?_ _) | (with_reducible refine Kd.Zaw ?_ _) | (with_reducible refine Kd.C_drew ?_))); (case side2 => exact HC0.out); rintro e w8 ⟨rfl, hb⟩; refine ⟨_, rfl, ?_⟩; have n0_ := Za.mk (Zaf (by repeat (first | (with_reducible first | exact HB.out | apply Zab | apply Zaa | apply Zad) | exact HB.out)) hb); clear HB; have HB := n0_; clear n0_; (try clear hb); (try clear hb2); (try clear hk); (try clear hi)) | ((with_reducible refine Zay (f := 86) rfl ?_); refine Zbu (some 9) rfl rfl Try.func86 (by kernel_rfl) rfl #[.slice A0 l0.length c0] rfl (by (try simp only [List.map_toArray, List.map_cons, List.map_nil]); first | done | rfl | (simp only [List.length_drop, List.length_take]; rfl)) ?_; (with_reducible refine (Zcn.calls k _ _ l0 t335 _ ?side1 ?side2 A4.out).mono ?_); (case side1 => repeat (first | exact (Kd.Zal HR0.out HB.out) | (with_reducible refine Kd.C_alloc ?_ _) | (with_reducible refine Kd.Zaw ?_ _) | (with_reducible refine Kd.C_drew ?_))); (case side2 => exact HC0.out); rintro e w9 ⟨rfl, hb⟩; refine ⟨_, rfl, ?_⟩; have n0_ := Za.mk (Zaf (by repeat (first | (with_reducible first | exact HB.out | apply Zab | apply Zaa | apply Zad) | exact HB.out)) hb); clear HB; have HB := n0_; clear n0_; (try clear hb); (try clear hb2); (try clear hk); (try clear hi)))
 go_ret
 exact ⟨by first | rfl | (simp [Zar, Zas] <;> rfl) | (simp [*, Zar, Zas] <;> rfl), by repeat (first | (with_reducible first | exact HB.out | apply Zab | apply Zaa | apply Zad) | exact HB.out)⟩
def Zdp.f (k : Nat) (l0 : List (List (S48))) (a1_0 : Int) (l1_1 : List Int) (l1_2 : List Int) : Option (Int) := if a1_0 = 0 then (if (l1_1.length : Int) > 0 then (some 44) else (if (l1_2.length : Int) > 0 then (some 44) else (some 0))) else (if a1_0 = 1 then ((Zcz.f k l0 0 l1_1 l1_2 0 0 ([] : List (List Int)) 0).bind fun t330 => (some t330)) else (if a1_0 = 2 then ((Zcz.f k l0 0 l1_1 l1_2 0 0 ([] : List (List Int)) 0).bind fun t331 => (some t331)) else (some 44)))
set_option maxHeartbeats 8000000 in
set_option maxRecDepth 100000 in
theorem Zdp.calls (k : Nat) (A0 : Option Addr) (c0 : Nat) (l0 : List (List (S48))) (a1_0 : Int) (A1_1 : Option Addr) (c1_1 : Nat) (l1_1 : List Int) (A1_2 : Option Addr) (c1_2 : Nat) (l1_2 : List Int) (r : Int) (w : World) (hr0 : Kd.C (Kd.slice 48 k48) w A0 l0.length l0) (hc0 : l0.length ≤ c0) (hr1_1 : Kd.C (Kd.int .i64) w A1_1 l1_1.length l1_1) (hc1_1 : l1_1.length ≤ c1_1) (hr1_2 : Kd.C (Kd.int .i64) w A1_2 l1_2.length l1_2) (hc1_2 : l1_2.length ≤ c1_2) (h : Zdp.f k l0 a1_0 l1_1 l1_2 = some r) :
  Calls Try.prog 19 #[.slice A0 l0.length c0, .agg #[.int .i64 a1_0, .slice A1_1 l1_1.length c1_1, .slice A1_2 l1_2.length c1_2]] w fun e w' => e = .returned (.int .i64 r) ∧ Below w.heap.size w w' := by
 have hu26 := Try.underlying26
 have hu31 := Try.underlying31
 have HR0 := Za.mk hr0
 have HC0 := Za.mk hc0
 clear hr0 hc0
 have HR1_1 := Za.mk hr1_1
 have HC1_1 := Za.mk hc1_1
 clear hr1_1 hc1_1
 have HR1_2 := Za.mk hr1_2
 have HC1_2 := Za.mk hc1_2
 clear hr1_2 hc1_2
 have HB := Za.mk (Below.refl w.heap.size w)
 have H : (if a1_0 = 0 then (if (l1_1.length : Int) > 0 then (some 44) else (if (l1_2.length : Int) > 0 then (some 44) else (some 0))) else (if a1_0 = 1 then ((Zcz.f k l0 0 l1_1 l1_2 0 0 ([] : List (List Int)) 0).bind fun t330 => (some t330)) else (if a1_0 = 2 then ((Zcz.f k l0 0 l1_1 l1_2 0 0 ([] : List (List Int)) 0).bind fun t331 => (some t331)) else (some 44)))) = some r := h
 clear h
 by_cases c3 : a1_0 = 0
 ·rw [if_pos c3] at H
  have c3b0 : (a1_0 == 0) = true := beq_iff_eq.mpr c3
  have c3b1 : (a1_0 != 0) = false := bne_eq_false_iff_eq.mpr c3
  clear c3
  by_cases c4 : (l1_1.length : Int) > 0
  ·rw [if_pos c4] at H
   have c4b0 : decide (0 < (l1_1.length : Int)) = true := decide_eq_true c4
   have c4b1 : decide (0 < l1_1.length) = true := decide_eq_true (by omega)
   clear c4
   obtain rfl := Option.some.inj H
   go_enter Try.func19, Try.ntmps19
   go_wp2_with (first | ((with_reducible refine Zax (N := 3) rfl ?_); (try (refine Zco (by rfl) ?_; dsimp only)); refine Za7 ?hg (N := 3) ?hd (cs := #[.int .i64 a1_0, .slice A1_1 l1_1.length c1_1, .slice A1_2 l1_2.length c1_2]) (t := 26) ?hr ?_; (case hd => rfl); (case hg => rfl); (case hr => first | (go_simp; done) | (go_simp; rfl)); intro gb329 hg w5 hbox hb; have n0_ := Za.mk (Zaf (by repeat (first | (with_reducible first | exact HB.out | apply Zab | apply Zaa | apply Zad) | exact HB.out)) hb); have n1_ := Za.mk (hbox); have n3_ := Za.mk ((by rw [hg]; exact (Zan (by repeat (first | (with_reducible first | exact HB.out | apply Zab | apply Zaa | apply Zad) | exact HB.out))) : w.heap.size ≤ gb329)); clear HB; have HB := n0_; have BK329 := n1_; have GE329 := n3_; clear n0_ n1_ n3_; clear hb hbox hg; obtain ⟨hcz6_0, hcz6_1, hcz6_2, hfz6_0, hfz6_1, hfz6_2⟩ := blks3 BK329.out))
   go_ret
   exact ⟨by first | rfl | (simp [Zar, Zas] <;> rfl) | (simp [*, Zar, Zas] <;> rfl), by repeat (first | (with_reducible first | exact HB.out | apply Zab | apply Zaa | apply Zad | refine Zac ?_ GE329.out) | exact HB.out)⟩
  rw [if_neg c4] at H
  have c4b0 : decide (0 < (l1_1.length : Int)) = false := decide_eq_false c4
  have c4b1 : decide (0 < l1_1.length) = false := decide_eq_false (by omega)
  clear c4
  by_cases c7 : (l1_2.length : Int) > 0
  ·rw [if_pos c7] at H
   have c7b0 : decide (0 < (l1_2.length : Int)) = true := decide_eq_true c7
   have c7b1 : decide (0 < l1_2.length) = true := decide_eq_true (by omega)
   clear c7
   obtain rfl := Option.some.inj H
   go_enter Try.func19, Try.ntmps19
   go_wp2_with (first | ((with_reducible refine Zax (N := 3) rfl ?_); (try (refine Zco (by rfl) ?_; dsimp only)); refine Za7 ?hg (N := 3) ?hd (cs := #[.int .i64 a1_0, .slice A1_1 l1_1.length c1_1, .slice A1_2 l1_2.length c1_2]) (t := 26) ?hr ?_; (case hd => rfl); (case hg => rfl); (case hr => first | (go_simp; done) | (go_simp; rfl)); intro gb329 hg w8 hbox hb; have n0_ := Za.mk (Zaf (by repeat (first | (with_reducible first | exact HB.out | apply Zab | apply Zaa | apply Zad) | exact HB.out)) hb); have n1_ := Za.mk (hbox); have n3_ := Za.mk ((by rw [hg]; exact (Zan (by repeat (first | (with_reducible first | exact HB.out | apply Zab | apply Zaa | apply Zad) | exact HB.out))) : w.heap.size ≤ gb329)); clear HB; have HB := n0_; have BK329 := n1_; have GE329 := n3_; clear n0_ n1_ n3_; clear hb hbox hg; obtain ⟨hcz9_0, hcz9_1, hcz9_2, hfz9_0, hfz9_1, hfz9_2⟩ := blks3 BK329.out))
   go_ret
   exact ⟨by first | rfl | (simp [Zar, Zas] <;> rfl) | (simp [*, Zar, Zas] <;> rfl), by repeat (first | (with_reducible first | exact HB.out | apply Zab | apply Zaa | apply Zad | refine Zac ?_ GE329.out) | exact HB.out)⟩
  rw [if_neg c7] at H
  have c7b0 : decide (0 < (l1_2.length : Int)) = false := decide_eq_false c7
  have c7b1 : decide (0 < l1_2.length) = false := decide_eq_false (by omega)
  clear c7
  obtain rfl := Option.some.inj H
  go_enter Try.func19, Try.ntmps19
  go_wp2_with (first | ((with_reducible refine Zax (N := 3) rfl ?_); (try (refine Zco (by rfl) ?_; dsimp only)); refine Za7 ?hg (N := 3) ?hd (cs := #[.int .i64 a1_0, .slice A1_1 l1_1.length c1_1, .slice A1_2 l1_2.length c1_2]) (t := 26) ?hr ?_; (case hd => rfl); (case hg => rfl); (case hr => first | (go_simp; done) | (go_simp; rfl)); intro gb329 hg w10 hbox hb; have n0_ := Za.mk (Zaf (by repeat (first | (with_reducible first | exact HB.out | apply Zab | apply Zaa | apply Zad) | exact HB.out)) hb); have n1_ := Za.mk (hbox); have n3_ := Za.mk ((by rw [hg]; exact (Zan (by repeat (first | (with_reducible first | exact HB.out | apply Zab | apply Zaa | apply Zad) | exact HB.out))) : w.heap.size ≤ gb329)); clear HB; have HB := n0_; have BK329 := n1_; have GE329 := n3_; clear n0_ n1_ n3_; clear hb hbox hg; obtain ⟨hcz11_0, hcz11_1, hcz11_2, hfz11_0, hfz11_1, hfz11_2⟩ := blks3 BK329.out))
  go_ret
  exact ⟨by first | rfl | (simp [Zar, Zas] <;> rfl) | (simp [*, Zar, Zas] <;> rfl), by repeat (first | (with_reducible first | exact HB.out | apply Zab | apply Zaa | apply Zad | refine Zac ?_ GE329.out) | exact HB.out)⟩
 rw [if_neg c3] at H
 have c3b0 : (a1_0 == 0) = false := beq_eq_false_iff_ne.mpr c3
 have c3b1 : (a1_0 != 0) = true := bne_iff_ne.mpr c3
 by_cases c12 : a1_0 = 1
 ·rw [if_pos c12] at H
  have c12b0 : (a1_0 == 1) = true := beq_iff_eq.mpr c12
  have c12b1 : (a1_0 != 1) = false := bne_eq_false_iff_eq.mpr c12
  clear c12
  replace H := Option.bind_eq_some_iff.mp H
  obtain ⟨t330, A130, H⟩ := H
  replace H : (some t330) = some r := H
  have A13 := Za.mk A130
  clear A130
  obtain rfl := Option.some.inj H
  go_enter Try.func19, Try.ntmps19
  go_wp2_with (first | ((with_reducible refine Zax (N := 3) rfl ?_); (try (refine Zco (by rfl) ?_; dsimp only)); refine Za7 ?hg (N := 3) ?hd (cs := #[.int .i64 a1_0, .slice A1_1 l1_1.length c1_1, .slice A1_2 l1_2.length c1_2]) (t := 26) ?hr ?_; (case hd => rfl); (case hg => rfl); (case hr => first | (go_simp; done) | (go_simp; rfl)); intro gb329 hg w14 hbox hb; have n0_ := Za.mk (Zaf (by repeat (first | (with_reducible first | exact HB.out | apply Zab | apply Zaa | apply Zad) | exact HB.out)) hb); have n1_ := Za.mk (hbox); have n3_ := Za.mk ((by rw [hg]; exact (Zan (by repeat (first | (with_reducible first | exact HB.out | apply Zab | apply Zaa | apply Zad) | exact HB.out))) : w.heap.size ≤ gb329)); clear HB; have HB := n0_; have BK329 := n1_; have GE329 := n3_; clear n0_ n1_ n3_; clear hb hbox hg; obtain ⟨hcz15_0, hcz15_1, hcz15_2, hfz15_0, hfz15_1, hfz15_2⟩ := blks3 BK329.out) | ((with_reducible refine Zay (f := 14) rfl ?_); refine Zbu (some 28) rfl rfl Try.func14 (by kernel_rfl) rfl #[.slice A0 l0.length c0, .agg #[.int .i64 0, .slice A1_1 l1_1.length c1_1, .slice A1_2 l1_2.length c1_2, .int .i64 0, .int .i64 0, .slice none 0 0, .int .i64 0]] rfl (by (try simp only [List.map_toArray, List.map_cons, List.map_nil]); first | done | rfl | (simp only [List.length_drop, List.length_take]; rfl)) ?_; (refine (Zcz.calls k _ _ l0 0 _ _ l1_1 _ _ l1_2 0 0 _ _ ([] : List (List Int)) 0 t330 _ ?side1 ?side2 ?side3 ?side4 ?side5 ?side6 ?side7 ?side8 A13.out).mono ?_); (case side1 => repeat (first | exact (Kd.Zal HR0.out HB.out) | (with_reducible refine Kd.C_alloc ?_ _) | (with_reducible refine Kd.Zaw ?_ _) | (with_reducible refine Kd.C_drew ?_))); (case side2 => exact HC0.out); (case side3 => repeat (first | exact (Kd.Zal HR1_1.out HB.out) | (with_reducible refine Kd.C_alloc ?_ _) | (with_reducible refine Kd.Zaw ?_ _) | (with_reducible refine Kd.C_drew ?_))); (case side4 => exact HC1_1.out); (case side5 => repeat (first | exact (Kd.Zal HR1_2.out HB.out) | (with_reducible refine Kd.C_alloc ?_ _) | (with_reducible refine Kd.Zaw ?_ _) | (with_reducible refine Kd.C_drew ?_))); (case side6 => exact HC1_2.out); (case side7 => exact Kd.C_nil _ _); (case side8 => exact Nat.le_refl _); rintro e w16 ⟨rfl, hb⟩; refine ⟨_, rfl, ?_⟩; have n1_ := Za.mk (Zaf (by repeat (first | (with_reducible first | exact HB.out | apply Zab | apply Zaa | apply Zad | refine Zac ?_ GE329.out) | exact HB.out)) hb); clear BK329; clear HB; have HB := n1_; clear n1_; (try clear hb); (try clear hb2); (try clear hk); (try clear hi)))
  go_ret
  exact ⟨by first | rfl | (simp [Zar, Zas] <;> rfl) | (simp [*, Zar, Zas] <;> rfl), by repeat (first | (with_reducible first | exact HB.out | apply Zab | apply Zaa | apply Zad | refine Zac ?_ GE329.out) | exact HB.out)⟩
 rw [if_neg c12] at H
 have c12b0 : (a1_0 == 1) = false := beq_eq_false_iff_ne.mpr c12
 have c12b1 : (a1_0 != 1) = true := bne_iff_ne.mpr c12
 by_cases c17 : a1_0 = 2
 rotate_left
 ·rw [if_neg c17] at H
  have c17b0 : (a1_0 == 2) = false := beq_eq_false_iff_ne.mpr c17
  have c17b1 : (a1_0 != 2) = true := bne_iff_ne.mpr c17
  obtain rfl := Option.some.inj H
  go_enter Try.func19, Try.ntmps19
  go_wp2_with (first | ((with_reducible refine Zax (N := 3) rfl ?_); (try (refine Zco (by rfl) ?_; dsimp only)); refine Za7 ?hg (N := 3) ?hd (cs := #[.int .i64 a1_0, .slice A1_1 l1_1.length c1_1, .slice A1_2 l1_2.length c1_2]) (t := 26) ?hr ?_; (case hd => rfl); (case hg => rfl); (case hr => first | (go_simp; done) | (go_simp; rfl)); intro gb329 hg w22 hbox hb; have n0_ := Za.mk (Zaf (by repeat (first | (with_reducible first | exact HB.out | apply Zab | apply Zaa | apply Zad) | exact HB.out)) hb); have n1_ := Za.mk (hbox); have n3_ := Za.mk ((by rw [hg]; exact (Zan (by repeat (first | (with_reducible first | exact HB.out | apply Zab | apply Zaa | apply Zad) | exact HB.out))) : w.heap.size ≤ gb329)); clear HB; have HB := n0_; have BK329 := n1_; have GE329 := n3_; clear n0_ n1_ n3_; clear hb hbox hg; obtain ⟨hcz23_0, hcz23_1, hcz23_2, hfz23_0, hfz23_1, hfz23_2⟩ := blks3 BK329.out))
  go_ret
  exact ⟨by first | rfl | (simp [Zar, Zas] <;> rfl) | (simp [*, Zar, Zas] <;> rfl), by repeat (first | (with_reducible first | exact HB.out | apply Zab | apply Zaa | apply Zad | refine Zac ?_ GE329.out) | exact HB.out)⟩
 rw [if_pos c17] at H
 have c17b0 : (a1_0 == 2) = true := beq_iff_eq.mpr c17
 have c17b1 : (a1_0 != 2) = false := bne_eq_false_iff_eq.mpr c17
 clear c17
 replace H := Option.bind_eq_some_iff.mp H
 obtain ⟨t331, A180, H⟩ := H
 replace H : (some t331) = some r := H
 have A18 := Za.mk A180
 clear A180
 obtain rfl := Option.some.inj H
 go_enter Try.func19, Try.ntmps19
 go_wp2_with (first | ((with_reducible refine Zax (N := 3) rfl ?_); (try (refine Zco (by rfl) ?_; dsimp only)); refine Za7 ?hg (N := 3) ?hd (cs := #[.int .i64 a1_0, .slice A1_1 l1_1.length c1_1, .slice A1_2 l1_2.length c1_2]) (t := 26) ?hr ?_; (case hd => rfl); (case hg => rfl); (case hr => first | (go_simp; done) | (go_simp; rfl)); intro gb329 hg w19 hbox hb; have n0_ := Za.mk (Zaf (by repeat (first | (with_reducible first | exact HB.out | apply Zab | apply Zaa | apply Zad) | exact HB.out)) hb); have n1_ := Za.mk (hbox); have n3_ := Za.mk ((by rw [hg]; exact (Zan (by repeat (first | (with_reducible first | exact HB.out | apply Zab | apply Zaa | apply Zad) | exact HB.out))) : w.heap.size ≤ gb329)); clear HB; have HB := n0_; have BK329 := n1_; have GE329 := n3_; clear n0_ n1_ n3_; clear hb hbox hg; obtain ⟨hcz20_0, hcz20_1, hcz20_2, hfz20_0, hfz20_1, hfz20_2⟩ := blks3 BK329.out) | ((with_reducible refine Zay (f := 14) rfl ?_); refine Zbu (some 28) rfl rfl Try.func14 (by kernel_rfl) rfl #[.slice A0 l0.length c0, .agg #[.int .i64 0, .slice A1_1 l1_1.length c1_1, .slice A1_2 l1_2.length c1_2, .int .i64 0, .int .i64 0, .slice none 0 0, .int .i64 0]] rfl (by (try simp only [List.map_toArray, List.map_cons, List.map_nil]); first | done | rfl | (simp only [List.length_drop, List.length_take]; rfl)) ?_; (refine (Zcz.calls k _ _ l0 0 _ _ l1_1 _ _ l1_2 0 0 _ _ ([] : List (List Int)) 0 t331 _ ?side1 ?side2 ?side3 ?side4 ?side5 ?side6 ?side7 ?side8 A18.out).mono ?_); (case side1 => repeat (first | exact (Kd.Zal HR0.out HB.out) | (with_reducible refine Kd.C_alloc ?_ _) | (with_reducible refine Kd.Zaw ?_ _) | (with_reducible refine Kd.C_drew ?_))); (case side2 => exact HC0.out); (case side3 => repeat (first | exact (Kd.Zal HR1_1.out HB.out) | (with_reducible refine Kd.C_alloc ?_ _) | (with_reducible refine Kd.Zaw ?_ _) | (with_reducible refine Kd.C_drew ?_))); (case side4 => exact HC1_1.out); (case side5 => repeat (first | exact (Kd.Zal HR1_2.out HB.out) | (with_reducible refine Kd.C_alloc ?_ _) | (with_reducible refine Kd.Zaw ?_ _) | (with_reducible refine Kd.C_drew ?_))); (case side6 => exact HC1_2.out); (case side7 => exact Kd.C_nil _ _); (case side8 => exact Nat.le_refl _); rintro e w21 ⟨rfl, hb⟩; refine ⟨_, rfl, ?_⟩; have n1_ := Za.mk (Zaf (by repeat (first | (with_reducible first | exact HB.out | apply Zab | apply Zaa | apply Zad | refine Zac ?_ GE329.out) | exact HB.out)) hb); clear BK329; clear HB; have HB := n1_; clear n1_; (try clear hb); (try clear hb2); (try clear hk); (try clear hi)))
 go_ret
 exact ⟨by first | rfl | (simp [Zar, Zas] <;> rfl) | (simp [*, Zar, Zas] <;> rfl), by repeat (first | (with_reducible first | exact HB.out | apply Zab | apply Zaa | apply Zad | refine Zac ?_ GE329.out) | exact HB.out)⟩
end Go.Proofs.Ytkgjaklnbgdmiaa.P
/- model.Check: may a model be? -/
namespace Go.Proofs.Ytkgjaklnbgdmiaa.P
open Go.RowKit Go.Proofs.YtkgjaklnbgdmiaaW.PrintWords Go.Proofs.YtkgjaklnbgdmiaaW.PrintLast Go.Proofs.YtkgjaklnbgdmiaaW.PrintMore
set_option linter.unusedVariables false
set_option linter.unusedSimpArgs false
def Zd3 (k : Nat) : List S50 → List ByteArray → Option Int
  | [], _ => some 0
  | v :: vs, had => (Zcf.f v.f0).bind fun nm => if nm = false then some 40 else if hasN had v.f0 = true then some 41 else if v.f1.length = 0 then some 42 else (Zdz.f k v.f1).bind fun e => if e = 0 then Zd3 k vs (had ++ [v.f0]) else some 42
def Zd2 (k : Nat) (d : List (List S48)) : List S31 → Option Int
  | [] => some 0
  | c :: cs => (Zcz.f k d c.f0 c.f1 c.f2 c.f3 c.f4 c.f5 c.f6).bind fun e => if e = 0 then Zd2 k d cs else some e
def Zbn.f (k : Nat) (vars : List S50) (cons : List S31) (gkd : Int) (gv gc : List Int) : Option Int :=
  if 64 < vars.length ∨ 256 < cons.length then some 2 else
    (Zd3 k vars []).bind fun e => if e = 0 then (Zb3.f k vars cons gkd gv gc).bind fun d => (Zd2 k d cons).bind fun e2 => if e2 = 0 then Zdp.f k d gkd gv gc else some e2 else some e
theorem SetN.step {w w' : World} {b : Nat} {L : List ByteArray} (h : SetN w b L) (hk : w'.heap[b]? = w.heap[b]?) : SetN w' b L := by
  obtain ⟨es, clock, h1, F, hs, hD⟩ := h
  exact ⟨es, clock, hk.trans h1, F, hs, hD⟩
theorem SetN.far {w : World} {b g i j : Nat} {u v : Value} {L : List ByteArray} (h : SetN w b L) (hne : b ≠ g) : SetN ((w.setCell ⟨g, i, none⟩ u).setCell ⟨g, j, none⟩ v) b L :=
  h.step ((Below.heap_setCell _ ⟨g, j, none⟩ v b hne).trans (Below.heap_setCell _ ⟨g, i, none⟩ u b hne))
theorem name_size {s : ByteArray} (h : Zcf.f s = some true) : s.size ≤ maxLen := by
  have h1 := Option.some.inj h
  simp only [Bool.and_eq_true, decide_eq_true_eq] at h1
  have h2 : (16 : Nat) ≤ maxLen := by decide
  omega
theorem drop_rd {vars : List S50} {i : Nat} (hi : i < vars.length) : vars.drop i = Za4 vars (i : Int) :: vars.drop (i + 1) := by
  rw [List.drop_eq_getElem_cons hi]
  simp [Za4, List.getD_eq_getElem?_getD, List.getElem?_eq_getElem hi]
theorem take_rd {vars : List S50} {i : Nat} (hi : i < vars.length) : (vars.take (i + 1)).map (·.f0) = (vars.take i).map (·.f0) ++ [(Za4 vars (i : Int)).f0] := by
  rw [List.take_succ_eq_append_getElem hi, List.map_append]
  simp [Za4, List.getD_eq_getElem?_getD, List.getElem?_eq_getElem hi]
theorem drop_rdC {cons : List S31} {i : Nat} (hi : i < cons.length) : cons.drop i = Zah cons (i : Int) :: cons.drop (i + 1) := by
  rw [List.drop_eq_getElem_cons hi]
  simp [Zah, List.getD_eq_getElem?_getD, List.getElem?_eq_getElem hi]
set_option maxHeartbeats 4000000 in
set_option maxRecDepth 1000000 in
theorem Zbn.calls (k : Nat) (A0 : Option Addr) (c0 : Nat) (vars : List S50) (A1 : Option Addr) (c1 : Nat) (cons : List S31) (gkd : Int) (A3 : Option Addr) (c3 : Nat) (gv : List Int) (A4 : Option Addr) (c4 : Nat) (gc : List Int) (r : Int) (w : World)
    (hr0 : Kd.C k50 w A0 vars.length vars) (hc0 : vars.length ≤ c0) (hr1 : Kd.C k31 w A1 cons.length cons) (hc1 : cons.length ≤ c1) (hr3 : Kd.C (Kd.int .i64) w A3 gv.length gv) (hc3 : gv.length ≤ c3) (hr4 : Kd.C (Kd.int .i64) w A4 gc.length gc) (hc4 : gc.length ≤ c4)
    (h : Zbn.f k vars cons gkd gv gc = some r) :
    Calls Try.prog 30 #[.agg #[.slice A0 vars.length c0, .slice A1 cons.length c1, .int .i64 gkd, .slice A3 gv.length c3, .slice A4 gc.length c4]] w fun e w' => e = .returned (.int .i64 r) ∧ Below w.heap.size w w' := by
  have HR0 := Za.mk hr0
  have HR1 := Za.mk hr1
  have HR3 := Za.mk hr3
  have HR4 := Za.mk hr4
  clear hr0 hr1 hr3 hr4
  have HBw := Za.mk (Below.refl w.heap.size w)
  unfold Zbn.f at h
  by_cases h64 : 64 < vars.length
  · rw [if_pos (Or.inl h64)] at h
    obtain rfl := Option.some.inj h
    clear h
    have d64a : decide (64 < (vars.length : Int)) = true := decide_eq_true (by omega)
    have d64b : decide (64 < vars.length) = true := decide_eq_true (by omega)
    clear h64
    go_enter Try.func30, Try.ntmps30
    go_wp2_with (first | ((with_reducible refine Zax (N := 1) rfl ?_); refine Za7 ?hg (N := 1) ?hd (cs := #[.slice A0 vars.length c0, .slice A1 cons.length c1, .int .i64 gkd, .slice A3 gv.length c3, .slice A4 gc.length c4]) (t := 28) ?hr ?_; (case hd => rfl); (case hg => rfl); (case hr => first | (go_simp; done) | (go_simp; rfl)); intro gm hg wb hbox hb; have HB := Za.mk (Zaf (mvB HBw.out) hb); have BK := Za.mk hbox; clear hb hg; have hm0 : wb.cell? ⟨gm, 0, none⟩ = some (.slice A0 vars.length c0) := (Zaj hbox 0).trans rfl; have hm1 : wb.cell? ⟨gm, 1, none⟩ = some (.slice A1 cons.length c1) := (Zaj hbox 1).trans rfl; have hm2 : wb.cell? ⟨gm, 2, none⟩ = some (.int .i64 gkd) := (Zaj hbox 2).trans rfl; have hm3 : wb.cell? ⟨gm, 3, none⟩ = some (.slice A3 gv.length c3) := (Zaj hbox 3).trans rfl; have hm4 : wb.cell? ⟨gm, 4, none⟩ = some (.slice A4 gc.length c4) := (Zaj hbox 4).trans rfl; have hn0 : (wb.alloc (.map #[] 0)).cell? ⟨gm, 0, none⟩ = some (.slice A0 vars.length c0) := (Zaj (Zae hbox _) 0).trans rfl; have hn1 : (wb.alloc (.map #[] 0)).cell? ⟨gm, 1, none⟩ = some (.slice A1 cons.length c1) := (Zaj (Zae hbox _) 1).trans rfl; have hn2 : (wb.alloc (.map #[] 0)).cell? ⟨gm, 2, none⟩ = some (.int .i64 gkd) := (Zaj (Zae hbox _) 2).trans rfl; have hn3 : (wb.alloc (.map #[] 0)).cell? ⟨gm, 3, none⟩ = some (.slice A3 gv.length c3) := (Zaj (Zae hbox _) 3).trans rfl; have hn4 : (wb.alloc (.map #[] 0)).cell? ⟨gm, 4, none⟩ = some (.slice A4 gc.length c4) := (Zaj (Zae hbox _) 4).trans rfl; clear hbox))
    go_ret
    exact ⟨rfl, mvB HB.out⟩
  have d64a : decide (64 < (vars.length : Int)) = false := decide_eq_false (by omega)
  have d64b : decide (64 < vars.length) = false := decide_eq_false (by omega)
  by_cases h256 : 256 < cons.length
  · rw [if_pos (Or.inr h256)] at h
    obtain rfl := Option.some.inj h
    clear h
    have d256a : decide (256 < (cons.length : Int)) = true := decide_eq_true (by omega)
    have d256b : decide (256 < cons.length) = true := decide_eq_true (by omega)
    clear h64 h256
    go_enter Try.func30, Try.ntmps30
    go_wp2_with (first | ((with_reducible refine Zax (N := 1) rfl ?_); refine Za7 ?hg (N := 1) ?hd (cs := #[.slice A0 vars.length c0, .slice A1 cons.length c1, .int .i64 gkd, .slice A3 gv.length c3, .slice A4 gc.length c4]) (t := 28) ?hr ?_; (case hd => rfl); (case hg => rfl); (case hr => first | (go_simp; done) | (go_simp; rfl)); intro gm hg wb hbox hb; have HB := Za.mk (Zaf (mvB HBw.out) hb); have BK := Za.mk hbox; clear hb hg; have hm0 : wb.cell? ⟨gm, 0, none⟩ = some (.slice A0 vars.length c0) := (Zaj hbox 0).trans rfl; have hm1 : wb.cell? ⟨gm, 1, none⟩ = some (.slice A1 cons.length c1) := (Zaj hbox 1).trans rfl; have hm2 : wb.cell? ⟨gm, 2, none⟩ = some (.int .i64 gkd) := (Zaj hbox 2).trans rfl; have hm3 : wb.cell? ⟨gm, 3, none⟩ = some (.slice A3 gv.length c3) := (Zaj hbox 3).trans rfl; have hm4 : wb.cell? ⟨gm, 4, none⟩ = some (.slice A4 gc.length c4) := (Zaj hbox 4).trans rfl; have hn0 : (wb.alloc (.map #[] 0)).cell? ⟨gm, 0, none⟩ = some (.slice A0 vars.length c0) := (Zaj (Zae hbox _) 0).trans rfl; have hn1 : (wb.alloc (.map #[] 0)).cell? ⟨gm, 1, none⟩ = some (.slice A1 cons.length c1) := (Zaj (Zae hbox _) 1).trans rfl; have hn2 : (wb.alloc (.map #[] 0)).cell? ⟨gm, 2, none⟩ = some (.int .i64 gkd) := (Zaj (Zae hbox _) 2).trans rfl; have hn3 : (wb.alloc (.map #[] 0)).cell? ⟨gm, 3, none⟩ = some (.slice A3 gv.length c3) := (Zaj (Zae hbox _) 3).trans rfl; have hn4 : (wb.alloc (.map #[] 0)).cell? ⟨gm, 4, none⟩ = some (.slice A4 gc.length c4) := (Zaj (Zae hbox _) 4).trans rfl; clear hbox))
    go_ret
    exact ⟨rfl, mvB HB.out⟩
  have d256a : decide (256 < (cons.length : Int)) = false := decide_eq_false (by omega)
  have d256b : decide (256 < cons.length) = false := decide_eq_false (by omega)
  have L64 : Za (vars.length ≤ 64) := ⟨by omega⟩
  have L256 : Za (cons.length ≤ 256) := ⟨by omega⟩
  rw [if_neg (fun h_ => h_.elim h64 h256)] at h
  clear h64 h256
  obtain ⟨e1, he1, h2_⟩ := Option.bind_eq_some_iff.1 h
  have H1 := Za.mk he1
  have H2 := Za.mk h2_
  clear h he1 h2_
  have hmm := @run_makeMap Try.prog
  go_enter Try.func30, Try.ntmps30
  go_wp2_with (first | ((with_reducible refine Zax (N := 1) rfl ?_); refine Za7 ?hg (N := 1) ?hd (cs := #[.slice A0 vars.length c0, .slice A1 cons.length c1, .int .i64 gkd, .slice A3 gv.length c3, .slice A4 gc.length c4]) (t := 28) ?hr ?_; (case hd => rfl); (case hg => rfl); (case hr => first | (go_simp; done) | (go_simp; rfl)); intro gm hg wb hbox hb; have HB := Za.mk (Zaf (mvB HBw.out) hb); have BK := Za.mk hbox; clear hb hg; have hm0 : wb.cell? ⟨gm, 0, none⟩ = some (.slice A0 vars.length c0) := (Zaj hbox 0).trans rfl; have hm1 : wb.cell? ⟨gm, 1, none⟩ = some (.slice A1 cons.length c1) := (Zaj hbox 1).trans rfl; have hm2 : wb.cell? ⟨gm, 2, none⟩ = some (.int .i64 gkd) := (Zaj hbox 2).trans rfl; have hm3 : wb.cell? ⟨gm, 3, none⟩ = some (.slice A3 gv.length c3) := (Zaj hbox 3).trans rfl; have hm4 : wb.cell? ⟨gm, 4, none⟩ = some (.slice A4 gc.length c4) := (Zaj hbox 4).trans rfl; have hn0 : (wb.alloc (.map #[] 0)).cell? ⟨gm, 0, none⟩ = some (.slice A0 vars.length c0) := (Zaj (Zae hbox _) 0).trans rfl; have hn1 : (wb.alloc (.map #[] 0)).cell? ⟨gm, 1, none⟩ = some (.slice A1 cons.length c1) := (Zaj (Zae hbox _) 1).trans rfl; have hn2 : (wb.alloc (.map #[] 0)).cell? ⟨gm, 2, none⟩ = some (.int .i64 gkd) := (Zaj (Zae hbox _) 2).trans rfl; have hn3 : (wb.alloc (.map #[] 0)).cell? ⟨gm, 3, none⟩ = some (.slice A3 gv.length c3) := (Zaj (Zae hbox _) 3).trans rfl; have hn4 : (wb.alloc (.map #[] 0)).cell? ⟨gm, 4, none⟩ = some (.slice A4 gc.length c4) := (Zaj (Zae hbox _) 4).trans rfl; clear hbox))
  go_loopg [24] vars.length (fun gg s24 w' => ∃ i : Nat, s24 = .int .i64 i ∧ i ≤ vars.length ∧ vars.length - i ≤ gg ∧ Za (Below wb.heap.size wb w') ∧ Za (SetN w' wb.heap.size ((vars.take i).map (·.f0))) ∧ Za (Zd3 k (vars.drop i) ((vars.take i).map (·.f0)) = some e1))
  case atStart => exact ⟨0, rfl, Nat.zero_le _, Nat.le_refl _, ⟨Zab (Below.refl _ _) _⟩, ⟨SetN.made wb⟩, ⟨by simpa using H1.out⟩⟩
  case round =>
    clear hmm hm0 hm1 hm2 hm3 hm4 hn0 hn1 hn2 hn3 hn4
    obtain ⟨i, rfl, hi, hg, BW, HS, HA⟩ := hrel
    have hmb := HS.out.lt
    have HMB := Za.mk hmb
    clear hmb
    have HWR := Za.mk (Zaf HB.out BW.out)
    have BKr := Za.mk (Zap BK.out BW.out)
    have hr0 : wr.cell? ⟨gm, 0, none⟩ = some (.slice A0 vars.length c0) := (Zaj BKr.out 0).trans rfl
    have hr1 : wr.cell? ⟨gm, 1, none⟩ = some (.slice A1 cons.length c1) := (Zaj BKr.out 1).trans rfl
    have hr2 : wr.cell? ⟨gm, 2, none⟩ = some (.int .i64 gkd) := (Zaj BKr.out 2).trans rfl
    have hr3 : wr.cell? ⟨gm, 3, none⟩ = some (.slice A3 gv.length c3) := (Zaj BKr.out 3).trans rfl
    have hr4 : wr.cell? ⟨gm, 4, none⟩ = some (.slice A4 gc.length c4) := (Zaj BKr.out 4).trans rfl
    by_cases hlt : i < vars.length
    rotate_left
    · obtain rfl : i = vars.length := by omega
      have HA1 := HA.out
      rw [List.drop_length, Zd3] at HA1
      obtain rfl := Option.some.inj HA1
      clear HA HA1 HS HMB hi hg hlt
      have p1_ : decide ((vars.length : Int) < (vars.length : Int)) = false := decide_eq_false (by omega)
      have H3 := H2.out
      rw [if_pos rfl] at H3
      clear H2
      obtain ⟨d, hd, H4⟩ := Option.bind_eq_some_iff.1 H3
      obtain ⟨e2, he2, H5⟩ := Option.bind_eq_some_iff.1 H4
      have HDm := Za.mk hd
      have HE2 := Za.mk he2
      have HR := Za.mk H5
      clear H3 H4 H5 hd he2
      go_wp2_with (first | (go_at_call 25; go_loud (refine (Zb3.calls k A0 c0 vars A1 c1 cons gkd A3 c3 gv A4 c4 gc d _ (Kd.Zal HR0.out (mvB HWR.out)) hc0 (Kd.Zal HR1.out (mvB HWR.out)) hc1 (Kd.Zal HR3.out (mvB HWR.out)) hc3 (Kd.Zal HR4.out (mvB HWR.out)) hc4 HDm.out).mono ?_; rintro e_ wd ⟨vd, rfl, ho, hb⟩; replace ho := Kd.S_N ho; obtain ⟨Ad, cd, ed⟩ := Kd.Zc3 ho; subst ed; have HCd := Za.mk (Kd.Zcl ho); have BD := Za.mk (Zaf (mvB HWR.out) hb); have BKd := Za.mk (Zap (mvK BKr.out) hb); have hd0 : wd.cell? ⟨gm, 0, none⟩ = some (.slice A0 vars.length c0) := (Zaj BKd.out 0).trans rfl; have hd1 : wd.cell? ⟨gm, 1, none⟩ = some (.slice A1 cons.length c1) := (Zaj BKd.out 1).trans rfl; have hd2 : wd.cell? ⟨gm, 2, none⟩ = some (.int .i64 gkd) := (Zaj BKd.out 2).trans rfl; have hd3 : wd.cell? ⟨gm, 3, none⟩ = some (.slice A3 gv.length c3) := (Zaj BKd.out 3).trans rfl; have hd4 : wd.cell? ⟨gm, 4, none⟩ = some (.slice A4 gc.length c4) := (Zaj BKd.out 4).trans rfl; clear ho hb)))
      go_loopg [58] cons.length (fun gg s58 w' => ∃ j : Nat, s58 = .int .i64 j ∧ j ≤ cons.length ∧ cons.length - j ≤ gg ∧ Za (Below wd.heap.size wd w') ∧ Za (Zd2 k d (cons.drop j) = some e2))
      case atStart => exact ⟨0, rfl, Nat.zero_le _, Nat.le_refl _, ⟨mvB (Below.refl wd.heap.size wd)⟩, ⟨by simpa using HE2.out⟩⟩
      case round =>
        clear hd0 hd1 hd2 hd3 hd4 hr0 hr1 hr2 hr3 hr4
        obtain ⟨j, rfl, hj, hg, BW2, HA⟩ := hrel
        obtain ⟨wq, rfl⟩ : ∃ x : World, x = wr := ⟨_, rfl⟩
        have HWQ := Za.mk (Zaf BD.out BW2.out)
        have BKq := Za.mk (Zap BKd.out BW2.out)
        have hq0 : wq.cell? ⟨gm, 0, none⟩ = some (.slice A0 vars.length c0) := (Zaj BKq.out 0).trans rfl
        have hq1 : wq.cell? ⟨gm, 1, none⟩ = some (.slice A1 cons.length c1) := (Zaj BKq.out 1).trans rfl
        have hq2 : wq.cell? ⟨gm, 2, none⟩ = some (.int .i64 gkd) := (Zaj BKq.out 2).trans rfl
        have hq3 : wq.cell? ⟨gm, 3, none⟩ = some (.slice A3 gv.length c3) := (Zaj BKq.out 3).trans rfl
        have hq4 : wq.cell? ⟨gm, 4, none⟩ = some (.slice A4 gc.length c4) := (Zaj BKq.out 4).trans rfl
        by_cases hlt : j < cons.length
        rotate_left
        · obtain rfl : j = cons.length := by omega
          have HA1 := HA.out
          rw [List.drop_length, Zd2] at HA1
          obtain rfl := Option.some.inj HA1
          clear HA HA1 hj hg hlt
          have p3_ : decide ((cons.length : Int) < (cons.length : Int)) = false := decide_eq_false (by omega)
          have H6 := HR.out
          rw [if_pos rfl] at H6
          have HG := Za.mk H6
          clear HR H6
          go_wp2_with (first | (go_at_call 19; go_loud (refine (Zdp.calls k Ad cd d gkd A3 c3 gv A4 c4 gc r _ (Kd.Zal HCd.out.2.2 (mvB BW2.out)) HCd.out.2.1 (Kd.Zal HR3.out (mvB HWQ.out)) hc3 (Kd.Zal HR4.out (mvB HWQ.out)) hc4 HG.out).mono ?_; rintro e_ w12 ⟨rfl, hb⟩; have BV2 := Za.mk (Zaf (mvB HWQ.out) hb); clear hb)))
          go_ret
          exact ⟨rfl, mvB BV2.out⟩
        have hltz : (j : Int) < (cons.length : Int) := by omega
        have p3_ : decide ((j : Int) < (cons.length : Int)) = true := decide_eq_true hltz
        have p4_ : decide ((0 : Int) ≤ (j : Int)) = true := decide_eq_true (by omega)
        obtain ⟨ad, B1, b1, B2, b2, B5, b5, e_, hx0, hx1, hx2, hx3, hx4, hx5, hx6, hl1, hi1, hl2, hi2, hl5, hi5⟩ := Zeg (Kd.Zal HR1.out HWQ.out) (j : Int) (by omega) hltz
        cases e_
        simp only [Int.toNat_natCast] at hx0 hx1 hx2 hx3 hx4 hx5 hx6
        have HA1 := HA.out
        rw [drop_rdC hlt, Zd2] at HA1
        generalize Zah cons (j : Int) = x at hx0 hx1 hx2 hx3 hx4 hx5 hx6 hl1 hi1 hl2 hi2 hl5 hi5 HA1
        have HI1 := Za.mk hi1
        have HL1 := Za.mk hl1
        clear hi1 hl1
        have HI2 := Za.mk hi2
        have HL2 := Za.mk hl2
        clear hi2 hl2
        have HI5 := Za.mk hi5
        have HL5 := Za.mk hl5
        clear hi5 hl5
        obtain ⟨e, he, HA2⟩ := Option.bind_eq_some_iff.1 HA1
        have HE := Za.mk he
        clear HA HA1 he
        by_cases he0 : e = 0
        · subst he0
          rw [if_pos rfl] at HA2
          go_wp2_with (first | ((with_reducible refine Zax (N := 8) rfl ?_); refine Za7 ?hg (N := 8) ?hd (cs := #[.int .i64 0, .slice none 0 0, .slice none 0 0, .int .i64 0, .int .i64 0, .slice none 0 0, .int .i64 0]) (t := 31) ?hr ?_; (case hd => rfl); (case hg => rfl); (case hr => first | (go_simp; done) | (go_simp; rfl)); intro g8 hg8 w9 hbox hb; have BX := Za.mk hbox; have hcz0 : w9.cell? ⟨g8, 0, none⟩ = some (.int .i64 0) := (Zaj hbox 0).trans rfl; have hfz0 := Zao hbox 0; have hcz1 : w9.cell? ⟨g8, 1, none⟩ = some (.slice none 0 0) := (Zaj hbox 1).trans rfl; have hfz1 := Zao hbox 1; have hcz2 : w9.cell? ⟨g8, 2, none⟩ = some (.slice none 0 0) := (Zaj hbox 2).trans rfl; have hfz2 := Zao hbox 2; have hcz3 : w9.cell? ⟨g8, 3, none⟩ = some (.int .i64 0) := (Zaj hbox 3).trans rfl; have hfz3 := Zao hbox 3; have hcz4 : w9.cell? ⟨g8, 4, none⟩ = some (.int .i64 0) := (Zaj hbox 4).trans rfl; have hfz4 := Zao hbox 4; have hcz5 : w9.cell? ⟨g8, 5, none⟩ = some (.slice none 0 0) := (Zaj hbox 5).trans rfl; have hfz5 := Zao hbox 5; have hcz6 : w9.cell? ⟨g8, 6, none⟩ = some (.int .i64 0) := (Zaj hbox 6).trans rfl; have hfz6 := Zao hbox 6; have BV := Za.mk (Zaf (mvB (Below.refl wq.heap.size wq)) hb); have HG8 : Za (wq.heap.size ≤ g8) := ⟨by rw [hg8]; exact (mvB (Below.refl wq.heap.size wq)).size⟩; clear hbox hb hg8) | (go_at_call 14; go_loud (have B7 := Za.mk (show Below wq.heap.size wq (((((((w9.setCell ⟨g8, 0, none⟩ (.int .i64 x.f0)).setCell ⟨g8, 1, none⟩ (.slice B1 x.f1.length b1)).setCell ⟨g8, 2, none⟩ (.slice B2 x.f2.length b2)).setCell ⟨g8, 3, none⟩ (.int .i64 x.f3)).setCell ⟨g8, 4, none⟩ (.int .i64 x.f4)).setCell ⟨g8, 5, none⟩ (.slice B5 x.f5.length b5)).setCell ⟨g8, 6, none⟩ (.int .i64 x.f6)) from Zac (Zac (Zac (Zac (Zac (Zac (Zac BV.out HG8.out) HG8.out) HG8.out) HG8.out) HG8.out) HG8.out) HG8.out); refine (Zcz.calls k Ad cd d x.f0 B1 b1 x.f1 B2 b2 x.f2 x.f3 x.f4 B5 b5 x.f5 x.f6 _ _ (Kd.Zal HCd.out.2.2 (Zaf BW2.out (mvB B7.out))) HCd.out.2.1 (Kd.Zal HI1.out (mvB B7.out)) HL1.out (Kd.Zal HI2.out (mvB B7.out)) HL2.out (Kd.Zal HI5.out (mvB B7.out)) HL5.out HE.out).mono ?_; rintro e_ w12 ⟨rfl, hb⟩; have BV2 := Za.mk (Zaf (mvB B7.out) hb); clear hb)))
          have h256_ := L256.out
          go_roundg (cons.length - (j + 1))
          case measure => omega
          case rel => exact ⟨j + 1, (by rw [show wrap64 ((j : Int) + 1) = ((j + 1 : Nat) : Int) from by unfold wrap64; omega]), by omega, Nat.le_refl _, ⟨Zaf BW2.out (mvB BV2.out)⟩, ⟨HA2⟩⟩
        rw [if_neg he0] at HA2
        obtain rfl := Option.some.inj HA2
        have h4 := HR.out
        rw [if_neg he0] at h4
        obtain rfl := Option.some.inj h4
        clear h4 HA2
        have de1 : (e == 0) = false := beq_eq_false_iff_ne.2 he0
        have de2 : (e != 0) = true := by simp only [bne, de1, Bool.not_false]
        have de3 : decide (e = 0) = false := decide_eq_false he0
        clear he0
        go_wp2_with (first | ((with_reducible refine Zax (N := 8) rfl ?_); refine Za7 ?hg (N := 8) ?hd (cs := #[.int .i64 0, .slice none 0 0, .slice none 0 0, .int .i64 0, .int .i64 0, .slice none 0 0, .int .i64 0]) (t := 31) ?hr ?_; (case hd => rfl); (case hg => rfl); (case hr => first | (go_simp; done) | (go_simp; rfl)); intro g8 hg8 w9 hbox hb; have BX := Za.mk hbox; have hcz0 : w9.cell? ⟨g8, 0, none⟩ = some (.int .i64 0) := (Zaj hbox 0).trans rfl; have hfz0 := Zao hbox 0; have hcz1 : w9.cell? ⟨g8, 1, none⟩ = some (.slice none 0 0) := (Zaj hbox 1).trans rfl; have hfz1 := Zao hbox 1; have hcz2 : w9.cell? ⟨g8, 2, none⟩ = some (.slice none 0 0) := (Zaj hbox 2).trans rfl; have hfz2 := Zao hbox 2; have hcz3 : w9.cell? ⟨g8, 3, none⟩ = some (.int .i64 0) := (Zaj hbox 3).trans rfl; have hfz3 := Zao hbox 3; have hcz4 : w9.cell? ⟨g8, 4, none⟩ = some (.int .i64 0) := (Zaj hbox 4).trans rfl; have hfz4 := Zao hbox 4; have hcz5 : w9.cell? ⟨g8, 5, none⟩ = some (.slice none 0 0) := (Zaj hbox 5).trans rfl; have hfz5 := Zao hbox 5; have hcz6 : w9.cell? ⟨g8, 6, none⟩ = some (.int .i64 0) := (Zaj hbox 6).trans rfl; have hfz6 := Zao hbox 6; have BV := Za.mk (Zaf (mvB (Below.refl wq.heap.size wq)) hb); have HG8 : Za (wq.heap.size ≤ g8) := ⟨by rw [hg8]; exact (mvB (Below.refl wq.heap.size wq)).size⟩; clear hbox hb hg8) | (go_at_call 14; go_loud (have B7 := Za.mk (show Below wq.heap.size wq (((((((w9.setCell ⟨g8, 0, none⟩ (.int .i64 x.f0)).setCell ⟨g8, 1, none⟩ (.slice B1 x.f1.length b1)).setCell ⟨g8, 2, none⟩ (.slice B2 x.f2.length b2)).setCell ⟨g8, 3, none⟩ (.int .i64 x.f3)).setCell ⟨g8, 4, none⟩ (.int .i64 x.f4)).setCell ⟨g8, 5, none⟩ (.slice B5 x.f5.length b5)).setCell ⟨g8, 6, none⟩ (.int .i64 x.f6)) from Zac (Zac (Zac (Zac (Zac (Zac (Zac BV.out HG8.out) HG8.out) HG8.out) HG8.out) HG8.out) HG8.out) HG8.out); refine (Zcz.calls k Ad cd d x.f0 B1 b1 x.f1 B2 b2 x.f2 x.f3 x.f4 B5 b5 x.f5 x.f6 _ _ (Kd.Zal HCd.out.2.2 (Zaf BW2.out (mvB B7.out))) HCd.out.2.1 (Kd.Zal HI1.out (mvB B7.out)) HL1.out (Kd.Zal HI2.out (mvB B7.out)) HL2.out (Kd.Zal HI5.out (mvB B7.out)) HL5.out HE.out).mono ?_; rintro e_ w12 ⟨rfl, hb⟩; have BV2 := Za.mk (Zaf (mvB B7.out) hb); clear hb)))
        go_ret
        exact ⟨rfl, Zaf HWQ.out (mvB BV2.out)⟩
    have hltz : (i : Int) < (vars.length : Int) := by omega
    have p1_ : decide ((i : Int) < (vars.length : Int)) = true := decide_eq_true hltz
    have p2_ : decide ((0 : Int) ≤ (i : Int)) = true := decide_eq_true (by omega)
    obtain ⟨ad, A5, c5, e_, hx0, hx1, hl1, hi1⟩ := Zg (Kd.Zal HR0.out HWR.out) (i : Int) (by omega) hltz
    cases e_
    simp only [Int.toNat_natCast] at hx0 hx1
    have HA1 := HA.out
    rw [drop_rd hlt, Zd3] at HA1
    have HTK := Za.mk (take_rd hlt)
    generalize Za4 vars (i : Int) = x at hx0 hx1 hl1 hi1 HA1 HTK
    have HI1 := Za.mk hi1
    have HL1 := Za.mk hl1
    clear hi1 hl1 HA
    obtain ⟨nm, hnm, HA2⟩ := Option.bind_eq_some_iff.1 HA1
    have HN := Za.mk hnm
    clear HA1 hnm
    have HGB : Za (wb.heap.size ≤ wr.heap.size) := ⟨BW.out.size⟩
    cases nm with
    | false =>
      rw [if_pos rfl] at HA2
      obtain rfl := Option.some.inj HA2
      have h4 := H2.out
      rw [if_neg (by decide)] at h4
      obtain rfl := Option.some.inj h4
      clear h4 HA2
      go_wp2_with (first | ((with_reducible refine Zax (N := 5) rfl ?_); refine Za7 ?hg (N := 5) ?hd (cs := #[.string (⟨#[]⟩ : ByteArray), .slice none 0 0]) (t := 50) ?hr ?_; (case hd => rfl); (case hg => rfl); (case hr => first | (go_simp; done) | (go_simp; rfl)); intro g5 hg5 w9 hbox hb; have BX := Za.mk hbox; have hcz0 : w9.cell? ⟨g5, 0, none⟩ = some (.string (⟨#[]⟩ : ByteArray)) := (Zaj hbox 0).trans rfl; have hcz1 : w9.cell? ⟨g5, 1, none⟩ = some (.slice none 0 0) := (Zaj hbox 1).trans rfl; have hfz0 := Zao hbox 0; have hfz1 := Zao hbox 1; have BV := Za.mk (Zaf (mvB (Below.refl wr.heap.size wr)) hb); have HG5 : Za (wr.heap.size ≤ g5) := ⟨by rw [hg5]; exact (mvB (Below.refl wr.heap.size wr)).size⟩; have HM5 : Za (wb.heap.size ≠ g5) := ⟨by rw [hg5]; exact Nat.ne_of_lt (Nat.lt_of_lt_of_le HMB.out (mvB (Below.refl wr.heap.size wr)).size)⟩; have HS9 := Za.mk (SetN.below (SetN.below HS.out (mvB (Below.refl wr.heap.size wr))) hb); clear hbox hb hg5) | (go_at_call 21; go_loud (refine (Zcf.calls x.f0 _ _ HN.out).mono ?_; rintro e w12 ⟨rfl, hb⟩; have BX2 := Za.mk (Zap (mvK (Zaq (cs' := #[.string x.f0, .slice A5 x.f1.length c5]) (Zaq (cs' := #[.string x.f0, .slice none 0 0]) BX.out 0 (.string x.f0) rfl) 1 (.slice A5 x.f1.length c5) rfl)) hb); have BV2 := Za.mk (Zaf (mvB (show Below wr.heap.size wr ((w9.setCell ⟨g5, 0, none⟩ (.string x.f0)).setCell ⟨g5, 1, none⟩ (.slice A5 x.f1.length c5)) from Zac (Zac BV.out HG5.out) HG5.out)) hb); have HS2 := Za.mk (SetN.below (SetN.below (show SetN ((w9.setCell ⟨g5, 0, none⟩ (.string x.f0)).setCell ⟨g5, 1, none⟩ (.slice A5 x.f1.length c5)) _ _ from SetN.far HS9.out HM5.out) (mvB (Below.refl ((w9.setCell ⟨g5, 0, none⟩ (.string x.f0)).setCell ⟨g5, 1, none⟩ (.slice A5 x.f1.length c5)).heap.size ((w9.setCell ⟨g5, 0, none⟩ (.string x.f0)).setCell ⟨g5, 1, none⟩ (.slice A5 x.f1.length c5))))) hb); have hcy0 : w12.cell? ⟨g5, 0, none⟩ = some (.string x.f0) := (Zaj BX2.out 0).trans rfl; have hcy1 : w12.cell? ⟨g5, 1, none⟩ = some (.slice A5 x.f1.length c5) := (Zaj BX2.out 1).trans rfl; clear hb)))
      go_ret
      exact ⟨rfl, Zaf HWR.out (mvB BV2.out)⟩
    | true =>
      rw [if_neg (by decide)] at HA2
      have HSZ := Za.mk (name_size HN.out)
      generalize hhad : hasN ((vars.take i).map (·.f0)) x.f0 = had at HA2
      have HD := Za.mk hhad
      clear hhad
      cases had with
      | true =>
        rw [if_pos rfl] at HA2
        obtain rfl := Option.some.inj HA2
        have h4 := H2.out
        rw [if_neg (by decide)] at h4
        obtain rfl := Option.some.inj h4
        clear h4 HA2
        go_wp2_with (first | ((with_reducible refine Zax (N := 5) rfl ?_); refine Za7 ?hg (N := 5) ?hd (cs := #[.string (⟨#[]⟩ : ByteArray), .slice none 0 0]) (t := 50) ?hr ?_; (case hd => rfl); (case hg => rfl); (case hr => first | (go_simp; done) | (go_simp; rfl)); intro g5 hg5 w9 hbox hb; have BX := Za.mk hbox; have hcz0 : w9.cell? ⟨g5, 0, none⟩ = some (.string (⟨#[]⟩ : ByteArray)) := (Zaj hbox 0).trans rfl; have hcz1 : w9.cell? ⟨g5, 1, none⟩ = some (.slice none 0 0) := (Zaj hbox 1).trans rfl; have hfz0 := Zao hbox 0; have hfz1 := Zao hbox 1; have BV := Za.mk (Zaf (mvB (Below.refl wr.heap.size wr)) hb); have HG5 : Za (wr.heap.size ≤ g5) := ⟨by rw [hg5]; exact (mvB (Below.refl wr.heap.size wr)).size⟩; have HM5 : Za (wb.heap.size ≠ g5) := ⟨by rw [hg5]; exact Nat.ne_of_lt (Nat.lt_of_lt_of_le HMB.out (mvB (Below.refl wr.heap.size wr)).size)⟩; have HS9 := Za.mk (SetN.below (SetN.below HS.out (mvB (Below.refl wr.heap.size wr))) hb); clear hbox hb hg5) | (go_at_call 21; go_loud (refine (Zcf.calls x.f0 _ _ HN.out).mono ?_; rintro e w12 ⟨rfl, hb⟩; have BX2 := Za.mk (Zap (mvK (Zaq (cs' := #[.string x.f0, .slice A5 x.f1.length c5]) (Zaq (cs' := #[.string x.f0, .slice none 0 0]) BX.out 0 (.string x.f0) rfl) 1 (.slice A5 x.f1.length c5) rfl)) hb); have BV2 := Za.mk (Zaf (mvB (show Below wr.heap.size wr ((w9.setCell ⟨g5, 0, none⟩ (.string x.f0)).setCell ⟨g5, 1, none⟩ (.slice A5 x.f1.length c5)) from Zac (Zac BV.out HG5.out) HG5.out)) hb); have HS2 := Za.mk (SetN.below (SetN.below (show SetN ((w9.setCell ⟨g5, 0, none⟩ (.string x.f0)).setCell ⟨g5, 1, none⟩ (.slice A5 x.f1.length c5)) _ _ from SetN.far HS9.out HM5.out) (mvB (Below.refl ((w9.setCell ⟨g5, 0, none⟩ (.string x.f0)).setCell ⟨g5, 1, none⟩ (.slice A5 x.f1.length c5)).heap.size ((w9.setCell ⟨g5, 0, none⟩ (.string x.f0)).setCell ⟨g5, 1, none⟩ (.slice A5 x.f1.length c5))))) hb); have hcy0 : w12.cell? ⟨g5, 0, none⟩ = some (.string x.f0) := (Zaj BX2.out 0).trans rfl; have hcy1 : w12.cell? ⟨g5, 1, none⟩ = some (.slice A5 x.f1.length c5) := (Zaj BX2.out 1).trans rfl; clear hb)) | (refine Zdx rfl (.tmp 34) (.tmp 36) rfl rfl HS2.out rfl HSZ.out ?_; rw [HD.out]))
        go_ret
        exact ⟨rfl, Zaf HWR.out (mvB BV2.out)⟩
      | false =>
        rw [if_neg (by decide)] at HA2
        by_cases hl0 : x.f1.length = 0
        · rw [if_pos hl0] at HA2
          obtain rfl := Option.some.inj HA2
          have h4 := H2.out
          rw [if_neg (by decide)] at h4
          obtain rfl := Option.some.inj h4
          clear h4 HA2
          have dl1 : ((x.f1.length : Int) == 0) = true := beq_iff_eq.2 (by omega)
          have dl2 : decide ((x.f1.length : Int) = 0) = true := decide_eq_true (by omega)
          have dl3 : decide (x.f1.length = 0) = true := decide_eq_true hl0
          have dl4 : (x.f1.length == 0) = true := beq_iff_eq.2 hl0
          clear hl0
          go_wp2_with (first | ((with_reducible refine Zax (N := 5) rfl ?_); refine Za7 ?hg (N := 5) ?hd (cs := #[.string (⟨#[]⟩ : ByteArray), .slice none 0 0]) (t := 50) ?hr ?_; (case hd => rfl); (case hg => rfl); (case hr => first | (go_simp; done) | (go_simp; rfl)); intro g5 hg5 w9 hbox hb; have BX := Za.mk hbox; have hcz0 : w9.cell? ⟨g5, 0, none⟩ = some (.string (⟨#[]⟩ : ByteArray)) := (Zaj hbox 0).trans rfl; have hcz1 : w9.cell? ⟨g5, 1, none⟩ = some (.slice none 0 0) := (Zaj hbox 1).trans rfl; have hfz0 := Zao hbox 0; have hfz1 := Zao hbox 1; have BV := Za.mk (Zaf (mvB (Below.refl wr.heap.size wr)) hb); have HG5 : Za (wr.heap.size ≤ g5) := ⟨by rw [hg5]; exact (mvB (Below.refl wr.heap.size wr)).size⟩; have HM5 : Za (wb.heap.size ≠ g5) := ⟨by rw [hg5]; exact Nat.ne_of_lt (Nat.lt_of_lt_of_le HMB.out (mvB (Below.refl wr.heap.size wr)).size)⟩; have HS9 := Za.mk (SetN.below (SetN.below HS.out (mvB (Below.refl wr.heap.size wr))) hb); clear hbox hb hg5) | (go_at_call 21; go_loud (refine (Zcf.calls x.f0 _ _ HN.out).mono ?_; rintro e w12 ⟨rfl, hb⟩; have BX2 := Za.mk (Zap (mvK (Zaq (cs' := #[.string x.f0, .slice A5 x.f1.length c5]) (Zaq (cs' := #[.string x.f0, .slice none 0 0]) BX.out 0 (.string x.f0) rfl) 1 (.slice A5 x.f1.length c5) rfl)) hb); have BV2 := Za.mk (Zaf (mvB (show Below wr.heap.size wr ((w9.setCell ⟨g5, 0, none⟩ (.string x.f0)).setCell ⟨g5, 1, none⟩ (.slice A5 x.f1.length c5)) from Zac (Zac BV.out HG5.out) HG5.out)) hb); have HS2 := Za.mk (SetN.below (SetN.below (show SetN ((w9.setCell ⟨g5, 0, none⟩ (.string x.f0)).setCell ⟨g5, 1, none⟩ (.slice A5 x.f1.length c5)) _ _ from SetN.far HS9.out HM5.out) (mvB (Below.refl ((w9.setCell ⟨g5, 0, none⟩ (.string x.f0)).setCell ⟨g5, 1, none⟩ (.slice A5 x.f1.length c5)).heap.size ((w9.setCell ⟨g5, 0, none⟩ (.string x.f0)).setCell ⟨g5, 1, none⟩ (.slice A5 x.f1.length c5))))) hb); have hcy0 : w12.cell? ⟨g5, 0, none⟩ = some (.string x.f0) := (Zaj BX2.out 0).trans rfl; have hcy1 : w12.cell? ⟨g5, 1, none⟩ = some (.slice A5 x.f1.length c5) := (Zaj BX2.out 1).trans rfl; clear hb)) | (refine Zdx rfl (.tmp 34) (.tmp 36) rfl rfl HS2.out rfl HSZ.out ?_; rw [HD.out]))
          go_ret
          exact ⟨rfl, Zaf HWR.out (mvB BV2.out)⟩
        rw [if_neg hl0] at HA2
        obtain ⟨e, he, HA3⟩ := Option.bind_eq_some_iff.1 HA2
        have HE := Za.mk he
        clear HA2 he
        have dl1 : ((x.f1.length : Int) == 0) = false := beq_eq_false_iff_ne.2 (by omega)
        have dl2 : decide ((x.f1.length : Int) = 0) = false := decide_eq_false (by omega)
        have dl3 : decide (x.f1.length = 0) = false := decide_eq_false hl0
        have dl4 : (x.f1.length == 0) = false := beq_eq_false_iff_ne.2 hl0
        clear hl0
        by_cases he0 : e = 0
        rotate_left
        · rw [if_neg he0] at HA3
          obtain rfl := Option.some.inj HA3
          have h4 := H2.out
          rw [if_neg (by decide)] at h4
          obtain rfl := Option.some.inj h4
          clear h4 HA3
          have de1 : (e == 0) = false := beq_eq_false_iff_ne.2 he0
          have de2 : (e != 0) = true := by simp only [bne, de1, Bool.not_false]
          have de3 : decide (e = 0) = false := decide_eq_false he0
          clear he0
          go_wp2_with (first | ((with_reducible refine Zax (N := 5) rfl ?_); refine Za7 ?hg (N := 5) ?hd (cs := #[.string (⟨#[]⟩ : ByteArray), .slice none 0 0]) (t := 50) ?hr ?_; (case hd => rfl); (case hg => rfl); (case hr => first | (go_simp; done) | (go_simp; rfl)); intro g5 hg5 w9 hbox hb; have BX := Za.mk hbox; have hcz0 : w9.cell? ⟨g5, 0, none⟩ = some (.string (⟨#[]⟩ : ByteArray)) := (Zaj hbox 0).trans rfl; have hcz1 : w9.cell? ⟨g5, 1, none⟩ = some (.slice none 0 0) := (Zaj hbox 1).trans rfl; have hfz0 := Zao hbox 0; have hfz1 := Zao hbox 1; have BV := Za.mk (Zaf (mvB (Below.refl wr.heap.size wr)) hb); have HG5 : Za (wr.heap.size ≤ g5) := ⟨by rw [hg5]; exact (mvB (Below.refl wr.heap.size wr)).size⟩; have HM5 : Za (wb.heap.size ≠ g5) := ⟨by rw [hg5]; exact Nat.ne_of_lt (Nat.lt_of_lt_of_le HMB.out (mvB (Below.refl wr.heap.size wr)).size)⟩; have HS9 := Za.mk (SetN.below (SetN.below HS.out (mvB (Below.refl wr.heap.size wr))) hb); clear hbox hb hg5) | (go_at_call 21; go_loud (refine (Zcf.calls x.f0 _ _ HN.out).mono ?_; rintro e w12 ⟨rfl, hb⟩; have BX2 := Za.mk (Zap (mvK (Zaq (cs' := #[.string x.f0, .slice A5 x.f1.length c5]) (Zaq (cs' := #[.string x.f0, .slice none 0 0]) BX.out 0 (.string x.f0) rfl) 1 (.slice A5 x.f1.length c5) rfl)) hb); have BV2 := Za.mk (Zaf (mvB (show Below wr.heap.size wr ((w9.setCell ⟨g5, 0, none⟩ (.string x.f0)).setCell ⟨g5, 1, none⟩ (.slice A5 x.f1.length c5)) from Zac (Zac BV.out HG5.out) HG5.out)) hb); have HS2 := Za.mk (SetN.below (SetN.below (show SetN ((w9.setCell ⟨g5, 0, none⟩ (.string x.f0)).setCell ⟨g5, 1, none⟩ (.slice A5 x.f1.length c5)) _ _ from SetN.far HS9.out HM5.out) (mvB (Below.refl ((w9.setCell ⟨g5, 0, none⟩ (.string x.f0)).setCell ⟨g5, 1, none⟩ (.slice A5 x.f1.length c5)).heap.size ((w9.setCell ⟨g5, 0, none⟩ (.string x.f0)).setCell ⟨g5, 1, none⟩ (.slice A5 x.f1.length c5))))) hb); have hcy0 : w12.cell? ⟨g5, 0, none⟩ = some (.string x.f0) := (Zaj BX2.out 0).trans rfl; have hcy1 : w12.cell? ⟨g5, 1, none⟩ = some (.slice A5 x.f1.length c5) := (Zaj BX2.out 1).trans rfl; clear hb)) | (refine Zdx rfl (.tmp 34) (.tmp 36) rfl rfl HS2.out rfl HSZ.out ?_; rw [HD.out]) | (go_at_call 57; go_loud (refine (Zdz.calls k A5 c5 x.f1 _ _ (Kd.Zal HI1.out (mvB BV2.out)) HL1.out HE.out).mono ?_; rintro e_ w13 ⟨rfl, hb⟩; have BV3 := Za.mk (Zaf (mvB BV2.out) hb); have HS3 := Za.mk (SetN.below (SetN.below HS2.out (mvB (Below.refl w12.heap.size w12))) hb); have hcw0 : w13.cell? ⟨g5, 0, none⟩ = some (.string x.f0) := (Zaj (Zap (mvK BX2.out) hb) 0).trans rfl; have hcw1 : w13.cell? ⟨g5, 1, none⟩ = some (.slice A5 x.f1.length c5) := (Zaj (Zap (mvK BX2.out) hb) 1).trans rfl; clear hb)))
          go_ret
          exact ⟨rfl, Zaf HWR.out (mvB BV3.out)⟩
        subst he0
        rw [if_pos rfl] at HA3
        have HLN : Za (((vars.take i).map (·.f0)).length < maxLen) := ⟨Nat.lt_of_le_of_lt (Nat.le_trans (by simp; omega) L64.out) (by decide)⟩
        go_wp2_with (first | ((with_reducible refine Zax (N := 5) rfl ?_); refine Za7 ?hg (N := 5) ?hd (cs := #[.string (⟨#[]⟩ : ByteArray), .slice none 0 0]) (t := 50) ?hr ?_; (case hd => rfl); (case hg => rfl); (case hr => first | (go_simp; done) | (go_simp; rfl)); intro g5 hg5 w9 hbox hb; have BX := Za.mk hbox; have hcz0 : w9.cell? ⟨g5, 0, none⟩ = some (.string (⟨#[]⟩ : ByteArray)) := (Zaj hbox 0).trans rfl; have hcz1 : w9.cell? ⟨g5, 1, none⟩ = some (.slice none 0 0) := (Zaj hbox 1).trans rfl; have hfz0 := Zao hbox 0; have hfz1 := Zao hbox 1; have BV := Za.mk (Zaf (mvB (Below.refl wr.heap.size wr)) hb); have HG5 : Za (wr.heap.size ≤ g5) := ⟨by rw [hg5]; exact (mvB (Below.refl wr.heap.size wr)).size⟩; have HM5 : Za (wb.heap.size ≠ g5) := ⟨by rw [hg5]; exact Nat.ne_of_lt (Nat.lt_of_lt_of_le HMB.out (mvB (Below.refl wr.heap.size wr)).size)⟩; have HS9 := Za.mk (SetN.below (SetN.below HS.out (mvB (Below.refl wr.heap.size wr))) hb); clear hbox hb hg5) | (go_at_call 21; go_loud (refine (Zcf.calls x.f0 _ _ HN.out).mono ?_; rintro e w12 ⟨rfl, hb⟩; have BX2 := Za.mk (Zap (mvK (Zaq (cs' := #[.string x.f0, .slice A5 x.f1.length c5]) (Zaq (cs' := #[.string x.f0, .slice none 0 0]) BX.out 0 (.string x.f0) rfl) 1 (.slice A5 x.f1.length c5) rfl)) hb); have BV2 := Za.mk (Zaf (mvB (show Below wr.heap.size wr ((w9.setCell ⟨g5, 0, none⟩ (.string x.f0)).setCell ⟨g5, 1, none⟩ (.slice A5 x.f1.length c5)) from Zac (Zac BV.out HG5.out) HG5.out)) hb); have HS2 := Za.mk (SetN.below (SetN.below (show SetN ((w9.setCell ⟨g5, 0, none⟩ (.string x.f0)).setCell ⟨g5, 1, none⟩ (.slice A5 x.f1.length c5)) _ _ from SetN.far HS9.out HM5.out) (mvB (Below.refl ((w9.setCell ⟨g5, 0, none⟩ (.string x.f0)).setCell ⟨g5, 1, none⟩ (.slice A5 x.f1.length c5)).heap.size ((w9.setCell ⟨g5, 0, none⟩ (.string x.f0)).setCell ⟨g5, 1, none⟩ (.slice A5 x.f1.length c5))))) hb); have hcy0 : w12.cell? ⟨g5, 0, none⟩ = some (.string x.f0) := (Zaj BX2.out 0).trans rfl; have hcy1 : w12.cell? ⟨g5, 1, none⟩ = some (.slice A5 x.f1.length c5) := (Zaj BX2.out 1).trans rfl; clear hb)) | (refine Zdx rfl (.tmp 34) (.tmp 36) rfl rfl HS2.out rfl HSZ.out ?_; rw [HD.out]) | (go_at_call 57; go_loud (refine (Zdz.calls k A5 c5 x.f1 _ _ (Kd.Zal HI1.out (mvB BV2.out)) HL1.out HE.out).mono ?_; rintro e_ w13 ⟨rfl, hb⟩; have BV3 := Za.mk (Zaf (mvB BV2.out) hb); have HS3 := Za.mk (SetN.below (SetN.below HS2.out (mvB (Below.refl w12.heap.size w12))) hb); have hcw0 : w13.cell? ⟨g5, 0, none⟩ = some (.string x.f0) := (Zaj (Zap (mvK BX2.out) hb) 0).trans rfl; have hcw1 : w13.cell? ⟨g5, 1, none⟩ = some (.slice A5 x.f1.length c5) := (Zaj (Zap (mvK BX2.out) hb) 1).trans rfl; clear hb)) | (refine wpList_putN rfl (.tmp 49) (.tmp 51) (.const (.bool true)) rfl rfl HS3.out rfl rfl HSZ.out HLN.out ?_; intro w14 hm14 hg14; have HS4 := Za.mk hm14; have BV4 := Za.mk (hg14.size); have BW4 := Za.mk ((Zaf BW.out (mvB BV3.out)).grown hg14 (Nat.le_trans HGB.out (mvB BV3.out).size) (fun k_ e_ => by injection e_ with e_; rw [← e_]; exact Nat.le_refl _)); clear hm14 hg14))
        have h64_ := L64.out
        go_roundg (vars.length - (i + 1))
        case measure => omega
        case rel => exact ⟨i + 1, (by rw [show wrap64 ((i : Int) + 1) = ((i + 1 : Nat) : Int) from by unfold wrap64; omega]), by omega, Nat.le_refl _, ⟨mvB BW4.out⟩, ⟨by rw [HTK.out]; exact SetN.below HS4.out (mvB (Below.refl w14.heap.size w14))⟩, ⟨by rw [HTK.out]; exact HA3⟩⟩
end Go.Proofs.Ytkgjaklnbgdmiaa.P
/- slices.EqualFunc: over lists of numbers, over variables, over constraints. -/
namespace Go.Proofs.Ytkgjaklnbgdmiaa.P
open Go.RowKit Go.Shelf Go.Proofs.YtkgjaklnbgdmiaaW.PrintWords Go.Proofs.YtkgjaklnbgdmiaaW.PrintLast Go.Proofs.YtkgjaklnbgdmiaaW.PrintMore
set_option linter.unusedVariables false
set_option linter.unusedSimpArgs false
def eqF {α : Type} (f : α → α → Option Bool) : List α → List α → Option Bool
  | x :: xs, y :: ys => (f x y).bind fun b => if b = true then eqF f xs ys else some false
  | _, _ => some true
def equalF {α : Type} (f : α → α → Option Bool) (xs ys : List α) : Option Bool := if xs.length = ys.length then eqF f xs ys else some false
theorem eqF_nil {α : Type} (f : α → α → Option Bool) (ys : List α) : eqF f [] ys = some true := by
  unfold eqF
  rfl
theorem cellE {W W' : World} {a : Addr} {v : Value} (hb : Below W.heap.size W W') (hc : W.cell? a = some v) : W'.cell? a = some v := (hb.cell (World.block_lt_of_cell? W _ hc)).trans hc
theorem Zed {α : Type} (z : α) {xs : List α} {i : Nat} (hi : i < xs.length) : xs.drop i = xs.getD i z :: xs.drop (i + 1) := by
  rw [List.drop_eq_getElem_cons hi]
  simp [List.getD_eq_getElem?_getD, List.getElem?_eq_getElem hi]
set_option maxHeartbeats 4000000 in
set_option maxRecDepth 100000 in
theorem equalFunc_L (f : List Int → List Int → Option Bool) (g : Nat) (lb : Array Value) (eg : ∀ args w, (callFunc g args).run Try.prog w = .ok (.enter g args) w) (A0 : Option Addr) (c0 : Nat) (xs : List (List Int)) (A1 : Option Addr) (c1 : Nat) (ys : List (List Int)) (r : Bool) (w : World) (hr0 : Kd.C (Kd.slice 3 (Kd.int .i64)) w A0 xs.length xs) (hr1 : Kd.C (Kd.slice 3 (Kd.int .i64)) w A1 ys.length ys)
    (hp : ∀ (x y : List Int) (b : Bool) (W : World) (A1A : Option Addr) (c1A : Nat) (A1B : Option Addr) (c1B : Nat), f x y = some b → Below w.heap.size w W → x.length ≤ c1A → Kd.C (Kd.int .i64) W A1A x.length x → y.length ≤ c1B → Kd.C (Kd.int .i64) W A1B y.length y → Calls Try.prog g (#[.slice A1A x.length c1A, .slice A1B y.length c1B] ++ lb) W fun e w' => e = .returned (.bool b) ∧ Below W.heap.size W w')
    (h : equalF f xs ys = some r) : Calls Try.prog 84 #[.slice A0 xs.length c0, .slice A1 ys.length c1, .func (.func g) #[] lb] w fun e w' => e = .returned (.bool r) ∧ Below w.heap.size w w' := by
  have hlen : xs.length ≤ 9223372036854775807 := hr0.2.1
  have HR0 := Za.mk hr0
  have HR1 := Za.mk hr1
  have HP := Za.mk hp
  clear hr0 hr1 hp
  unfold equalF at h
  obtain ⟨wo, rfl⟩ : ∃ wo : World, wo = w := ⟨_, rfl⟩
  by_cases hl : xs.length = ys.length
  rotate_left
  · rw [if_neg hl] at h
    obtain rfl := Option.some.inj h
    clear h
    have n1_ : ((xs.length : Int) == (ys.length : Int)) = false := beq_eq_false_iff_ne.2 (by omega)
    have n2_ : ((xs.length : Int) != (ys.length : Int)) = true := by simp only [bne, n1_, Bool.not_false]
    have n3_ : decide ((xs.length : Int) = (ys.length : Int)) = false := decide_eq_false (by omega)
    have n4_ : decide (xs.length = ys.length) = false := decide_eq_false hl
    clear hl
    go_enter Try.func84, Try.ntmps84
    go_wp2
    go_ret
    exact ⟨rfl, Below.refl _ _⟩
  rw [if_pos hl] at h
  have HL := Za.mk hl
  have H0 := Za.mk h
  clear h
  have n1_ : ((xs.length : Int) == (ys.length : Int)) = true := beq_iff_eq.2 (by omega)
  have n2_ : ((xs.length : Int) != (ys.length : Int)) = false := by simp only [bne, n1_, Bool.not_true]
  have n3_ : decide ((xs.length : Int) = (ys.length : Int)) = true := decide_eq_true (by omega)
  have n4_ : decide (xs.length = ys.length) = true := decide_eq_true hl
  clear hl
  go_enter Try.func84, Try.ntmps84
  go_wp2
  go_loopg [17] xs.length (fun gg s17 wr => ∃ i : Nat, i ≤ xs.length ∧ xs.length - i ≤ gg ∧ s17 = .int .i64 i ∧ Za (Below wo.heap.size wo wr) ∧ Za (eqF f (xs.drop i) (ys.drop i) = some r))
  case atStart => exact ⟨0, Nat.zero_le _, by omega, rfl, ⟨Below.refl _ _⟩, ⟨by simpa using H0.out⟩⟩
  case round =>
    obtain ⟨i, hi, hg, rfl, BW, HA⟩ := hrel
    by_cases hlt : i < xs.length
    rotate_left
    · obtain rfl : i = xs.length := by omega
      have HA1 := HA.out
      rw [List.drop_length, eqF_nil] at HA1
      obtain rfl := Option.some.inj HA1
      clear HA HA1 hlt
      have p0_ : decide ((xs.length : Int) < (xs.length : Int)) = false := decide_eq_false (by omega)
      go_wp2
      go_ret
      exact ⟨rfl, BW.out⟩
    have hlt2 : i < ys.length := by have := HL.out; omega
    obtain ⟨ad, A1A, c1A, e0_, hx0, lA1A, gA1A⟩ := at_L1 (Kd.Zal HR0.out BW.out) (i : Int) (by omega) (by omega)
    obtain ⟨ad2, A1B, c1B, e1_, hy0, lA1B, gA1B⟩ := at_L1 (Kd.Zal HR1.out BW.out) (i : Int) (by omega) (by omega)
    subst e0_
    subst e1_
    simp only [Int.toNat_natCast] at hx0 hy0
    have HA1 := HA.out
    rw [Zed ([] : List Int) hlt, Zed ([] : List Int) hlt2, eqF] at HA1
    have q0_ : Zc5 xs (i : Int) = xs.getD i ([] : List Int) := by simp [Zc5]
    have q1_ : Zc5 ys (i : Int) = ys.getD i ([] : List Int) := by simp [Zc5]
    rw [q0_] at hx0 lA1A gA1A
    rw [q1_] at hy0 lA1B gA1B
    clear q0_ q1_
    generalize xs.getD i ([] : List Int) = x at hx0 lA1A gA1A HA1
    generalize ys.getD i ([] : List Int) = y at hy0 lA1B gA1B HA1
    obtain ⟨b, hb1, HA2⟩ := Option.bind_eq_some_iff.1 HA1
    have hcall := fun (W : World) (hW : Below wr.heap.size wr W) => HP.out x y b W A1A c1A A1B c1B hb1 (Zaf BW.out hW) lA1A (Kd.Zal gA1A hW) lA1B (Kd.Zal gA1B hW)
    have CC := Za.mk hcall
    clear hcall HA HA1 hb1 lA1A gA1A lA1B gA1B
    have p0_ : decide ((i : Int) < (xs.length : Int)) = true := decide_eq_true (by omega)
    have p1_ : decide ((0 : Int) ≤ (i : Int)) = true := decide_eq_true (by omega)
    have p2_ : decide ((i : Int) < (ys.length : Int)) = true := decide_eq_true (by omega)
    cases b with
    | false =>
      rw [if_neg (by decide)] at HA2
      obtain rfl := Option.some.inj HA2
      clear HA2
      go_wp2_with (first | (go_at_fn g; go_loud (have B9 := Za.mk (Below.refl wr.heap.size wr); refine (CC.out _ (mvB B9.out)).mono ?_; rintro e_ w12 ⟨rfl, hb⟩; have BE := Za.mk (Zaf (mvB B9.out) hb); clear hb)))
      go_ret
      exact ⟨rfl, Zaf BW.out (mvB BE.out)⟩
    | true =>
      rw [if_pos rfl] at HA2
      go_wp2_with (first | (go_at_fn g; go_loud (have B9 := Za.mk (Below.refl wr.heap.size wr); refine (CC.out _ (mvB B9.out)).mono ?_; rintro e_ w12 ⟨rfl, hb⟩; have BE := Za.mk (Zaf (mvB B9.out) hb); clear hb)))
      go_roundg (xs.length - (i + 1))
      case measure => omega
      case rel => exact ⟨i + 1, by omega, by omega, (by first | go_num | (rw [show wrap64 ((i : Int) + 1) = ((i + 1 : Nat) : Int) from by unfold wrap64; omega])), ⟨Zaf BW.out (mvB BE.out)⟩, ⟨HA2⟩⟩
set_option maxHeartbeats 4000000 in
set_option maxRecDepth 100000 in
theorem equalFunc_V (f : S50 → S50 → Option Bool) (g : Nat) (lb : Array Value) (eg : ∀ args w, (callFunc g args).run Try.prog w = .ok (.enter g args) w) (A0 : Option Addr) (c0 : Nat) (xs : List (S50)) (A1 : Option Addr) (c1 : Nat) (ys : List (S50)) (r : Bool) (w : World) (hr0 : Kd.C k50 w A0 xs.length xs) (hr1 : Kd.C k50 w A1 ys.length ys)
    (hp : ∀ (x y : S50) (b : Bool) (W : World) (A1A : Option Addr) (c1A : Nat) (A1B : Option Addr) (c1B : Nat), f x y = some b → Below w.heap.size w W → x.f1.length ≤ c1A → Kd.C k48 W A1A x.f1.length x.f1 → y.f1.length ≤ c1B → Kd.C k48 W A1B y.f1.length y.f1 → Calls Try.prog g (#[.agg #[.string x.f0, .slice A1A x.f1.length c1A], .agg #[.string y.f0, .slice A1B y.f1.length c1B]] ++ lb) W fun e w' => e = .returned (.bool b) ∧ Below W.heap.size W w')
    (h : equalF f xs ys = some r) : Calls Try.prog 51 #[.slice A0 xs.length c0, .slice A1 ys.length c1, .func (.func g) #[] lb] w fun e w' => e = .returned (.bool r) ∧ Below w.heap.size w w' := by
  have hlen : xs.length ≤ 9223372036854775807 := hr0.2.1
  have HR0 := Za.mk hr0
  have HR1 := Za.mk hr1
  have HP := Za.mk hp
  clear hr0 hr1 hp
  unfold equalF at h
  obtain ⟨wo, rfl⟩ : ∃ wo : World, wo = w := ⟨_, rfl⟩
  by_cases hl : xs.length = ys.length
  rotate_left
  · rw [if_neg hl] at h
    obtain rfl := Option.some.inj h
    clear h
    have n1_ : ((xs.length : Int) == (ys.length : Int)) = false := beq_eq_false_iff_ne.2 (by omega)
    have n2_ : ((xs.length : Int) != (ys.length : Int)) = true := by simp only [bne, n1_, Bool.not_false]
    have n3_ : decide ((xs.length : Int) = (ys.length : Int)) = false := decide_eq_false (by omega)
    have n4_ : decide (xs.length = ys.length) = false := decide_eq_false hl
    clear hl
    go_enter Try.func51, Try.ntmps51
    go_wp2
    go_ret
    exact ⟨rfl, Below.refl _ _⟩
  rw [if_pos hl] at h
  have HL := Za.mk hl
  have H0 := Za.mk h
  clear h
  have n1_ : ((xs.length : Int) == (ys.length : Int)) = true := beq_iff_eq.2 (by omega)
  have n2_ : ((xs.length : Int) != (ys.length : Int)) = false := by simp only [bne, n1_, Bool.not_true]
  have n3_ : decide ((xs.length : Int) = (ys.length : Int)) = true := decide_eq_true (by omega)
  have n4_ : decide (xs.length = ys.length) = true := decide_eq_true hl
  clear hl
  go_enter Try.func51, Try.ntmps51
  go_wp2
  go_loopg [17] xs.length (fun gg s17 wr => ∃ i : Nat, i ≤ xs.length ∧ xs.length - i ≤ gg ∧ s17 = .int .i64 i ∧ Za (Below wo.heap.size wo wr) ∧ Za (eqF f (xs.drop i) (ys.drop i) = some r))
  case atStart => exact ⟨0, Nat.zero_le _, by omega, rfl, ⟨Below.refl _ _⟩, ⟨by simpa using H0.out⟩⟩
  case round =>
    obtain ⟨i, hi, hg, rfl, BW, HA⟩ := hrel
    by_cases hlt : i < xs.length
    rotate_left
    · obtain rfl : i = xs.length := by omega
      have HA1 := HA.out
      rw [List.drop_length, eqF_nil] at HA1
      obtain rfl := Option.some.inj HA1
      clear HA HA1 hlt
      have p0_ : decide ((xs.length : Int) < (xs.length : Int)) = false := decide_eq_false (by omega)
      go_wp2
      go_ret
      exact ⟨rfl, BW.out⟩
    have hlt2 : i < ys.length := by have := HL.out; omega
    obtain ⟨ad, A1A, c1A, e0_, hx0, hx1, lA1A, gA1A⟩ := Zg (Kd.Zal HR0.out BW.out) (i : Int) (by omega) (by omega)
    obtain ⟨ad2, A1B, c1B, e1_, hy0, hy1, lA1B, gA1B⟩ := Zg (Kd.Zal HR1.out BW.out) (i : Int) (by omega) (by omega)
    subst e0_
    subst e1_
    simp only [Int.toNat_natCast] at hx0 hy0 hx1 hy1
    have HA1 := HA.out
    rw [Zed z50 hlt, Zed z50 hlt2, eqF] at HA1
    have q0_ : Za4 xs (i : Int) = xs.getD i z50 := by simp [Za4]
    have q1_ : Za4 ys (i : Int) = ys.getD i z50 := by simp [Za4]
    rw [q0_] at hx0 hx1 lA1A gA1A
    rw [q1_] at hy0 hy1 lA1B gA1B
    clear q0_ q1_
    generalize xs.getD i z50 = x at hx0 hx1 lA1A gA1A HA1
    generalize ys.getD i z50 = y at hy0 hy1 lA1B gA1B HA1
    obtain ⟨b, hb1, HA2⟩ := Option.bind_eq_some_iff.1 HA1
    have hcall := fun (W : World) (hW : Below wr.heap.size wr W) => HP.out x y b W A1A c1A A1B c1B hb1 (Zaf BW.out hW) lA1A (Kd.Zal gA1A hW) lA1B (Kd.Zal gA1B hW)
    have CC := Za.mk hcall
    clear hcall HA HA1 hb1 lA1A gA1A lA1B gA1B
    have p0_ : decide ((i : Int) < (xs.length : Int)) = true := decide_eq_true (by omega)
    have p1_ : decide ((0 : Int) ≤ (i : Int)) = true := decide_eq_true (by omega)
    have p2_ : decide ((i : Int) < (ys.length : Int)) = true := decide_eq_true (by omega)
    cases b with
    | false =>
      rw [if_neg (by decide)] at HA2
      obtain rfl := Option.some.inj HA2
      clear HA2
      go_wp2_with (first | ((with_reducible refine Zax (N := 8) rfl ?_); refine Za7 ?hg (N := 8) ?hd (cs := #[.string (⟨#[]⟩ : ByteArray), .slice none 0 0]) (t := 50) ?hr ?_; (case hd => rfl); (case hg => rfl); (case hr => first | (go_simp; done) | (go_simp; rfl)); intro g8 hgg8 w8 hbox hb; have BXg8 := Za.mk hbox; have hzg80 : w8.cell? ⟨g8, 0, none⟩ = some (.string (⟨#[]⟩ : ByteArray)) := (Zaj hbox 0).trans rfl; have hfg80 := Zao hbox 0; have hzg81 : w8.cell? ⟨g8, 1, none⟩ = some (.slice none 0 0) := (Zaj hbox 1).trans rfl; have hfg81 := Zao hbox 1; have BV := Za.mk (Zaf (mvB (Below.refl wr.heap.size wr)) hb); have HG8 : Za (wr.heap.size ≤ g8) := ⟨by rw [hgg8]; exact (mvB (Below.refl wr.heap.size wr)).size⟩; have B8_ := Za.mk (show Below wr.heap.size wr ((w8.setCell ⟨g8, 0, none⟩ (.string x.f0)).setCell ⟨g8, 1, none⟩ (.slice A1A x.f1.length c1A)) from (Zac (Zac BV.out HG8.out) HG8.out)); have hv0 := cellE B8_.out hy0; have hv1 := cellE B8_.out hy1; clear hbox hb hgg8) | ((with_reducible refine Zax (N := 9) rfl ?_); refine Za7 ?hg (N := 9) ?hd (cs := #[.string (⟨#[]⟩ : ByteArray), .slice none 0 0]) (t := 50) ?hr ?_; (case hd => rfl); (case hg => rfl); (case hr => first | (go_simp; done) | (go_simp; rfl)); intro g9 hgg9 w9 hbox hb; have BXg9 := Za.mk hbox; have hzg90 : w9.cell? ⟨g9, 0, none⟩ = some (.string (⟨#[]⟩ : ByteArray)) := (Zaj hbox 0).trans rfl; have hfg90 := Zao hbox 0; have hzg91 : w9.cell? ⟨g9, 1, none⟩ = some (.slice none 0 0) := (Zaj hbox 1).trans rfl; have hfg91 := Zao hbox 1; have B8 := Za.mk (show Below wr.heap.size wr ((w8.setCell ⟨g8, 0, none⟩ (.string x.f0)).setCell ⟨g8, 1, none⟩ (.slice A1A x.f1.length c1A)) from (Zac (Zac BV.out HG8.out) HG8.out)); have BV9 := Za.mk (Zaf (mvB B8.out) hb); have BY8 := Za.mk (Zap (mvK (Zaq (cs' := #[.string x.f0, .slice A1A x.f1.length c1A]) (Zaq (cs' := #[.string x.f0, .slice none 0 0]) BXg8.out 0 (.string x.f0) rfl) 1 (.slice A1A x.f1.length c1A) rfl)) hb); have HG9 : Za (wr.heap.size ≤ g9) := ⟨by rw [hgg9]; exact (mvB B8.out).size⟩; have NE98 : Za (g8 ≠ g9) := ⟨by rw [hgg9]; exact Nat.ne_of_lt (Nat.lt_of_lt_of_le (Zbt (Zaq (cs' := #[.string x.f0, .slice A1A x.f1.length c1A]) (Zaq (cs' := #[.string x.f0, .slice none 0 0]) BXg8.out 0 (.string x.f0) rfl) 1 (.slice A1A x.f1.length c1A) rfl)) (mvB (Below.refl ((w8.setCell ⟨g8, 0, none⟩ (.string x.f0)).setCell ⟨g8, 1, none⟩ (.slice A1A x.f1.length c1A)).heap.size ((w8.setCell ⟨g8, 0, none⟩ (.string x.f0)).setCell ⟨g8, 1, none⟩ (.slice A1A x.f1.length c1A)))).size)⟩; have ne1_ := NE98.out; have ne2_ := Ne.symm NE98.out; have hw0 : w9.cell? ⟨g8, 0, none⟩ = some (.string x.f0) := (Zaj BY8.out 0).trans rfl; have hw1 : w9.cell? ⟨g8, 1, none⟩ = some (.slice A1A x.f1.length c1A) := (Zaj BY8.out 1).trans rfl; clear hbox hb hgg9) | (go_at_fn g; go_loud (have B9 := Za.mk (show Below wr.heap.size wr ((w9.setCell ⟨g9, 0, none⟩ (.string y.f0)).setCell ⟨g9, 1, none⟩ (.slice A1B y.f1.length c1B)) from (Zac (Zac BV9.out HG9.out) HG9.out)); refine (CC.out _ (mvB B9.out)).mono ?_; rintro e_ w12 ⟨rfl, hb⟩; have BE := Za.mk (Zaf (mvB B9.out) hb); clear hb)))
      go_ret
      exact ⟨rfl, Zaf BW.out (mvB BE.out)⟩
    | true =>
      rw [if_pos rfl] at HA2
      go_wp2_with (first | ((with_reducible refine Zax (N := 8) rfl ?_); refine Za7 ?hg (N := 8) ?hd (cs := #[.string (⟨#[]⟩ : ByteArray), .slice none 0 0]) (t := 50) ?hr ?_; (case hd => rfl); (case hg => rfl); (case hr => first | (go_simp; done) | (go_simp; rfl)); intro g8 hgg8 w8 hbox hb; have BXg8 := Za.mk hbox; have hzg80 : w8.cell? ⟨g8, 0, none⟩ = some (.string (⟨#[]⟩ : ByteArray)) := (Zaj hbox 0).trans rfl; have hfg80 := Zao hbox 0; have hzg81 : w8.cell? ⟨g8, 1, none⟩ = some (.slice none 0 0) := (Zaj hbox 1).trans rfl; have hfg81 := Zao hbox 1; have BV := Za.mk (Zaf (mvB (Below.refl wr.heap.size wr)) hb); have HG8 : Za (wr.heap.size ≤ g8) := ⟨by rw [hgg8]; exact (mvB (Below.refl wr.heap.size wr)).size⟩; have B8_ := Za.mk (show Below wr.heap.size wr ((w8.setCell ⟨g8, 0, none⟩ (.string x.f0)).setCell ⟨g8, 1, none⟩ (.slice A1A x.f1.length c1A)) from (Zac (Zac BV.out HG8.out) HG8.out)); have hv0 := cellE B8_.out hy0; have hv1 := cellE B8_.out hy1; clear hbox hb hgg8) | ((with_reducible refine Zax (N := 9) rfl ?_); refine Za7 ?hg (N := 9) ?hd (cs := #[.string (⟨#[]⟩ : ByteArray), .slice none 0 0]) (t := 50) ?hr ?_; (case hd => rfl); (case hg => rfl); (case hr => first | (go_simp; done) | (go_simp; rfl)); intro g9 hgg9 w9 hbox hb; have BXg9 := Za.mk hbox; have hzg90 : w9.cell? ⟨g9, 0, none⟩ = some (.string (⟨#[]⟩ : ByteArray)) := (Zaj hbox 0).trans rfl; have hfg90 := Zao hbox 0; have hzg91 : w9.cell? ⟨g9, 1, none⟩ = some (.slice none 0 0) := (Zaj hbox 1).trans rfl; have hfg91 := Zao hbox 1; have B8 := Za.mk (show Below wr.heap.size wr ((w8.setCell ⟨g8, 0, none⟩ (.string x.f0)).setCell ⟨g8, 1, none⟩ (.slice A1A x.f1.length c1A)) from (Zac (Zac BV.out HG8.out) HG8.out)); have BV9 := Za.mk (Zaf (mvB B8.out) hb); have BY8 := Za.mk (Zap (mvK (Zaq (cs' := #[.string x.f0, .slice A1A x.f1.length c1A]) (Zaq (cs' := #[.string x.f0, .slice none 0 0]) BXg8.out 0 (.string x.f0) rfl) 1 (.slice A1A x.f1.length c1A) rfl)) hb); have HG9 : Za (wr.heap.size ≤ g9) := ⟨by rw [hgg9]; exact (mvB B8.out).size⟩; have NE98 : Za (g8 ≠ g9) := ⟨by rw [hgg9]; exact Nat.ne_of_lt (Nat.lt_of_lt_of_le (Zbt (Zaq (cs' := #[.string x.f0, .slice A1A x.f1.length c1A]) (Zaq (cs' := #[.string x.f0, .slice none 0 0]) BXg8.out 0 (.string x.f0) rfl) 1 (.slice A1A x.f1.length c1A) rfl)) (mvB (Below.refl ((w8.setCell ⟨g8, 0, none⟩ (.string x.f0)).setCell ⟨g8, 1, none⟩ (.slice A1A x.f1.length c1A)).heap.size ((w8.setCell ⟨g8, 0, none⟩ (.string x.f0)).setCell ⟨g8, 1, none⟩ (.slice A1A x.f1.length c1A)))).size)⟩; have ne1_ := NE98.out; have ne2_ := Ne.symm NE98.out; have hw0 : w9.cell? ⟨g8, 0, none⟩ = some (.string x.f0) := (Zaj BY8.out 0).trans rfl; have hw1 : w9.cell? ⟨g8, 1, none⟩ = some (.slice A1A x.f1.length c1A) := (Zaj BY8.out 1).trans rfl; clear hbox hb hgg9) | (go_at_fn g; go_loud (have B9 := Za.mk (show Below wr.heap.size wr ((w9.setCell ⟨g9, 0, none⟩ (.string y.f0)).setCell ⟨g9, 1, none⟩ (.slice A1B y.f1.length c1B)) from (Zac (Zac BV9.out HG9.out) HG9.out)); refine (CC.out _ (mvB B9.out)).mono ?_; rintro e_ w12 ⟨rfl, hb⟩; have BE := Za.mk (Zaf (mvB B9.out) hb); clear hb)))
      go_roundg (xs.length - (i + 1))
      case measure => omega
      case rel => exact ⟨i + 1, by omega, by omega, (by first | go_num | (rw [show wrap64 ((i : Int) + 1) = ((i + 1 : Nat) : Int) from by unfold wrap64; omega])), ⟨Zaf BW.out (mvB BE.out)⟩, ⟨HA2⟩⟩
set_option maxHeartbeats 4000000 in
set_option maxRecDepth 100000 in
theorem equalFunc_C (f : S31 → S31 → Option Bool) (g : Nat) (lb : Array Value) (eg : ∀ args w, (callFunc g args).run Try.prog w = .ok (.enter g args) w) (A0 : Option Addr) (c0 : Nat) (xs : List (S31)) (A1 : Option Addr) (c1 : Nat) (ys : List (S31)) (r : Bool) (w : World) (hr0 : Kd.C k31 w A0 xs.length xs) (hr1 : Kd.C k31 w A1 ys.length ys)
    (hp : ∀ (x y : S31) (b : Bool) (W : World) (A1A : Option Addr) (c1A : Nat) (A2A : Option Addr) (c2A : Nat) (A5A : Option Addr) (c5A : Nat) (A1B : Option Addr) (c1B : Nat) (A2B : Option Addr) (c2B : Nat) (A5B : Option Addr) (c5B : Nat), f x y = some b → Below w.heap.size w W → x.f1.length ≤ c1A → Kd.C (Kd.int .i64) W A1A x.f1.length x.f1 → x.f2.length ≤ c2A → Kd.C (Kd.int .i64) W A2A x.f2.length x.f2 → x.f5.length ≤ c5A → Kd.C (Kd.slice 3 (Kd.int .i64)) W A5A x.f5.length x.f5 → y.f1.length ≤ c1B → Kd.C (Kd.int .i64) W A1B y.f1.length y.f1 → y.f2.length ≤ c2B → Kd.C (Kd.int .i64) W A2B y.f2.length y.f2 → y.f5.length ≤ c5B → Kd.C (Kd.slice 3 (Kd.int .i64)) W A5B y.f5.length y.f5 → Calls Try.prog g (#[.agg #[.int .i64 x.f0, .slice A1A x.f1.length c1A, .slice A2A x.f2.length c2A, .int .i64 x.f3, .int .i64 x.f4, .slice A5A x.f5.length c5A, .int .i64 x.f6], .agg #[.int .i64 y.f0, .slice A1B y.f1.length c1B, .slice A2B y.f2.length c2B, .int .i64 y.f3, .int .i64 y.f4, .slice A5B y.f5.length c5B, .int .i64 y.f6]] ++ lb) W fun e w' => e = .returned (.bool b) ∧ Below W.heap.size W w')
    (h : equalF f xs ys = some r) : Calls Try.prog 55 #[.slice A0 xs.length c0, .slice A1 ys.length c1, .func (.func g) #[] lb] w fun e w' => e = .returned (.bool r) ∧ Below w.heap.size w w' := by
  have hlen : xs.length ≤ 9223372036854775807 := hr0.2.1
  have HR0 := Za.mk hr0
  have HR1 := Za.mk hr1
  have HP := Za.mk hp
  clear hr0 hr1 hp
  unfold equalF at h
  obtain ⟨wo, rfl⟩ : ∃ wo : World, wo = w := ⟨_, rfl⟩
  by_cases hl : xs.length = ys.length
  rotate_left
  · rw [if_neg hl] at h
    obtain rfl := Option.some.inj h
    clear h
    have n1_ : ((xs.length : Int) == (ys.length : Int)) = false := beq_eq_false_iff_ne.2 (by omega)
    have n2_ : ((xs.length : Int) != (ys.length : Int)) = true := by simp only [bne, n1_, Bool.not_false]
    have n3_ : decide ((xs.length : Int) = (ys.length : Int)) = false := decide_eq_false (by omega)
    have n4_ : decide (xs.length = ys.length) = false := decide_eq_false hl
    clear hl
    go_enter Try.func55, Try.ntmps55
    go_wp2
    go_ret
    exact ⟨rfl, Below.refl _ _⟩
  rw [if_pos hl] at h
  have HL := Za.mk hl
  have H0 := Za.mk h
  clear h
  have n1_ : ((xs.length : Int) == (ys.length : Int)) = true := beq_iff_eq.2 (by omega)
  have n2_ : ((xs.length : Int) != (ys.length : Int)) = false := by simp only [bne, n1_, Bool.not_true]
  have n3_ : decide ((xs.length : Int) = (ys.length : Int)) = true := decide_eq_true (by omega)
  have n4_ : decide (xs.length = ys.length) = true := decide_eq_true hl
  clear hl
  go_enter Try.func55, Try.ntmps55
  go_wp2
  go_loopg [17] xs.length (fun gg s17 wr => ∃ i : Nat, i ≤ xs.length ∧ xs.length - i ≤ gg ∧ s17 = .int .i64 i ∧ Za (Below wo.heap.size wo wr) ∧ Za (eqF f (xs.drop i) (ys.drop i) = some r))
  case atStart => exact ⟨0, Nat.zero_le _, by omega, rfl, ⟨Below.refl _ _⟩, ⟨by simpa using H0.out⟩⟩
  case round =>
    obtain ⟨i, hi, hg, rfl, BW, HA⟩ := hrel
    by_cases hlt : i < xs.length
    rotate_left
    · obtain rfl : i = xs.length := by omega
      have HA1 := HA.out
      rw [List.drop_length, eqF_nil] at HA1
      obtain rfl := Option.some.inj HA1
      clear HA HA1 hlt
      have p0_ : decide ((xs.length : Int) < (xs.length : Int)) = false := decide_eq_false (by omega)
      go_wp2
      go_ret
      exact ⟨rfl, BW.out⟩
    have hlt2 : i < ys.length := by have := HL.out; omega
    obtain ⟨ad, A1A, c1A, A2A, c2A, A5A, c5A, e0_, hx0, hx1, hx2, hx3, hx4, hx5, hx6, lA1A, gA1A, lA2A, gA2A, lA5A, gA5A⟩ := Zeg (Kd.Zal HR0.out BW.out) (i : Int) (by omega) (by omega)
    obtain ⟨ad2, A1B, c1B, A2B, c2B, A5B, c5B, e1_, hy0, hy1, hy2, hy3, hy4, hy5, hy6, lA1B, gA1B, lA2B, gA2B, lA5B, gA5B⟩ := Zeg (Kd.Zal HR1.out BW.out) (i : Int) (by omega) (by omega)
    subst e0_
    subst e1_
    simp only [Int.toNat_natCast] at hx0 hy0 hx1 hy1 hx2 hy2 hx3 hy3 hx4 hy4 hx5 hy5 hx6 hy6
    have HA1 := HA.out
    rw [Zed z31 hlt, Zed z31 hlt2, eqF] at HA1
    have q0_ : Zah xs (i : Int) = xs.getD i z31 := by simp [Zah]
    have q1_ : Zah ys (i : Int) = ys.getD i z31 := by simp [Zah]
    rw [q0_] at hx0 hx1 hx2 hx3 hx4 hx5 hx6 lA1A gA1A lA2A gA2A lA5A gA5A
    rw [q1_] at hy0 hy1 hy2 hy3 hy4 hy5 hy6 lA1B gA1B lA2B gA2B lA5B gA5B
    clear q0_ q1_
    generalize xs.getD i z31 = x at hx0 hx1 hx2 hx3 hx4 hx5 hx6 lA1A gA1A lA2A gA2A lA5A gA5A HA1
    generalize ys.getD i z31 = y at hy0 hy1 hy2 hy3 hy4 hy5 hy6 lA1B gA1B lA2B gA2B lA5B gA5B HA1
    obtain ⟨b, hb1, HA2⟩ := Option.bind_eq_some_iff.1 HA1
    have hcall := fun (W : World) (hW : Below wr.heap.size wr W) => HP.out x y b W A1A c1A A2A c2A A5A c5A A1B c1B A2B c2B A5B c5B hb1 (Zaf BW.out hW) lA1A (Kd.Zal gA1A hW) lA2A (Kd.Zal gA2A hW) lA5A (Kd.Zal gA5A hW) lA1B (Kd.Zal gA1B hW) lA2B (Kd.Zal gA2B hW) lA5B (Kd.Zal gA5B hW)
    have CC := Za.mk hcall
    clear hcall HA HA1 hb1 lA1A gA1A lA2A gA2A lA5A gA5A lA1B gA1B lA2B gA2B lA5B gA5B
    have p0_ : decide ((i : Int) < (xs.length : Int)) = true := decide_eq_true (by omega)
    have p1_ : decide ((0 : Int) ≤ (i : Int)) = true := decide_eq_true (by omega)
    have p2_ : decide ((i : Int) < (ys.length : Int)) = true := decide_eq_true (by omega)
    cases b with
    | false =>
      rw [if_neg (by decide)] at HA2
      obtain rfl := Option.some.inj HA2
      clear HA2
      go_wp2_with (first | ((with_reducible refine Zax (N := 8) rfl ?_); refine Za7 ?hg (N := 8) ?hd (cs := #[.int .i64 0, .slice none 0 0, .slice none 0 0, .int .i64 0, .int .i64 0, .slice none 0 0, .int .i64 0]) (t := 31) ?hr ?_; (case hd => rfl); (case hg => rfl); (case hr => first | (go_simp; done) | (go_simp; rfl)); intro g8 hgg8 w8 hbox hb; have BXg8 := Za.mk hbox; have hzg80 : w8.cell? ⟨g8, 0, none⟩ = some (.int .i64 0) := (Zaj hbox 0).trans rfl; have hfg80 := Zao hbox 0; have hzg81 : w8.cell? ⟨g8, 1, none⟩ = some (.slice none 0 0) := (Zaj hbox 1).trans rfl; have hfg81 := Zao hbox 1; have hzg82 : w8.cell? ⟨g8, 2, none⟩ = some (.slice none 0 0) := (Zaj hbox 2).trans rfl; have hfg82 := Zao hbox 2; have hzg83 : w8.cell? ⟨g8, 3, none⟩ = some (.int .i64 0) := (Zaj hbox 3).trans rfl; have hfg83 := Zao hbox 3; have hzg84 : w8.cell? ⟨g8, 4, none⟩ = some (.int .i64 0) := (Zaj hbox 4).trans rfl; have hfg84 := Zao hbox 4; have hzg85 : w8.cell? ⟨g8, 5, none⟩ = some (.slice none 0 0) := (Zaj hbox 5).trans rfl; have hfg85 := Zao hbox 5; have hzg86 : w8.cell? ⟨g8, 6, none⟩ = some (.int .i64 0) := (Zaj hbox 6).trans rfl; have hfg86 := Zao hbox 6; have BV := Za.mk (Zaf (mvB (Below.refl wr.heap.size wr)) hb); have HG8 : Za (wr.heap.size ≤ g8) := ⟨by rw [hgg8]; exact (mvB (Below.refl wr.heap.size wr)).size⟩; have B8_ := Za.mk (show Below wr.heap.size wr (((((((w8.setCell ⟨g8, 0, none⟩ (.int .i64 x.f0)).setCell ⟨g8, 1, none⟩ (.slice A1A x.f1.length c1A)).setCell ⟨g8, 2, none⟩ (.slice A2A x.f2.length c2A)).setCell ⟨g8, 3, none⟩ (.int .i64 x.f3)).setCell ⟨g8, 4, none⟩ (.int .i64 x.f4)).setCell ⟨g8, 5, none⟩ (.slice A5A x.f5.length c5A)).setCell ⟨g8, 6, none⟩ (.int .i64 x.f6)) from (Zac (Zac (Zac (Zac (Zac (Zac (Zac BV.out HG8.out) HG8.out) HG8.out) HG8.out) HG8.out) HG8.out) HG8.out)); have hv0 := cellE B8_.out hy0; have hv1 := cellE B8_.out hy1; have hv2 := cellE B8_.out hy2; have hv3 := cellE B8_.out hy3; have hv4 := cellE B8_.out hy4; have hv5 := cellE B8_.out hy5; have hv6 := cellE B8_.out hy6; clear hbox hb hgg8) | ((with_reducible refine Zax (N := 9) rfl ?_); refine Za7 ?hg (N := 9) ?hd (cs := #[.int .i64 0, .slice none 0 0, .slice none 0 0, .int .i64 0, .int .i64 0, .slice none 0 0, .int .i64 0]) (t := 31) ?hr ?_; (case hd => rfl); (case hg => rfl); (case hr => first | (go_simp; done) | (go_simp; rfl)); intro g9 hgg9 w9 hbox hb; have BXg9 := Za.mk hbox; have hzg90 : w9.cell? ⟨g9, 0, none⟩ = some (.int .i64 0) := (Zaj hbox 0).trans rfl; have hfg90 := Zao hbox 0; have hzg91 : w9.cell? ⟨g9, 1, none⟩ = some (.slice none 0 0) := (Zaj hbox 1).trans rfl; have hfg91 := Zao hbox 1; have hzg92 : w9.cell? ⟨g9, 2, none⟩ = some (.slice none 0 0) := (Zaj hbox 2).trans rfl; have hfg92 := Zao hbox 2; have hzg93 : w9.cell? ⟨g9, 3, none⟩ = some (.int .i64 0) := (Zaj hbox 3).trans rfl; have hfg93 := Zao hbox 3; have hzg94 : w9.cell? ⟨g9, 4, none⟩ = some (.int .i64 0) := (Zaj hbox 4).trans rfl; have hfg94 := Zao hbox 4; have hzg95 : w9.cell? ⟨g9, 5, none⟩ = some (.slice none 0 0) := (Zaj hbox 5).trans rfl; have hfg95 := Zao hbox 5; have hzg96 : w9.cell? ⟨g9, 6, none⟩ = some (.int .i64 0) := (Zaj hbox 6).trans rfl; have hfg96 := Zao hbox 6; have B8 := Za.mk (show Below wr.heap.size wr (((((((w8.setCell ⟨g8, 0, none⟩ (.int .i64 x.f0)).setCell ⟨g8, 1, none⟩ (.slice A1A x.f1.length c1A)).setCell ⟨g8, 2, none⟩ (.slice A2A x.f2.length c2A)).setCell ⟨g8, 3, none⟩ (.int .i64 x.f3)).setCell ⟨g8, 4, none⟩ (.int .i64 x.f4)).setCell ⟨g8, 5, none⟩ (.slice A5A x.f5.length c5A)).setCell ⟨g8, 6, none⟩ (.int .i64 x.f6)) from (Zac (Zac (Zac (Zac (Zac (Zac (Zac BV.out HG8.out) HG8.out) HG8.out) HG8.out) HG8.out) HG8.out) HG8.out)); have BV9 := Za.mk (Zaf (mvB B8.out) hb); have BY8 := Za.mk (Zap (mvK (Zaq (cs' := #[.int .i64 x.f0, .slice A1A x.f1.length c1A, .slice A2A x.f2.length c2A, .int .i64 x.f3, .int .i64 x.f4, .slice A5A x.f5.length c5A, .int .i64 x.f6]) (Zaq (cs' := #[.int .i64 x.f0, .slice A1A x.f1.length c1A, .slice A2A x.f2.length c2A, .int .i64 x.f3, .int .i64 x.f4, .slice A5A x.f5.length c5A, .int .i64 0]) (Zaq (cs' := #[.int .i64 x.f0, .slice A1A x.f1.length c1A, .slice A2A x.f2.length c2A, .int .i64 x.f3, .int .i64 x.f4, .slice none 0 0, .int .i64 0]) (Zaq (cs' := #[.int .i64 x.f0, .slice A1A x.f1.length c1A, .slice A2A x.f2.length c2A, .int .i64 x.f3, .int .i64 0, .slice none 0 0, .int .i64 0]) (Zaq (cs' := #[.int .i64 x.f0, .slice A1A x.f1.length c1A, .slice A2A x.f2.length c2A, .int .i64 0, .int .i64 0, .slice none 0 0, .int .i64 0]) (Zaq (cs' := #[.int .i64 x.f0, .slice A1A x.f1.length c1A, .slice none 0 0, .int .i64 0, .int .i64 0, .slice none 0 0, .int .i64 0]) (Zaq (cs' := #[.int .i64 x.f0, .slice none 0 0, .slice none 0 0, .int .i64 0, .int .i64 0, .slice none 0 0, .int .i64 0]) BXg8.out 0 (.int .i64 x.f0) rfl) 1 (.slice A1A x.f1.length c1A) rfl) 2 (.slice A2A x.f2.length c2A) rfl) 3 (.int .i64 x.f3) rfl) 4 (.int .i64 x.f4) rfl) 5 (.slice A5A x.f5.length c5A) rfl) 6 (.int .i64 x.f6) rfl)) hb); have HG9 : Za (wr.heap.size ≤ g9) := ⟨by rw [hgg9]; exact (mvB B8.out).size⟩; have NE98 : Za (g8 ≠ g9) := ⟨by rw [hgg9]; exact Nat.ne_of_lt (Nat.lt_of_lt_of_le (Zbt (Zaq (cs' := #[.int .i64 x.f0, .slice A1A x.f1.length c1A, .slice A2A x.f2.length c2A, .int .i64 x.f3, .int .i64 x.f4, .slice A5A x.f5.length c5A, .int .i64 x.f6]) (Zaq (cs' := #[.int .i64 x.f0, .slice A1A x.f1.length c1A, .slice A2A x.f2.length c2A, .int .i64 x.f3, .int .i64 x.f4, .slice A5A x.f5.length c5A, .int .i64 0]) (Zaq (cs' := #[.int .i64 x.f0, .slice A1A x.f1.length c1A, .slice A2A x.f2.length c2A, .int .i64 x.f3, .int .i64 x.f4, .slice none 0 0, .int .i64 0]) (Zaq (cs' := #[.int .i64 x.f0, .slice A1A x.f1.length c1A, .slice A2A x.f2.length c2A, .int .i64 x.f3, .int .i64 0, .slice none 0 0, .int .i64 0]) (Zaq (cs' := #[.int .i64 x.f0, .slice A1A x.f1.length c1A, .slice A2A x.f2.length c2A, .int .i64 0, .int .i64 0, .slice none 0 0, .int .i64 0]) (Zaq (cs' := #[.int .i64 x.f0, .slice A1A x.f1.length c1A, .slice none 0 0, .int .i64 0, .int .i64 0, .slice none 0 0, .int .i64 0]) (Zaq (cs' := #[.int .i64 x.f0, .slice none 0 0, .slice none 0 0, .int .i64 0, .int .i64 0, .slice none 0 0, .int .i64 0]) BXg8.out 0 (.int .i64 x.f0) rfl) 1 (.slice A1A x.f1.length c1A) rfl) 2 (.slice A2A x.f2.length c2A) rfl) 3 (.int .i64 x.f3) rfl) 4 (.int .i64 x.f4) rfl) 5 (.slice A5A x.f5.length c5A) rfl) 6 (.int .i64 x.f6) rfl)) (mvB (Below.refl (((((((w8.setCell ⟨g8, 0, none⟩ (.int .i64 x.f0)).setCell ⟨g8, 1, none⟩ (.slice A1A x.f1.length c1A)).setCell ⟨g8, 2, none⟩ (.slice A2A x.f2.length c2A)).setCell ⟨g8, 3, none⟩ (.int .i64 x.f3)).setCell ⟨g8, 4, none⟩ (.int .i64 x.f4)).setCell ⟨g8, 5, none⟩ (.slice A5A x.f5.length c5A)).setCell ⟨g8, 6, none⟩ (.int .i64 x.f6)).heap.size (((((((w8.setCell ⟨g8, 0, none⟩ (.int .i64 x.f0)).setCell ⟨g8, 1, none⟩ (.slice A1A x.f1.length c1A)).setCell ⟨g8, 2, none⟩ (.slice A2A x.f2.length c2A)).setCell ⟨g8, 3, none⟩ (.int .i64 x.f3)).setCell ⟨g8, 4, none⟩ (.int .i64 x.f4)).setCell ⟨g8, 5, none⟩ (.slice A5A x.f5.length c5A)).setCell ⟨g8, 6, none⟩ (.int .i64 x.f6)))).size)⟩; have ne1_ := NE98.out; have ne2_ := Ne.symm NE98.out; have hw0 : w9.cell? ⟨g8, 0, none⟩ = some (.int .i64 x.f0) := (Zaj BY8.out 0).trans rfl; have hw1 : w9.cell? ⟨g8, 1, none⟩ = some (.slice A1A x.f1.length c1A) := (Zaj BY8.out 1).trans rfl; have hw2 : w9.cell? ⟨g8, 2, none⟩ = some (.slice A2A x.f2.length c2A) := (Zaj BY8.out 2).trans rfl; have hw3 : w9.cell? ⟨g8, 3, none⟩ = some (.int .i64 x.f3) := (Zaj BY8.out 3).trans rfl; have hw4 : w9.cell? ⟨g8, 4, none⟩ = some (.int .i64 x.f4) := (Zaj BY8.out 4).trans rfl; have hw5 : w9.cell? ⟨g8, 5, none⟩ = some (.slice A5A x.f5.length c5A) := (Zaj BY8.out 5).trans rfl; have hw6 : w9.cell? ⟨g8, 6, none⟩ = some (.int .i64 x.f6) := (Zaj BY8.out 6).trans rfl; clear hbox hb hgg9) | (go_at_fn g; go_loud (have B9 := Za.mk (show Below wr.heap.size wr (((((((w9.setCell ⟨g9, 0, none⟩ (.int .i64 y.f0)).setCell ⟨g9, 1, none⟩ (.slice A1B y.f1.length c1B)).setCell ⟨g9, 2, none⟩ (.slice A2B y.f2.length c2B)).setCell ⟨g9, 3, none⟩ (.int .i64 y.f3)).setCell ⟨g9, 4, none⟩ (.int .i64 y.f4)).setCell ⟨g9, 5, none⟩ (.slice A5B y.f5.length c5B)).setCell ⟨g9, 6, none⟩ (.int .i64 y.f6)) from (Zac (Zac (Zac (Zac (Zac (Zac (Zac BV9.out HG9.out) HG9.out) HG9.out) HG9.out) HG9.out) HG9.out) HG9.out)); refine (CC.out _ (mvB B9.out)).mono ?_; rintro e_ w12 ⟨rfl, hb⟩; have BE := Za.mk (Zaf (mvB B9.out) hb); clear hb)))
      go_ret
      exact ⟨rfl, Zaf BW.out (mvB BE.out)⟩
    | true =>
      rw [if_pos rfl] at HA2
      go_wp2_with (first | ((with_reducible refine Zax (N := 8) rfl ?_); refine Za7 ?hg (N := 8) ?hd (cs := #[.int .i64 0, .slice none 0 0, .slice none 0 0, .int .i64 0, .int .i64 0, .slice none 0 0, .int .i64 0]) (t := 31) ?hr ?_; (case hd => rfl); (case hg => rfl); (case hr => first | (go_simp; done) | (go_simp; rfl)); intro g8 hgg8 w8 hbox hb; have BXg8 := Za.mk hbox; have hzg80 : w8.cell? ⟨g8, 0, none⟩ = some (.int .i64 0) := (Zaj hbox 0).trans rfl; have hfg80 := Zao hbox 0; have hzg81 : w8.cell? ⟨g8, 1, none⟩ = some (.slice none 0 0) := (Zaj hbox 1).trans rfl; have hfg81 := Zao hbox 1; have hzg82 : w8.cell? ⟨g8, 2, none⟩ = some (.slice none 0 0) := (Zaj hbox 2).trans rfl; have hfg82 := Zao hbox 2; have hzg83 : w8.cell? ⟨g8, 3, none⟩ = some (.int .i64 0) := (Zaj hbox 3).trans rfl; have hfg83 := Zao hbox 3; have hzg84 : w8.cell? ⟨g8, 4, none⟩ = some (.int .i64 0) := (Zaj hbox 4).trans rfl; have hfg84 := Zao hbox 4; have hzg85 : w8.cell? ⟨g8, 5, none⟩ = some (.slice none 0 0) := (Zaj hbox 5).trans rfl; have hfg85 := Zao hbox 5; have hzg86 : w8.cell? ⟨g8, 6, none⟩ = some (.int .i64 0) := (Zaj hbox 6).trans rfl; have hfg86 := Zao hbox 6; have BV := Za.mk (Zaf (mvB (Below.refl wr.heap.size wr)) hb); have HG8 : Za (wr.heap.size ≤ g8) := ⟨by rw [hgg8]; exact (mvB (Below.refl wr.heap.size wr)).size⟩; have B8_ := Za.mk (show Below wr.heap.size wr (((((((w8.setCell ⟨g8, 0, none⟩ (.int .i64 x.f0)).setCell ⟨g8, 1, none⟩ (.slice A1A x.f1.length c1A)).setCell ⟨g8, 2, none⟩ (.slice A2A x.f2.length c2A)).setCell ⟨g8, 3, none⟩ (.int .i64 x.f3)).setCell ⟨g8, 4, none⟩ (.int .i64 x.f4)).setCell ⟨g8, 5, none⟩ (.slice A5A x.f5.length c5A)).setCell ⟨g8, 6, none⟩ (.int .i64 x.f6)) from (Zac (Zac (Zac (Zac (Zac (Zac (Zac BV.out HG8.out) HG8.out) HG8.out) HG8.out) HG8.out) HG8.out) HG8.out)); have hv0 := cellE B8_.out hy0; have hv1 := cellE B8_.out hy1; have hv2 := cellE B8_.out hy2; have hv3 := cellE B8_.out hy3; have hv4 := cellE B8_.out hy4; have hv5 := cellE B8_.out hy5; have hv6 := cellE B8_.out hy6; clear hbox hb hgg8) | ((with_reducible refine Zax (N := 9) rfl ?_); refine Za7 ?hg (N := 9) ?hd (cs := #[.int .i64 0, .slice none 0 0, .slice none 0 0, .int .i64 0, .int .i64 0, .slice none 0 0, .int .i64 0]) (t := 31) ?hr ?_; (case hd => rfl); (case hg => rfl); (case hr => first | (go_simp; done) | (go_simp; rfl)); intro g9 hgg9 w9 hbox hb; have BXg9 := Za.mk hbox; have hzg90 : w9.cell? ⟨g9, 0, none⟩ = some (.int .i64 0) := (Zaj hbox 0).trans rfl; have hfg90 := Zao hbox 0; have hzg91 : w9.cell? ⟨g9, 1, none⟩ = some (.slice none 0 0) := (Zaj hbox 1).trans rfl; have hfg91 := Zao hbox 1; have hzg92 : w9.cell? ⟨g9, 2, none⟩ = some (.slice none 0 0) := (Zaj hbox 2).trans rfl; have hfg92 := Zao hbox 2; have hzg93 : w9.cell? ⟨g9, 3, none⟩ = some (.int .i64 0) := (Zaj hbox 3).trans rfl; have hfg93 := Zao hbox 3; have hzg94 : w9.cell? ⟨g9, 4, none⟩ = some (.int .i64 0) := (Zaj hbox 4).trans rfl; have hfg94 := Zao hbox 4; have hzg95 : w9.cell? ⟨g9, 5, none⟩ = some (.slice none 0 0) := (Zaj hbox 5).trans rfl; have hfg95 := Zao hbox 5; have hzg96 : w9.cell? ⟨g9, 6, none⟩ = some (.int .i64 0) := (Zaj hbox 6).trans rfl; have hfg96 := Zao hbox 6; have B8 := Za.mk (show Below wr.heap.size wr (((((((w8.setCell ⟨g8, 0, none⟩ (.int .i64 x.f0)).setCell ⟨g8, 1, none⟩ (.slice A1A x.f1.length c1A)).setCell ⟨g8, 2, none⟩ (.slice A2A x.f2.length c2A)).setCell ⟨g8, 3, none⟩ (.int .i64 x.f3)).setCell ⟨g8, 4, none⟩ (.int .i64 x.f4)).setCell ⟨g8, 5, none⟩ (.slice A5A x.f5.length c5A)).setCell ⟨g8, 6, none⟩ (.int .i64 x.f6)) from (Zac (Zac (Zac (Zac (Zac (Zac (Zac BV.out HG8.out) HG8.out) HG8.out) HG8.out) HG8.out) HG8.out) HG8.out)); have BV9 := Za.mk (Zaf (mvB B8.out) hb); have BY8 := Za.mk (Zap (mvK (Zaq (cs' := #[.int .i64 x.f0, .slice A1A x.f1.length c1A, .slice A2A x.f2.length c2A, .int .i64 x.f3, .int .i64 x.f4, .slice A5A x.f5.length c5A, .int .i64 x.f6]) (Zaq (cs' := #[.int .i64 x.f0, .slice A1A x.f1.length c1A, .slice A2A x.f2.length c2A, .int .i64 x.f3, .int .i64 x.f4, .slice A5A x.f5.length c5A, .int .i64 0]) (Zaq (cs' := #[.int .i64 x.f0, .slice A1A x.f1.length c1A, .slice A2A x.f2.length c2A, .int .i64 x.f3, .int .i64 x.f4, .slice none 0 0, .int .i64 0]) (Zaq (cs' := #[.int .i64 x.f0, .slice A1A x.f1.length c1A, .slice A2A x.f2.length c2A, .int .i64 x.f3, .int .i64 0, .slice none 0 0, .int .i64 0]) (Zaq (cs' := #[.int .i64 x.f0, .slice A1A x.f1.length c1A, .slice A2A x.f2.length c2A, .int .i64 0, .int .i64 0, .slice none 0 0, .int .i64 0]) (Zaq (cs' := #[.int .i64 x.f0, .slice A1A x.f1.length c1A, .slice none 0 0, .int .i64 0, .int .i64 0, .slice none 0 0, .int .i64 0]) (Zaq (cs' := #[.int .i64 x.f0, .slice none 0 0, .slice none 0 0, .int .i64 0, .int .i64 0, .slice none 0 0, .int .i64 0]) BXg8.out 0 (.int .i64 x.f0) rfl) 1 (.slice A1A x.f1.length c1A) rfl) 2 (.slice A2A x.f2.length c2A) rfl) 3 (.int .i64 x.f3) rfl) 4 (.int .i64 x.f4) rfl) 5 (.slice A5A x.f5.length c5A) rfl) 6 (.int .i64 x.f6) rfl)) hb); have HG9 : Za (wr.heap.size ≤ g9) := ⟨by rw [hgg9]; exact (mvB B8.out).size⟩; have NE98 : Za (g8 ≠ g9) := ⟨by rw [hgg9]; exact Nat.ne_of_lt (Nat.lt_of_lt_of_le (Zbt (Zaq (cs' := #[.int .i64 x.f0, .slice A1A x.f1.length c1A, .slice A2A x.f2.length c2A, .int .i64 x.f3, .int .i64 x.f4, .slice A5A x.f5.length c5A, .int .i64 x.f6]) (Zaq (cs' := #[.int .i64 x.f0, .slice A1A x.f1.length c1A, .slice A2A x.f2.length c2A, .int .i64 x.f3, .int .i64 x.f4, .slice A5A x.f5.length c5A, .int .i64 0]) (Zaq (cs' := #[.int .i64 x.f0, .slice A1A x.f1.length c1A, .slice A2A x.f2.length c2A, .int .i64 x.f3, .int .i64 x.f4, .slice none 0 0, .int .i64 0]) (Zaq (cs' := #[.int .i64 x.f0, .slice A1A x.f1.length c1A, .slice A2A x.f2.length c2A, .int .i64 x.f3, .int .i64 0, .slice none 0 0, .int .i64 0]) (Zaq (cs' := #[.int .i64 x.f0, .slice A1A x.f1.length c1A, .slice A2A x.f2.length c2A, .int .i64 0, .int .i64 0, .slice none 0 0, .int .i64 0]) (Zaq (cs' := #[.int .i64 x.f0, .slice A1A x.f1.length c1A, .slice none 0 0, .int .i64 0, .int .i64 0, .slice none 0 0, .int .i64 0]) (Zaq (cs' := #[.int .i64 x.f0, .slice none 0 0, .slice none 0 0, .int .i64 0, .int .i64 0, .slice none 0 0, .int .i64 0]) BXg8.out 0 (.int .i64 x.f0) rfl) 1 (.slice A1A x.f1.length c1A) rfl) 2 (.slice A2A x.f2.length c2A) rfl) 3 (.int .i64 x.f3) rfl) 4 (.int .i64 x.f4) rfl) 5 (.slice A5A x.f5.length c5A) rfl) 6 (.int .i64 x.f6) rfl)) (mvB (Below.refl (((((((w8.setCell ⟨g8, 0, none⟩ (.int .i64 x.f0)).setCell ⟨g8, 1, none⟩ (.slice A1A x.f1.length c1A)).setCell ⟨g8, 2, none⟩ (.slice A2A x.f2.length c2A)).setCell ⟨g8, 3, none⟩ (.int .i64 x.f3)).setCell ⟨g8, 4, none⟩ (.int .i64 x.f4)).setCell ⟨g8, 5, none⟩ (.slice A5A x.f5.length c5A)).setCell ⟨g8, 6, none⟩ (.int .i64 x.f6)).heap.size (((((((w8.setCell ⟨g8, 0, none⟩ (.int .i64 x.f0)).setCell ⟨g8, 1, none⟩ (.slice A1A x.f1.length c1A)).setCell ⟨g8, 2, none⟩ (.slice A2A x.f2.length c2A)).setCell ⟨g8, 3, none⟩ (.int .i64 x.f3)).setCell ⟨g8, 4, none⟩ (.int .i64 x.f4)).setCell ⟨g8, 5, none⟩ (.slice A5A x.f5.length c5A)).setCell ⟨g8, 6, none⟩ (.int .i64 x.f6)))).size)⟩; have ne1_ := NE98.out; have ne2_ := Ne.symm NE98.out; have hw0 : w9.cell? ⟨g8, 0, none⟩ = some (.int .i64 x.f0) := (Zaj BY8.out 0).trans rfl; have hw1 : w9.cell? ⟨g8, 1, none⟩ = some (.slice A1A x.f1.length c1A) := (Zaj BY8.out 1).trans rfl; have hw2 : w9.cell? ⟨g8, 2, none⟩ = some (.slice A2A x.f2.length c2A) := (Zaj BY8.out 2).trans rfl; have hw3 : w9.cell? ⟨g8, 3, none⟩ = some (.int .i64 x.f3) := (Zaj BY8.out 3).trans rfl; have hw4 : w9.cell? ⟨g8, 4, none⟩ = some (.int .i64 x.f4) := (Zaj BY8.out 4).trans rfl; have hw5 : w9.cell? ⟨g8, 5, none⟩ = some (.slice A5A x.f5.length c5A) := (Zaj BY8.out 5).trans rfl; have hw6 : w9.cell? ⟨g8, 6, none⟩ = some (.int .i64 x.f6) := (Zaj BY8.out 6).trans rfl; clear hbox hb hgg9) | (go_at_fn g; go_loud (have B9 := Za.mk (show Below wr.heap.size wr (((((((w9.setCell ⟨g9, 0, none⟩ (.int .i64 y.f0)).setCell ⟨g9, 1, none⟩ (.slice A1B y.f1.length c1B)).setCell ⟨g9, 2, none⟩ (.slice A2B y.f2.length c2B)).setCell ⟨g9, 3, none⟩ (.int .i64 y.f3)).setCell ⟨g9, 4, none⟩ (.int .i64 y.f4)).setCell ⟨g9, 5, none⟩ (.slice A5B y.f5.length c5B)).setCell ⟨g9, 6, none⟩ (.int .i64 y.f6)) from (Zac (Zac (Zac (Zac (Zac (Zac (Zac BV9.out HG9.out) HG9.out) HG9.out) HG9.out) HG9.out) HG9.out) HG9.out)); refine (CC.out _ (mvB B9.out)).mono ?_; rintro e_ w12 ⟨rfl, hb⟩; have BE := Za.mk (Zaf (mvB B9.out) hb); clear hb)))
      go_roundg (xs.length - (i + 1))
      case measure => omega
      case rel => exact ⟨i + 1, by omega, by omega, (by first | go_num | (rw [show wrap64 ((i : Int) + 1) = ((i + 1 : Nat) : Int) from by unfold wrap64; omega])), ⟨Zaf BW.out (mvB BE.out)⟩, ⟨HA2⟩⟩
end Go.Proofs.Ytkgjaklnbgdmiaa.P
namespace Go.Proofs.Ytkgjaklnbgdmiaa.P
open Go.RowKit Go.Proofs.YtkgjaklnbgdmiaaW.PrintWords Go.Proofs.YtkgjaklnbgdmiaaW.PrintLast Go.Proofs.YtkgjaklnbgdmiaaW.PrintMore
attribute [local go_sem] Zcs Zcu Zc7 Zc8 Zcc Zcd Zct Zcv
set_option linter.unusedVariables false
set_option linter.unusedSimpArgs false
theorem eqA48 (d : Nat) (w : World) (x0 y0 : Int) (x1 y1 : Int) :
  (Op.equalIn (d + 2) 48 (.agg #[.int .i64 x0, .int .i64 x1]) (.agg #[.int .i64 y0, .int .i64 y1])).run Try.prog w = .ok (x0 == y0 && (x1 == y1)) w := by
 refine eqA_of Try.underlying48 (by kernel_rfl) ?_
 refine eqf_cons (by rfl) (by go_simp; rfl) (by go_simp; rfl) (by go_simp) ?_
 exact eqf_last (by rfl) (by go_simp; rfl) (by go_simp; rfl) (by go_simp)
end Go.Proofs.Ytkgjaklnbgdmiaa.P
namespace Go.Proofs.Ytkgjaklnbgdmiaa.P
open Go.RowKit Go.Proofs.YtkgjaklnbgdmiaaW.PrintWords Go.Proofs.YtkgjaklnbgdmiaaW.PrintLast Go.Proofs.YtkgjaklnbgdmiaaW.PrintMore
attribute [local go_sem] Zcs Zcu Zc7 Zc8 Zcc Zcd Zct Zcv
set_option linter.unusedVariables false
set_option linter.unusedSimpArgs false
attribute [local go_sem high] eqA48
def Za6.l0 : Nat → List (S48) → List (S48) → Int → Int → Option (Bool)
 | 0, _, _, _, _ => none
 | k + 1, x0, x1, x12, x13 => if x13 < x12 then (if 0 ≤ x13 then (if x13 < (x0.length : Int) then (if x13 < (x1.length : Int) then (if (!(((Zb x0 x13).f0) == ((Zb x1 x13).f0)) || (!(((Zb x0 x13).f1) == ((Zb x1 x13).f1)))) = true then (some false) else (Za6.l0 k x0 x1 x12 (wrap64 (x13 + 1)))) else (none)) else (none)) else (none)) else (some true)
def Za6.f (k : Nat) (l0 : List (S48)) (l1 : List (S48)) : Option (Bool) := if (l0.length : Int) = (l1.length : Int) then (Za6.l0 k l0 l1 (l0.length : Int) 0) else (some false)
theorem Za6.Ze7 : ∀ k, (∀ y0 y1 y2 y3, LeO (Za6.l0 k y0 y1 y2 y3) (Za6.l0 (k + 1) y0 y1 y2 y3))
 | 0 => fun _ _ _ _ r h => by simp [Za6.l0] at h
 | k + 1 => by
  have ih0 := Za6.Ze7 k
  intro y0 y1 y2 y3
  unfold Za6.l0
  repeat' first
  | (with_reducible exact ih0 _ _ _ _)
  | (with_reducible exact LeO.refl _)
  | (with_reducible exact LeO.none _)
  | (with_reducible refine LeO.ite ?_ ?_)
  | (with_reducible refine LeO.bind ?_ (fun _ => ?_))
  | exact ih0 _ _ _ _
  | exact LeO.none _
  | refine LeO.ite ?_ ?_
  | refine LeO.bind ?_ (fun _ => ?_)
theorem Za6.mono : ∀ a0 a1 k, LeO (Za6.f k a0 a1) (Za6.f (k + 1) a0 a1) := by
 intro a0 a1 k
 have ih0 := Za6.Ze7 k
 unfold Za6.f
 repeat' first
   | (with_reducible exact ih0 _ _ _ _)
   | (with_reducible exact LeO.refl _)
   | (with_reducible exact LeO.none _)
   | (with_reducible refine LeO.ite ?_ ?_)
   | (with_reducible refine LeO.bind ?_ (fun _ => ?_))
   | exact ih0 _ _ _ _
   | exact LeO.none _
   | refine LeO.ite ?_ ?_
   | refine LeO.bind ?_ (fun _ => ?_)
set_option maxHeartbeats 8000000 in
set_option maxRecDepth 100000 in
theorem Za6.calls (k : Nat) (A0 : Option Addr) (c0 : Nat) (l0 : List (S48)) (A1 : Option Addr) (c1 : Nat) (l1 : List (S48)) (r : Bool) (w : World) (hr0 : Kd.C k48 w A0 l0.length l0) (hc0 : l0.length ≤ c0) (hr1 : Kd.C k48 w A1 l1.length l1) (hc1 : l1.length ≤ c1) (h : Za6.f k l0 l1 = some r) :
  Calls Try.prog 83 #[.slice A0 l0.length c0, .slice A1 l1.length c1] w fun e w' => e = .returned (.bool r) ∧ Zbf w w' := by
 have hu48 := Try.underlying48
 have HR0 := Za.mk hr0
 have HC0 := Za.mk hc0
 clear hr0 hc0
 have HR1 := Za.mk hr1
 have HC1 := Za.mk hc1
 clear hr1 hc1
 have H : (if (l0.length : Int) = (l1.length : Int) then (Za6.l0 k l0 l1 (l0.length : Int) 0) else (some false)) = some r := h
 clear h
 by_cases c3 : (l0.length : Int) = (l1.length : Int)
 rotate_left
 ·rw [if_neg c3] at H
  have c3b0 : ((l0.length : Int) == (l1.length : Int)) = false := beq_eq_false_iff_ne.mpr c3
  have c3b1 : ((l0.length : Int) != (l1.length : Int)) = true := bne_iff_ne.mpr c3
  have c3b2 : (l0.length == l1.length) = false := by first | simpa using c3 | (simp at c3 ⊢; omega)
  obtain rfl := Option.some.inj H
  go_enter Try.func83, Try.ntmps83
  go_wp2
  repeat (go_quiet (fail); try go_wp2)
  go_ret
  exact ⟨by first | rfl | (simp; done) | (simp [*]; done), by repeat (first | exact Zbf.refl _ | apply Zbf.step)⟩
 rw [if_pos c3] at H
 have c3b0 : ((l0.length : Int) == (l1.length : Int)) = true := beq_iff_eq.mpr c3
 have c3b1 : ((l0.length : Int) != (l1.length : Int)) = false := bne_eq_false_iff_eq.mpr c3
 have c3b2 : (l0.length == l1.length) = true := by first | simpa using c3 | (simp at c3 ⊢; omega)
 clear c3
 have H' := Za.mk H
 clear H
 go_enter Try.func83, Try.ntmps83
 go_wp2
 repeat (go_quiet (fail); try go_wp2)
 go_loopg [13] k (fun kq v13 w' => ∃ (x13_1 : Int), v13 = .int .i64 x13_1 ∧ Za (Za6.l0 kq l0 l1 (l0.length : Int) x13_1 = some r) ∧ Za (kq ≤ k) ∧ Zbf w w')
 case atStart => exact ⟨(0), (by first | rfl | (simp; done) | (simp [*]; done)), H', ⟨Nat.le_refl _⟩, by repeat (first | exact Zbf.refl _ | apply Zbf.step)⟩
 case round =>
  clear H'
  try clear c1
  try clear p2
  try clear c3
  try clear c3b0
  try clear c3b1
  try clear c3b2
  obtain ⟨x13_1, rfl, HA, HK1, ⟨m1, rfl⟩⟩ := hrel
  cases gk with
  | zero => exact absurd HA.out (by simp [Za6.l0])
  | succ k1 =>
   have H := HA.out
   clear HA
   simp only [Za6.l0] at H
   by_cases c4 : x13_1 < (l0.length : Int)
   rotate_left
   ·rw [if_neg c4] at H
    have c4b0 : decide (x13_1 < (l0.length : Int)) = false := decide_eq_false c4
    clear c4
    obtain rfl := Option.some.inj H
    go_wp2
    repeat (go_quiet (fail); try go_wp2)
    go_ret
    exact ⟨by first | rfl | (simp; done) | (simp [*]; done), by repeat (first | exact Zbf.refl _ | apply Zbf.step)⟩
   rw [if_pos c4] at H
   have c4b0 : decide (x13_1 < (l0.length : Int)) = true := decide_eq_true c4
   clear c4
   by_cases c5 : 0 ≤ x13_1
   rotate_left
   ·rw [if_neg c5] at H
    exact absurd H (by simp)
   rw [if_pos c5] at H
   have c5b0 : decide (0 ≤ x13_1) = true := decide_eq_true c5
   clear c5
   by_cases c6 : x13_1 < (l0.length : Int)
   rotate_left
   ·rw [if_neg c6] at H
    exact absurd H (by simp)
   rw [if_pos c6] at H
   have c6b0 : decide (x13_1 < (l0.length : Int)) = true := decide_eq_true c6
   clear c6
   by_cases c7 : x13_1 < (l1.length : Int)
   rotate_left
   ·rw [if_neg c7] at H
    exact absurd H (by simp)
   rw [if_pos c7] at H
   have c7b0 : decide (x13_1 < (l1.length : Int)) = true := decide_eq_true c7
   clear c7
   by_cases c8 : (!(((Zb l0 x13_1).f0) == ((Zb l1 x13_1).f0)) || (!(((Zb l0 x13_1).f1) == ((Zb l1 x13_1).f1)))) = true
   ·rw [if_pos c8] at H
    have c8b0 : (!(((Zb l0 x13_1).f0) == ((Zb l1 x13_1).f0)) || (!(((Zb l0 x13_1).f1) == ((Zb l1 x13_1).f1)))) = true := c8
    clear c8
    obtain rfl := Option.some.inj H
    have p256 : 0 ≤ (x13_1 : Int) := of_decide_eq_true (by first | (with_reducible assumption) | assumption)
    have q256 : x13_1 < (l0.length : Int) := of_decide_eq_true (by first | (with_reducible assumption) | assumption)
    obtain ⟨ad256, e256, hx256_0, hx256_1⟩ := Zeq HR0.out x13_1 p256 q256
    cases e256
    replace p256 := eq_true p256
    replace q256 := eq_true q256
    have p257 : 0 ≤ (x13_1 : Int) := of_decide_eq_true (by first | (with_reducible assumption) | assumption)
    have q257 : x13_1 < (l1.length : Int) := of_decide_eq_true (by first | (with_reducible assumption) | assumption)
    obtain ⟨ad257, e257, hx257_0, hx257_1⟩ := Zeq HR1.out x13_1 p257 q257
    cases e257
    replace p257 := eq_true p257
    replace q257 := eq_true q257
    go_wp2
    repeat (go_quiet (fail); try go_wp2)
    go_ret
    exact ⟨by first | rfl | (simp; done) | (simp [*]; done), by repeat (first | exact Zbf.refl _ | apply Zbf.step)⟩
   rw [if_neg c8] at H
   have c8b0 : (!(((Zb l0 x13_1).f0) == ((Zb l1 x13_1).f0)) || (!(((Zb l0 x13_1).f1) == ((Zb l1 x13_1).f1)))) = false := by simpa using c8
   clear c8
   have H' := Za.mk H
   clear H
   have p256 : 0 ≤ (x13_1 : Int) := of_decide_eq_true (by first | (with_reducible assumption) | assumption)
   have q256 : x13_1 < (l0.length : Int) := of_decide_eq_true (by first | (with_reducible assumption) | assumption)
   obtain ⟨ad256, e256, hx256_0, hx256_1⟩ := Zeq HR0.out x13_1 p256 q256
   cases e256
   replace p256 := eq_true p256
   replace q256 := eq_true q256
   have p257 : 0 ≤ (x13_1 : Int) := of_decide_eq_true (by first | (with_reducible assumption) | assumption)
   have q257 : x13_1 < (l1.length : Int) := of_decide_eq_true (by first | (with_reducible assumption) | assumption)
   obtain ⟨ad257, e257, hx257_0, hx257_1⟩ := Zeq HR1.out x13_1 p257 q257
   cases e257
   replace p257 := eq_true p257
   replace q257 := eq_true q257
   go_wp2
   repeat (go_quiet (fail); try go_wp2)
   go_roundg k1
   case measure => have := HK1.out; omega
   case rel => exact ⟨(wrap64 (x13_1 + 1)), (by first | rfl | (simp; done) | (simp [*]; done)), H', ⟨by have := HK1.out; omega⟩, by repeat (first | exact Zbf.refl _ | apply Zbf.step)⟩
end Go.Proofs.Ytkgjaklnbgdmiaa.P
namespace Go.Proofs.Ytkgjaklnbgdmiaa.P
open Go.RowKit Go.Proofs.YtkgjaklnbgdmiaaW.PrintWords Go.Proofs.YtkgjaklnbgdmiaaW.PrintLast Go.Proofs.YtkgjaklnbgdmiaaW.PrintMore
attribute [local go_sem] Zcs Zcu Zc7 Zc8 Zcc Zcd Zct Zcv
set_option linter.unusedVariables false
set_option linter.unusedSimpArgs false
def Zdo.f (k : Nat) (l0 : List (S48)) (l1 : List (S48)) : Option (Bool) := (Za6.f k l0 l1).bind fun t258 => (some t258)
theorem Zdo.mono : ∀ a0 a1 k, LeO (Zdo.f k a0 a1) (Zdo.f (k + 1) a0 a1) := by
 intro a0 a1 k
 unfold Zdo.f
 repeat' first
   | (with_reducible exact Za6.mono _ _ _)
   | (with_reducible exact LeO.refl _)
   | (with_reducible exact LeO.none _)
   | (with_reducible refine LeO.ite ?_ ?_)
   | (with_reducible refine LeO.bind ?_ (fun _ => ?_))
   | exact Za6.mono _ _ _
   | exact LeO.none _
   | refine LeO.ite ?_ ?_
   | refine LeO.bind ?_ (fun _ => ?_)
set_option maxHeartbeats 8000000 in
set_option maxRecDepth 100000 in
theorem Zdo.calls (k : Nat) (A0 : Option Addr) (c0 : Nat) (l0 : List (S48)) (A1 : Option Addr) (c1 : Nat) (l1 : List (S48)) (r : Bool) (w : World) (hr0 : Kd.C k48 w A0 l0.length l0) (hc0 : l0.length ≤ c0) (hr1 : Kd.C k48 w A1 l1.length l1) (hc1 : l1.length ≤ c1) (h : Zdo.f k l0 l1 = some r) :
  Calls Try.prog 53 #[.slice A0 l0.length c0, .slice A1 l1.length c1] w fun e w' => e = .returned (.bool r) ∧ Zbf w w' := by
 have HR0 := Za.mk hr0
 have HC0 := Za.mk hc0
 clear hr0 hc0
 have HR1 := Za.mk hr1
 have HC1 := Za.mk hc1
 clear hr1 hc1
 have H : ((Za6.f k l0 l1).bind fun t258 => (some t258)) = some r := h
 clear h
 replace H := Option.bind_eq_some_iff.mp H
 obtain ⟨t258, A30, H⟩ := H
 replace H : (some t258) = some r := H
 have A3 := Za.mk A30
 clear A30
 obtain rfl := Option.some.inj H
 go_enter Try.func53, Try.ntmps53
 go_wp2_with (first | ((with_reducible refine Zay (f := 83) rfl ?_); refine Zbu (some 7) rfl rfl Try.func83 (by kernel_rfl) rfl #[.slice A0 l0.length c0, .slice A1 l1.length c1] rfl (by (try simp only [List.map_toArray, List.map_cons, List.map_nil]); first | done | rfl | (simp only [List.length_drop, List.length_take]; rfl)) ?_; (with_reducible refine (Za6.calls k _ _ l0 _ _ l1 t258 _ ?side1 ?side2 ?side3 ?side4 A3.out).mono ?_); (case side1 => repeat (first | exact HR0.out | (with_reducible refine Kd.C_alloc ?_ _) | (with_reducible refine Kd.Zaw ?_ _) | (with_reducible refine Kd.C_drew ?_))); (case side2 => exact HC0.out); (case side3 => repeat (first | exact HR1.out | (with_reducible refine Kd.C_alloc ?_ _) | (with_reducible refine Kd.Zaw ?_ _) | (with_reducible refine Kd.C_drew ?_))); (case side4 => exact HC1.out); rintro e w' ⟨rfl, ⟨nd, rfl⟩⟩; refine ⟨_, rfl, ?_⟩))
 go_ret
 exact ⟨by first | rfl | (simp; done) | (simp [*]; done), by repeat (first | exact Zbf.refl _ | apply Zbf.step)⟩
def slices_Equal_int.l0 : Nat → List Int → List Int → Int → Int → Option (Bool)
 | 0, _, _, _, _ => none
 | k + 1, x0, x1, x12, x13 => if x13 < x12 then (if 0 ≤ x13 then (if x13 < (x0.length : Int) then (if x13 < (x1.length : Int) then (if (rd x0 x13) = (rd x1 x13) then (slices_Equal_int.l0 k x0 x1 x12 (wrap64 (x13 + 1))) else (some false)) else (none)) else (none)) else (none)) else (some true)
def slices_Equal_int.f (k : Nat) (l0 : List Int) (l1 : List Int) : Option (Bool) := if (l0.length : Int) = (l1.length : Int) then (slices_Equal_int.l0 k l0 l1 (l0.length : Int) 0) else (some false)
set_option maxHeartbeats 8000000 in
set_option maxRecDepth 100000 in
theorem slices_Equal_int.calls (k : Nat) (A0 : Option Addr) (c0 : Nat) (l0 : List Int) (A1 : Option Addr) (c1 : Nat) (l1 : List Int) (r : Bool) (w : World) (hr0 : Kd.C (Kd.int .i64) w A0 l0.length l0) (hc0 : l0.length ≤ c0) (hr1 : Kd.C (Kd.int .i64) w A1 l1.length l1) (hc1 : l1.length ≤ c1) (h : slices_Equal_int.f k l0 l1 = some r) :
  Calls Try.prog 54 #[.slice A0 l0.length c0, .slice A1 l1.length c1] w fun e w' => e = .returned (.bool r) ∧ Zbf w w' := by
 have HR0 := Za.mk hr0
 have HC0 := Za.mk hc0
 clear hr0 hc0
 have HR1 := Za.mk hr1
 have HC1 := Za.mk hc1
 clear hr1 hc1
 have H : (if (l0.length : Int) = (l1.length : Int) then (slices_Equal_int.l0 k l0 l1 (l0.length : Int) 0) else (some false)) = some r := h
 clear h
 by_cases c3 : (l0.length : Int) = (l1.length : Int)
 rotate_left
 ·rw [if_neg c3] at H
  have c3b0 : ((l0.length : Int) == (l1.length : Int)) = false := beq_eq_false_iff_ne.mpr c3
  have c3b1 : ((l0.length : Int) != (l1.length : Int)) = true := bne_iff_ne.mpr c3
  have c3b2 : (l0.length == l1.length) = false := by first | simpa using c3 | (simp at c3 ⊢; omega)
  obtain rfl := Option.some.inj H
  go_enter Try.func54, Try.ntmps54
  go_wp2
  repeat (go_quiet (fail); try go_wp2)
  go_ret
  exact ⟨by first | rfl | (simp; done) | (simp [*]; done), by repeat (first | exact Zbf.refl _ | apply Zbf.step)⟩
 rw [if_pos c3] at H
 have c3b0 : ((l0.length : Int) == (l1.length : Int)) = true := beq_iff_eq.mpr c3
 have c3b1 : ((l0.length : Int) != (l1.length : Int)) = false := bne_eq_false_iff_eq.mpr c3
 have c3b2 : (l0.length == l1.length) = true := by first | simpa using c3 | (simp at c3 ⊢; omega)
 clear c3
 have H' := Za.mk H
 clear H
 go_enter Try.func54, Try.ntmps54
 go_wp2
 repeat (go_quiet (fail); try go_wp2)
 go_loopg [13] k (fun kq v13 w' => ∃ (x13_1 : Int), v13 = .int .i64 x13_1 ∧ Za (slices_Equal_int.l0 kq l0 l1 (l0.length : Int) x13_1 = some r) ∧ Za (kq ≤ k) ∧ Zbf w w')
 case atStart => exact ⟨(0), (by first | rfl | (simp; done) | (simp [*]; done)), H', ⟨Nat.le_refl _⟩, by repeat (first | exact Zbf.refl _ | apply Zbf.step)⟩
 case round =>
  clear H'
  try clear c1
  try clear p2
  try clear c3
  try clear c3b0
  try clear c3b1
  try clear c3b2
  obtain ⟨x13_1, rfl, HA, HK1, ⟨m1, rfl⟩⟩ := hrel
  cases gk with
  | zero => exact absurd HA.out (by simp [slices_Equal_int.l0])
  | succ k1 =>
   have H := HA.out
   clear HA
   simp only [slices_Equal_int.l0] at H
   by_cases c4 : x13_1 < (l0.length : Int)
   rotate_left
   ·rw [if_neg c4] at H
    have c4b0 : decide (x13_1 < (l0.length : Int)) = false := decide_eq_false c4
    clear c4
    obtain rfl := Option.some.inj H
    go_wp2
    repeat (go_quiet (fail); try go_wp2)
    go_ret
    exact ⟨by first | rfl | (simp; done) | (simp [*]; done), by repeat (first | exact Zbf.refl _ | apply Zbf.step)⟩
   rw [if_pos c4] at H
   have c4b0 : decide (x13_1 < (l0.length : Int)) = true := decide_eq_true c4
   clear c4
   by_cases c5 : 0 ≤ x13_1
   rotate_left
   ·rw [if_neg c5] at H
    exact absurd H (by simp)
   rw [if_pos c5] at H
   have c5b0 : decide (0 ≤ x13_1) = true := decide_eq_true c5
   clear c5
   by_cases c6 : x13_1 < (l0.length : Int)
   rotate_left
   ·rw [if_neg c6] at H
    exact absurd H (by simp)
   rw [if_pos c6] at H
   have c6b0 : decide (x13_1 < (l0.length : Int)) = true := decide_eq_true c6
   clear c6
   by_cases c7 : x13_1 < (l1.length : Int)
   rotate_left
   ·rw [if_neg c7] at H
    exact absurd H (by simp)
   rw [if_pos c7] at H
   have c7b0 : decide (x13_1 < (l1.length : Int)) = true := decide_eq_true c7
   clear c7
   by_cases c8 : (rd l0 x13_1) = (rd l1 x13_1)
   rotate_left
   ·rw [if_neg c8] at H
    have c8b0 : ((rd l0 x13_1) == (rd l1 x13_1)) = false := beq_eq_false_iff_ne.mpr c8
    have c8b1 : ((rd l0 x13_1) != (rd l1 x13_1)) = true := bne_iff_ne.mpr c8
    obtain rfl := Option.some.inj H
    have p259 : 0 ≤ (x13_1 : Int) := of_decide_eq_true (by first | (with_reducible assumption) | assumption)
    have q259 : x13_1 < (l0.length : Int) := of_decide_eq_true (by first | (with_reducible assumption) | assumption)
    obtain ⟨ad259, e259, hx259_0⟩ := Kd.Zcq HR0.out x13_1 p259 q259
    cases e259
    replace p259 := eq_true p259
    replace q259 := eq_true q259
    have p260 : 0 ≤ (x13_1 : Int) := of_decide_eq_true (by first | (with_reducible assumption) | assumption)
    have q260 : x13_1 < (l1.length : Int) := of_decide_eq_true (by first | (with_reducible assumption) | assumption)
    obtain ⟨ad260, e260, hx260_0⟩ := Kd.Zcq HR1.out x13_1 p260 q260
    cases e260
    replace p260 := eq_true p260
    replace q260 := eq_true q260
    go_wp2
    repeat (go_quiet (fail); try go_wp2)
    go_ret
    exact ⟨by first | rfl | (simp; done) | (simp [*]; done), by repeat (first | exact Zbf.refl _ | apply Zbf.step)⟩
   rw [if_pos c8] at H
   have c8b0 : ((rd l0 x13_1) == (rd l1 x13_1)) = true := beq_iff_eq.mpr c8
   have c8b1 : ((rd l0 x13_1) != (rd l1 x13_1)) = false := bne_eq_false_iff_eq.mpr c8
   clear c8
   have H' := Za.mk H
   clear H
   have p259 : 0 ≤ (x13_1 : Int) := of_decide_eq_true (by first | (with_reducible assumption) | assumption)
   have q259 : x13_1 < (l0.length : Int) := of_decide_eq_true (by first | (with_reducible assumption) | assumption)
   obtain ⟨ad259, e259, hx259_0⟩ := Kd.Zcq HR0.out x13_1 p259 q259
   cases e259
   replace p259 := eq_true p259
   replace q259 := eq_true q259
   have p260 : 0 ≤ (x13_1 : Int) := of_decide_eq_true (by first | (with_reducible assumption) | assumption)
   have q260 : x13_1 < (l1.length : Int) := of_decide_eq_true (by first | (with_reducible assumption) | assumption)
   obtain ⟨ad260, e260, hx260_0⟩ := Kd.Zcq HR1.out x13_1 p260 q260
   cases e260
   replace p260 := eq_true p260
   replace q260 := eq_true q260
   go_wp2
   repeat (go_quiet (fail); try go_wp2)
   go_roundg k1
   case measure => have := HK1.out; omega
   case rel => exact ⟨(wrap64 (x13_1 + 1)), (by first | rfl | (simp; done) | (simp [*]; done)), H', ⟨by have := HK1.out; omega⟩, by repeat (first | exact Zbf.refl _ | apply Zbf.step)⟩
end Go.Proofs.Ytkgjaklnbgdmiaa.P
/- model.Same: are two models the same? -/
namespace Go.Proofs.Ytkgjaklnbgdmiaa.P
open Go.RowKit Go.Shelf Go.Proofs.YtkgjaklnbgdmiaaW.PrintWords Go.Proofs.YtkgjaklnbgdmiaaW.PrintLast Go.Proofs.YtkgjaklnbgdmiaaW.PrintMore
set_option linter.unusedVariables false
set_option linter.unusedSimpArgs false
def varSame.f (k : Nat) (x y : S50) : Option Bool := if (x.f0.toList == y.f0.toList) = true then Zdo.f k x.f1 y.f1 else some false
def Zdm.f (k : Nat) (x y : S31) : Option Bool :=
  if (x.f0 ≠ y.f0 ∨ x.f3 ≠ y.f3) ∨ (x.f4 ≠ y.f4 ∨ x.f6 ≠ y.f6) then some false else (slices_Equal_int.f k x.f1 y.f1).bind fun p => if p = true then (slices_Equal_int.f k x.f2 y.f2).bind fun q => if q = true then equalF (slices_Equal_int.f k) x.f5 y.f5 else some false else some false
def Zdc.f (k : Nat) (v0 : List S50) (n0 : List S31) (g0 : Int) (p0 q0 : List Int) (v1 : List S50) (n1 : List S31) (g1 : Int) (p1 q1 : List Int) : Option Bool :=
  (equalF (varSame.f k) v0 v1).bind fun a => (if g0 = g1 then (slices_Equal_int.f k p0 p1).bind fun p => if p = true then slices_Equal_int.f k q0 q1 else some false else some false).bind fun g => if a = true then if g = true then equalF (Zdm.f k) n0 n1 else some false else some false
theorem varSame.mono (k : Nat) (x y : S50) : LeO (varSame.f k x y) (varSame.f (k + 1) x y) := by
  unfold varSame.f
  exact LeO.ite (Zdo.mono _ _ _) (LeO.refl _)
set_option maxHeartbeats 2000000 in
set_option maxRecDepth 100000 in
theorem varSame_calls (k : Nat) (x y : S50) (r : Bool) (A1 : Option Addr) (c1 : Nat) (B1 : Option Addr) (b1 : Nat) (w : World) (h : varSame.f k x y = some r) (hx : x.f1.length ≤ c1) (gx : Kd.C k48 w A1 x.f1.length x.f1) (hy : y.f1.length ≤ b1) (gy : Kd.C k48 w B1 y.f1.length y.f1) :
    Calls Try.prog 52 #[.agg #[.string x.f0, .slice A1 x.f1.length c1], .agg #[.string y.f0, .slice B1 y.f1.length b1]] w fun e w' => e = .returned (.bool r) ∧ Below w.heap.size w w' := by
  have HB := Za.mk (show Below w.heap.size w ((w.alloc (.cells #[.string x.f0, .slice A1 x.f1.length c1] 50)).alloc (.cells #[.string y.f0, .slice B1 y.f1.length b1] 50)) from Zab (Zab (Below.refl _ _) _) _)
  have GX := Za.mk gx
  have GY := Za.mk gy
  clear gx gy
  unfold varSame.f at h
  cases hn : (x.f0.toList == y.f0.toList) with
  | false =>
    rw [hn, if_neg (by decide)] at h
    obtain rfl := Option.some.inj h
    clear h
    go_enter Try.func52, Try.ntmps52
    go_wp2
    go_ret
    exact ⟨by first | rfl | (simp [*]; done), mvB HB.out⟩
  | true =>
    rw [hn, if_pos rfl] at h
    have H := Za.mk h
    clear h
    go_enter Try.func52, Try.ntmps52
    go_wp2_with (first | (go_at_call 53; go_loud (refine (Zdo.calls k A1 c1 x.f1 B1 b1 y.f1 r _ (Kd.Zal GX.out (mvB HB.out)) hx (Kd.Zal GY.out (mvB HB.out)) hy H.out).mono ?_; rintro e_ w' ⟨rfl, ⟨nd0, rfl⟩⟩)))
    go_ret
    exact ⟨by first | rfl | (simp [*]; done), mvB HB.out⟩
theorem eqPred (k : Nat) (w : World) (u v : List Int) (b : Bool) (W : World) (P1 : Option Addr) (p1 : Nat) (P2 : Option Addr) (p2 : Nat) (hf : slices_Equal_int.f k u v = some b) (_ : Below w.heap.size w W) (hl1 : u.length ≤ p1) (hc1 : Kd.C (Kd.int .i64) W P1 u.length u) (hl2 : v.length ≤ p2) (hc2 : Kd.C (Kd.int .i64) W P2 v.length v) :
    Calls Try.prog 54 (#[.slice P1 u.length p1, .slice P2 v.length p2] ++ #[]) W fun e w' => e = .returned (.bool b) ∧ Below W.heap.size W w' := by
  have h1 : Calls Try.prog 54 #[.slice P1 u.length p1, .slice P2 v.length p2] W (fun e w' => e = .returned (.bool b) ∧ Below W.heap.size W w') := (slices_Equal_int.calls k P1 p1 u P2 p2 v b W hc1 hl1 hc2 hl2 hf).mono (fun _ _ h_ => ⟨h_.1, h_.2.below⟩)
  simpa using h1
theorem varPred (k : Nat) (w : World) (u v : S50) (b : Bool) (W : World) (P1 : Option Addr) (p1 : Nat) (P2 : Option Addr) (p2 : Nat) (hf : varSame.f k u v = some b) (_ : Below w.heap.size w W) (hl1 : u.f1.length ≤ p1) (hc1 : Kd.C k48 W P1 u.f1.length u.f1) (hl2 : v.f1.length ≤ p2) (hc2 : Kd.C k48 W P2 v.f1.length v.f1) :
    Calls Try.prog 52 (#[.agg #[.string u.f0, .slice P1 u.f1.length p1], .agg #[.string v.f0, .slice P2 v.f1.length p2]] ++ #[]) W fun e w' => e = .returned (.bool b) ∧ Below W.heap.size W w' := by
  have h1 := varSame_calls k u v b P1 p1 P2 p2 W hf hl1 hc1 hl2 hc2
  simpa using h1
set_option maxHeartbeats 4000000 in
set_option maxRecDepth 100000 in
theorem alike_calls (k : Nat) (x y : S31) (r : Bool) (A1 : Option Addr) (a1 : Nat) (A2 : Option Addr) (a2 : Nat) (A5 : Option Addr) (a5 : Nat) (B1 : Option Addr) (b1 : Nat) (B2 : Option Addr) (b2 : Nat) (B5 : Option Addr) (b5 : Nat) (w : World) (h : Zdm.f k x y = some r) (hx1 : x.f1.length ≤ a1) (gx1 : Kd.C (Kd.int .i64) w A1 x.f1.length x.f1) (hx2 : x.f2.length ≤ a2) (gx2 : Kd.C (Kd.int .i64) w A2 x.f2.length x.f2) (hx5 : x.f5.length ≤ a5) (gx5 : Kd.C (Kd.slice 3 (Kd.int .i64)) w A5 x.f5.length x.f5) (hy1 : y.f1.length ≤ b1) (gy1 : Kd.C (Kd.int .i64) w B1 y.f1.length y.f1) (hy2 : y.f2.length ≤ b2) (gy2 : Kd.C (Kd.int .i64) w B2 y.f2.length y.f2) (hy5 : y.f5.length ≤ b5) (gy5 : Kd.C (Kd.slice 3 (Kd.int .i64)) w B5 y.f5.length y.f5) :
    Calls Try.prog 56 #[.agg #[.int .i64 x.f0, .slice A1 x.f1.length a1, .slice A2 x.f2.length a2, .int .i64 x.f3, .int .i64 x.f4, .slice A5 x.f5.length a5, .int .i64 x.f6], .agg #[.int .i64 y.f0, .slice B1 y.f1.length b1, .slice B2 y.f2.length b2, .int .i64 y.f3, .int .i64 y.f4, .slice B5 y.f5.length b5, .int .i64 y.f6]] w fun e w' => e = .returned (.bool r) ∧ Below w.heap.size w w' := by
  have HB := Za.mk (show Below w.heap.size w ((w.alloc (.cells #[.int .i64 x.f0, .slice A1 x.f1.length a1, .slice A2 x.f2.length a2, .int .i64 x.f3, .int .i64 x.f4, .slice A5 x.f5.length a5, .int .i64 x.f6] 31)).alloc (.cells #[.int .i64 y.f0, .slice B1 y.f1.length b1, .slice B2 y.f2.length b2, .int .i64 y.f3, .int .i64 y.f4, .slice B5 y.f5.length b5, .int .i64 y.f6] 31)) from Zab (Zab (Below.refl _ _) _) _)
  have Gx1 := Za.mk gx1
  clear gx1
  have Gx2 := Za.mk gx2
  clear gx2
  have Gx5 := Za.mk gx5
  clear gx5
  have Gy1 := Za.mk gy1
  clear gy1
  have Gy2 := Za.mk gy2
  clear gy2
  have Gy5 := Za.mk gy5
  clear gy5
  unfold Zdm.f at h
  have CQ := Za.mk (fun (W : World) (hW : Below w.heap.size w W) (hq : equalF (slices_Equal_int.f k) x.f5 y.f5 = some r) => equalFunc_L (slices_Equal_int.f k) 54 #[] (enters_of Try.func54 (by kernel_rfl) rfl) A5 a5 x.f5 B5 b5 y.f5 r W (Kd.Zal Gx5.out hW) (Kd.Zal Gy5.out hW) (eqPred k W) hq)
  by_cases hq_ : x.f0 = y.f0
  case neg =>
    rw [if_pos (Or.inl (Or.inl hq_))] at h
    obtain rfl := Option.some.inj h
    clear h
    have m0a : (x.f0 == y.f0) = false := beq_eq_false_iff_ne.2 hq_
    have m0b : (x.f0 != y.f0) = true := by simp only [bne, m0a, Bool.not_false]
    have m0c : decide (x.f0 = y.f0) = false := decide_eq_false hq_
    clear hq_
    go_enter Try.func56, Try.ntmps56
    go_wp2
    go_ret
    exact ⟨by first | rfl | (simp [*]; done), mvB HB.out⟩
  have m0a : (x.f0 == y.f0) = true := beq_iff_eq.2 hq_
  have m0b : (x.f0 != y.f0) = false := by simp only [bne, m0a, Bool.not_true]
  have m0c : decide (x.f0 = y.f0) = true := decide_eq_true hq_
  have Q0 := Za.mk hq_
  clear hq_
  by_cases hq_ : x.f3 = y.f3
  case neg =>
    rw [if_pos (Or.inl (Or.inr hq_))] at h
    obtain rfl := Option.some.inj h
    clear h
    have m3a : (x.f3 == y.f3) = false := beq_eq_false_iff_ne.2 hq_
    have m3b : (x.f3 != y.f3) = true := by simp only [bne, m3a, Bool.not_false]
    have m3c : decide (x.f3 = y.f3) = false := decide_eq_false hq_
    clear hq_
    go_enter Try.func56, Try.ntmps56
    go_wp2
    go_ret
    exact ⟨by first | rfl | (simp [*]; done), mvB HB.out⟩
  have m3a : (x.f3 == y.f3) = true := beq_iff_eq.2 hq_
  have m3b : (x.f3 != y.f3) = false := by simp only [bne, m3a, Bool.not_true]
  have m3c : decide (x.f3 = y.f3) = true := decide_eq_true hq_
  have Q3 := Za.mk hq_
  clear hq_
  by_cases hq_ : x.f4 = y.f4
  case neg =>
    rw [if_pos (Or.inr (Or.inl hq_))] at h
    obtain rfl := Option.some.inj h
    clear h
    have m4a : (x.f4 == y.f4) = false := beq_eq_false_iff_ne.2 hq_
    have m4b : (x.f4 != y.f4) = true := by simp only [bne, m4a, Bool.not_false]
    have m4c : decide (x.f4 = y.f4) = false := decide_eq_false hq_
    clear hq_
    go_enter Try.func56, Try.ntmps56
    go_wp2
    go_ret
    exact ⟨by first | rfl | (simp [*]; done), mvB HB.out⟩
  have m4a : (x.f4 == y.f4) = true := beq_iff_eq.2 hq_
  have m4b : (x.f4 != y.f4) = false := by simp only [bne, m4a, Bool.not_true]
  have m4c : decide (x.f4 = y.f4) = true := decide_eq_true hq_
  have Q4 := Za.mk hq_
  clear hq_
  by_cases hq_ : x.f6 = y.f6
  case neg =>
    rw [if_pos (Or.inr (Or.inr hq_))] at h
    obtain rfl := Option.some.inj h
    clear h
    have m6a : (x.f6 == y.f6) = false := beq_eq_false_iff_ne.2 hq_
    have m6b : (x.f6 != y.f6) = true := by simp only [bne, m6a, Bool.not_false]
    have m6c : decide (x.f6 = y.f6) = false := decide_eq_false hq_
    clear hq_
    go_enter Try.func56, Try.ntmps56
    go_wp2
    go_ret
    exact ⟨by first | rfl | (simp [*]; done), mvB HB.out⟩
  have m6a : (x.f6 == y.f6) = true := beq_iff_eq.2 hq_
  have m6b : (x.f6 != y.f6) = false := by simp only [bne, m6a, Bool.not_true]
  have m6c : decide (x.f6 = y.f6) = true := decide_eq_true hq_
  have Q6 := Za.mk hq_
  clear hq_
  rw [if_neg (fun h_ => h_.elim (fun h_ => h_.elim (fun h_ => h_ Q0.out) (fun h_ => h_ Q3.out)) (fun h_ => h_.elim (fun h_ => h_ Q4.out) (fun h_ => h_ Q6.out)))] at h
  obtain ⟨p, hp, h2_⟩ := Option.bind_eq_some_iff.1 h
  have E1 := Za.mk hp
  clear h hp
  cases p with
  | false =>
    rw [if_neg (by decide)] at h2_
    obtain rfl := Option.some.inj h2_
    clear h2_
    go_enter Try.func56, Try.ntmps56
    go_wp2_with (first | (go_at_call 54; (with_reducible refine (slices_Equal_int.calls k A1 a1 x.f1 B1 b1 y.f1 _ _ ?s1 hx1 ?s2 hy1 E1.out).mono ?_); (case s1 => exact Kd.Zal Gx1.out (mvB HB.out)); (case s2 => exact Kd.Zal Gy1.out (mvB HB.out)); rintro e_ w2 ⟨rfl, ⟨nd0, rfl⟩⟩))
    go_ret
    exact ⟨by first | rfl | (simp [*]; done), mvB HB.out⟩
  | true =>
    rw [if_pos rfl] at h2_
    obtain ⟨q, hq, h3_⟩ := Option.bind_eq_some_iff.1 h2_
    have E2 := Za.mk hq
    clear h2_ hq
    cases q with
    | false =>
      rw [if_neg (by decide)] at h3_
      obtain rfl := Option.some.inj h3_
      clear h3_
      go_enter Try.func56, Try.ntmps56
      go_wp2_with (first | (go_at_call 54; (with_reducible refine (slices_Equal_int.calls k A1 a1 x.f1 B1 b1 y.f1 _ _ ?s1 hx1 ?s2 hy1 E1.out).mono ?_); (case s1 => exact Kd.Zal Gx1.out (mvB HB.out)); (case s2 => exact Kd.Zal Gy1.out (mvB HB.out)); rintro e_ w2 ⟨rfl, ⟨nd0, rfl⟩⟩) | (go_at_call 54; (with_reducible refine (slices_Equal_int.calls k A2 a2 x.f2 B2 b2 y.f2 _ _ ?s1 hx2 ?s2 hy2 E2.out).mono ?_); (case s1 => exact Kd.Zal Gx2.out (mvB HB.out)); (case s2 => exact Kd.Zal Gy2.out (mvB HB.out)); rintro e_ w2 ⟨rfl, ⟨nd1, rfl⟩⟩))
      go_ret
      exact ⟨by first | rfl | (simp [*]; done), mvB HB.out⟩
    | true =>
      rw [if_pos rfl] at h3_
      have E5 := Za.mk h3_
      clear h3_
      go_enter Try.func56, Try.ntmps56
      go_wp2_with (first | (go_at_call 54; (with_reducible refine (slices_Equal_int.calls k A1 a1 x.f1 B1 b1 y.f1 _ _ ?s1 hx1 ?s2 hy1 E1.out).mono ?_); (case s1 => exact Kd.Zal Gx1.out (mvB HB.out)); (case s2 => exact Kd.Zal Gy1.out (mvB HB.out)); rintro e_ w2 ⟨rfl, ⟨nd0, rfl⟩⟩) | (go_at_call 54; (with_reducible refine (slices_Equal_int.calls k A2 a2 x.f2 B2 b2 y.f2 _ _ ?s1 hx2 ?s2 hy2 E2.out).mono ?_); (case s1 => exact Kd.Zal Gx2.out (mvB HB.out)); (case s2 => exact Kd.Zal Gy2.out (mvB HB.out)); rintro e_ w2 ⟨rfl, ⟨nd1, rfl⟩⟩) | (go_at_call 84; go_loud (refine (CQ.out _ (mvB HB.out) E5.out).mono ?_; rintro e_ w' ⟨rfl, hb⟩; have BE := Za.mk (Zaf (mvB HB.out) hb); clear hb)))
      go_ret
      exact ⟨by first | rfl | (simp [*]; done), mvB BE.out⟩
theorem conPred (k : Nat) (w : World) (u v : S31) (b : Bool) (W : World) (P1 : Option Addr) (p1 : Nat) (P2 : Option Addr) (p2 : Nat) (P5 : Option Addr) (p5 : Nat) (Q1 : Option Addr) (q1 : Nat) (Q2 : Option Addr) (q2 : Nat) (Q5 : Option Addr) (q5 : Nat) (hf : Zdm.f k u v = some b) (_ : Below w.heap.size w W)
    (l1 : u.f1.length ≤ p1) (d1 : Kd.C (Kd.int .i64) W P1 u.f1.length u.f1) (l2 : u.f2.length ≤ p2) (d2 : Kd.C (Kd.int .i64) W P2 u.f2.length u.f2) (l5 : u.f5.length ≤ p5) (d5 : Kd.C (Kd.slice 3 (Kd.int .i64)) W P5 u.f5.length u.f5)
    (m1 : v.f1.length ≤ q1) (e1 : Kd.C (Kd.int .i64) W Q1 v.f1.length v.f1) (m2 : v.f2.length ≤ q2) (e2 : Kd.C (Kd.int .i64) W Q2 v.f2.length v.f2) (m5 : v.f5.length ≤ q5) (e5 : Kd.C (Kd.slice 3 (Kd.int .i64)) W Q5 v.f5.length v.f5) :
    Calls Try.prog 56 (#[.agg #[.int .i64 u.f0, .slice P1 u.f1.length p1, .slice P2 u.f2.length p2, .int .i64 u.f3, .int .i64 u.f4, .slice P5 u.f5.length p5, .int .i64 u.f6], .agg #[.int .i64 v.f0, .slice Q1 v.f1.length q1, .slice Q2 v.f2.length q2, .int .i64 v.f3, .int .i64 v.f4, .slice Q5 v.f5.length q5, .int .i64 v.f6]] ++ #[]) W fun e w' => e = .returned (.bool b) ∧ Below W.heap.size W w' := by
  have h1 := alike_calls k u v b P1 p1 P2 p2 P5 p5 Q1 q1 Q2 q2 Q5 q5 W hf l1 d1 l2 d2 l5 d5 m1 e1 m2 e2 m5 e5
  simpa using h1
set_option maxHeartbeats 4000000 in
set_option maxRecDepth 100000 in
theorem Zdc.calls (k : Nat) (A00 : Option Addr) (c00 : Nat) (v0 : List S50) (A01 : Option Addr) (c01 : Nat) (n0 : List S31) (g0 : Int) (A03 : Option Addr) (c03 : Nat) (p0 : List Int) (A04 : Option Addr) (c04 : Nat) (q0 : List Int) (A10 : Option Addr) (c10 : Nat) (v1 : List S50) (A11 : Option Addr) (c11 : Nat) (n1 : List S31) (g1 : Int) (A13 : Option Addr) (c13 : Nat) (p1 : List Int) (A14 : Option Addr) (c14 : Nat) (q1 : List Int) (r : Bool) (w : World) (hr00 : Kd.C k50 w A00 v0.length v0) (hc00 : v0.length ≤ c00) (hr01 : Kd.C k31 w A01 n0.length n0) (hc01 : n0.length ≤ c01) (hr03 : Kd.C (Kd.int .i64) w A03 p0.length p0) (hc03 : p0.length ≤ c03) (hr04 : Kd.C (Kd.int .i64) w A04 q0.length q0) (hc04 : q0.length ≤ c04) (hr10 : Kd.C k50 w A10 v1.length v1) (hc10 : v1.length ≤ c10) (hr11 : Kd.C k31 w A11 n1.length n1) (hc11 : n1.length ≤ c11) (hr13 : Kd.C (Kd.int .i64) w A13 p1.length p1) (hc13 : p1.length ≤ c13) (hr14 : Kd.C (Kd.int .i64) w A14 q1.length q1) (hc14 : q1.length ≤ c14) (h : Zdc.f k v0 n0 g0 p0 q0 v1 n1 g1 p1 q1 = some r) :
    Calls Try.prog 27 #[.agg #[.slice A00 v0.length c00, .slice A01 n0.length c01, .int .i64 g0, .slice A03 p0.length c03, .slice A04 q0.length c04], .agg #[.slice A10 v1.length c10, .slice A11 n1.length c11, .int .i64 g1, .slice A13 p1.length c13, .slice A14 q1.length c14]] w fun e w' => e = .returned (.bool r) ∧ Below w.heap.size w w' := by
  have HB := Za.mk (show Below w.heap.size w ((w.alloc (.cells #[.slice A00 v0.length c00, .slice A01 n0.length c01, .int .i64 g0, .slice A03 p0.length c03, .slice A04 q0.length c04] 28)).alloc (.cells #[.slice A10 v1.length c10, .slice A11 n1.length c11, .int .i64 g1, .slice A13 p1.length c13, .slice A14 q1.length c14] 28)) from Zab (Zab (Below.refl _ _) _) _)
  have R00 := Za.mk hr00
  clear hr00
  have R01 := Za.mk hr01
  clear hr01
  have R03 := Za.mk hr03
  clear hr03
  have R04 := Za.mk hr04
  clear hr04
  have R10 := Za.mk hr10
  clear hr10
  have R11 := Za.mk hr11
  clear hr11
  have R13 := Za.mk hr13
  clear hr13
  have R14 := Za.mk hr14
  clear hr14
  have K00 := Za.mk (fun (W : World) (hW : Below ((w.alloc (.cells #[.slice A00 v0.length c00, .slice A01 n0.length c01, .int .i64 g0, .slice A03 p0.length c03, .slice A04 q0.length c04] 28)).alloc (.cells #[.slice A10 v1.length c10, .slice A11 n1.length c11, .int .i64 g1, .slice A13 p1.length c13, .slice A14 q1.length c14] 28)).heap.size ((w.alloc (.cells #[.slice A00 v0.length c00, .slice A01 n0.length c01, .int .i64 g0, .slice A03 p0.length c03, .slice A04 q0.length c04] 28)).alloc (.cells #[.slice A10 v1.length c10, .slice A11 n1.length c11, .int .i64 g1, .slice A13 p1.length c13, .slice A14 q1.length c14] 28)) W) => (hW.cell (p := ⟨w.heap.size, 0, none⟩) (by simp <;> omega)).trans (by simp) : ∀ W, Below ((w.alloc (.cells #[.slice A00 v0.length c00, .slice A01 n0.length c01, .int .i64 g0, .slice A03 p0.length c03, .slice A04 q0.length c04] 28)).alloc (.cells #[.slice A10 v1.length c10, .slice A11 n1.length c11, .int .i64 g1, .slice A13 p1.length c13, .slice A14 q1.length c14] 28)).heap.size ((w.alloc (.cells #[.slice A00 v0.length c00, .slice A01 n0.length c01, .int .i64 g0, .slice A03 p0.length c03, .slice A04 q0.length c04] 28)).alloc (.cells #[.slice A10 v1.length c10, .slice A11 n1.length c11, .int .i64 g1, .slice A13 p1.length c13, .slice A14 q1.length c14] 28)) W → W.cell? ⟨w.heap.size, 0, none⟩ = some (.slice A00 v0.length c00))
  have K01 := Za.mk (fun (W : World) (hW : Below ((w.alloc (.cells #[.slice A00 v0.length c00, .slice A01 n0.length c01, .int .i64 g0, .slice A03 p0.length c03, .slice A04 q0.length c04] 28)).alloc (.cells #[.slice A10 v1.length c10, .slice A11 n1.length c11, .int .i64 g1, .slice A13 p1.length c13, .slice A14 q1.length c14] 28)).heap.size ((w.alloc (.cells #[.slice A00 v0.length c00, .slice A01 n0.length c01, .int .i64 g0, .slice A03 p0.length c03, .slice A04 q0.length c04] 28)).alloc (.cells #[.slice A10 v1.length c10, .slice A11 n1.length c11, .int .i64 g1, .slice A13 p1.length c13, .slice A14 q1.length c14] 28)) W) => (hW.cell (p := ⟨w.heap.size, 1, none⟩) (by simp <;> omega)).trans (by simp) : ∀ W, Below ((w.alloc (.cells #[.slice A00 v0.length c00, .slice A01 n0.length c01, .int .i64 g0, .slice A03 p0.length c03, .slice A04 q0.length c04] 28)).alloc (.cells #[.slice A10 v1.length c10, .slice A11 n1.length c11, .int .i64 g1, .slice A13 p1.length c13, .slice A14 q1.length c14] 28)).heap.size ((w.alloc (.cells #[.slice A00 v0.length c00, .slice A01 n0.length c01, .int .i64 g0, .slice A03 p0.length c03, .slice A04 q0.length c04] 28)).alloc (.cells #[.slice A10 v1.length c10, .slice A11 n1.length c11, .int .i64 g1, .slice A13 p1.length c13, .slice A14 q1.length c14] 28)) W → W.cell? ⟨w.heap.size, 1, none⟩ = some (.slice A01 n0.length c01))
  have K02 := Za.mk (fun (W : World) (hW : Below ((w.alloc (.cells #[.slice A00 v0.length c00, .slice A01 n0.length c01, .int .i64 g0, .slice A03 p0.length c03, .slice A04 q0.length c04] 28)).alloc (.cells #[.slice A10 v1.length c10, .slice A11 n1.length c11, .int .i64 g1, .slice A13 p1.length c13, .slice A14 q1.length c14] 28)).heap.size ((w.alloc (.cells #[.slice A00 v0.length c00, .slice A01 n0.length c01, .int .i64 g0, .slice A03 p0.length c03, .slice A04 q0.length c04] 28)).alloc (.cells #[.slice A10 v1.length c10, .slice A11 n1.length c11, .int .i64 g1, .slice A13 p1.length c13, .slice A14 q1.length c14] 28)) W) => (hW.cell (p := ⟨w.heap.size, 2, none⟩) (by simp <;> omega)).trans (by simp) : ∀ W, Below ((w.alloc (.cells #[.slice A00 v0.length c00, .slice A01 n0.length c01, .int .i64 g0, .slice A03 p0.length c03, .slice A04 q0.length c04] 28)).alloc (.cells #[.slice A10 v1.length c10, .slice A11 n1.length c11, .int .i64 g1, .slice A13 p1.length c13, .slice A14 q1.length c14] 28)).heap.size ((w.alloc (.cells #[.slice A00 v0.length c00, .slice A01 n0.length c01, .int .i64 g0, .slice A03 p0.length c03, .slice A04 q0.length c04] 28)).alloc (.cells #[.slice A10 v1.length c10, .slice A11 n1.length c11, .int .i64 g1, .slice A13 p1.length c13, .slice A14 q1.length c14] 28)) W → W.cell? ⟨w.heap.size, 2, none⟩ = some (.int .i64 g0))
  have K03 := Za.mk (fun (W : World) (hW : Below ((w.alloc (.cells #[.slice A00 v0.length c00, .slice A01 n0.length c01, .int .i64 g0, .slice A03 p0.length c03, .slice A04 q0.length c04] 28)).alloc (.cells #[.slice A10 v1.length c10, .slice A11 n1.length c11, .int .i64 g1, .slice A13 p1.length c13, .slice A14 q1.length c14] 28)).heap.size ((w.alloc (.cells #[.slice A00 v0.length c00, .slice A01 n0.length c01, .int .i64 g0, .slice A03 p0.length c03, .slice A04 q0.length c04] 28)).alloc (.cells #[.slice A10 v1.length c10, .slice A11 n1.length c11, .int .i64 g1, .slice A13 p1.length c13, .slice A14 q1.length c14] 28)) W) => (hW.cell (p := ⟨w.heap.size, 3, none⟩) (by simp <;> omega)).trans (by simp) : ∀ W, Below ((w.alloc (.cells #[.slice A00 v0.length c00, .slice A01 n0.length c01, .int .i64 g0, .slice A03 p0.length c03, .slice A04 q0.length c04] 28)).alloc (.cells #[.slice A10 v1.length c10, .slice A11 n1.length c11, .int .i64 g1, .slice A13 p1.length c13, .slice A14 q1.length c14] 28)).heap.size ((w.alloc (.cells #[.slice A00 v0.length c00, .slice A01 n0.length c01, .int .i64 g0, .slice A03 p0.length c03, .slice A04 q0.length c04] 28)).alloc (.cells #[.slice A10 v1.length c10, .slice A11 n1.length c11, .int .i64 g1, .slice A13 p1.length c13, .slice A14 q1.length c14] 28)) W → W.cell? ⟨w.heap.size, 3, none⟩ = some (.slice A03 p0.length c03))
  have K04 := Za.mk (fun (W : World) (hW : Below ((w.alloc (.cells #[.slice A00 v0.length c00, .slice A01 n0.length c01, .int .i64 g0, .slice A03 p0.length c03, .slice A04 q0.length c04] 28)).alloc (.cells #[.slice A10 v1.length c10, .slice A11 n1.length c11, .int .i64 g1, .slice A13 p1.length c13, .slice A14 q1.length c14] 28)).heap.size ((w.alloc (.cells #[.slice A00 v0.length c00, .slice A01 n0.length c01, .int .i64 g0, .slice A03 p0.length c03, .slice A04 q0.length c04] 28)).alloc (.cells #[.slice A10 v1.length c10, .slice A11 n1.length c11, .int .i64 g1, .slice A13 p1.length c13, .slice A14 q1.length c14] 28)) W) => (hW.cell (p := ⟨w.heap.size, 4, none⟩) (by simp <;> omega)).trans (by simp) : ∀ W, Below ((w.alloc (.cells #[.slice A00 v0.length c00, .slice A01 n0.length c01, .int .i64 g0, .slice A03 p0.length c03, .slice A04 q0.length c04] 28)).alloc (.cells #[.slice A10 v1.length c10, .slice A11 n1.length c11, .int .i64 g1, .slice A13 p1.length c13, .slice A14 q1.length c14] 28)).heap.size ((w.alloc (.cells #[.slice A00 v0.length c00, .slice A01 n0.length c01, .int .i64 g0, .slice A03 p0.length c03, .slice A04 q0.length c04] 28)).alloc (.cells #[.slice A10 v1.length c10, .slice A11 n1.length c11, .int .i64 g1, .slice A13 p1.length c13, .slice A14 q1.length c14] 28)) W → W.cell? ⟨w.heap.size, 4, none⟩ = some (.slice A04 q0.length c04))
  have K10 := Za.mk (fun (W : World) (hW : Below ((w.alloc (.cells #[.slice A00 v0.length c00, .slice A01 n0.length c01, .int .i64 g0, .slice A03 p0.length c03, .slice A04 q0.length c04] 28)).alloc (.cells #[.slice A10 v1.length c10, .slice A11 n1.length c11, .int .i64 g1, .slice A13 p1.length c13, .slice A14 q1.length c14] 28)).heap.size ((w.alloc (.cells #[.slice A00 v0.length c00, .slice A01 n0.length c01, .int .i64 g0, .slice A03 p0.length c03, .slice A04 q0.length c04] 28)).alloc (.cells #[.slice A10 v1.length c10, .slice A11 n1.length c11, .int .i64 g1, .slice A13 p1.length c13, .slice A14 q1.length c14] 28)) W) => (hW.cell (p := ⟨w.heap.size + 1, 0, none⟩) (by simp <;> omega)).trans (by simp) : ∀ W, Below ((w.alloc (.cells #[.slice A00 v0.length c00, .slice A01 n0.length c01, .int .i64 g0, .slice A03 p0.length c03, .slice A04 q0.length c04] 28)).alloc (.cells #[.slice A10 v1.length c10, .slice A11 n1.length c11, .int .i64 g1, .slice A13 p1.length c13, .slice A14 q1.length c14] 28)).heap.size ((w.alloc (.cells #[.slice A00 v0.length c00, .slice A01 n0.length c01, .int .i64 g0, .slice A03 p0.length c03, .slice A04 q0.length c04] 28)).alloc (.cells #[.slice A10 v1.length c10, .slice A11 n1.length c11, .int .i64 g1, .slice A13 p1.length c13, .slice A14 q1.length c14] 28)) W → W.cell? ⟨w.heap.size + 1, 0, none⟩ = some (.slice A10 v1.length c10))
  have K11 := Za.mk (fun (W : World) (hW : Below ((w.alloc (.cells #[.slice A00 v0.length c00, .slice A01 n0.length c01, .int .i64 g0, .slice A03 p0.length c03, .slice A04 q0.length c04] 28)).alloc (.cells #[.slice A10 v1.length c10, .slice A11 n1.length c11, .int .i64 g1, .slice A13 p1.length c13, .slice A14 q1.length c14] 28)).heap.size ((w.alloc (.cells #[.slice A00 v0.length c00, .slice A01 n0.length c01, .int .i64 g0, .slice A03 p0.length c03, .slice A04 q0.length c04] 28)).alloc (.cells #[.slice A10 v1.length c10, .slice A11 n1.length c11, .int .i64 g1, .slice A13 p1.length c13, .slice A14 q1.length c14] 28)) W) => (hW.cell (p := ⟨w.heap.size + 1, 1, none⟩) (by simp <;> omega)).trans (by simp) : ∀ W, Below ((w.alloc (.cells #[.slice A00 v0.length c00, .slice A01 n0.length c01, .int .i64 g0, .slice A03 p0.length c03, .slice A04 q0.length c04] 28)).alloc (.cells #[.slice A10 v1.length c10, .slice A11 n1.length c11, .int .i64 g1, .slice A13 p1.length c13, .slice A14 q1.length c14] 28)).heap.size ((w.alloc (.cells #[.slice A00 v0.length c00, .slice A01 n0.length c01, .int .i64 g0, .slice A03 p0.length c03, .slice A04 q0.length c04] 28)).alloc (.cells #[.slice A10 v1.length c10, .slice A11 n1.length c11, .int .i64 g1, .slice A13 p1.length c13, .slice A14 q1.length c14] 28)) W → W.cell? ⟨w.heap.size + 1, 1, none⟩ = some (.slice A11 n1.length c11))
  have K12 := Za.mk (fun (W : World) (hW : Below ((w.alloc (.cells #[.slice A00 v0.length c00, .slice A01 n0.length c01, .int .i64 g0, .slice A03 p0.length c03, .slice A04 q0.length c04] 28)).alloc (.cells #[.slice A10 v1.length c10, .slice A11 n1.length c11, .int .i64 g1, .slice A13 p1.length c13, .slice A14 q1.length c14] 28)).heap.size ((w.alloc (.cells #[.slice A00 v0.length c00, .slice A01 n0.length c01, .int .i64 g0, .slice A03 p0.length c03, .slice A04 q0.length c04] 28)).alloc (.cells #[.slice A10 v1.length c10, .slice A11 n1.length c11, .int .i64 g1, .slice A13 p1.length c13, .slice A14 q1.length c14] 28)) W) => (hW.cell (p := ⟨w.heap.size + 1, 2, none⟩) (by simp <;> omega)).trans (by simp) : ∀ W, Below ((w.alloc (.cells #[.slice A00 v0.length c00, .slice A01 n0.length c01, .int .i64 g0, .slice A03 p0.length c03, .slice A04 q0.length c04] 28)).alloc (.cells #[.slice A10 v1.length c10, .slice A11 n1.length c11, .int .i64 g1, .slice A13 p1.length c13, .slice A14 q1.length c14] 28)).heap.size ((w.alloc (.cells #[.slice A00 v0.length c00, .slice A01 n0.length c01, .int .i64 g0, .slice A03 p0.length c03, .slice A04 q0.length c04] 28)).alloc (.cells #[.slice A10 v1.length c10, .slice A11 n1.length c11, .int .i64 g1, .slice A13 p1.length c13, .slice A14 q1.length c14] 28)) W → W.cell? ⟨w.heap.size + 1, 2, none⟩ = some (.int .i64 g1))
  have K13 := Za.mk (fun (W : World) (hW : Below ((w.alloc (.cells #[.slice A00 v0.length c00, .slice A01 n0.length c01, .int .i64 g0, .slice A03 p0.length c03, .slice A04 q0.length c04] 28)).alloc (.cells #[.slice A10 v1.length c10, .slice A11 n1.length c11, .int .i64 g1, .slice A13 p1.length c13, .slice A14 q1.length c14] 28)).heap.size ((w.alloc (.cells #[.slice A00 v0.length c00, .slice A01 n0.length c01, .int .i64 g0, .slice A03 p0.length c03, .slice A04 q0.length c04] 28)).alloc (.cells #[.slice A10 v1.length c10, .slice A11 n1.length c11, .int .i64 g1, .slice A13 p1.length c13, .slice A14 q1.length c14] 28)) W) => (hW.cell (p := ⟨w.heap.size + 1, 3, none⟩) (by simp <;> omega)).trans (by simp) : ∀ W, Below ((w.alloc (.cells #[.slice A00 v0.length c00, .slice A01 n0.length c01, .int .i64 g0, .slice A03 p0.length c03, .slice A04 q0.length c04] 28)).alloc (.cells #[.slice A10 v1.length c10, .slice A11 n1.length c11, .int .i64 g1, .slice A13 p1.length c13, .slice A14 q1.length c14] 28)).heap.size ((w.alloc (.cells #[.slice A00 v0.length c00, .slice A01 n0.length c01, .int .i64 g0, .slice A03 p0.length c03, .slice A04 q0.length c04] 28)).alloc (.cells #[.slice A10 v1.length c10, .slice A11 n1.length c11, .int .i64 g1, .slice A13 p1.length c13, .slice A14 q1.length c14] 28)) W → W.cell? ⟨w.heap.size + 1, 3, none⟩ = some (.slice A13 p1.length c13))
  have K14 := Za.mk (fun (W : World) (hW : Below ((w.alloc (.cells #[.slice A00 v0.length c00, .slice A01 n0.length c01, .int .i64 g0, .slice A03 p0.length c03, .slice A04 q0.length c04] 28)).alloc (.cells #[.slice A10 v1.length c10, .slice A11 n1.length c11, .int .i64 g1, .slice A13 p1.length c13, .slice A14 q1.length c14] 28)).heap.size ((w.alloc (.cells #[.slice A00 v0.length c00, .slice A01 n0.length c01, .int .i64 g0, .slice A03 p0.length c03, .slice A04 q0.length c04] 28)).alloc (.cells #[.slice A10 v1.length c10, .slice A11 n1.length c11, .int .i64 g1, .slice A13 p1.length c13, .slice A14 q1.length c14] 28)) W) => (hW.cell (p := ⟨w.heap.size + 1, 4, none⟩) (by simp <;> omega)).trans (by simp) : ∀ W, Below ((w.alloc (.cells #[.slice A00 v0.length c00, .slice A01 n0.length c01, .int .i64 g0, .slice A03 p0.length c03, .slice A04 q0.length c04] 28)).alloc (.cells #[.slice A10 v1.length c10, .slice A11 n1.length c11, .int .i64 g1, .slice A13 p1.length c13, .slice A14 q1.length c14] 28)).heap.size ((w.alloc (.cells #[.slice A00 v0.length c00, .slice A01 n0.length c01, .int .i64 g0, .slice A03 p0.length c03, .slice A04 q0.length c04] 28)).alloc (.cells #[.slice A10 v1.length c10, .slice A11 n1.length c11, .int .i64 g1, .slice A13 p1.length c13, .slice A14 q1.length c14] 28)) W → W.cell? ⟨w.heap.size + 1, 4, none⟩ = some (.slice A14 q1.length c14))
  have BW := Za.mk (Below.refl ((w.alloc (.cells #[.slice A00 v0.length c00, .slice A01 n0.length c01, .int .i64 g0, .slice A03 p0.length c03, .slice A04 q0.length c04] 28)).alloc (.cells #[.slice A10 v1.length c10, .slice A11 n1.length c11, .int .i64 g1, .slice A13 p1.length c13, .slice A14 q1.length c14] 28)).heap.size ((w.alloc (.cells #[.slice A00 v0.length c00, .slice A01 n0.length c01, .int .i64 g0, .slice A03 p0.length c03, .slice A04 q0.length c04] 28)).alloc (.cells #[.slice A10 v1.length c10, .slice A11 n1.length c11, .int .i64 g1, .slice A13 p1.length c13, .slice A14 q1.length c14] 28)))
  unfold Zdc.f at h
  obtain ⟨a, ha, h2_⟩ := Option.bind_eq_some_iff.1 h
  obtain ⟨g, hg, h3_⟩ := Option.bind_eq_some_iff.1 h2_
  have EA := Za.mk ha
  have EH := Za.mk h3_
  clear h h2_ ha h3_
  have CV := Za.mk (fun (W : World) (hW : Below w.heap.size w W) (b : Bool) (hq : equalF (varSame.f k) v0 v1 = some b) => equalFunc_V (varSame.f k) 52 #[] (enters_of Try.func52 (by kernel_rfl) rfl) A00 c00 v0 A10 c10 v1 b W (Kd.Zal R00.out hW) (Kd.Zal R10.out hW) (varPred k W) hq)
  have CC := Za.mk (fun (W : World) (hW : Below w.heap.size w W) (b : Bool) (hq : equalF (Zdm.f k) n0 n1 = some b) => equalFunc_C (Zdm.f k) 56 #[] (enters_of Try.func56 (by kernel_rfl) rfl) A01 c01 n0 A11 c11 n1 b W (Kd.Zal R01.out hW) (Kd.Zal R11.out hW) (conPred k W) hq)
  by_cases hq_ : g0 = g1
  case neg =>
    rw [if_neg hq_] at hg
    obtain rfl := Option.some.inj hg
    clear hg
    have ma : (g0 == g1) = false := beq_eq_false_iff_ne.2 hq_
    have mb : (g0 != g1) = true := by simp only [bne, ma, Bool.not_false]
    have mc : decide (g0 = g1) = false := decide_eq_false hq_
    clear hq_
    cases a with
    | false =>
      have h4 := EH.out
      rw [if_neg (by decide)] at h4
      obtain rfl := Option.some.inj h4
      clear h4
      go_enter Try.func27, Try.ntmps27
      go_wp2_with (first | (go_at_call 51; go_loud (refine (CV.out _ (mvB HB.out) _ EA.out).mono ?_; rintro e_ w1 ⟨rfl, hb⟩; have BE := Za.mk (Zaf (mvB BW.out) hb); clear hb; have e00 := K00.out _ BE.out; have e01 := K01.out _ BE.out; have e02 := K02.out _ BE.out; have e03 := K03.out _ BE.out; have e04 := K04.out _ BE.out; have e10 := K10.out _ BE.out; have e11 := K11.out _ BE.out; have e12 := K12.out _ BE.out; have e13 := K13.out _ BE.out; have e14 := K14.out _ BE.out)))
      go_ret
      exact ⟨by first | rfl | (simp [*]; done), mvB (Zaf HB.out BE.out)⟩
    | true =>
      have h4 := EH.out
      rw [if_pos rfl, if_neg (by decide)] at h4
      obtain rfl := Option.some.inj h4
      clear h4
      go_enter Try.func27, Try.ntmps27
      go_wp2_with (first | (go_at_call 51; go_loud (refine (CV.out _ (mvB HB.out) _ EA.out).mono ?_; rintro e_ w1 ⟨rfl, hb⟩; have BE := Za.mk (Zaf (mvB BW.out) hb); clear hb; have e00 := K00.out _ BE.out; have e01 := K01.out _ BE.out; have e02 := K02.out _ BE.out; have e03 := K03.out _ BE.out; have e04 := K04.out _ BE.out; have e10 := K10.out _ BE.out; have e11 := K11.out _ BE.out; have e12 := K12.out _ BE.out; have e13 := K13.out _ BE.out; have e14 := K14.out _ BE.out)))
      go_ret
      exact ⟨by first | rfl | (simp [*]; done), mvB (Zaf HB.out BE.out)⟩
  rw [if_pos hq_] at hg
  have ma : (g0 == g1) = true := beq_iff_eq.2 hq_
  have mb : (g0 != g1) = false := by simp only [bne, ma, Bool.not_true]
  have mc : decide (g0 = g1) = true := decide_eq_true hq_
  clear hq_
  obtain ⟨p, hp, hg2⟩ := Option.bind_eq_some_iff.1 hg
  have EP := Za.mk hp
  clear hp hg
  cases p with
  | false =>
    rw [if_neg (by decide)] at hg2
    obtain rfl := Option.some.inj hg2
    clear hg2
    cases a with
    | false =>
      have h4 := EH.out
      rw [if_neg (by decide)] at h4
      obtain rfl := Option.some.inj h4
      clear h4
      go_enter Try.func27, Try.ntmps27
      go_wp2_with (first | (go_at_call 51; go_loud (refine (CV.out _ (mvB HB.out) _ EA.out).mono ?_; rintro e_ w1 ⟨rfl, hb⟩; have BE := Za.mk (Zaf (mvB BW.out) hb); clear hb; have e00 := K00.out _ BE.out; have e01 := K01.out _ BE.out; have e02 := K02.out _ BE.out; have e03 := K03.out _ BE.out; have e04 := K04.out _ BE.out; have e10 := K10.out _ BE.out; have e11 := K11.out _ BE.out; have e12 := K12.out _ BE.out; have e13 := K13.out _ BE.out; have e14 := K14.out _ BE.out)) | (go_at_call 54; (with_reducible refine (slices_Equal_int.calls k A03 c03 p0 A13 c13 p1 _ _ ?s1 hc03 ?s2 hc13 EP.out).mono ?_); (case s1 => exact Kd.Zal R03.out (mvB (Zaf HB.out BE.out))); (case s2 => exact Kd.Zal R13.out (mvB (Zaf HB.out BE.out))); rintro e_ w2 ⟨rfl, ⟨nd0, rfl⟩⟩))
      go_ret
      exact ⟨by first | rfl | (simp [*]; done), mvB (Zaf HB.out BE.out)⟩
    | true =>
      have h4 := EH.out
      rw [if_pos rfl, if_neg (by decide)] at h4
      obtain rfl := Option.some.inj h4
      clear h4
      go_enter Try.func27, Try.ntmps27
      go_wp2_with (first | (go_at_call 51; go_loud (refine (CV.out _ (mvB HB.out) _ EA.out).mono ?_; rintro e_ w1 ⟨rfl, hb⟩; have BE := Za.mk (Zaf (mvB BW.out) hb); clear hb; have e00 := K00.out _ BE.out; have e01 := K01.out _ BE.out; have e02 := K02.out _ BE.out; have e03 := K03.out _ BE.out; have e04 := K04.out _ BE.out; have e10 := K10.out _ BE.out; have e11 := K11.out _ BE.out; have e12 := K12.out _ BE.out; have e13 := K13.out _ BE.out; have e14 := K14.out _ BE.out)) | (go_at_call 54; (with_reducible refine (slices_Equal_int.calls k A03 c03 p0 A13 c13 p1 _ _ ?s1 hc03 ?s2 hc13 EP.out).mono ?_); (case s1 => exact Kd.Zal R03.out (mvB (Zaf HB.out BE.out))); (case s2 => exact Kd.Zal R13.out (mvB (Zaf HB.out BE.out))); rintro e_ w2 ⟨rfl, ⟨nd0, rfl⟩⟩))
      go_ret
      exact ⟨by first | rfl | (simp [*]; done), mvB (Zaf HB.out BE.out)⟩
  | true =>
    rw [if_pos rfl] at hg2
    have EQ2 := Za.mk hg2
    clear hg2
    cases a with
    | false =>
      have h4 := EH.out
      rw [if_neg (by decide)] at h4
      obtain rfl := Option.some.inj h4
      clear h4
      go_enter Try.func27, Try.ntmps27
      go_wp2_with (first | (go_at_call 51; go_loud (refine (CV.out _ (mvB HB.out) _ EA.out).mono ?_; rintro e_ w1 ⟨rfl, hb⟩; have BE := Za.mk (Zaf (mvB BW.out) hb); clear hb; have e00 := K00.out _ BE.out; have e01 := K01.out _ BE.out; have e02 := K02.out _ BE.out; have e03 := K03.out _ BE.out; have e04 := K04.out _ BE.out; have e10 := K10.out _ BE.out; have e11 := K11.out _ BE.out; have e12 := K12.out _ BE.out; have e13 := K13.out _ BE.out; have e14 := K14.out _ BE.out)) | (go_at_call 54; (with_reducible refine (slices_Equal_int.calls k A03 c03 p0 A13 c13 p1 _ _ ?s1 hc03 ?s2 hc13 EP.out).mono ?_); (case s1 => exact Kd.Zal R03.out (mvB (Zaf HB.out BE.out))); (case s2 => exact Kd.Zal R13.out (mvB (Zaf HB.out BE.out))); rintro e_ w2 ⟨rfl, ⟨nd0, rfl⟩⟩) | (go_at_call 54; (with_reducible refine (slices_Equal_int.calls k A04 c04 q0 A14 c14 q1 _ _ ?s1 hc04 ?s2 hc14 EQ2.out).mono ?_); (case s1 => exact Kd.Zal R04.out (mvB (Zaf HB.out BE.out))); (case s2 => exact Kd.Zal R14.out (mvB (Zaf HB.out BE.out))); rintro e_ w2 ⟨rfl, ⟨nd1, rfl⟩⟩))
      go_ret
      exact ⟨by first | rfl | (simp [*]; done), mvB (Zaf HB.out BE.out)⟩
    | true =>
      cases g with
      | false =>
        have h4 := EH.out
        rw [if_pos rfl, if_neg (by decide)] at h4
        obtain rfl := Option.some.inj h4
        clear h4
        go_enter Try.func27, Try.ntmps27
        go_wp2_with (first | (go_at_call 51; go_loud (refine (CV.out _ (mvB HB.out) _ EA.out).mono ?_; rintro e_ w1 ⟨rfl, hb⟩; have BE := Za.mk (Zaf (mvB BW.out) hb); clear hb; have e00 := K00.out _ BE.out; have e01 := K01.out _ BE.out; have e02 := K02.out _ BE.out; have e03 := K03.out _ BE.out; have e04 := K04.out _ BE.out; have e10 := K10.out _ BE.out; have e11 := K11.out _ BE.out; have e12 := K12.out _ BE.out; have e13 := K13.out _ BE.out; have e14 := K14.out _ BE.out)) | (go_at_call 54; (with_reducible refine (slices_Equal_int.calls k A03 c03 p0 A13 c13 p1 _ _ ?s1 hc03 ?s2 hc13 EP.out).mono ?_); (case s1 => exact Kd.Zal R03.out (mvB (Zaf HB.out BE.out))); (case s2 => exact Kd.Zal R13.out (mvB (Zaf HB.out BE.out))); rintro e_ w2 ⟨rfl, ⟨nd0, rfl⟩⟩) | (go_at_call 54; (with_reducible refine (slices_Equal_int.calls k A04 c04 q0 A14 c14 q1 _ _ ?s1 hc04 ?s2 hc14 EQ2.out).mono ?_); (case s1 => exact Kd.Zal R04.out (mvB (Zaf HB.out BE.out))); (case s2 => exact Kd.Zal R14.out (mvB (Zaf HB.out BE.out))); rintro e_ w2 ⟨rfl, ⟨nd1, rfl⟩⟩))
        go_ret
        exact ⟨by first | rfl | (simp [*]; done), mvB (Zaf HB.out BE.out)⟩
      | true =>
        have EC := Za.mk EH.out
        rw [if_pos rfl, if_pos rfl] at EC
        clear EH
        go_enter Try.func27, Try.ntmps27
        go_wp2_with (first | (go_at_call 51; go_loud (refine (CV.out _ (mvB HB.out) _ EA.out).mono ?_; rintro e_ w1 ⟨rfl, hb⟩; have BE := Za.mk (Zaf (mvB BW.out) hb); clear hb; have e00 := K00.out _ BE.out; have e01 := K01.out _ BE.out; have e02 := K02.out _ BE.out; have e03 := K03.out _ BE.out; have e04 := K04.out _ BE.out; have e10 := K10.out _ BE.out; have e11 := K11.out _ BE.out; have e12 := K12.out _ BE.out; have e13 := K13.out _ BE.out; have e14 := K14.out _ BE.out)) | (go_at_call 54; (with_reducible refine (slices_Equal_int.calls k A03 c03 p0 A13 c13 p1 _ _ ?s1 hc03 ?s2 hc13 EP.out).mono ?_); (case s1 => exact Kd.Zal R03.out (mvB (Zaf HB.out BE.out))); (case s2 => exact Kd.Zal R13.out (mvB (Zaf HB.out BE.out))); rintro e_ w2 ⟨rfl, ⟨nd0, rfl⟩⟩) | (go_at_call 54; (with_reducible refine (slices_Equal_int.calls k A04 c04 q0 A14 c14 q1 _ _ ?s1 hc04 ?s2 hc14 EQ2.out).mono ?_); (case s1 => exact Kd.Zal R04.out (mvB (Zaf HB.out BE.out))); (case s2 => exact Kd.Zal R14.out (mvB (Zaf HB.out BE.out))); rintro e_ w2 ⟨rfl, ⟨nd1, rfl⟩⟩) | (go_at_call 55; go_loud (refine (CC.out _ (mvB (Zaf HB.out BE.out)) _ EC.out).mono ?_; rintro e_ w2 ⟨rfl, hb⟩; have BF := Za.mk (Zaf (mvB (Zaf HB.out BE.out)) hb); clear hb)))
        go_ret
        exact ⟨by first | rfl | (simp [*]; done), mvB BF.out⟩
end Go.Proofs.Ytkgjaklnbgdmiaa.P
/- model.Uses: the variables of a constraint, rising, each once. -/
namespace Go.Proofs.Ytkgjaklnbgdmiaa.P
open Go.RowKit Go.Shelf Go.Proofs.YtkgjaklnbgdmiaaW.PrintWords Go.Proofs.YtkgjaklnbgdmiaaW.PrintLast Go.Proofs.YtkgjaklnbgdmiaaW.PrintMore
set_option linter.unusedVariables false
set_option linter.unusedSimpArgs false
def Zcp.f (kd : Int) (vars coefs : List Int) (op rhs : Int) (rows : List (List Int)) (b : Int) : Option (List Int) :=
  if vars.length < 1000000 then some (sd (if kd = 4 then vars ++ [b] else vars)) else none
theorem row_ofU {W W' : World} {base : Nat} {v : Value} {xs ys : List Int} (hb : Below W.heap.size W W') (hn : ys.length = xs.length) (h : W.ownsRow base 3 1 v xs.length (ys.map (Value.int .i64))) : W'.ownsRow base 3 1 v ys.length (ys.map (Value.int .i64)) := by
  rw [hn]
  exact pw_own_below h hb
set_option maxRecDepth 100000 in
set_option maxHeartbeats 2000000 in
theorem Zcp.calls (kd : Int) (A1 : Option Addr) (c1 : Nat) (vars : List Int) (A2 : Option Addr) (c2 : Nat) (coefs : List Int) (op rhs : Int) (A5 : Option Addr) (c5 : Nat) (rows : List (List Int)) (b : Int) (r : List Int) (w : World)
    (hr1 : Kd.C (Kd.int .i64) w A1 vars.length vars) (hc1 : vars.length ≤ c1) (hr2 : Kd.C (Kd.int .i64) w A2 coefs.length coefs) (hc2 : coefs.length ≤ c2) (hr5 : Kd.C (Kd.slice 3 (Kd.int .i64)) w A5 rows.length rows) (hc5 : rows.length ≤ c5)
    (h : Zcp.f kd vars coefs op rhs rows b = some r) :
    Calls Try.prog 17 #[.agg #[.int .i64 kd, .slice A1 vars.length c1, .slice A2 coefs.length c2, .int .i64 op, .int .i64 rhs, .slice A5 rows.length c5, .int .i64 b]] w fun e w' => ∃ v0_ : Value, e = .returned v0_ ∧ Kd.R (Kd.int .i64) 3 w' w.heap.size (fun _ => True) v0_ r ∧ Below w.heap.size w w' := by
  unfold Zcp.f at h
  split at h
  case isFalse => cases h
  case isTrue hl =>
  obtain rfl := Option.some.inj h
  clear h
  have hb0 : Below w.heap.size w (w.alloc (.cells #[.int .i64 kd, .slice A1 vars.length c1, .slice A2 coefs.length c2, .int .i64 op, .int .i64 rhs, .slice A5 rows.length c5, .int .i64 b] 31)) := Zab (Below.refl _ _) _
  have HB0 := Za.mk hb0
  have kC := fun (a : Addr) (v : Value) (W : World) (hW : Below (w.heap.size + 1) (w.alloc (.cells #[.int .i64 kd, .slice A1 vars.length c1, .slice A2 coefs.length c2, .int .i64 op, .int .i64 rhs, .slice A5 rows.length c5, .int .i64 b] 31)) W) => True.intro
  clear kC hb0
  have HL := Za.mk hl
  have CL := Za.mk (fun (W : World) (hW : Below w.heap.size w W) => cloneI.calls A1 c1 vars vars W (Kd.Zal hr1 hW) hc1 (by unfold cloneI.f; rw [if_pos (by omega)]))
  clear hr1 hr2 hr5 hl
  have BW := Za.mk (Below.refl (w.alloc (.cells #[.int .i64 kd, .slice A1 vars.length c1, .slice A2 coefs.length c2, .int .i64 op, .int .i64 rhs, .slice A5 rows.length c5, .int .i64 b] 31)).heap.size (w.alloc (.cells #[.int .i64 kd, .slice A1 vars.length c1, .slice A2 coefs.length c2, .int .i64 op, .int .i64 rhs, .slice A5 rows.length c5, .int .i64 b] 31)))
  have k0 : ∀ W, Below (w.alloc (.cells #[.int .i64 kd, .slice A1 vars.length c1, .slice A2 coefs.length c2, .int .i64 op, .int .i64 rhs, .slice A5 rows.length c5, .int .i64 b] 31)).heap.size (w.alloc (.cells #[.int .i64 kd, .slice A1 vars.length c1, .slice A2 coefs.length c2, .int .i64 op, .int .i64 rhs, .slice A5 rows.length c5, .int .i64 b] 31)) W → W.cell? ⟨w.heap.size, 0, none⟩ = some (.int .i64 kd) ∧ W.cell? ⟨w.heap.size, 6, none⟩ = some (.int .i64 b) := fun W hW => ⟨(hW.cell (by simp)).trans (by simp), (hW.cell (by simp)).trans (by simp)⟩
  have K0 := Za.mk k0
  clear k0
  by_cases h4 : kd = 4
  rotate_left
  · rw [if_neg h4]
    have d4_ : decide (kd = 4) = false := decide_eq_false h4
    have e4_ : (kd == 4) = false := beq_eq_false_iff_ne.2 h4
    clear h4
    have hcs := Za.mk (Zd4 (vars))
    have HX : Za ((vars).length < 4611686018427387904) := ⟨by have := HL.out; simp; omega⟩
    have HY : Za ((sortI (vars)).length < 4611686018427387904) := ⟨by rw [Zdb]; exact HX.out⟩
    go_enter Try.func17, Try.ntmps17
    go_wp2_with (first | (go_at_call 44; go_loud (refine (CL.out _ (by first | exact HB0.out | exact mvB HB0.out)).mono ?_; rintro e W1 ⟨v1, rfl, ho, hb⟩; obtain ⟨e0, e6⟩ := K0.out _ (Zaf (mvB BW.out) hb); have HO := Za.mk (Kd.Zbp ho (by simp) : Kd.R (Kd.int .i64) 3 W1 w.heap.size (fun _ => True) v1 vars); have BV := Za.mk (Zaf HB0.out (Zaf (mvB BW.out) hb)); clear ho hb)) | (go_at_call 45; go_loud (refine (Ze4 v1 (vars) w _ HX.out (mvB BV.out).size (Kd.own_of_R (mvR HO.out)) (mvB BV.out)).mono ?_; rintro e W3 ⟨rfl, hr3, hb3⟩; have HO3 := Za.mk hr3; have BV3 := Za.mk hb3; clear hr3 hb3 HO BV)) | (go_at_call 46; go_loud (refine (Zfj v1 (sortI (vars)) w _ (mvB BV3.out).size HY.out (row_ofU (mvB (Below.refl _ _)) (Zdb _) HO3.out) (mvB BV3.out)).mono ?_; rintro e W4 ⟨v4, rfl, hr4, hb4⟩)))
    go_ret
    rw [← hcs.out]
    exact ⟨v4, rfl, Kd.R_of_own (enc := Value.int .i64) hr4 (fun _ _ => trivial), hb4⟩
  subst h4
  rw [if_pos rfl]
  have hcs := Za.mk (Zd4 (vars ++ [b]))
  have HX : Za ((vars ++ [b]).length < 4611686018427387904) := ⟨by have := HL.out; simp; omega⟩
  have HY : Za ((sortI (vars ++ [b])).length < 4611686018427387904) := ⟨by rw [Zdb]; exact HX.out⟩
  go_enter Try.func17, Try.ntmps17
  go_wp2_with (first | (go_at_call 44; go_loud (refine (CL.out _ (by first | exact HB0.out | exact mvB HB0.out)).mono ?_; rintro e W1 ⟨v1, rfl, ho, hb⟩; obtain ⟨e0, e6⟩ := K0.out _ (Zaf (mvB BW.out) hb); have HO := Za.mk (Kd.Zbp ho (by simp) : Kd.R (Kd.int .i64) 3 W1 w.heap.size (fun _ => True) v1 vars); have BV := Za.mk (Zaf HB0.out (Zaf (mvB BW.out) hb)); clear ho hb)) | ((with_reducible refine Zb7 (b := .append) (xs := #[.tmp 10, .tmp 13]) rfl ?_); at_builtin; refine Kd.Zel (Kd.int .i64) (w0 := w) w.heap.size rfl (.tmp 10) (.tmp 13) 24 3 (.int .i64 0) 8 rfl Try.underlying24 info3 rfl (by decide) (by omega) v1 vars b [.int .i64 b] (fun _ => True) (fun _ => False) rfl rfl ?aP (fun _ hk => hk.elim) (fun _ _ => trivial) ?aO ?aB ?aS ?aL ?_; (case aP => exact rfl); (case aO => exact mvR HO.out); (case aB => exact mvB BV.out); (case aS => exact (mvB BV.out).size); (case aL => have := HL.out; omega); rintro v2 W2 ho hb2 hg2 hat2; have HO2 := Za.mk ho; have BV2 := Za.mk hb2; clear ho hb2 hg2 hat2 HO BV; have HO := HO2; have BV := BV2; clear HO2 BV2) | (go_at_call 45; go_loud (refine (Ze4 v2 (vars ++ [b]) w _ HX.out (mvB BV.out).size (Kd.own_of_R (mvR HO.out)) (mvB BV.out)).mono ?_; rintro e W3 ⟨rfl, hr3, hb3⟩; have HO3 := Za.mk hr3; have BV3 := Za.mk hb3; clear hr3 hb3 HO BV)) | (go_at_call 46; go_loud (refine (Zfj v2 (sortI (vars ++ [b])) w _ (mvB BV3.out).size HY.out (row_ofU (mvB (Below.refl _ _)) (Zdb _) HO3.out) (mvB BV3.out)).mono ?_; rintro e W4 ⟨v4, rfl, hr4, hb4⟩)))
  go_ret
  rw [← hcs.out]
  exact ⟨v4, rfl, Kd.R_of_own (enc := Value.int .i64) hr4 (fun _ _ => trivial), hb4⟩
end Go.Proofs.Ytkgjaklnbgdmiaa.P
