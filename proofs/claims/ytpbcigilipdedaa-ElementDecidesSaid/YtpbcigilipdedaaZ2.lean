/- Proved: what each function of the program that the statements of this seat reach comes to, for whatever memory and arguments it is called with (on condition that its plain text tells a result). -/
import Derived.Test.YtpbcigilipdedaaZ1
import Derived.Shelf.GgClosure.Gives
import Derived.Deep.LoopGhost
namespace Go.Proofs.Ytpbcigilipdedaa.P
open Go.RowKit Go.Proofs.YtpbcigilipdedaaW.PrintWords Go.Proofs.YtpbcigilipdedaaW.PrintLast Go.Proofs.YtpbcigilipdedaaW.PrintMore
attribute [local go_sem] Zcz Zc1 Zde Zdf Zct Zcu Zc0 Zc2
set_option linter.unusedVariables false
set_option linter.unusedSimpArgs false
def Zb1.f (a0 : Int) : Option (Bool) := if a0 ≥ (-1048576) then (some (decide (a0 ≤ 1048576))) else (some false)
set_option maxHeartbeats 8000000 in
set_option maxRecDepth 100000 in
theorem Zb1.calls (a0 : Int) (r : Bool) (w : World) (h : Zb1.f a0 = some r) :
  Calls Try.prog 85 #[.int .i64 a0] w fun e w' => e = .returned (.bool r) ∧ Zbw w w' := by
 have H : (if a0 ≥ (-1048576) then (some (decide (a0 ≤ 1048576))) else (some false)) = some r := h
 clear h
 by_cases c2 : a0 ≥ (-1048576)
 ·rw [if_pos c2] at H
  have c2b0 : decide ((-1048576) ≤ a0) = true := decide_eq_true c2
  clear c2
  obtain rfl := Option.some.inj H
  go_enter Try.func85, Try.ntmps85
  go_wp2
  go_ret
  exact ⟨by first | rfl | (simp; done) | (simp [*]; done), by repeat (first | exact Zbw.refl _ | apply Zbw.step)⟩
 rw [if_neg c2] at H
 have c2b0 : decide ((-1048576) ≤ a0) = false := decide_eq_false c2
 clear c2
 obtain rfl := Option.some.inj H
 go_enter Try.func85, Try.ntmps85
 go_wp2
 go_ret
 exact ⟨by first | rfl | (simp; done) | (simp [*]; done), by repeat (first | exact Zbw.refl _ | apply Zbw.step)⟩
def Zbc.l0 : Nat → List Int → Int → Option ((List (S41)) × Int)
 | 0, _, _ => none
 | k + 1, x0, x4 => if x4 < (x0.length : Int) then (if 0 ≤ x4 then ((Zb1.f (rd x0 x4)).bind fun t178 => (if t178 = true then (Zbc.l0 k x0 (wrap64 (x4 + 1))) else (some (([] : List (S41)), 20)))) else (none)) else ((Zah.f k x0).bind fun t179 => (if (t179.length : Int) > 4096 then (some (([] : List (S41)), 2)) else ((Zal.f k t179).bind fun t182 => (some (t182, 0)))))
def Zbc.f (k : Nat) (l0 : List Int) : Option ((List (S41)) × Int) := Zbc.l0 k l0 0
theorem Zbc.Zb4 : ∀ k, (∀ y0 y1, LeO (Zbc.l0 k y0 y1) (Zbc.l0 (k + 1) y0 y1))
 | 0 => fun _ _ r h => by simp [Zbc.l0] at h
 | k + 1 => by
  have ih0 := Zbc.Zb4 k
  intro y0 y1
  unfold Zbc.l0
  repeat' first
  | (with_reducible exact ih0 _ _)
  | (with_reducible exact Zal.mono _ _)
  | (with_reducible exact Zah.mono _ _)
  | (with_reducible exact LeO.refl _)
  | (with_reducible exact LeO.none _)
  | (with_reducible refine LeO.ite ?_ ?_)
  | (with_reducible refine LeO.bind ?_ (fun _ => ?_))
  | exact ih0 _ _
  | exact Zal.mono _ _
  | exact Zah.mono _ _
  | exact LeO.none _
  | refine LeO.ite ?_ ?_
  | refine LeO.bind ?_ (fun _ => ?_)
theorem Zbc.mono : ∀ a0 k, LeO (Zbc.f k a0) (Zbc.f (k + 1) a0) := by
 intro a0 k
 have ih0 := Zbc.Zb4 k
 unfold Zbc.f
 repeat' first
   | (with_reducible exact ih0 _ _)
   | (with_reducible exact Zal.mono _ _)
   | (with_reducible exact Zah.mono _ _)
   | (with_reducible exact LeO.refl _)
   | (with_reducible exact LeO.none _)
   | (with_reducible refine LeO.ite ?_ ?_)
   | (with_reducible refine LeO.bind ?_ (fun _ => ?_))
   | exact ih0 _ _
   | exact Zal.mono _ _
   | exact Zah.mono _ _
   | exact LeO.none _
   | refine LeO.ite ?_ ?_
   | refine LeO.bind ?_ (fun _ => ?_)
set_option maxHeartbeats 8000000 in
set_option maxRecDepth 100000 in
theorem Zbc.calls (k : Nat) (A0 : Option Addr) (c0 : Nat) (l0 : List Int) (r1 : List (S41)) (r2 : Int) (w : World) (hr0 : Kd.C (Kd.int .i64) w A0 l0.length l0) (hc0 : l0.length ≤ c0) (h : Zbc.f k l0 = some (r1, r2)) :
  Calls Try.prog 59 #[.slice A0 l0.length c0] w fun e w' => ∃ v0_ : Value, e = .returned (.tuple #[v0_, .int .i64 r2]) ∧ Kd.R k41 41 w' w.heap.size (fun _ => True) v0_ r1 ∧ Below w.heap.size w w' := by
 have HR0 := Zaa.mk hr0
 have HC0 := Zaa.mk hc0
 clear hr0 hc0
 have HB := Zaa.mk (Below.refl w.heap.size w)
 have H : (Zbc.l0 k l0 0) = some (r1, r2) := h
 clear h
 have H' := Zaa.mk H
 clear H
 go_enter Try.func59, Try.ntmps59
 go_wp2
 go_loopg [4] k (fun kq v4 w' => ∃ (x4_1 : Int), v4 = .int .i64 x4_1 ∧ Zaa (Zbc.l0 kq l0 x4_1 = some (r1, r2)) ∧ Zaa (kq ≤ k) ∧ Zaa (Below w.heap.size w w'))
 case atStart => exact ⟨(0), (by first | rfl | (simp; done) | (simp [*]; done)), H', ⟨Nat.le_refl _⟩, ⟨by repeat (first | (with_reducible first | exact HB.out | apply Zab | apply Za | apply Zac) | exact HB.out)⟩⟩
 case round =>
  clear H'
  obtain ⟨x4_1, rfl, HA, HK1, HB⟩ := hrel
  cases gk with
  | zero => exact absurd HA.out (by simp [Zbc.l0])
  | succ k1 =>
   have H := HA.out
   clear HA
   simp only [Zbc.l0] at H
   by_cases c2 : x4_1 < (l0.length : Int)
   ·rw [if_pos c2] at H
    have c2b0 : decide (x4_1 < (l0.length : Int)) = true := decide_eq_true c2
    clear c2
    by_cases c3 : 0 ≤ x4_1
    rotate_left
    ·rw [if_neg c3] at H
     exact absurd H (by simp)
    rw [if_pos c3] at H
    have c3b0 : decide (0 ≤ x4_1) = true := decide_eq_true c3
    clear c3
    replace H := Option.bind_eq_some_iff.mp H
    obtain ⟨t178, A40, H⟩ := H
    replace H : (if t178 = true then (Zbc.l0 k1 l0 (wrap64 (x4_1 + 1))) else (some (([] : List (S41)), 20))) = some (r1, r2) := H
    have A4 := Zaa.mk A40
    clear A40
    by_cases c5 : t178 = true
    ·subst c5
     have H1 : (Zbc.l0 k1 l0 (wrap64 (x4_1 + 1))) = some (r1, r2) := by rw [if_pos rfl] at H; exact H
     clear H
     have H := H1
     clear H1
     have H' := Zaa.mk H
     clear H
     have p177 : 0 ≤ (x4_1 : Int) := of_decide_eq_true (by first | (with_reducible assumption) | assumption)
     have q177 : x4_1 < (l0.length : Int) := of_decide_eq_true (by first | (with_reducible assumption) | assumption)
     obtain ⟨ad177, e177, hx177_0⟩ := Kd.Zbx HR0.out x4_1 p177 q177
     cases e177
     replace hx177_0 := (HB.out.cell (World.block_lt_of_cell? w _ hx177_0)).trans hx177_0
     replace p177 := eq_true p177
     replace q177 := eq_true q177
     go_wp2_with (first | ((with_reducible refine Zbo (f := 85) rfl ?_); refine Zcr (some 16) rfl rfl Try.func85 (by kernel_rfl) rfl #[.int .i64 (rd l0 x4_1)] rfl (by (try simp only [List.map_toArray, List.map_cons, List.map_nil]); first | done | rfl | (simp only [List.length_drop, List.length_take]; rfl)) ?_; (with_reducible refine (Zb1.calls (rd l0 x4_1) true _ A4.out).mono ?_); rintro e w' ⟨rfl, ⟨nd, rfl⟩⟩; refine ⟨_, rfl, ?_⟩))
     go_roundg k1
     case measure => have := HK1.out; omega
     case rel => exact ⟨(wrap64 (x4_1 + 1)), (by first | rfl | (simp; done) | (simp [*]; done)), H', ⟨by have := HK1.out; omega⟩, ⟨by repeat (first | (with_reducible first | exact HB.out | apply Zab | apply Za | apply Zac) | exact HB.out)⟩⟩
    replace c5 := Bool.eq_false_iff.mpr c5
    subst c5
    have H1 : (some (([] : List (S41)), 20)) = some (r1, r2) := by rw [if_neg (show ¬ (false = true) by decide)] at H; exact H
    clear H
    have H := H1
    clear H1
    simp only [Option.some.injEq, Prod.mk.injEq] at H
    obtain ⟨rfl, rfl⟩ := H
    have p177 : 0 ≤ (x4_1 : Int) := of_decide_eq_true (by first | (with_reducible assumption) | assumption)
    have q177 : x4_1 < (l0.length : Int) := of_decide_eq_true (by first | (with_reducible assumption) | assumption)
    obtain ⟨ad177, e177, hx177_0⟩ := Kd.Zbx HR0.out x4_1 p177 q177
    cases e177
    replace hx177_0 := (HB.out.cell (World.block_lt_of_cell? w _ hx177_0)).trans hx177_0
    replace p177 := eq_true p177
    replace q177 := eq_true q177
    go_wp2_with (first | ((with_reducible refine Zbo (f := 85) rfl ?_); refine Zcr (some 16) rfl rfl Try.func85 (by kernel_rfl) rfl #[.int .i64 (rd l0 x4_1)] rfl (by (try simp only [List.map_toArray, List.map_cons, List.map_nil]); first | done | rfl | (simp only [List.length_drop, List.length_take]; rfl)) ?_; (with_reducible refine (Zb1.calls (rd l0 x4_1) false _ A4.out).mono ?_); rintro e w' ⟨rfl, ⟨nd, rfl⟩⟩; refine ⟨_, rfl, ?_⟩))
    go_ret2
    exact ⟨_, by first | rfl | (simp [Za1, Za2] <;> rfl) | (simp [*, Za1, Za2] <;> rfl), by first | exact Kd.Zgh _ _ _ _ _ | exact Kd.N_nil _ _ _ _ _ | exact Kd.V_nil _ _ _ _ _ | exact Kd.Q_nil _ _ _ _ _ | exact Kd.S_nil _ _ _ _ _, by repeat (first | (with_reducible first | exact HB.out | apply Zab | apply Za | apply Zac) | exact HB.out)⟩
   rw [if_neg c2] at H
   have c2b0 : decide (x4_1 < (l0.length : Int)) = false := decide_eq_false c2
   clear c2
   replace H := Option.bind_eq_some_iff.mp H
   obtain ⟨t179, A60, H⟩ := H
   replace H : (if (t179.length : Int) > 4096 then (some (([] : List (S41)), 2)) else ((Zal.f k1 t179).bind fun t182 => (some (t182, 0)))) = some (r1, r2) := H
   have A6 := Zaa.mk A60
   clear A60
   by_cases c7 : (t179.length : Int) > 4096
   ·rw [if_pos c7] at H
    have c7b0 : decide (4096 < (t179.length : Int)) = true := decide_eq_true c7
    have c7b1 : decide (4096 < t179.length) = true := decide_eq_true (by omega)
    clear c7
    simp only [Option.some.injEq, Prod.mk.injEq] at H
    obtain ⟨rfl, rfl⟩ := H
    go_wp2_with (first | ((with_reducible refine Zbo (f := 38) rfl ?_); refine Zcr (some 19) rfl rfl Try.func38 (by kernel_rfl) rfl #[.slice A0 l0.length c0] rfl (by (try simp only [List.map_toArray, List.map_cons, List.map_nil]); first | done | rfl | (simp only [List.length_drop, List.length_take]; rfl)) ?_; (with_reducible refine (Zah.calls k1 _ _ l0 t179 _ ?side1 ?side2 A6.out).mono ?_); (case side1 => repeat (first | exact (Kd.Za8 HR0.out HB.out) | (with_reducible refine Kd.C_alloc ?_ _) | (with_reducible refine Kd.Za0 ?_ _) | (with_reducible refine Kd.C_drew ?_))); (case side2 => exact HC0.out); rintro e w8 ⟨v180, rfl, ho0, hb⟩; refine ⟨_, rfl, ?_⟩; have n0_ := Zaa.mk (Kd.Zbs ho0 (Zae (by repeat (first | (with_reducible first | exact HB.out | apply Zab | apply Za | apply Zac) | exact HB.out)))); have n1_ := Zaa.mk (Zam (by repeat (first | (with_reducible first | exact HB.out | apply Zab | apply Za | apply Zac) | exact HB.out)) hb); clear HB; have HO181 := n0_; have HB := n1_; clear n0_ n1_; (try clear hb); (try clear hb2); (try clear hk); (try clear hi); (try clear ho0); obtain ⟨Ao9, co9, eo9⟩ := Kd.Zbn HO181.out; subst eo9))
    go_ret2
    exact ⟨_, by first | rfl | (simp [Za1, Za2] <;> rfl) | (simp [*, Za1, Za2] <;> rfl), by first | exact Kd.Zgh _ _ _ _ _ | exact Kd.N_nil _ _ _ _ _ | exact Kd.V_nil _ _ _ _ _ | exact Kd.Q_nil _ _ _ _ _ | exact Kd.S_nil _ _ _ _ _, by repeat (first | (with_reducible first | exact HB.out | apply Zab | apply Za | apply Zac) | exact HB.out)⟩
   rw [if_neg c7] at H
   have c7b0 : decide (4096 < (t179.length : Int)) = false := decide_eq_false c7
   have c7b1 : decide (4096 < t179.length) = false := decide_eq_false (by omega)
   clear c7
   replace H := Option.bind_eq_some_iff.mp H
   obtain ⟨t182, A100, H⟩ := H
   replace H : (some (t182, 0)) = some (r1, r2) := H
   have A10 := Zaa.mk A100
   clear A100
   simp only [Option.some.injEq, Prod.mk.injEq] at H
   obtain ⟨rfl, rfl⟩ := H
   go_wp2_with (first | ((with_reducible refine Zbo (f := 38) rfl ?_); refine Zcr (some 19) rfl rfl Try.func38 (by kernel_rfl) rfl #[.slice A0 l0.length c0] rfl (by (try simp only [List.map_toArray, List.map_cons, List.map_nil]); first | done | rfl | (simp only [List.length_drop, List.length_take]; rfl)) ?_; (with_reducible refine (Zah.calls k1 _ _ l0 t179 _ ?side1 ?side2 A6.out).mono ?_); (case side1 => repeat (first | exact (Kd.Za8 HR0.out HB.out) | (with_reducible refine Kd.C_alloc ?_ _) | (with_reducible refine Kd.Za0 ?_ _) | (with_reducible refine Kd.C_drew ?_))); (case side2 => exact HC0.out); rintro e w11 ⟨v180, rfl, ho0, hb⟩; refine ⟨_, rfl, ?_⟩; have n0_ := Zaa.mk (Kd.Zbs ho0 (Zae (by repeat (first | (with_reducible first | exact HB.out | apply Zab | apply Za | apply Zac) | exact HB.out)))); have n1_ := Zaa.mk (Zam (by repeat (first | (with_reducible first | exact HB.out | apply Zab | apply Za | apply Zac) | exact HB.out)) hb); clear HB; have HO181 := n0_; have HB := n1_; clear n0_ n1_; (try clear hb); (try clear hb2); (try clear hk); (try clear hi); (try clear ho0); obtain ⟨Ao12, co12, eo12⟩ := Kd.Zbn HO181.out; subst eo12) | ((with_reducible refine Zbo (f := 58) rfl ?_); refine Zcr (some 24) rfl rfl Try.func58 (by kernel_rfl) rfl #[.slice Ao12 t179.length co12] rfl (by (try simp only [List.map_toArray, List.map_cons, List.map_nil]); first | done | rfl | (simp only [List.length_drop, List.length_take]; rfl)) ?_; (with_reducible refine (Zal.calls k1 _ _ t179 t182 _ ?side1 ?side2 A10.out).mono ?_); (case side1 => repeat (first | exact (Kd.Zaz HO181.out).2.2 | (with_reducible refine Kd.C_alloc ?_ _) | (with_reducible refine Kd.Za0 ?_ _) | (with_reducible refine Kd.C_drew ?_))); (case side2 => exact (Kd.Zaz HO181.out).2.1); rintro e w13 ⟨v183, rfl, ho0, hb⟩; refine ⟨_, rfl, ?_⟩; have n0_ := Zaa.mk (Kd.Zca (by (with_reducible repeat (first | apply Kd.Za6 | apply Kd.Za5 | apply Kd.Zbb)); exact HO181.out) hb); have n1_ := Zaa.mk (Kd.Zbs ho0 (Zae (by repeat (first | (with_reducible first | exact HB.out | apply Zab | apply Za | apply Zac) | exact HB.out)))); have n2_ := Zaa.mk (Zam (by repeat (first | (with_reducible first | exact HB.out | apply Zab | apply Za | apply Zac) | exact HB.out)) hb); clear HO181; clear HB; have HO181 := n0_; have HO184 := n1_; have HB := n2_; clear n0_ n1_ n2_; (try clear hb); (try clear hb2); (try clear hk); (try clear hi); (try clear ho0)))
   go_ret2
   exact ⟨_, by first | rfl | (simp [Za1, Za2] <;> rfl) | (simp [*, Za1, Za2] <;> rfl), by (with_reducible repeat (first | apply Kd.Za6 | apply Kd.Za5 | apply Kd.Zbb)); exact HO184.out, by repeat (first | (with_reducible first | exact HB.out | apply Zab | apply Za | apply Zac) | exact HB.out)⟩
theorem eqA41 (d : Nat) (w : World) (x0 y0 : Int) (x1 y1 : Int) :
  (Op.equalIn (d + 2) 41 (.agg #[.int .i64 x0, .int .i64 x1]) (.agg #[.int .i64 y0, .int .i64 y1])).run Try.prog w = .ok (x0 == y0 && (x1 == y1)) w := by
 refine eqA_of Try.underlying41 (by kernel_rfl) ?_
 refine eqf_cons (by rfl) (by go_simp; rfl) (by go_simp; rfl) (by go_simp) ?_
 exact eqf_last (by rfl) (by go_simp; rfl) (by go_simp; rfl) (by go_simp)
end Go.Proofs.Ytpbcigilipdedaa.P
namespace Go.Proofs.Ytpbcigilipdedaa.P
open Go.RowKit Go.Proofs.YtpbcigilipdedaaW.PrintWords Go.Proofs.YtpbcigilipdedaaW.PrintLast Go.Proofs.YtpbcigilipdedaaW.PrintMore
attribute [local go_sem] Zcz Zc1 Zde Zdf Zct Zcu Zc0 Zc2
set_option linter.unusedVariables false
set_option linter.unusedSimpArgs false
attribute [local go_sem high] eqA41
def Za9.l0 : Nat → List (S41) → List (S41) → Int → Option (Bool)
 | 0, _, _, _ => none
 | k + 1, x0, x1, x5 => if x5 < (x0.length : Int) then (if 0 ≤ x5 then (if x5 < (x1.length : Int) then (if (!(((Zaw x0 x5).f0) == ((Zaw x1 x5).f0)) || (!(((Zaw x0 x5).f1) == ((Zaw x1 x5).f1)))) = true then (some false) else (Za9.l0 k x0 x1 (wrap64 (x5 + 1)))) else (none)) else (none)) else (some true)
def Za9.f (k : Nat) (l0 : List (S41)) (l1 : List (S41)) : Option (Bool) := if (l0.length : Int) = (l1.length : Int) then (Za9.l0 k l0 l1 0) else (some false)
theorem Za9.Zb4 : ∀ k, (∀ y0 y1 y2, LeO (Za9.l0 k y0 y1 y2) (Za9.l0 (k + 1) y0 y1 y2))
 | 0 => fun _ _ _ r h => by simp [Za9.l0] at h
 | k + 1 => by
  have ih0 := Za9.Zb4 k
  intro y0 y1 y2
  unfold Za9.l0
  repeat' first
  | (with_reducible exact ih0 _ _ _)
  | (with_reducible exact LeO.refl _)
  | (with_reducible exact LeO.none _)
  | (with_reducible refine LeO.ite ?_ ?_)
  | (with_reducible refine LeO.bind ?_ (fun _ => ?_))
  | exact ih0 _ _ _
  | exact LeO.none _
  | refine LeO.ite ?_ ?_
  | refine LeO.bind ?_ (fun _ => ?_)
theorem Za9.mono : ∀ a0 a1 k, LeO (Za9.f k a0 a1) (Za9.f (k + 1) a0 a1) := by
 intro a0 a1 k
 have ih0 := Za9.Zb4 k
 unfold Za9.f
 repeat' first
   | (with_reducible exact ih0 _ _ _)
   | (with_reducible exact LeO.refl _)
   | (with_reducible exact LeO.none _)
   | (with_reducible refine LeO.ite ?_ ?_)
   | (with_reducible refine LeO.bind ?_ (fun _ => ?_))
   | exact ih0 _ _ _
   | exact LeO.none _
   | refine LeO.ite ?_ ?_
   | refine LeO.bind ?_ (fun _ => ?_)
set_option maxHeartbeats 8000000 in
set_option maxRecDepth 100000 in
theorem Za9.calls (k : Nat) (A0 : Option Addr) (c0 : Nat) (l0 : List (S41)) (A1 : Option Addr) (c1 : Nat) (l1 : List (S41)) (r : Bool) (w : World) (hr0 : Kd.C k41 w A0 l0.length l0) (hc0 : l0.length ≤ c0) (hr1 : Kd.C k41 w A1 l1.length l1) (hc1 : l1.length ≤ c1) (h : Za9.f k l0 l1 = some r) :
  Calls Try.prog 39 #[.slice A0 l0.length c0, .slice A1 l1.length c1] w fun e w' => e = .returned (.bool r) ∧ Zbw w w' := by
 have hu41 := Try.underlying41
 have HR0 := Zaa.mk hr0
 have HC0 := Zaa.mk hc0
 clear hr0 hc0
 have HR1 := Zaa.mk hr1
 have HC1 := Zaa.mk hc1
 clear hr1 hc1
 have H : (if (l0.length : Int) = (l1.length : Int) then (Za9.l0 k l0 l1 0) else (some false)) = some r := h
 clear h
 by_cases c3 : (l0.length : Int) = (l1.length : Int)
 rotate_left
 ·rw [if_neg c3] at H
  have c3b0 : ((l0.length : Int) == (l1.length : Int)) = false := beq_eq_false_iff_ne.mpr c3
  have c3b1 : ((l0.length : Int) != (l1.length : Int)) = true := bne_iff_ne.mpr c3
  have c3b2 : (l0.length == l1.length) = false := by first | simpa using c3 | (simp at c3 ⊢; omega)
  obtain rfl := Option.some.inj H
  go_enter Try.func39, Try.ntmps39
  go_wp2
  repeat (go_quiet (fail); try go_wp2)
  go_ret
  exact ⟨by first | rfl | (simp; done) | (simp [*]; done), by repeat (first | exact Zbw.refl _ | apply Zbw.step)⟩
 rw [if_pos c3] at H
 have c3b0 : ((l0.length : Int) == (l1.length : Int)) = true := beq_iff_eq.mpr c3
 have c3b1 : ((l0.length : Int) != (l1.length : Int)) = false := bne_eq_false_iff_eq.mpr c3
 have c3b2 : (l0.length == l1.length) = true := by first | simpa using c3 | (simp at c3 ⊢; omega)
 clear c3
 have H' := Zaa.mk H
 clear H
 go_enter Try.func39, Try.ntmps39
 go_wp2
 repeat (go_quiet (fail); try go_wp2)
 go_loopg [5] k (fun kq v5 w' => ∃ (x5_1 : Int), v5 = .int .i64 x5_1 ∧ Zaa (Za9.l0 kq l0 l1 x5_1 = some r) ∧ Zaa (kq ≤ k) ∧ Zbw w w')
 case atStart => exact ⟨(0), (by first | rfl | (simp; done) | (simp [*]; done)), H', ⟨Nat.le_refl _⟩, by repeat (first | exact Zbw.refl _ | apply Zbw.step)⟩
 case round =>
  clear H'
  try clear c1
  try clear p2
  try clear c3
  try clear c3b0
  try clear c3b1
  try clear c3b2
  obtain ⟨x5_1, rfl, HA, HK1, ⟨m1, rfl⟩⟩ := hrel
  cases gk with
  | zero => exact absurd HA.out (by simp [Za9.l0])
  | succ k1 =>
   have H := HA.out
   clear HA
   simp only [Za9.l0] at H
   by_cases c4 : x5_1 < (l0.length : Int)
   rotate_left
   ·rw [if_neg c4] at H
    have c4b0 : decide (x5_1 < (l0.length : Int)) = false := decide_eq_false c4
    clear c4
    obtain rfl := Option.some.inj H
    go_wp2
    repeat (go_quiet (fail); try go_wp2)
    go_ret
    exact ⟨by first | rfl | (simp; done) | (simp [*]; done), by repeat (first | exact Zbw.refl _ | apply Zbw.step)⟩
   rw [if_pos c4] at H
   have c4b0 : decide (x5_1 < (l0.length : Int)) = true := decide_eq_true c4
   clear c4
   by_cases c5 : 0 ≤ x5_1
   rotate_left
   ·rw [if_neg c5] at H
    exact absurd H (by simp)
   rw [if_pos c5] at H
   have c5b0 : decide (0 ≤ x5_1) = true := decide_eq_true c5
   clear c5
   by_cases c6 : x5_1 < (l1.length : Int)
   rotate_left
   ·rw [if_neg c6] at H
    exact absurd H (by simp)
   rw [if_pos c6] at H
   have c6b0 : decide (x5_1 < (l1.length : Int)) = true := decide_eq_true c6
   clear c6
   by_cases c7 : (!(((Zaw l0 x5_1).f0) == ((Zaw l1 x5_1).f0)) || (!(((Zaw l0 x5_1).f1) == ((Zaw l1 x5_1).f1)))) = true
   ·rw [if_pos c7] at H
    have c7b0 : (!(((Zaw l0 x5_1).f0) == ((Zaw l1 x5_1).f0)) || (!(((Zaw l0 x5_1).f1) == ((Zaw l1 x5_1).f1)))) = true := c7
    clear c7
    obtain rfl := Option.some.inj H
    have p346 : 0 ≤ (x5_1 : Int) := of_decide_eq_true (by first | (with_reducible assumption) | assumption)
    have q346 : x5_1 < (l0.length : Int) := of_decide_eq_true (by first | (with_reducible assumption) | assumption)
    obtain ⟨ad346, e346, hx346_0, hx346_1⟩ := Zch HR0.out x5_1 p346 q346
    cases e346
    replace p346 := eq_true p346
    replace q346 := eq_true q346
    have p347 : 0 ≤ (x5_1 : Int) := of_decide_eq_true (by first | (with_reducible assumption) | assumption)
    have q347 : x5_1 < (l1.length : Int) := of_decide_eq_true (by first | (with_reducible assumption) | assumption)
    obtain ⟨ad347, e347, hx347_0, hx347_1⟩ := Zch HR1.out x5_1 p347 q347
    cases e347
    replace p347 := eq_true p347
    replace q347 := eq_true q347
    go_wp2
    repeat (go_quiet (fail); try go_wp2)
    go_ret
    exact ⟨by first | rfl | (simp; done) | (simp [*]; done), by repeat (first | exact Zbw.refl _ | apply Zbw.step)⟩
   rw [if_neg c7] at H
   have c7b0 : (!(((Zaw l0 x5_1).f0) == ((Zaw l1 x5_1).f0)) || (!(((Zaw l0 x5_1).f1) == ((Zaw l1 x5_1).f1)))) = false := by simpa using c7
   clear c7
   have H' := Zaa.mk H
   clear H
   have p346 : 0 ≤ (x5_1 : Int) := of_decide_eq_true (by first | (with_reducible assumption) | assumption)
   have q346 : x5_1 < (l0.length : Int) := of_decide_eq_true (by first | (with_reducible assumption) | assumption)
   obtain ⟨ad346, e346, hx346_0, hx346_1⟩ := Zch HR0.out x5_1 p346 q346
   cases e346
   replace p346 := eq_true p346
   replace q346 := eq_true q346
   have p347 : 0 ≤ (x5_1 : Int) := of_decide_eq_true (by first | (with_reducible assumption) | assumption)
   have q347 : x5_1 < (l1.length : Int) := of_decide_eq_true (by first | (with_reducible assumption) | assumption)
   obtain ⟨ad347, e347, hx347_0, hx347_1⟩ := Zch HR1.out x5_1 p347 q347
   cases e347
   replace p347 := eq_true p347
   replace q347 := eq_true q347
   go_wp2
   repeat (go_quiet (fail); try go_wp2)
   go_roundg k1
   case measure => have := HK1.out; omega
   case rel => exact ⟨(wrap64 (x5_1 + 1)), (by first | rfl | (simp; done) | (simp [*]; done)), H', ⟨by have := HK1.out; omega⟩, by repeat (first | exact Zbw.refl _ | apply Zbw.step)⟩
end Go.Proofs.Ytpbcigilipdedaa.P
/- The document's answers for domains: what each comes to. -/
namespace Go.Proofs.Ytpbcigilipdedaa.P
open Go.RowKit Go.Proofs.YtpbcigilipdedaaW.PrintWords Go.Proofs.YtpbcigilipdedaaW.PrintLast Go.Proofs.YtpbcigilipdedaaW.PrintMore
set_option linter.unusedVariables false
set_option linter.unusedSimpArgs false
theorem ref_Same_l (l : List Rg) (hl : l.length < 4611686018427387904) : ∀ (r n : Nat), n + r = l.length → Ev (fun k => Za9.l0 k l l (n : Int)) true := by
  intro r
  induction r with
  | zero =>
    intro n h
    exact Ev.step (G := fun _ => some true) (fun k => by rw [Za9.l0, if_neg (by omega)]) (Ev.const (by simp))
  | succ r ih =>
    intro n h
    exact Ev.step (fun k => by rw [Za9.l0, if_pos (by omega), if_pos (by omega), if_pos (by omega), if_neg (by simp), w1 (by omega)]) (ih (n + 1) (by omega))
theorem Zfm (l : List Rg) (hl : l.length < 4611686018427387904) : Ev (fun k => Za9.f k l l) true :=
  Ev.eq (fun k => by rw [Za9.f, if_pos (by omega)]; rfl) (ref_Same_l l hl l.length 0 (by omega))
theorem ref_Values_l1 (d : List Rg) (i : Nat) (hi : i < d.length) (h1 : d[i].f1 ≤ 1048576) {b : List Int} : ∀ (r : Nat) (v : Int) (acc : List Int), -1048576 ≤ v → r = (d[i].f1 + 1 - v).toNat → acc.length + r < 17592186044416 →
    Ev (fun k => Zan.l0 k d (acc ++ upTo r v d[i].f1) (wrap64 ((i : Int) + 1))) b → Ev (fun k => Zan.l1 k d acc (i : Int) v) b := by
  intro r
  induction r with
  | zero =>
    intro v acc hv hr hb h
    simp only [upTo, List.append_nil] at h
    exact Ev.step (fun k => by rw [Zan.l1, if_pos (by omega), if_pos (by omega), show Zaw d (i : Int) = d[i] from Zf7 d i hi, if_neg (by omega)]) h
  | succ r ih =>
    intro v acc hv hr hb h
    have hle : v ≤ d[i].f1 := by omega
    rw [upTo, if_pos hle] at h
    exact Ev.step (fun k => by rw [Zan.l1, if_pos (by omega), if_pos (by omega), show Zaw d (i : Int) = d[i] from Zf7 d i hi, if_pos hle, if_pos (by omega), w64 (n := v + 1) (by omega) (by omega)])
      (ih (v + 1) (acc ++ [v]) (by omega) (by omega) (by simp; omega) (by simpa using h))
theorem Gd.drop {V : Int} : ∀ {b : Int} {d : List Rg} (n : Nat), Gd V b d → Gd V b (d.drop n)
  | _, [], n, h => by simp [Gd]
  | b, x :: d, 0, h => h
  | b, x :: d, n + 1, ⟨h1, h2, h3, h4⟩ => (Gd.drop n h4).mono (by omega)
theorem ref_Values_l0 (d : List Rg) (hl : d.length < 4611686018427387904) {b : Int} (hd : Gd 1048576 b d) (hb : -1048576 ≤ b) : ∀ (m n : Nat) (acc : List Int), n + m = d.length → acc.length + (vals (d.drop n)).length < 17592186044416 →
    Ev (fun k => Zan.l0 k d acc (n : Int)) (acc ++ vals (d.drop n)) := by
  intro m
  induction m with
  | zero =>
    intro n acc h _
    rw [drop_nil' h]
    exact Ev.step (G := fun _ => some acc) (fun k => by rw [Zan.l0, if_neg (by omega)]) (Ev.const (by simp [vals]))
  | succ m ih =>
    intro n acc h hs
    have hn : n < d.length := by omega
    have hg := hd.drop n
    rw [List.drop_eq_getElem_cons hn] at hs hg ⊢
    obtain ⟨g1, g2, g3, g4⟩ := hg
    rw [vals] at hs ⊢
    rw [List.length_append] at hs
    have hu := Zfq (d[n].f1 + 1 - d[n].f0).toNat d[n].f0 d[n].f1
    refine Ev.step (fun k => by rw [Zan.l0, if_pos (by omega), if_pos (by omega), show Zaw d (n : Int) = d[n] from Zf7 d n hn]) (ref_Values_l1 d n hn g3 (d[n].f1 + 1 - d[n].f0).toNat d[n].f0 acc (by omega) rfl (by omega) ?_)
    rw [w1 (by omega), ← List.append_assoc]
    exact ih (n + 1) _ (by omega) (by rw [List.length_append]; omega)
theorem Zf0 (d : List Rg) {b : Int} (hd : Gd 1048576 b d) (hb : -1048576 ≤ b) : Ev (fun k => Zan.f k d) (vals d) := by
  have h1 := Zdg hd
  have h2 := Zcx hd
  exact ref_Values_l0 d (by omega) hd hb d.length 0 [] (by omega) (by simp; omega)
def ins2 (x : Int) : Bool → List Int → List Int
  | p, [] => if p then [] else [x]
  | p, y :: l => if p = false ∧ x < y then x :: y :: ins2 x true l else y :: ins2 x p l
theorem Zfh (x : Int) : ∀ l, ins2 x true l = l
  | [] => by simp [ins2]
  | y :: l => by simp [ins2, Zfh x l]
theorem Zg7 (x : Int) : ∀ l, x ∉ l → ins2 x false l = insU x l
  | [], _ => by simp [ins2, insU]
  | y :: l, h => by
    have h1 : x ≠ y := fun e => h (by simp [e])
    have h2 : x ∉ l := fun e => h (List.mem_cons_of_mem _ e)
    unfold ins2 insU
    by_cases hlt : x < y
    · simp [hlt, Zfh]
    simp [hlt, h1, Zg7 x l h2]
theorem insU_mem (x : Int) : ∀ l, SS l → x ∈ l → insU x l = l
  | y :: l, h, hx => by
    obtain ⟨hy, hl⟩ := List.pairwise_cons.1 h
    unfold insU
    rcases List.mem_cons.1 hx with rfl | hx
    · simp
    have := hy x hx
    rw [if_neg (by omega), if_neg (by omega), insU_mem x l hl hx]
theorem ins2_length (x : Int) : ∀ p l, (ins2 x p l).length ≤ l.length + 1
  | p, [] => by unfold ins2; split <;> simp
  | p, y :: l => by
    unfold ins2
    split
    · rw [Zfh]; simp
    have := ins2_length x p l; simp; omega
theorem ref_Sorted_l1 (x0 out : List Int) (i : Nat) (hi : i < x0.length) (ho : out.length < 17592186044000) {b : List Int} : ∀ (m n : Nat) (next : List Int) (p : Bool), n + m = out.length → next.length ≤ n + p.toNat →
    Ev (fun k => Zah.l0 k x0 (next ++ ins2 x0[i] p (out.drop n)) (wrap64 ((i : Int) + 1))) b → Ev (fun k => Zah.l1 k x0 out (i : Int) next p (n : Int)) b := by
  intro m
  induction m with
  | zero =>
    intro n next p h hn hE
    rw [drop_nil' h] at hE
    cases p with
    | true =>
      simp only [ins2, if_true, List.append_nil] at hE
      exact Ev.step (fun k => by rw [Zah.l1, if_neg (by omega), if_pos rfl]) hE
    | false =>
      simp only [Bool.toNat_false, Nat.add_zero] at hn
      simp only [ins2, Bool.false_eq_true, if_false] at hE
      exact Ev.step (fun k => by rw [Zah.l1, if_neg (by omega), if_neg (by simp), if_pos (by omega), if_pos (by omega), if_pos (by omega), Zcw x0 i hi]) hE
  | succ m ih =>
    intro n next p h hn hE
    have hlt : n < out.length := by omega
    rw [List.drop_eq_getElem_cons hlt] at hE
    cases p with
    | true =>
      simp only [Bool.toNat_true] at hn
      have e : ins2 x0[i] true (out[n] :: out.drop (n + 1)) = out[n] :: ins2 x0[i] true (out.drop (n + 1)) := by simp [ins2]
      rw [e] at hE
      exact Ev.step (fun k => by rw [Zah.l1, if_pos (by omega), if_pos rfl, if_pos (by omega), if_pos (by omega), Zcw out n hlt, w1 (by omega)])
        (ih (n + 1) (next ++ [out[n]]) true (by omega) (by simp; omega) (by simpa using hE))
    | false =>
      simp only [Bool.toNat_false, Nat.add_zero] at hn
      by_cases hx : x0[i] < out[n]
      rotate_left
      · have e : ins2 x0[i] false (out[n] :: out.drop (n + 1)) = out[n] :: ins2 x0[i] false (out.drop (n + 1)) := by simp [ins2, hx]
        rw [e] at hE
        exact Ev.step (fun k => by rw [Zah.l1, if_pos (by omega), if_neg (by simp), if_pos (by omega), if_pos (by omega), if_pos (by omega), Zcw x0 i hi, Zcw out n hlt, if_neg hx, if_pos (by omega), w1 (by omega)])
          (ih (n + 1) (next ++ [out[n]]) false (by omega) (by simp; omega) (by simpa using hE))
      have e : ins2 x0[i] false (out[n] :: out.drop (n + 1)) = x0[i] :: out[n] :: ins2 x0[i] true (out.drop (n + 1)) := by simp [ins2, hx]
      rw [e] at hE
      exact Ev.step (fun k => by rw [Zah.l1, if_pos (by omega), if_neg (by simp), if_pos (by omega), if_pos (by omega), if_pos (by omega), Zcw x0 i hi, Zcw out n hlt, if_pos hx, if_pos (by omega), Option.bind_some, if_pos (by simp; omega), w1 (by omega)])
        (ih (n + 1) ((next ++ [x0[i]]) ++ [out[n]]) true (by omega) (by simp; omega) (by simpa using hE))
end Go.Proofs.Ytpbcigilipdedaa.P
/- The document's answers for domains: Sorted, Pack, Of; and dom.Of, which is the same. -/
namespace Go.Proofs.Ytpbcigilipdedaa.P
open Go.RowKit Go.Proofs.YtpbcigilipdedaaW.PrintWords Go.Proofs.YtpbcigilipdedaaW.PrintLast Go.Proofs.YtpbcigilipdedaaW.PrintMore
set_option linter.unusedVariables false
set_option linter.unusedSimpArgs false
theorem foldl_ins : ∀ (l acc : List Int), SS acc → SS (l.foldl (fun a x => insU x a) acc) ∧ ∀ z, z ∈ l.foldl (fun a x => insU x a) acc ↔ z ∈ acc ∨ z ∈ l
  | [], acc, h => ⟨h, fun z => by simp⟩
  | x :: l, acc, h => by
    obtain ⟨h1, h2⟩ := foldl_ins l (insU x acc) (insU_ss x acc h)
    refine ⟨h1, fun z => ?_⟩
    rw [List.foldl_cons, h2 z, Zgd, List.mem_cons]
    constructor
    · rintro ((h | h) | h)
      · exact .inr (.inl h)
      · exact .inl h
      exact .inr (.inr h)
    rintro (h | h | h)
    · exact .inl (.inr h)
    · exact .inl (.inl h)
    exact .inr h
theorem foldl_sd (l : List Int) : l.foldl (fun a x => insU x a) [] = sd l := by
  obtain ⟨h1, h2⟩ := foldl_ins l [] List.Pairwise.nil
  exact (sd_eq h1 (fun z => by rw [h2 z]; simp)).symm
theorem ref_Sorted_l0 (l : List Int) (hl : l.length < 17592186044000) : ∀ (m n : Nat) (acc : List Int), n + m = l.length → acc.length ≤ n → SS acc →
    Ev (fun k => Zah.l0 k l acc (n : Int)) ((l.drop n).foldl (fun a x => insU x a) acc) := by
  intro m
  induction m with
  | zero =>
    intro n acc h _ _
    rw [drop_nil' h]
    exact Ev.step (G := fun _ => some acc) (fun k => by rw [Zah.l0, if_neg (by omega)]) (Ev.const rfl)
  | succ m ih =>
    intro n acc h ha hs
    have hn : n < l.length := by omega
    have e : (l.drop n).foldl (fun a x => insU x a) acc = (l.drop (n + 1)).foldl (fun a x => insU x a) (insU l[n] acc) := by rw [List.drop_eq_getElem_cons hn, List.foldl_cons]
    rw [e]
    have hi := Zf l[n] acc
    have e2 : ins2 l[n] (decide (l[n] ∈ acc)) acc = insU l[n] acc := by
      by_cases hx : l[n] ∈ acc
      rotate_left
      · rw [decide_eq_false hx, Zg7 _ _ hx]
      rw [decide_eq_true hx, Zfh, insU_mem _ _ hs hx]
    refine Ev.step (fun k => by rw [Zah.l0, if_pos (by omega), if_pos (by omega), Zcw l n hn]) (Ev.bind (ref_Has acc l[n] (by omega)) ?_)
    refine ref_Sorted_l1 l acc n hn (by omega) acc.length 0 [] (decide (l[n] ∈ acc)) (by omega) (by simp) ?_
    rw [List.nil_append, List.drop_zero, e2, w1 (by omega)]
    exact ih (n + 1) _ (by omega) (by omega) (insU_ss _ _ hs)
theorem Zhb (l : List Int) (hl : l.length < 17592186044000) : Ev (fun k => Zah.f k l) (sd l) := by
  rw [← foldl_sd]
  exact ref_Sorted_l0 l hl l.length 0 [] (by omega) (by simp) List.Pairwise.nil
theorem pack_run {l : List Int} {B : Int} (hs : SS l) (hB : ∀ x ∈ l, x ≤ B) {p n : Nat} (hn : n < l.length) (hp : p ≤ n) (run : ∀ j (hj : j < l.length), p ≤ j → j ≤ n → l[j] = l[p] + ((j : Int) - p)) (gap : ∀ h : n + 1 < l.length, l[n + 1] ≠ l[n] + 1) :
    pack (l.drop p) = ⟨l[p], l[n]⟩ :: pack (l.drop (n + 1)) := by
  have hr := run n hn hp (Nat.le_refl _)
  have hge : ∀ x ∈ l.drop (n + 1), l[n] + 2 ≤ x := by
    intro x hx
    obtain ⟨j, hj, rfl⟩ := List.mem_drop_iff_getElem.1 hx
    have h1 : n + 1 < l.length := by omega
    have h2 := gap h1
    have h3 := Zf4 hs hn h1 (by omega)
    rcases Nat.eq_zero_or_pos j with rfl | hj0
    · simp only [Nat.add_zero] at *; omega
    have h4 := Zf4 hs h1 (show n + 1 + j < l.length by omega) (by omega); omega
  obtain ⟨g, m⟩ := Zd2 (V := B) (b := l[n] + 2) (l := l.drop (n + 1)) (List.Pairwise.drop hs) (fun x hx => ⟨hge x hx, hB x (List.mem_of_mem_drop hx)⟩)
  refine (pack_eq (V := B) (b := l[p]) (d := ⟨l[p], l[n]⟩ :: pack (l.drop (n + 1))) ⟨Int.le_refl _, by show l[p] ≤ l[n]; omega, hB _ (List.getElem_mem hn), g⟩ (List.Pairwise.drop hs) (fun v => ?_)).symm
  rw [Zco, m, List.mem_drop_iff_getElem, List.mem_drop_iff_getElem]
  dsimp only
  constructor
  · rintro (⟨h1, h2⟩ | ⟨j, hj, rfl⟩)
    · have hj : p + (v - l[p]).toNat < l.length := by omega
      refine ⟨(v - l[p]).toNat, by omega, ?_⟩
      rw [run _ hj (by omega) (by omega)]
      omega
    refine ⟨n + 1 + j - p, by omega, ?_⟩
    congr 1
    omega
  rintro ⟨j, hj, rfl⟩
  by_cases hjn : p + j ≤ n
  rotate_left
  · refine .inr ⟨p + j - (n + 1), by omega, ?_⟩
    congr 1
    omega
  have h1 := run (p + j) (by omega) (by omega) hjn
  exact .inl (by omega)
theorem ref_Pack_l0 (l : List Int) (hl : l.length < 8000000000000) (hs : SS l) (hB : ∀ x ∈ l, -4611686018427387904 ≤ x ∧ x ≤ 4611686018427387904) : ∀ (m n p : Nat) (out : List Rg), n + m = l.length → p ≤ n → (n = l.length → p = n) → out.length ≤ p →
    (∀ hp : p < l.length, ∀ j (hj : j < l.length), p ≤ j → j ≤ n → l[j] = l[p] + ((j : Int) - p)) →
    Ev (fun k => Zal.l0 k l out (p : Int) (n : Int)) (out ++ pack (l.drop p)) := by
  intro m
  induction m with
  | zero =>
    intro n p out h hp hpe _ _
    obtain rfl := hpe (by omega)
    rw [drop_nil' h]
    exact Ev.step (G := fun _ => some out) (fun k => by rw [Zal.l0, if_neg (by omega)]) (Ev.const (by simp [pack]))
  | succ m ih =>
    intro n p out h hp hpe ho run
    have hn : n < l.length := by omega
    have hpl : p < l.length := by omega
    have hb := hB _ (List.getElem_mem hn)
    have run' := run hpl
    by_cases hlast : n + 1 = l.length
    · rw [pack_run hs (fun x hx => (hB x hx).2) hn hp run' (fun hh => by omega)]
      refine Ev.step (fun k => by rw [Zal.l0, if_pos (by omega), w1 (by omega), if_pos (by omega), if_pos (by omega), if_pos (by omega), if_pos (by omega), if_pos (by omega), Zcw l p hpl, Zcw l n hn]) ?_
      have := ih (n + 1) (n + 1) (out ++ [⟨l[p], l[n]⟩]) (by omega) (Nat.le_refl _) (fun _ => rfl) (by simp; omega) (fun hh => by omega)
      simpa using this
    have hn1 : n + 1 < l.length := by omega
    by_cases hgap : l[n + 1] = l[n] + 1
    · refine Ev.step (fun k => by rw [Zal.l0, if_pos (by omega), w1 (by omega), if_neg (by omega), if_pos (by omega), if_pos (by omega), if_pos (by omega), Zcw l (n + 1) hn1, Zcw l n hn, w64 (n := l[n] + 1) (by omega) (by omega), if_pos hgap]) ?_
      refine ih (n + 1) p out (by omega) (by omega) (fun hh => by omega) ho (fun _ j hj h1 h2 => ?_)
      rcases Nat.lt_or_ge j (n + 1) with h3 | h3
      · exact run' j hj h1 (by omega)
      obtain rfl : j = n + 1 := by omega
      rw [hgap, run' n hn hp (Nat.le_refl _)]
      omega
    rw [pack_run hs (fun x hx => (hB x hx).2) hn hp run' (fun _ => hgap)]
    refine Ev.step (fun k => by rw [Zal.l0, if_pos (by omega), w1 (by omega), if_neg (by omega), if_pos (by omega), if_pos (by omega), if_pos (by omega), Zcw l (n + 1) hn1, Zcw l n hn, w64 (n := l[n] + 1) (by omega) (by omega), if_neg hgap, if_pos (by omega), if_pos (by omega), if_pos (by omega), Zcw l p hpl]) ?_
    have := ih (n + 1) (n + 1) (out ++ [⟨l[p], l[n]⟩]) (by omega) (Nat.le_refl _) (fun _ => rfl) (by simp; omega) (fun hh j hj h1 h2 => by obtain rfl : j = n + 1 := (by omega); omega)
    simpa using this
theorem ref_Pack (l : List Int) (hl : l.length < 8000000000000) (hs : SS l) (hB : ∀ x ∈ l, -4611686018427387904 ≤ x ∧ x ≤ 4611686018427387904) : Ev (fun k => Zal.f k l) (pack l) := by
  have := ref_Pack_l0 l hl hs hB l.length 0 0 [] (by omega) (Nat.le_refl _) (fun h => by omega) (by simp) (fun hp j hj h1 h2 => by obtain rfl : j = 0 := (by omega); omega)
  exact this
def ofSpec (l : List Int) : List Rg × Int := if (l.any fun v => !isVal v) = true then ([], 20) else (pack (sd l), 0)
theorem Zfz (x : Int) : Zb1.f x = some (isVal x) := by
  unfold Zb1.f isVal
  by_cases h : x ≥ -1048576
  · rw [if_pos h]; simp [decide_eq_true h]
  rw [if_neg h]; have : decide (-1048576 ≤ x) = false := decide_eq_false h; simp [this]
theorem Zfi (x : Int) : isVal x = true ↔ -1048576 ≤ x ∧ x ≤ 1048576 := by simp [isVal]
theorem ref_Of_l0 (l : List Int) (hl : l.length ≤ 4096) : ∀ (m n : Nat), n + m = l.length → (∀ x ∈ l.take n, isVal x = true) → Ev (fun k => Zbc.l0 k l (n : Int)) (ofSpec l) := by
  intro m
  induction m with
  | zero =>
    intro n h ha
    rw [List.take_of_length_le (by omega)] at ha
    have hall : (l.any fun v => !isVal v) = false := by rw [List.any_eq_false]; intro x hx; simp [ha x hx]
    have hsl := Zee l
    have e : ofSpec l = (pack (sd l), 0) := by unfold ofSpec; rw [hall]; rfl
    rw [e]
    refine Ev.step (fun k => by rw [Zbc.l0, if_neg (by omega)]) (Ev.bind (Zhb l (by omega)) ?_)
    refine Ev.Zc4 (by omega) (Ev.bind (ref_Pack (sd l) (by omega) (Zgz l) (fun x hx => ?_)) (Ev.pure _))
    have := (Zfi x).1 (ha x ((Zew x l).1 hx))
    omega
  | succ m ih =>
    intro n h ha
    have hn : n < l.length := by omega
    cases hv : isVal l[n] with
    | true =>
      refine Ev.step (fun k => by rw [Zbc.l0, if_pos (by omega), if_pos (by omega), Zcw l n hn, Zfz, Option.bind_some, if_pos hv, w1 (by omega)]) (ih (n + 1) (by omega) (fun x hx => ?_))
      rw [List.take_succ_eq_append_getElem hn, List.mem_append] at hx
      rcases hx with hx | hx
      · exact ha x hx
      rw [List.mem_singleton] at hx; rw [hx]; exact hv
    | false =>
      have hall : (l.any fun v => !isVal v) = true := List.any_eq_true.2 ⟨l[n], List.getElem_mem hn, by simp [hv]⟩
      have e : ofSpec l = ([], 20) := by unfold ofSpec; rw [hall]; rfl
      rw [e]
      exact Ev.step (G := fun _ => some (([] : List Rg), (20 : Int))) (fun k => by rw [Zbc.l0, if_pos (by omega), if_pos (by omega), Zcw l n hn, Zfz, Option.bind_some, if_neg (by rw [hv]; simp)]) (Ev.const rfl)
theorem ref_Of (l : List Int) (hl : l.length ≤ 4096) : Ev (fun k => Zbc.f k l) (ofSpec l) := ref_Of_l0 l hl l.length 0 (by omega) (by simp)
end Go.Proofs.Ytpbcigilipdedaa.P
/- dom.all: the iterator over a domain's values. -/
namespace Go.Proofs.Ytpbcigilipdedaa.P
open Go.RowKit Go.Shelf Go.Proofs.YtpbcigilipdedaaW.PrintWords Go.Proofs.YtpbcigilipdedaaW.PrintLast Go.Proofs.YtpbcigilipdedaaW.PrintMore
set_option linter.unusedVariables false
set_option linter.unusedSimpArgs false
attribute [local go_sem] Oper.semAt_some
set_option maxRecDepth 100000 in
set_option maxHeartbeats 4000000 in
theorem all1_in (F : Fence) (n : Nat) (h1 : F.fn 98) (hro : F.round = none) (hn : 1 ≤ n) (l Bs : Nat) (w : World) (A : Option Addr) (c : Nat) (zs : List S41) (hr : Kd.C k41 w A zs.length zs) (hN : niceD zs = true) (J Jx : List Int → World → Prop)
    (hY : ∀ pre x W, J pre W → pre.length < 4097 → YieldAt F (n - 1) Try.prog l #[.int .i64 x] W fun e W' =>
      (e = .returned (.bool true) ∧ J (pre ++ [x]) W' ∧ Kp w.heap.size W W') ∨ (e = .returned (.bool false) ∧ Jx (pre ++ [x]) W'))
    (W : World) (hJ : AbidesFrom W.heap.size J) (hW : Below w.heap.size w W) (hBs : W.cell? ⟨Bs, 0, none⟩ = some (.slice A zs.length c)) (h0 : J [] W) :
    CallsIn F n Try.prog 98 #[.func (.yield l) #[] #[], .pointer (some ⟨Bs, 0, none⟩)] W fun e W' => (∃ v, e = .returned v) ∧
      ((∃ ys, ys = allV 4097 zs ∧ J ys W') ∨ (∃ pre, pre <+: allV 4097 zs ∧ Jx pre W')) := by
  refine callsIn_of_wp Try.func98 rfl h1 ?_ hro
  simp only [Try.ntmps98, List.size_toArray, List.length_cons, List.length_nil, Nat.reduceAdd, Nat.reduceSub, Array.replicate_succ, Array.replicate_zero, List.push_toArray, List.append_toArray, List.nil_append, List.cons_append]
  have hlen : zs.length ≤ 9223372036854775807 := hr.2.1
  gi_wp2
  gi_loopw [3, 9] (fun n3 i9 wr => ∃ (k m : Nat) (pre : List Int), k ≤ zs.length ∧ i9 = .int .i64 k ∧ n3 = .int .i64 m ∧ Zaa (m = pre.length) ∧ m ≤ 4097 ∧ Zaa (pre ++ allV (4097 - m) (zs.drop k) = allV 4097 zs) ∧ J pre wr ∧ Below w.heap.size w wr ∧ W.heap.size ≤ wr.heap.size)
    (fun _ i _ => zs.length - (intOf i).toNat)
  case atStart => exact ⟨0, 0, [], Nat.zero_le _, rfl, rfl, ⟨rfl⟩, by omega, ⟨rfl⟩, h0, hW, Nat.le_refl _⟩
  case round =>
    obtain ⟨k, m, pre, hk, rfl, rfl, hm, hm2, hpre, hJs, hb, hsz⟩ := hrel
    obtain ⟨wo, rfl⟩ : ∃ wo : World, wo = wr := ⟨_, rfl⟩
    by_cases hlt : k < zs.length
    rotate_left
    · obtain rfl : k = zs.length := by omega
      have hg := hpre.out
      simp [allV] at hg
      have HG := Zaa.mk hg
      clear hg
      gi_wp2
      go_end0
      exact ⟨⟨_, rfl⟩, .inl ⟨pre, HG.out, hJs⟩⟩
    obtain ⟨ad, rfl, hx0, hx1⟩ := Zch hr (k : Int) (by omega) (by omega)
    have hx0 := (hb.cell (World.block_lt_of_cell? w _ hx0)).trans hx0
    have hx1 := (hb.cell (World.block_lt_of_cell? w _ hx1)).trans hx1
    obtain ⟨b1, b2, b3, b4⟩ := niceD_at hN hlt
    have hd := Zaa.mk (drop_at hlt)
    simp only [Int.toNat_natCast] at hx0 hx1
    have er : Zaw zs (k : Int) = Zaw zs k := rfl
    generalize hx : Zaw zs (k : Int) = x at *
    clear er
    gi_wp2
    have hJ1 : J pre (wo.alloc (.cells #[.int .i64 x.f0, .int .i64 x.f1] 41)) := hJ pre wo _ none hJs (World.grownBy_alloc _ _ _) (fun r e => by cases e)
    have hb1 : Below w.heap.size w (wo.alloc (.cells #[.int .i64 x.f0, .int .i64 x.f1] 41)) := hb.alloc hb.size _
    have hz1 : (wo.alloc (.cells #[.int .i64 x.f0, .int .i64 x.f1] 41)).heap[wo.heap.size]? = some (.cells #[.int .i64 x.f0, .int .i64 x.f1] 41 (0, 0)) := World.alloc_heap_new wo _
    have hg := hpre.out
    rw [hd.out, allV] at hg
    clear hx0 hx1
    gi_loopw [3, 6] (fun n3 v6 wr => ∃ (m : Nat) (v : Int) (pre : List Int), n3 = .int .i64 m ∧ v6 = .int .i64 v ∧ Zaa (m = pre.length) ∧ m ≤ 4097 ∧ x.f0 ≤ v ∧ v ≤ 1048577 ∧ Zaa (pre ++ upTo (4097 - m) v x.f1 ++ allV (4097 - m - (upTo (4097 - m) v x.f1).length) (zs.drop (k + 1)) = allV 4097 zs) ∧ J pre wr ∧ Below w.heap.size w wr ∧ W.heap.size ≤ wr.heap.size ∧ Zaa (wr.heap[wo.heap.size]? = some (.cells #[.int .i64 x.f0, .int .i64 x.f1] 41 (0, 0))))
      (fun _ v _ => (1048577 - intOf v).toNat)
    case atStart => exact ⟨m, x.f0, pre, rfl, rfl, hm, hm2, by omega, by omega, ⟨by rw [List.append_assoc]; exact hg⟩, hJ1, hb1, by simp; omega, ⟨hz1⟩⟩
    case round =>
      clear hg hJ1 hb1 hz1 hpre
      obtain ⟨m, v, pre, rfl, rfl, hm, hm2, hv1, hv2, hpre, hJs, hb, hsz, hz⟩ := hrel
      have hcell : wr.cell? ⟨wo.heap.size, 1, none⟩ = some (.int .i64 x.f1) := by simp [World.cell?, hz.out]
      by_cases hlt1 : v ≤ x.f1
      rotate_left
      · have hup := upTo_no (r := 4097 - m) (v := v) (hi := x.f1) (.inr hlt1)
        have hg := hpre.out
        rw [hup] at hg
        have HG := Zaa.mk hg
        clear hg hup hpre
        gi_wp2
        go_roundw
        case rel => exact ⟨k + 1, m, pre, by omega, by first | rfl | go_num, rfl, hm, hm2, ⟨by have h := HG.out; simpa using h⟩, hJs, hb, hsz⟩
        case measure => simp [intOf]; omega
      by_cases hlt2 : m ≤ 4096
      rotate_left
      · have hup := upTo_no (r := 4097 - m) (v := v) (hi := x.f1) (.inl (by omega))
        have hg := hpre.out
        rw [hup] at hg
        have HG := Zaa.mk hg
        clear hg hup hpre
        gi_wp2
        go_roundw
        case rel => exact ⟨k + 1, m, pre, by omega, by first | rfl | go_num, rfl, hm, hm2, ⟨by have h := HG.out; simpa using h⟩, hJs, hb, hsz⟩
        case measure => simp [intOf]; omega
      have hup := upTo_yes (r := 4097 - m) (v := v) (hi := x.f1) (by omega) hlt1
      have hg := hpre.out
      rw [hup] at hg
      have HG := Zaa.mk hg
      clear hg hup hpre
      obtain ⟨fn, tmps, assign, body, hy, hR⟩ := hY pre v wr hJs (by have := hm.out; omega)
      gi_wp2
      refine hR.mono ?_
      rintro e W3 (⟨rfl, hJ3, hk3⟩ | ⟨rfl, hJx3⟩)
      · have hz3 := hk3.2 _ _ _ hz.out
        have hb3 := hb.trans hk3.1
        have hs3 := hk3.1.size
        clear hR hy hcell
        gi_wp2
        go_roundw
        case rel => exact ⟨m + 1, v + 1, pre ++ [v], by simp, by first | rfl | go_num, ⟨by have := hm.out; simp; omega⟩, by omega, by omega, by omega, ⟨by have h := HG.out; simp only [List.append_assoc, List.cons_append, List.nil_append, List.length_cons] at h ⊢; rw [show 4097 - (m + 1) = 4097 - m - 1 by omega]; rw [show 4097 - m - 1 - (upTo (4097 - m - 1) (v + 1) x.f1).length = 4097 - m - ((upTo (4097 - m - 1) (v + 1) x.f1).length + 1) by omega]; exact h⟩, hJ3, hb3, by omega, ⟨hz3⟩⟩
        case measure => simp [intOf]; omega
      gi_wp2
      refine bodyPost_ret (results_none rfl _ _ _) rfl ?_
      exact ⟨⟨_, rfl⟩, .inr ⟨pre ++ [v], ⟨_, by have h := HG.out; simp only [List.append_assoc, List.cons_append, List.nil_append] at h ⊢; exact h⟩, hJx3⟩⟩
theorem all_in (F : Fence) (n : Nat) (h : F.fn 82) (hro : F.round = none) (A : Option Addr) (len cap : Nat) (w : World) :
    CallsIn F n Try.prog 82 #[.slice A len cap] w fun e w' => e = .returned (.func (.func 98) #[] #[.pointer (some ⟨w.heap.size, 0, none⟩)]) ∧ w' = w.alloc (.cells #[.slice A len cap] 39) := by
  refine callsIn_of_wp Try.func82 rfl h ?_ hro
  simp only [Try.ntmps82, List.size_toArray, List.length_cons, List.length_nil, Nat.reduceAdd, Nat.reduceSub, Array.replicate_succ, Array.replicate_zero, List.push_toArray, List.append_toArray, List.nil_append, List.cons_append]
  gi_wp2
  go_ret
  exact ⟨rfl, rfl⟩
theorem all_stops (F : Fence) (n : Nat) (h1 : F.fn 98) (hro : F.round = none) (hn : 1 ≤ n) (Bs : Nat) (w0 w : World) (A : Option Addr) (c : Nat) (zs : List S41) (hr : Kd.C k41 w0 A zs.length zs) (hN : niceD zs = true) (hBs : Bs < w.heap.size) (hw : Below w0.heap.size w0 w)
    (hc : w.cell? ⟨Bs, 0, none⟩ = some (.slice A zs.length c)) :
    SeqStopsK F n Try.prog 98 #[.pointer (some ⟨Bs, 0, none⟩)] (fun x : Int => #[Value.int .i64 x]) (Kp w0.heap.size) (fun ys => ys = allV 4097 zs) (fun pre => pre <+: allV 4097 zs) 4097 w := fun l J Jx W hW hJ _ hY h0 =>
  all1_in F n h1 hro hn l Bs w0 A c zs hr hN J Jx hY W hJ (hw.trans (hW.mono hw.size)) ((hW.cell (p := ⟨Bs, 0, none⟩) hBs).trans hc) h0
end Go.Proofs.Ytpbcigilipdedaa.P
/- dom.Values: all values of a domain, in order; of ranges whose ends are no larger than values can be. -/
namespace Go.Proofs.Ytpbcigilipdedaa.P
open Go.RowKit Go.Shelf Go.Proofs.YtpbcigilipdedaaW.PrintWords Go.Proofs.YtpbcigilipdedaaW.PrintLast Go.Proofs.YtpbcigilipdedaaW.PrintMore
set_option linter.unusedVariables false
def Zdq.f (l0 : List S41) : Option (List Int) := if niceD l0 = true then some (allV 4097 l0) else none
theorem row_of (W : World) (base : Nat) (v : Value) (xs : List Int) (h : W.ownsRow base 3 1 v xs.length (xs.map (Value.int .i64))) : Kd.R (Kd.int .i64) 3 W base (fun _ => True) v xs := Kd.R_of_own (enc := Value.int .i64) h (fun _ _ => trivial)
set_option maxHeartbeats 2000000 in
theorem Zdq.calls (A0 : Option Addr) (c0 : Nat) (l0 : List S41) (r : List Int) (w : World) (hr0 : Kd.C k41 w A0 l0.length l0) (hc0 : l0.length ≤ c0) (h : Zdq.f l0 = some r) :
    Calls Try.prog 54 #[.slice A0 l0.length c0] w fun e w' => ∃ v0_ : Value, e = .returned (v0_) ∧ Kd.R (Kd.int .i64) 3 w' w.heap.size (fun _ => True) v0_ r ∧ Below w.heap.size w w' := by
  have HR := Zaa.mk hr0
  clear hr0
  unfold Zdq.f at h
  split at h
  case isFalse => cases h
  case isTrue hN =>
    obtain rfl := Option.some.inj h
    clear h
    have cA := fun W => callsIn_wide.1 (all_in Fence.wide 9 trivial rfl A0 l0.length c0 W)
    have hB1 : Below w.heap.size w (w.alloc (.cells #[.slice A0 l0.length c0] 39)) := (Below.refl _ w).alloc (Nat.le_refl _) _
    have cB := callsIn_wide.1 (collect_in Fence.wide 9 trivial trivial rfl (by omega) 98 #[.pointer (some ⟨w.heap.size, 0, none⟩)] trivial (enters_of Try.func98 (by kernel_rfl) rfl) w.heap.size _ _ 4097 (by omega) (w.alloc (.cells #[.slice A0 l0.length c0] 39)) (w.alloc (.cells #[.slice A0 l0.length c0] 39)) (Below.refl _ _) (by simp) (all_stops Fence.wide 7 trivial rfl (by omega) w.heap.size w _ A0 c0 l0 HR.out hN (by simp) hB1 (Boxed.new w _ _).cell))
    go_enter Try.func54, Try.ntmps54
    go_wp2_with (first | (go_at_call 82; refine (cA _).mono ?_; rintro e w' ⟨rfl, rfl⟩) | (go_at_call 81; refine cB.mono ?_; rintro e w' ⟨v, xs, rfl, rfl, hrow, hb⟩))
    go_ret
    have hz : (w.alloc (.cells #[.slice A0 l0.length c0] 39)).heap.size = w.heap.size + 1 := by simp
    exact ⟨v, rfl, Kd.Zbs (row_of _ _ _ _ hrow) (by rw [hz]; omega), hB1.trans (hb.mono (by rw [hz]; omega))⟩
end Go.Proofs.Ytpbcigilipdedaa.P
/- dom.Has: whether a value is in a domain. -/
namespace Go.Proofs.Ytpbcigilipdedaa.P
open Go.RowKit Go.Shelf Go.Proofs.YtpbcigilipdedaaW.PrintWords Go.Proofs.YtpbcigilipdedaaW.PrintLast Go.Proofs.YtpbcigilipdedaaW.PrintMore
set_option linter.unusedVariables false
set_option linter.unusedSimpArgs false
theorem take_at_T41 {d : List S41} {k : Nat} (hk : k < d.length) : d.take (k + 1) = d.take k ++ [Zaw d (k : Int)] := by
  rw [List.take_succ_eq_append_getElem hk]
  simp [Zaw, List.getD_eq_getElem?_getD, List.getElem?_eq_getElem hk]
set_option maxHeartbeats 2000000 in
theorem Zgn (p : S41 → Bool) (g : Nat) (lb : Array Value) (eg : ∀ args w, (callFunc g args).run Try.prog w = .ok (.enter g args) w) (A : Option Addr) (c : Nat) (zs : List S41) (w : World) (hr : Kd.C k41 w A zs.length zs)
    (hp : ∀ (x : S41) W, Below w.heap.size w W → Calls Try.prog g (#[.agg #[.int .i64 x.f0, .int .i64 x.f1]] ++ lb) W fun e w' => e = .returned (.bool (p x)) ∧ Below w.heap.size w w') :
    Calls Try.prog 93 #[.slice A zs.length c, .func (.func g) #[] lb] w fun e w' => (∃ i : Int, e = .returned (.int .i64 i) ∧ decide (0 ≤ i) = zs.any p) ∧ Below w.heap.size w w' := by
  have hlen : zs.length ≤ 9223372036854775807 := hr.2.1
  have hany : ∀ k, zs.any p = ((zs.take k).any p || (zs.drop k).any p) := fun k => by rw [← List.any_append, List.take_append_drop]
  have HY := Zaa.mk hany
  clear hany
  go_enter Try.func93, Try.ntmps93
  go_wp2
  go_loopg [5, 8] zs.length (fun gg _ s8 wr => ∃ kk : Nat, kk ≤ zs.length ∧ zs.length - kk ≤ gg ∧ s8 = .int .i64 kk ∧ Zaa (Below w.heap.size w wr) ∧ Zaa ((zs.take kk).any p = false))
  case atStart => exact ⟨0, Nat.zero_le _, by omega, rfl, ⟨Below.refl _ _⟩, ⟨by simp⟩⟩
  case round =>
    obtain ⟨kk, hkk, hg, rfl, HB, A1⟩ := hrel
    by_cases hlt : kk < zs.length
    rotate_left
    · obtain rfl : kk = zs.length := by omega
      go_wp2
      go_ret
      refine ⟨⟨_, rfl, ?_⟩, HB.out⟩
      have := A1.out
      rw [List.take_length] at this
      rw [this]
      rfl
    obtain ⟨ad, rfl, hx0, hx1⟩ := Zch hr (kk : Int) (by omega) (by omega)
    replace hx0 := (HB.out.cell (World.block_lt_of_cell? w _ hx0)).trans hx0
    replace hx1 := (HB.out.cell (World.block_lt_of_cell? w _ hx1)).trans hx1
    simp only [Int.toNat_natCast] at hx0 hx1
    have hcall := fun W => hp (Zaw zs (kk : Int)) W
    clear hp
    have htk : Zaa (zs.take (kk + 1) = zs.take kk ++ [Zaw zs (kk : Int)]) := ⟨take_at_T41 hlt⟩
    generalize Zaw zs (kk : Int) = y at *
    cases hq : p y with
    | true =>
      rw [hq] at hcall
      have B := Zaa.mk hq
      clear hq
      go_wp2_with (go_at_fn g; refine (hcall _ (by first | exact HB.out | exact HB.out.drewN _)).mono ?_; rintro e w' ⟨rfl, hb'⟩)
      go_ret
      refine ⟨⟨_, rfl, ?_⟩, hb'⟩
      rw [HY.out (kk + 1), htk.out, List.any_append]
      simp [B.out]
    | false =>
      rw [hq] at hcall
      have B := Zaa.mk hq
      clear hq
      go_wp2_with (go_at_fn g; refine (hcall _ (by first | exact HB.out | exact HB.out.drewN _)).mono ?_; rintro e w' ⟨rfl, hb'⟩)
      go_roundg (zs.length - (kk + 1))
      case measure => omega
      case rel => exact ⟨kk + 1, by omega, by omega, by go_num, ⟨hb'⟩, ⟨by rw [htk.out, List.any_append, A1.out]; simp [B.out]⟩⟩
theorem Zff (p : S41 → Bool) (g : Nat) (lb : Array Value) (eg : ∀ args w, (callFunc g args).run Try.prog w = .ok (.enter g args) w) (A : Option Addr) (c : Nat) (zs : List S41) (w : World) (hr : Kd.C k41 w A zs.length zs)
    (hp : ∀ (x : S41) W, Below w.heap.size w W → Calls Try.prog g (#[.agg #[.int .i64 x.f0, .int .i64 x.f1]] ++ lb) W fun e w' => e = .returned (.bool (p x)) ∧ Below w.heap.size w w') :
    Calls Try.prog 73 #[.slice A zs.length c, .func (.func g) #[] lb] w fun e w' => e = .returned (.bool (zs.any p)) ∧ Below w.heap.size w w' := by
  have hI := Zgn p g lb eg A c zs w hr hp
  go_enter Try.func73, Try.ntmps73
  go_wp2_with (go_at_call 93; refine hI.mono ?_; rintro e w' ⟨⟨i, rfl, hi⟩, hb⟩)
  go_ret
  exact ⟨by rw [← hi]; rfl, hb⟩
def inR (v : Int) (x : S41) : Bool := decide (x.f0 ≤ v) && decide (v ≤ x.f1)
set_option maxHeartbeats 2000000 in
theorem hasPred (w : World) (v : Int) (b : Nat) (hb : w.cell? ⟨b, 0, none⟩ = some (.int .i64 v)) (hbl : b < w.heap.size) (x : S41) (W : World) (hW : Below w.heap.size w W) :
    Calls Try.prog 74 (#[.agg #[.int .i64 x.f0, .int .i64 x.f1]] ++ #[.pointer (some ⟨b, 0, none⟩)]) W fun e w' => e = .returned (.bool (inR v x)) ∧ Below w.heap.size w w' := by
  have hc : W.cell? ⟨b, 0, none⟩ = some (.int .i64 v) := (hW.cell (p := ⟨b, 0, none⟩) hbl).trans hb
  have hne := hW.size
  have hc2 : (W.alloc (.cells #[.int .i64 x.f0, .int .i64 x.f1] 41)).cell? ⟨b, 0, none⟩ = some (.int .i64 v) := (((Below.refl _ W).alloc (Nat.le_refl _) _).cell (p := ⟨b, 0, none⟩) (by show b < W.heap.size; omega)).trans hc
  show Calls Try.prog 74 #[.agg #[.int .i64 x.f0, .int .i64 x.f1], .pointer (some ⟨b, 0, none⟩)] W fun e w' => e = .returned (.bool (inR v x)) ∧ Below w.heap.size w w'
  unfold inR
  by_cases h0 : x.f0 ≤ v
  · have c0 : decide (x.f0 ≤ v) = true := decide_eq_true h0
    rw [c0, Bool.true_and]
    clear h0
    go_enter Try.func74, Try.ntmps74
    go_wp2
    go_ret
    exact ⟨rfl, by repeat (first | exact hW | exact hW.alloc hne _ | apply Za)⟩
  have c0 : decide (x.f0 ≤ v) = false := decide_eq_false h0
  rw [c0, Bool.false_and]
  clear h0
  go_enter Try.func74, Try.ntmps74
  go_wp2
  go_ret
  exact ⟨rfl, by repeat (first | exact hW | exact hW.alloc hne _ | apply Za)⟩
def dom_Has.f (l0 : List S41) (a1 : Int) : Option Bool := some (l0.any (inR a1))
set_option maxHeartbeats 2000000 in
theorem dom_Has.calls (A0 : Option Addr) (c0 : Nat) (l0 : List S41) (a1 : Int) (r : Bool) (w : World) (hr0 : Kd.C k41 w A0 l0.length l0) (hc0 : l0.length ≤ c0) (h : dom_Has.f l0 a1 = some r) :
    Calls Try.prog 45 #[.slice A0 l0.length c0, .int .i64 a1] w fun e w' => e = .returned (.bool r) ∧ Below w.heap.size w w' := by
  obtain rfl := Option.some.inj h
  clear h
  have hB : Below w.heap.size w (w.alloc (.cells #[.int .i64 a1] 3)) := (Below.refl _ w).alloc (Nat.le_refl _) _
  have cC := Zff (inR a1) 74 #[.pointer (some ⟨w.heap.size, 0, none⟩)] (enters_of Try.func74 (by kernel_rfl) rfl) A0 c0 l0 (w.alloc (.cells #[.int .i64 a1] 3)) (Kd.Za8 hr0 hB)
    (fun x W hW => hasPred _ a1 w.heap.size (Boxed.new w 3 (.int .i64 a1)).cell (by simp) x W hW)
  clear hr0
  go_enter Try.func45, Try.ntmps45
  go_wp2_with (go_at_call 73; refine cC.mono ?_; rintro e w' ⟨rfl, hb⟩)
  go_ret
  exact ⟨rfl, hB.trans (hb.mono (by simp))⟩
end Go.Proofs.Ytpbcigilipdedaa.P
/- The program's dom: what packed, Size, Of, Values, Has come to. -/
namespace Go.Proofs.Ytpbcigilipdedaa.P
open Go.RowKit Go.Proofs.YtpbcigilipdedaaW.PrintWords Go.Proofs.YtpbcigilipdedaaW.PrintLast Go.Proofs.YtpbcigilipdedaaW.PrintMore
set_option linter.unusedVariables false
set_option linter.unusedSimpArgs false
theorem Gd.up {V V' : Int} (h : V ≤ V') : ∀ {b : Int} {d : List Rg}, Gd V b d → Gd V' b d
  | _, [], _ => trivial
  | _, x :: d, ⟨h1, h2, h3, h4⟩ => ⟨h1, h2, by omega, Gd.up h h4⟩
theorem rg_last (o : List Rg) (y : Rg) : rg (o ++ [y]) (((o ++ [y]).length : Int) - 1) = y := by
  have h : (((o ++ [y]).length : Int) - 1) = (o.length : Int) := by simp
  rw [h, Zf7 _ _ (by simp)]
  simp
theorem packed_l0 (l : List Int) (hl : l.length ≤ 1000000) (hs : List.Pairwise (fun a b : Int => a ≤ b) l) (hB : ∀ x ∈ l, -1048576 ≤ x ∧ x ≤ 1048576) : ∀ (m n : Nat) (out : List Rg), n + m = l.length → out.length ≤ n →
    Gd 1048576 (-1048576) out → (∀ v, Va out v ↔ v ∈ l.take n) → Ev (fun k => Zbj.l0 k out l (l.length : Int) (n : Int)) (pack (sd l)) := by
  intro m
  induction m with
  | zero =>
    intro n out h ho hg hm
    rw [List.take_of_length_le (by omega)] at hm
    rw [← pack_eq hg (Zgz l) (fun v => (hm v).trans (Zew v l).symm)]
    exact Ev.step (G := fun _ => some out) (fun k => by rw [Zbj.l0, if_neg (by omega)]) (Ev.const rfl)
  | succ m ih =>
    intro n out h ho hg hm
    have hn : n < l.length := by omega
    have hv := hB _ (List.getElem_mem hn)
    have hmax : ∀ v, Va out v → v ≤ l[n] := fun v hv => by
      obtain ⟨j, hj, rfl⟩ := List.mem_take_iff_getElem.1 ((hm v).1 hv)
      exact List.pairwise_iff_getElem.1 hs j n (by omega) hn (by omega)
    have htk : l.take (n + 1) = l.take n ++ [l[n]] := List.take_succ_eq_append_getElem hn
    have app : (∀ v, Va out v → v + 2 ≤ l[n]) → Ev (fun k => Zbj.l0 k (out ++ [⟨l[n], l[n]⟩]) l (l.length : Int) ((n + 1 : Nat) : Int)) (pack (sd l)) := fun hgap => by
      refine ih (n + 1) (out ++ [⟨l[n], l[n]⟩]) (by omega) (by simp; omega) (Zd3.2 ⟨hg, ?_, Int.le_refl _, hv.2⟩) (fun v => ?_)
      · rcases List.eq_nil_or_concat out with rfl | ⟨o, y, rfl⟩
        · simp [endB]; omega
        rw [List.concat_eq_append] at *
        rw [Zeu]
        have hy := (Zd3.1 hg).2
        exact hgap y.f1 ((Zdi _ _ _).2 (.inr ((Zco _ _ _).2 (.inl ⟨hy.2.1, Int.le_refl _⟩))))
      have e1 : (l[n] ≤ v ∧ v ≤ l[n]) ↔ v = l[n] := by omega
      rw [Zdi, hm v, htk, List.mem_append, List.mem_singleton, Zco]
      simp only [Va_nil, or_false, e1]
    rcases List.eq_nil_or_concat out with rfl | ⟨o, y, rfl⟩
    · refine Ev.step (fun k => by rw [Zbj.l0, if_pos (by omega), if_pos (by omega), if_pos (by omega), if_neg (by simp), Zcw l n hn]) ?_
      refine Ev.step (fun k => by rw [Zbj.j1, if_neg (by simp), if_neg (by simp), if_pos (by simp), w1 (by omega)]) (app (fun v hv => by simp at hv))
    rw [List.concat_eq_append] at *
    have hy := (Zd3.1 hg).2
    have hlen : (o ++ [y]).length = o.length + 1 := by simp
    have hlast : wrap64 (((o ++ [y]).length : Int) - 1) = ((o ++ [y]).length : Int) - 1 := w64 (by omega) (by omega)
    have hyv : y.f1 ≤ l[n] := hmax y.f1 ((Zdi _ _ _).2 (.inr ((Zco _ _ _).2 (.inl ⟨hy.2.1, Int.le_refl _⟩))))
    refine Ev.step (fun k => by rw [Zbj.l0, if_pos (by omega), if_pos (by omega), if_pos (by omega), if_pos (by omega), hlast, if_pos (by omega), if_pos (by omega), Zcw l n hn, show Zaw (o ++ [y]) (((o ++ [y]).length : Int) - 1) = y from rg_last o y]) ?_
    by_cases h1 : y.f1 ≥ l[n]
    · have he : y.f1 = l[n] := by omega
      refine Ev.step (fun k => by rw [Zbj.j1, if_pos (decide_eq_true h1), w1 (by omega)]) (ih (n + 1) (o ++ [y]) (by omega) (by omega) hg (fun v => ?_))
      rw [hm v, htk, List.mem_append, List.mem_singleton]
      constructor
      · exact .inl
      rintro (h | rfl)
      · exact h
      rw [← hm, ← he]
      exact (Zdi _ _ _).2 (.inr ((Zco _ _ _).2 (.inl ⟨hy.2.1, Int.le_refl _⟩)))
    by_cases h2 : y.f1 = l[n] - 1
    rotate_left
    · refine Ev.step (fun k => by rw [Zbj.j1, if_neg (by simpa using h1), if_pos (by omega), hlast, if_pos (by omega), if_pos (by omega), show Zaw (o ++ [y]) (((o ++ [y]).length : Int) - 1) = y from rg_last o y, w64 (n := l[n] - 1) (by omega) (by omega), if_neg h2, if_pos (by omega), w1 (by omega)]) (app (fun v hv => ?_))
      have := hg.lt_end hv
      rw [Zeu] at this
      omega
    refine Ev.step (fun k => by rw [Zbj.j1, if_neg (by simpa using h1), if_pos (by omega), hlast, if_pos (by omega), if_pos (by omega), show Zaw (o ++ [y]) (((o ++ [y]).length : Int) - 1) = y from rg_last o y, w64 (n := l[n] - 1) (by omega) (by omega), if_pos h2, w1 (by omega)]) ?_
    have hset : (o ++ [y]).set ((((o ++ [y]).length : Int) - 1)).toNat (⟨y.f0, l[n]⟩ : Rg) = o ++ [⟨y.f0, l[n]⟩] := by
      have : ((((o ++ [y]).length : Int) - 1)).toNat = o.length := by rw [hlen]; omega
      rw [this]
      simp
    rw [hset]
    refine ih (n + 1) (o ++ [⟨y.f0, l[n]⟩]) (by omega) (by simp at *; omega) (Zd3.2 ⟨(Zd3.1 hg).1, hy.1, by show y.f0 ≤ l[n]; omega, hv.2⟩) (fun v => ?_)
    rw [htk, List.mem_append, List.mem_singleton, ← hm v, Zdi, Zdi, Zco, Zco]
    simp
    constructor
    · rintro (h | h)
      · exact .inl (.inl h)
      by_cases e : v = l[n]
      · exact .inr e
      exact .inl (.inr ⟨h.1, by omega⟩)
    rintro ((h | h) | rfl)
    · exact .inl h
    · exact .inr ⟨h.1, by omega⟩
    exact .inr ⟨by omega, Int.le_refl _⟩
theorem packed_ev (l : List Int) (hl : l.length ≤ 1000000) (hs : List.Pairwise (fun a b : Int => a ≤ b) l) (hB : ∀ x ∈ l, -1048576 ≤ x ∧ x ≤ 1048576) : Ev (fun k => Zbj.f k l) (pack (sd l)) :=
  packed_l0 l hl hs hB l.length 0 [] (by omega) (by simp) trivial (fun v => by simp)
theorem Size_l0 (d : List Rg) (hl : d.length ≤ 3000000) {b : Int} (hd : Gd 1048576 b d) (hb : -1048576 ≤ b) : ∀ (m n : Nat) (s : Int), n + m = d.length → 0 ≤ s → s + (vals (d.drop n)).length ≤ 3000000 →
    Ev (fun k => Zcp.l0 k s d (d.length : Int) (n : Int)) (s + (vals (d.drop n)).length) := by
  intro m
  induction m with
  | zero =>
    intro n s h h0 h1
    rw [drop_nil' h]
    exact Ev.step (G := fun _ => some s) (fun k => by rw [Zcp.l0, if_neg (by omega)]) (Ev.const (by simp [vals]))
  | succ m ih =>
    intro n s h h0 h1
    have hn : n < d.length := by omega
    have hg := hd.drop n
    rw [List.drop_eq_getElem_cons hn] at hg
    obtain ⟨g1, g2, g3, g4⟩ := hg
    have e : (vals (d.drop n)).length = (d[n].f1 + 1 - d[n].f0).toNat + (vals (d.drop (n + 1))).length := by
      rw [List.drop_eq_getElem_cons hn, vals, List.length_append]
      have := Zfq (d[n].f1 + 1 - d[n].f0).toNat d[n].f0 d[n].f1
      omega
    rw [e] at h1 ⊢
    refine Ev.step (fun k => by rw [Zcp.l0, if_pos (by omega), if_pos (by omega), if_pos (by omega), show Zaw d (n : Int) = d[n] from Zf7 d n hn, w64 (n := d[n].f1 - d[n].f0) (by omega) (by omega), w64 (n := d[n].f1 - d[n].f0 + 1) (by omega) (by omega), w64 (n := s + (d[n].f1 - d[n].f0 + 1)) (by omega) (by omega), w1 (by omega)]) ?_
    have := ih (n + 1) (s + (d[n].f1 - d[n].f0 + 1)) (by omega) (by omega) (by omega)
    rwa [show s + (d[n].f1 - d[n].f0 + 1) + ((vals (d.drop (n + 1))).length : Int) = s + (((d[n].f1 + 1 - d[n].f0).toNat + (vals (d.drop (n + 1))).length : Nat) : Int) by omega] at this
theorem Size_ev (d : List Rg) {b : Int} (hd : Gd 1048576 b d) (hb : -1048576 ≤ b) : Ev (fun k => Zcp.f k d) (vals d).length := by
  have h1 := Zdg hd
  have h2 := Zcx hd
  have := Size_l0 d (by omega) hd hb d.length 0 0 (by omega) (by omega) (by simp; omega)
  simp only [Int.zero_add, List.drop_zero] at this
  exact this
theorem Of_ev (l : List Int) (hl : l.length ≤ 4096) : Ev (fun k => Ze.f k l) (ofSpec l) := by
  cases ha : (l.any fun v => !isVal v) with
  | true =>
    have e : ofSpec l = ([], 20) := by unfold ofSpec; rw [ha]; rfl
    rw [e]
    exact Ev.eq (G := fun _ => some (([] : List Rg), (20 : Int))) (fun k => by rw [Ze.f, if_pos ha]) (Ev.pure _)
  | false =>
    have e : ofSpec l = (pack (sd l), 0) := by unfold ofSpec; rw [ha]; rfl
    have hv : ∀ x ∈ l, -1048576 ≤ x ∧ x ≤ 1048576 := fun x hx => (Zfi x).1 (by have := List.any_eq_false.1 ha x hx; simpa using this)
    have hb : ∀ x ∈ sd l, -1048576 ≤ x ∧ x ≤ 1048576 := fun x hx => hv x ((Zew x l).1 hx)
    obtain ⟨g, hm⟩ := Zd2 (V := 1048576) (b := -1048576) (Zgz l) hb
    have hsl := Zee l
    have hs := Zez l
    have hsd : sd (sortI l) = sd l := sd_congr (fun x => (Zef l).mem_iff)
    have hp := packed_ev (sortI l) (by omega) (sortI_le l) (fun x hx => hv x ((Zef l).mem_iff.1 hx))
    rw [hsd] at hp
    have hz := Size_ev _ g (by omega)
    rw [vals_pack (Zgz l)] at hz
    rw [e]
    refine Ev.eq (fun k => by rw [Ze.f, if_neg (by rw [ha]; simp), if_neg (by omega)]) (Ev.bind hp (Ev.bind hz (Ev.Zc4 (c := ((sd l).length : Int) > 4096) (by omega) (Ev.pure _))))
theorem Values_ev (d : List Rg) {b : Int} (hd : Gd 1048576 b d) (hb : -1048576 ≤ b) (hs : (vals d).length ≤ 4097) : Zdq.f d = some (vals d) := by
  rw [Zdq.f, if_pos (niceD_good hd hb), allV_vals d 4097 hs]
instance (d : List Rg) (v : Int) : Decidable (Va d v) := inferInstanceAs (Decidable (∃ x ∈ d, x.f0 ≤ v ∧ v ≤ x.f1))
theorem Va_any (d : List Rg) (v : Int) : d.any (inR v) = decide (Va d v) := by
  rw [Bool.eq_iff_iff, List.any_eq_true, decide_eq_true_iff]
  unfold Va inR
  simp
theorem Has_ev (d : List Rg) (v : Int) : dom_Has.f d v = some (decide (Va d v)) := by rw [dom_Has.f, Va_any]
end Go.Proofs.Ytpbcigilipdedaa.P
namespace Go.Proofs.Ytpbcigilipdedaa.P
open Go.RowKit Go.Proofs.YtpbcigilipdedaaW.PrintWords Go.Proofs.YtpbcigilipdedaaW.PrintLast Go.Proofs.YtpbcigilipdedaaW.PrintMore
attribute [local go_sem] Zcz Zc1 Zde Zdf Zct Zcu Zc0 Zc2
set_option linter.unusedVariables false
set_option linter.unusedSimpArgs false
def Zba.l0 : Nat → List Int → List Int → Int → Option ((List (S41)))
 | 0, _, _, _ => none
 | k + 1, x0, x3, x4 => if x4 < (x0.length : Int) then (if x4 < 30 then (if 0 ≤ x4 then (if x3.length < 17592186044416 then (Zba.l0 k x0 (x3 ++ [Int.tmod (rd x0 x4) 201]) (wrap64 (x4 + 1))) else (none)) else (none)) else ((Zbc.f k x3).bind fun bt192 => (some bt192.1))) else ((Zbc.f k x3).bind fun bt196 => (some bt196.1))
def Zba.f (k : Nat) (l0 : List Int) : Option ((List (S41))) := Zba.l0 k l0 (([] : List Int)) 0
theorem Zba.Zb4 : ∀ k, (∀ y0 y1 y2, LeO (Zba.l0 k y0 y1 y2) (Zba.l0 (k + 1) y0 y1 y2))
 | 0 => fun _ _ _ r h => by simp [Zba.l0] at h
 | k + 1 => by
  have ih0 := Zba.Zb4 k
  intro y0 y1 y2
  unfold Zba.l0
  repeat' first
  | (with_reducible exact ih0 _ _ _)
  | (with_reducible exact Zbc.mono _ _)
  | (with_reducible exact LeO.refl _)
  | (with_reducible exact LeO.none _)
  | (with_reducible refine LeO.ite ?_ ?_)
  | (with_reducible refine LeO.bind ?_ (fun _ => ?_))
  | exact ih0 _ _ _
  | exact Zbc.mono _ _
  | exact LeO.none _
  | refine LeO.ite ?_ ?_
  | refine LeO.bind ?_ (fun _ => ?_)
theorem Zba.mono : ∀ a0 k, LeO (Zba.f k a0) (Zba.f (k + 1) a0) := by
 intro a0 k
 have ih0 := Zba.Zb4 k
 unfold Zba.f
 repeat' first
   | (with_reducible exact ih0 _ _ _)
   | (with_reducible exact Zbc.mono _ _)
   | (with_reducible exact LeO.refl _)
   | (with_reducible exact LeO.none _)
   | (with_reducible refine LeO.ite ?_ ?_)
   | (with_reducible refine LeO.bind ?_ (fun _ => ?_))
   | exact ih0 _ _ _
   | exact Zbc.mono _ _
   | exact LeO.none _
   | refine LeO.ite ?_ ?_
   | refine LeO.bind ?_ (fun _ => ?_)
set_option maxHeartbeats 8000000 in
set_option maxRecDepth 100000 in
theorem Zba.calls (k : Nat) (A0 : Option Addr) (c0 : Nat) (l0 : List Int) (r : List (S41)) (w : World) (hr0 : Kd.C (Kd.int .i64) w A0 l0.length l0) (hc0 : l0.length ≤ c0) (h : Zba.f k l0 = some r) :
  Calls Try.prog 40 #[.slice A0 l0.length c0] w fun e w' => ∃ v0_ : Value, e = .returned (v0_) ∧ Kd.R k41 41 w' w.heap.size (fun _ => True) v0_ r ∧ Below w.heap.size w w' := by
 have HR0 := Zaa.mk hr0
 have HC0 := Zaa.mk hc0
 clear hr0 hc0
 have HB := Zaa.mk (Below.refl w.heap.size w)
 have H : (Zba.l0 k l0 (([] : List Int)) 0) = some r := h
 clear h
 obtain ⟨y185, hy185⟩ : ∃ y_ : List Int, y_ = (([] : List Int)) := ⟨_, rfl⟩
 replace H : (Zba.l0 k l0 y185 0) = some r := by first | (rw [hy185]; with_reducible exact H) | (have H2_ := (Option.bind_some _ _).symm.trans H; rw [hy185]; with_reducible exact H2_) | (have H2_ := (Option.bind_some _ _).symm.trans H; with_reducible exact H2_) | with_reducible exact H | (rw [hy185]; exact H) | exact H
 have Ny185 := Zaa.mk hy185
 clear hy185
 have H' := Zaa.mk H
 clear H
 go_enter Try.func40, Try.ntmps40
 go_wp2_with (first | ((with_reducible refine Zbq (N := 7) rfl ?_); refine Kd.Zds (Kd.int .i64) _ 3 ?hg (N := 7) ?hd (xs := ([] : List Int)) (inner := []) (ok := fun _ => True) (okp := fun _ => True) ?hr ?hp (fun _ hk => hk) trivial (Below.refl _ _) (Nat.le_refl _) (by simp) ?_; (case hd => rfl); (case hg => rfl); (case hr => first | (go_simp; done) | (go_simp; rfl)); (case hp => exact (Reps.none _ _)); intro v186 w2 ho3 hb hg_ hnew_; clear hg_ hnew_; (first | rw [← Ny185.out] at ho3 | (simp only [Int.reduceToNat] at ho3; rw [← Ny185.out] at ho3)); have n0_ := Zaa.mk (Kd.Zbs ho3 (Zae (by repeat (first | (with_reducible first | exact HB.out | apply Zab | apply Za | apply Zac) | exact HB.out)))); have n1_ := Zaa.mk (Zam (by repeat (first | (with_reducible first | exact HB.out | apply Zab | apply Za | apply Zac) | exact HB.out)) hb); clear HB; have HO187 := n0_; have HB := n1_; clear n0_ n1_; clear hb ho3))
 go_loopg [3, 4] k (fun kq v3 v4 w' => ∃ (x3_1 : List Int) (x4_1 : Int), v4 = .int .i64 x4_1 ∧ Zaa (Zba.l0 kq l0 x3_1 x4_1 = some r) ∧ Zaa (kq ≤ k) ∧ Zaa (Kd.R (Kd.int .i64) 3 w' w.heap.size (fun _ => True) v3 x3_1) ∧ Zaa (Below w.heap.size w w'))
 case atStart => exact ⟨(y185), (0), (by first | rfl | (simp; done) | (simp [*]; done)), H', ⟨Nat.le_refl _⟩, ⟨by (with_reducible repeat (first | apply Kd.Za6 | apply Kd.Za5 | apply Kd.Zbb)); exact HO187.out⟩, ⟨by repeat (first | (with_reducible first | exact HB.out | apply Zab | apply Za | apply Zac) | exact HB.out)⟩⟩
 case round =>
  clear H'
  try clear p2
  obtain ⟨x3_1, x4_1, rfl, HA, HK1, HO_3, HB⟩ := hrel
  cases gk with
  | zero => exact absurd HA.out (by simp [Zba.l0])
  | succ k1 =>
   have H := HA.out
   clear HA
   simp only [Zba.l0] at H
   by_cases c4 : x4_1 < (l0.length : Int)
   rotate_left
   ·rw [if_neg c4] at H
    have c4b0 : decide (x4_1 < (l0.length : Int)) = false := decide_eq_false c4
    clear c4
    replace H := Option.bind_eq_some_iff.mp H
    obtain ⟨⟨t196, t197⟩, A120, H⟩ := H
    replace H : (some t196) = some r := H
    have A12 := Zaa.mk A120
    clear A120
    obtain rfl := Option.some.inj H
    obtain ⟨Ao13, co13, eo13⟩ := Kd.Zbn HO_3.out
    subst eo13
    go_wp2_with (first | ((with_reducible refine Zbo (f := 59) rfl ?_); refine Zcr (some 28) rfl rfl Try.func59 (by kernel_rfl) rfl #[.slice Ao13 x3_1.length co13] rfl (by (try simp only [List.map_toArray, List.map_cons, List.map_nil]); first | done | rfl | (simp only [List.length_drop, List.length_take]; rfl)) ?_; (with_reducible refine (Zbc.calls k1 _ _ x3_1 t196 t197 _ ?side1 ?side2 A12.out).mono ?_); (case side1 => repeat (first | exact (Kd.Zaz HO_3.out).2.2 | (with_reducible refine Kd.C_alloc ?_ _) | (with_reducible refine Kd.Za0 ?_ _) | (with_reducible refine Kd.C_drew ?_))); (case side2 => exact (Kd.Zaz HO_3.out).2.1); rintro e w14 ⟨v198, rfl, ho0, hb⟩; refine ⟨_, rfl, ?_⟩; have n0_ := Zaa.mk (Kd.Zca (by (with_reducible repeat (first | apply Kd.Za6 | apply Kd.Za5 | apply Kd.Zbb)); exact HO_3.out) hb); have n1_ := Zaa.mk (Kd.Zbs ho0 (Zae (by repeat (first | (with_reducible first | exact HB.out | apply Zab | apply Za | apply Zac) | exact HB.out)))); have n2_ := Zaa.mk (Zam (by repeat (first | (with_reducible first | exact HB.out | apply Zab | apply Za | apply Zac) | exact HB.out)) hb); clear HO_3; clear HB; have HO_3 := n0_; have HO199 := n1_; have HB := n2_; clear n0_ n1_ n2_; (try clear hb); (try clear hb2); (try clear hk); (try clear hi); (try clear ho0)))
    go_ret
    exact ⟨_, by first | rfl | (simp [Za1, Za2] <;> rfl) | (simp [*, Za1, Za2] <;> rfl), by (with_reducible repeat (first | apply Kd.Za6 | apply Kd.Za5 | apply Kd.Zbb)); exact HO199.out, by repeat (first | (with_reducible first | exact HB.out | apply Zab | apply Za | apply Zac) | exact HB.out)⟩
   rw [if_pos c4] at H
   have c4b0 : decide (x4_1 < (l0.length : Int)) = true := decide_eq_true c4
   clear c4
   by_cases c5 : x4_1 < 30
   rotate_left
   ·rw [if_neg c5] at H
    have c5b0 : decide (x4_1 < 30) = false := decide_eq_false c5
    clear c5
    replace H := Option.bind_eq_some_iff.mp H
    obtain ⟨⟨t192, t193⟩, A90, H⟩ := H
    replace H : (some t192) = some r := H
    have A9 := Zaa.mk A90
    clear A90
    obtain rfl := Option.some.inj H
    obtain ⟨Ao10, co10, eo10⟩ := Kd.Zbn HO_3.out
    subst eo10
    go_wp2_with (first | ((with_reducible refine Zbo (f := 59) rfl ?_); refine Zcr (some 28) rfl rfl Try.func59 (by kernel_rfl) rfl #[.slice Ao10 x3_1.length co10] rfl (by (try simp only [List.map_toArray, List.map_cons, List.map_nil]); first | done | rfl | (simp only [List.length_drop, List.length_take]; rfl)) ?_; (with_reducible refine (Zbc.calls k1 _ _ x3_1 t192 t193 _ ?side1 ?side2 A9.out).mono ?_); (case side1 => repeat (first | exact (Kd.Zaz HO_3.out).2.2 | (with_reducible refine Kd.C_alloc ?_ _) | (with_reducible refine Kd.Za0 ?_ _) | (with_reducible refine Kd.C_drew ?_))); (case side2 => exact (Kd.Zaz HO_3.out).2.1); rintro e w11 ⟨v194, rfl, ho0, hb⟩; refine ⟨_, rfl, ?_⟩; have n0_ := Zaa.mk (Kd.Zca (by (with_reducible repeat (first | apply Kd.Za6 | apply Kd.Za5 | apply Kd.Zbb)); exact HO_3.out) hb); have n1_ := Zaa.mk (Kd.Zbs ho0 (Zae (by repeat (first | (with_reducible first | exact HB.out | apply Zab | apply Za | apply Zac) | exact HB.out)))); have n2_ := Zaa.mk (Zam (by repeat (first | (with_reducible first | exact HB.out | apply Zab | apply Za | apply Zac) | exact HB.out)) hb); clear HO_3; clear HB; have HO_3 := n0_; have HO195 := n1_; have HB := n2_; clear n0_ n1_ n2_; (try clear hb); (try clear hb2); (try clear hk); (try clear hi); (try clear ho0)))
    go_ret
    exact ⟨_, by first | rfl | (simp [Za1, Za2] <;> rfl) | (simp [*, Za1, Za2] <;> rfl), by (with_reducible repeat (first | apply Kd.Za6 | apply Kd.Za5 | apply Kd.Zbb)); exact HO195.out, by repeat (first | (with_reducible first | exact HB.out | apply Zab | apply Za | apply Zac) | exact HB.out)⟩
   rw [if_pos c5] at H
   have c5b0 : decide (x4_1 < 30) = true := decide_eq_true c5
   clear c5
   by_cases c6 : 0 ≤ x4_1
   rotate_left
   ·rw [if_neg c6] at H
    exact absurd H (by simp)
   rw [if_pos c6] at H
   have c6b0 : decide (0 ≤ x4_1) = true := decide_eq_true c6
   clear c6
   by_cases c7 : x3_1.length < 17592186044416
   rotate_left
   ·rw [if_neg c7] at H
    exact absurd H (by simp)
   rw [if_pos c7] at H
   have LMc7 := Zaa.mk c7
   clear c7
   obtain ⟨y189, hy189⟩ : ∃ y_ : List Int, y_ = (x3_1 ++ [Int.tmod (rd l0 x4_1) 201]) := ⟨_, rfl⟩
   replace H : (Zba.l0 k1 l0 y189 (wrap64 (x4_1 + 1))) = some r := by first | (rw [hy189]; with_reducible exact H) | (have H2_ := (Option.bind_some _ _).symm.trans H; rw [hy189]; with_reducible exact H2_) | (have H2_ := (Option.bind_some _ _).symm.trans H; with_reducible exact H2_) | with_reducible exact H | (rw [hy189]; exact H) | exact H
   have Ny189 := Zaa.mk hy189
   clear hy189
   have H' := Zaa.mk H
   clear H
   have p188 : 0 ≤ (x4_1 : Int) := of_decide_eq_true (by first | (with_reducible assumption) | assumption)
   have q188 : x4_1 < (l0.length : Int) := of_decide_eq_true (by first | (with_reducible assumption) | assumption)
   obtain ⟨ad188, e188, hx188_0⟩ := Kd.Zbx HR0.out x4_1 p188 q188
   cases e188
   replace hx188_0 := (HB.out.cell (World.block_lt_of_cell? w _ hx188_0)).trans hx188_0
   replace p188 := eq_true p188
   replace q188 := eq_true q188
   go_wp2_with (first | ((with_reducible refine Zbk (b := .append) (xs := #[.tmp 18, .tmp 24]) rfl ?_); at_builtin; refine Kd.Zcd (Kd.int .i64) (w0 := w) w.heap.size rfl (.tmp 18) (.tmp 24) 23 3 (.int .i64 0) 8 rfl Try.underlying23 info3 rfl (by decide) (by omega) u3 x3_1 (Int.tmod (rd l0 x4_1) 201) [.int .i64 (Int.tmod (rd l0 x4_1) 201)] (fun _ => True) (fun _ => False) rfl rfl ?aP (fun _ hk => hk.elim) ?aF ?aO ?aB ?aS ?aL ?_; (case aP => exact rfl); (case aB => exact (by repeat (first | (with_reducible first | exact HB.out | apply Zab | apply Za | apply Zac) | exact HB.out))); (case aF => exact (fun _ _ => trivial)); (case aO => exact (by (with_reducible repeat (first | apply Kd.Za6 | apply Kd.Za5 | apply Kd.Zbb)); exact HO_3.out)); (case aS => exact (Zae (by repeat (first | (with_reducible first | exact HB.out | apply Zab | apply Za | apply Zac) | exact HB.out)))); (case aL => have := LMc7.out; omega); intro v190 w8 ho hb hg hat; rw [← Ny189.out] at ho; have n0_ := Zaa.mk (hb); have n1_ := Zaa.mk (ho); clear HB; clear HO_3; have HB := n0_; have HO191 := n1_; clear n0_ n1_; clear ho hb hg hat))
   go_roundg k1
   case measure => have := HK1.out; omega
   case rel => exact ⟨(y189), (wrap64 (x4_1 + 1)), (by first | rfl | (simp; done) | (simp [*]; done)), H', ⟨by have := HK1.out; omega⟩, ⟨by (with_reducible repeat (first | apply Kd.Za6 | apply Kd.Za5 | apply Kd.Zbb)); exact HO191.out⟩, ⟨by repeat (first | (with_reducible first | exact HB.out | apply Zab | apply Za | apply Zac) | exact HB.out)⟩⟩
end Go.Proofs.Ytpbcigilipdedaa.P
/- Small: the domain of at most 30 values from -200 to 200. -/
namespace Go.Proofs.Ytpbcigilipdedaa.P
open Go.RowKit Go.Proofs.YtpbcigilipdedaaW.PrintWords Go.Proofs.YtpbcigilipdedaaW.PrintLast Go.Proofs.YtpbcigilipdedaaW.PrintMore
set_option linter.unusedVariables false
set_option linter.unusedSimpArgs false
def smallL (l : List Int) : List Int := (l.take 30).map fun v => Int.tmod v 201
def dsm (l : List Int) : List Rg := pack (sd (smallL l))
theorem Zfp (l : List Int) : (smallL l).length ≤ 30 := by simp [smallL]; omega
theorem tmod_small (v : Int) (n : Nat) (h : 0 < n) : -(n : Int) < Int.tmod v n ∧ Int.tmod v n < n := by
  have h1 := Int.natAbs_tmod v n
  have h2 := Nat.mod_lt v.natAbs (show 0 < (n : Int).natAbs by omega)
  omega
theorem Zf1 {l : List Int} {x : Int} (h : x ∈ smallL l) : -200 ≤ x ∧ x ≤ 200 := by
  obtain ⟨v, _, rfl⟩ := List.mem_map.1 h
  have := tmod_small v 201 (by omega)
  have e : ((201 : Nat) : Int) = 201 := rfl
  rw [e] at this
  omega
theorem dsm_good (l : List Int) : Gd 200 (-200) (dsm l) ∧ ∀ v, Va (dsm l) v ↔ v ∈ sd (smallL l) := Zd2 (Zgz _) (fun x hx => Zf1 ((Zew x _).1 hx))
theorem dsm_gd (l : List Int) : Gd 1048576 (-1048576) (dsm l) := ((dsm_good l).1.mono (by omega)).up (by omega)
theorem dsm_vals (l : List Int) : vals (dsm l) = sd (smallL l) := vals_pack (Zgz _)
theorem dsm_vlen (l : List Int) : (vals (dsm l)).length ≤ 30 := by rw [dsm_vals]; exact Nat.le_trans (Zee _) (Zfp l)
theorem dsm_len (l : List Int) : (dsm l).length ≤ 30 := Nat.le_trans (Zcx (dsm_gd l)) (dsm_vlen l)
theorem dsm_bd (l : List Int) {v : Int} (h : v ∈ vals (dsm l)) : -200 ≤ v ∧ v ≤ 200 := by rw [dsm_vals] at h; exact Zf1 ((Zew v _).1 h)
theorem Zh {l : List Int} (h : ∀ x ∈ l, isVal x = true) : ofSpec l = (pack (sd l), 0) := by
  have : (l.any fun v => !isVal v) = false := List.any_eq_false.2 (fun x hx => by simp [h x hx])
  unfold ofSpec
  rw [this]
  rfl
theorem Small_l0 (l : List Int) (hl : l.length ≤ 17592186044416) : ∀ (m n : Nat) (acc : List Int), n + m = min l.length 30 → acc = (l.take n).map (fun v => Int.tmod v 201) → Ev (fun k => Zba.l0 k l acc (n : Int)) (dsm l) := by
  have last : ∀ acc, acc = smallL l → Ev (fun k => (Zbc.f k acc).bind fun b => some b.1) (dsm l) := fun acc e => by
    have h1 := Zfp l
    rw [← e] at h1
    have h := ref_Of acc (by omega)
    rw [Zh (fun x hx => (Zfi x).2 (by have := Zf1 (l := l) (x := x) (by rw [← e]; exact hx); omega))] at h
    refine Ev.bind h (Ev.const ?_)
    rw [e]
    rfl
  intro m
  induction m with
  | zero =>
    intro n acc h e
    by_cases hlt : n < l.length
    · obtain rfl : n = 30 := by omega
      exact Ev.step (fun k => by rw [Zba.l0, if_pos (by omega), if_neg (by omega)]) (last acc e)
    refine Ev.step (fun k => by rw [Zba.l0, if_neg (by omega)]) (last acc ?_)
    rw [e, smallL, List.take_of_length_le (by omega), List.take_of_length_le (by omega)]
  | succ m ih =>
    intro n acc h e
    have hn : n < l.length := by omega
    have hal : acc.length = n := by rw [e]; simp; omega
    refine Ev.step (fun k => by rw [Zba.l0, if_pos (by omega), if_pos (by omega), if_pos (by omega), if_pos (by omega), Zcw l n hn, w1 (by omega)]) (ih (n + 1) _ (by omega) ?_)
    rw [e, List.take_succ_eq_append_getElem hn, List.map_append]
    rfl
theorem Small_ev (l : List Int) (hl : l.length * 8 ≤ 140737488351232) : Ev (fun k => Zba.f k l) (dsm l) := Small_l0 l (by omega) (min l.length 30) 0 [] (by omega) rfl
end Go.Proofs.Ytpbcigilipdedaa.P
namespace Go.Proofs.Ytpbcigilipdedaa.P
open Go.RowKit Go.Proofs.YtpbcigilipdedaaW.PrintWords Go.Proofs.YtpbcigilipdedaaW.PrintLast Go.Proofs.YtpbcigilipdedaaW.PrintMore
attribute [local go_sem] Zcz Zc1 Zde Zdf Zct Zcu Zc0 Zc2
set_option linter.unusedVariables false
set_option linter.unusedSimpArgs false
def Zb.l0 : Nat → List (List Int) → List (List Int) → Int → Option ((List (List Int)))
 | 0, _, _, _ => none
 | k + 1, x0, x3, x4 => if x4 < (x0.length : Int) then ((some (([] : List Int) : List Int)).bind fun y104 => (if 0 ≤ x4 then (if y104.length + (Zci x0 x4).length < 17592186044416 then (if x3.length < 5864062014805 then (Zb.l0 k x0 (x3 ++ [(y104 ++ (Zci x0 x4))]) (wrap64 (x4 + 1))) else (none)) else (none)) else (none))) else (some x3)
def Zb.f (k : Nat) (l0 : List (List Int)) : Option ((List (List Int))) := Zb.l0 k l0 (([] : List (List Int))) 0
theorem Zb.Zb4 : ∀ k, (∀ y0 y1 y2, LeO (Zb.l0 k y0 y1 y2) (Zb.l0 (k + 1) y0 y1 y2))
 | 0 => fun _ _ _ r h => by simp [Zb.l0] at h
 | k + 1 => by
  have ih0 := Zb.Zb4 k
  intro y0 y1 y2
  unfold Zb.l0
  repeat' first
  | (with_reducible exact ih0 _ _ _)
  | (with_reducible exact LeO.refl _)
  | (with_reducible exact LeO.none _)
  | (with_reducible refine LeO.ite ?_ ?_)
  | (with_reducible refine LeO.bind ?_ (fun _ => ?_))
  | exact ih0 _ _ _
  | exact LeO.none _
  | refine LeO.ite ?_ ?_
  | refine LeO.bind ?_ (fun _ => ?_)
theorem Zb.mono : ∀ a0 k, LeO (Zb.f k a0) (Zb.f (k + 1) a0) := by
 intro a0 k
 have ih0 := Zb.Zb4 k
 unfold Zb.f
 repeat' first
   | (with_reducible exact ih0 _ _ _)
   | (with_reducible exact LeO.refl _)
   | (with_reducible exact LeO.none _)
   | (with_reducible refine LeO.ite ?_ ?_)
   | (with_reducible refine LeO.bind ?_ (fun _ => ?_))
   | exact ih0 _ _ _
   | exact LeO.none _
   | refine LeO.ite ?_ ?_
   | refine LeO.bind ?_ (fun _ => ?_)
set_option maxHeartbeats 8000000 in
set_option maxRecDepth 100000 in
theorem Zb.calls (k : Nat) (A0 : Option Addr) (c0 : Nat) (l0 : List (List Int)) (r : List (List Int)) (w : World) (hr0 : Kd.C (Kd.slice 3 (Kd.int .i64)) w A0 l0.length l0) (hc0 : l0.length ≤ c0) (h : Zb.f k l0 = some r) :
  Calls Try.prog 17 #[.slice A0 l0.length c0] w fun e w' => ∃ v0_ : Value, e = .returned (v0_) ∧ Kd.S (Kd.slice 3 (Kd.int .i64)) 23 w' w.heap.size (fun _ => True) v0_ r ∧ Below w.heap.size w w' := by
 have HR0 := Zaa.mk hr0
 have HC0 := Zaa.mk hc0
 clear hr0 hc0
 have HB := Zaa.mk (Below.refl w.heap.size w)
 have H : (Zb.l0 k l0 (([] : List (List Int))) 0) = some r := h
 clear h
 obtain ⟨y101, hy101⟩ : ∃ y_ : List (List Int), y_ = (([] : List (List Int))) := ⟨_, rfl⟩
 replace H : (Zb.l0 k l0 y101 0) = some r := by first | (rw [hy101]; with_reducible exact H) | (have H2_ := (Option.bind_some _ _).symm.trans H; rw [hy101]; with_reducible exact H2_) | (have H2_ := (Option.bind_some _ _).symm.trans H; with_reducible exact H2_) | with_reducible exact H | (rw [hy101]; exact H) | exact H
 have Ny101 := Zaa.mk hy101
 clear hy101
 have H' := Zaa.mk H
 clear H
 go_enter Try.func17, Try.ntmps17
 go_wp2_with (first | ((with_reducible refine Zbq (N := 5) rfl ?_); refine Kd.S_lit (Kd.slice 3 (Kd.int .i64)) _ 23 ?hg (N := 5) ?hd (xs := ([] : List (List Int))) (inner := []) (ok := fun _ => True) (okp := fun _ => True) ?hr ?hp (fun _ hk => hk) trivial (Below.refl _ _) (Nat.le_refl _) (by simp) ?_; (case hd => rfl); (case hg => rfl); (case hr => first | (go_simp; done) | (go_simp; rfl)); (case hp => exact (Reps.none _ _)); intro v102 w2 ho3 hb hg_ hnew_; clear hg_ hnew_; (first | rw [← Ny101.out] at ho3 | (simp only [Int.reduceToNat] at ho3; rw [← Ny101.out] at ho3)); have n0_ := Zaa.mk (Kd.Zgi ho3 (Zae (by repeat (first | (with_reducible first | exact HB.out | apply Zab | apply Za | apply Zac) | exact HB.out)))); have n1_ := Zaa.mk (Zam (by repeat (first | (with_reducible first | exact HB.out | apply Zab | apply Za | apply Zac) | exact HB.out)) hb); clear HB; have HO103 := n0_; have HB := n1_; clear n0_ n1_; clear hb ho3))
 go_loopg [3, 4] k (fun kq v3 v4 w' => ∃ (x3_1 : List (List Int)) (x4_1 : Int), v4 = .int .i64 x4_1 ∧ Zaa (Zb.l0 kq l0 x3_1 x4_1 = some r) ∧ Zaa (kq ≤ k) ∧ Zaa (Kd.S (Kd.slice 3 (Kd.int .i64)) 23 w' w.heap.size (fun _ => True) v3 x3_1) ∧ Zaa (Below w.heap.size w w'))
 case atStart => exact ⟨(y101), (0), (by first | rfl | (simp; done) | (simp [*]; done)), H', ⟨Nat.le_refl _⟩, ⟨by (with_reducible repeat (first | apply Kd.Zd | apply Kd.S_drewN | apply Kd.Zdh)); exact HO103.out⟩, ⟨by repeat (first | (with_reducible first | exact HB.out | apply Zab | apply Za | apply Zac) | exact HB.out)⟩⟩
 case round =>
  clear H'
  try clear c1
  try clear p2
  obtain ⟨x3_1, x4_1, rfl, HA, HK1, HO_3, HB⟩ := hrel
  cases gk with
  | zero => exact absurd HA.out (by simp [Zb.l0])
  | succ k1 =>
   have H := HA.out
   clear HA
   simp only [Zb.l0] at H
   by_cases c4 : x4_1 < (l0.length : Int)
   rotate_left
   ·rw [if_neg c4] at H
    have c4b0 : decide (x4_1 < (l0.length : Int)) = false := decide_eq_false c4
    clear c4
    obtain rfl := Option.some.inj H
    go_wp2
    go_ret
    exact ⟨_, by first | rfl | (simp [Za1, Za2] <;> rfl) | (simp [*, Za1, Za2] <;> rfl), by (with_reducible repeat (first | apply Kd.Zd | apply Kd.S_drewN | apply Kd.Zdh)); exact HO_3.out, by repeat (first | (with_reducible first | exact HB.out | apply Zab | apply Za | apply Zac) | exact HB.out)⟩
   rw [if_pos c4] at H
   have c4b0 : decide (x4_1 < (l0.length : Int)) = true := decide_eq_true c4
   clear c4
   obtain ⟨y104, hy104⟩ : ∃ y_ : List Int, y_ = (([] : List Int)) := ⟨_, rfl⟩
   replace H : (if 0 ≤ x4_1 then (if y104.length + (Zci l0 x4_1).length < 17592186044416 then (if x3_1.length < 5864062014805 then (Zb.l0 k1 l0 (x3_1 ++ [(y104 ++ (Zci l0 x4_1))]) (wrap64 (x4_1 + 1))) else (none)) else (none)) else (none)) = some r := by first | (rw [hy104]; with_reducible exact H) | (have H2_ := (Option.bind_some _ _).symm.trans H; rw [hy104]; with_reducible exact H2_) | (have H2_ := (Option.bind_some _ _).symm.trans H; with_reducible exact H2_) | with_reducible exact H | (rw [hy104]; exact H) | exact H
   have Ny104 := Zaa.mk hy104
   clear hy104
   by_cases c5 : 0 ≤ x4_1
   rotate_left
   ·rw [if_neg c5] at H
    exact absurd H (by simp)
   rw [if_pos c5] at H
   have c5b0 : decide (0 ≤ x4_1) = true := decide_eq_true c5
   clear c5
   by_cases c6 : y104.length + (Zci l0 x4_1).length < 17592186044416
   rotate_left
   ·rw [if_neg c6] at H
    exact absurd H (by simp)
   rw [if_pos c6] at H
   have LMc6 := Zaa.mk c6
   clear c6
   obtain ⟨y108, hy108⟩ : ∃ y_ : List Int, y_ = (y104 ++ (Zci l0 x4_1)) := ⟨_, rfl⟩
   replace H : (if x3_1.length < 5864062014805 then (Zb.l0 k1 l0 (x3_1 ++ [y108]) (wrap64 (x4_1 + 1))) else (none)) = some r := by first | (rw [hy108]; with_reducible exact H) | (have H2_ := (Option.bind_some _ _).symm.trans H; rw [hy108]; with_reducible exact H2_) | (have H2_ := (Option.bind_some _ _).symm.trans H; with_reducible exact H2_) | with_reducible exact H | (rw [hy108]; exact H) | exact H
   have Ny108 := Zaa.mk hy108
   clear hy108
   by_cases c7 : x3_1.length < 5864062014805
   rotate_left
   ·rw [if_neg c7] at H
    exact absurd H (by simp)
   rw [if_pos c7] at H
   have LMc7 := Zaa.mk c7
   clear c7
   obtain ⟨y111, hy111⟩ : ∃ y_ : List (List Int), y_ = (x3_1 ++ [y108]) := ⟨_, rfl⟩
   replace H : (Zb.l0 k1 l0 y111 (wrap64 (x4_1 + 1))) = some r := by first | (rw [hy111]; with_reducible exact H) | (have H2_ := (Option.bind_some _ _).symm.trans H; rw [hy111]; with_reducible exact H2_) | (have H2_ := (Option.bind_some _ _).symm.trans H; with_reducible exact H2_) | with_reducible exact H | (rw [hy111]; exact H) | exact H
   have Ny111 := Zaa.mk hy111
   clear hy111
   have H' := Zaa.mk H
   clear H
   go_wp2_with (first | ((with_reducible refine Zbq (N := 13) rfl ?_); refine Kd.Zds (Kd.int .i64) _ 3 ?hg (N := 13) ?hd (xs := ([] : List Int)) (inner := []) (ok := fun _ => True) (okp := fun _ => True) ?hr ?hp (fun _ hk => hk) trivial (Below.refl _ _) (Nat.le_refl _) (by simp) ?_; (case hd => rfl); (case hg => rfl); (case hr => first | (go_simp; done) | (go_simp; rfl)); (case hp => exact (Reps.none _ _)); intro v105 w8 ho9 hb hg_ hnew_; clear hg_ hnew_; (first | rw [← Ny104.out] at ho9 | (simp only [Int.reduceToNat] at ho9; rw [← Ny104.out] at ho9)); have n0_ := Zaa.mk (Kd.Zeh (by (with_reducible repeat (first | apply Kd.Zd | apply Kd.S_drewN | apply Kd.Zdh)); exact HO_3.out) (Kd.Zb6 ho9) hb); have n1_ := Zaa.mk (Kd.Zbs ho9 (Zae (by repeat (first | (with_reducible first | exact HB.out | apply Zab | apply Za | apply Zac) | exact HB.out)))); have n2_ := Zaa.mk (Zam (by repeat (first | (with_reducible first | exact HB.out | apply Zab | apply Za | apply Zac) | exact HB.out)) hb); clear HO_3; clear HB; have HO_3 := n0_; have HO106 := n1_; have HB := n2_; clear n0_ n1_ n2_; clear hb ho9; have p107 : 0 ≤ (x4_1 : Int) := of_decide_eq_true (by first | (with_reducible assumption) | assumption); have q107 : x4_1 < (l0.length : Int) := of_decide_eq_true (by first | (with_reducible assumption) | assumption); obtain ⟨ad107, A107_0, c107_0, e107, hx107_0, hl107_0, hi107_0⟩ := Zf9 HR0.out x4_1 p107 q107; cases e107; replace hx107_0 := (HB.out.cell (World.block_lt_of_cell? w _ hx107_0)).trans hx107_0; have HR107_0 := Zaa.mk hi107_0; have HC107_0 := Zaa.mk hl107_0; clear hi107_0 hl107_0; replace p107 := eq_true p107; replace q107 := eq_true q107) | ((with_reducible refine Zbk (b := .append) (xs := #[.tmp 13, .tmp 17]) rfl ?_); at_builtin; refine Kd.Zdd (Kd.int .i64) (w0 := w) w.heap.size rfl (.tmp 13) (.tmp 17) 23 3 (.int .i64 0) 8 rfl Try.underlying23 info3 rfl (by decide) (by omega) v105 y104 (Zci l0 x4_1) _ _ _ (fun _ => True) (fun _ => False) rfl rfl ?aO ?aR (fun _ _ h => h) (fun _ h => h.elim) ?aF ?aB ?aS ?aL ?_; (case aR => repeat (first | exact (Kd.Za8 HR107_0.out HB.out) | (with_reducible refine Kd.C_alloc ?_ _) | (with_reducible refine Kd.Za0 ?_ _) | (with_reducible refine Kd.C_drew ?_))); (case aB => exact (by repeat (first | (with_reducible first | exact HB.out | apply Zab | apply Za | apply Zac) | exact HB.out))); (case aF => exact (fun _ _ => trivial)); (case aO => exact (by (with_reducible repeat (first | apply Kd.Za6 | apply Kd.Za5 | apply Kd.Zbb)); exact HO106.out)); (case aS => exact (Zae (by repeat (first | (with_reducible first | exact HB.out | apply Zab | apply Za | apply Zac) | exact HB.out)))); (case aL => have := LMc6.out; omega); intro v109 w10 ho hb hg hat; rw [← Ny108.out] at ho; have n0_ := Zaa.mk (Kd.S_after (ok := (fun _ => True)) (by (with_reducible repeat (first | apply Kd.Zd | apply Kd.S_drewN | apply Kd.Zdh)); exact HO_3.out) hg hat); have n1_ := Zaa.mk (hb); have n2_ := Zaa.mk (ho); clear HO_3; clear HB; clear HO106; have HO_3 := n0_; have HB := n1_; have HO110 := n2_; clear n0_ n1_ n2_; clear ho hb hg hat; obtain ⟨Ao12, co12, eo12⟩ := Kd.Zbn HO110.out; subst eo12) | ((with_reducible refine Zbk (b := .append) (xs := #[.tmp 12, .tmp 19]) rfl ?_); at_builtin; refine Kd.S_append (Kd.slice 3 (Kd.int .i64)) (w0 := w) w.heap.size rfl (.tmp 12) (.tmp 19) 22 23 (.slice none 0 0) 24 rfl Try.underlying22 info23 rfl (by decide) (by omega) u3 x3_1 y108 [.slice Ao12 y108.length co12] (fun _ => True) (fun k_ => some k_ = (.slice Ao12 y108.length co12 : Value).ownBlock) rfl rfl ?aP (fun k_ hk_ => ((Kd.Zbm (ok' := fun k_ => ((fun _ => True)) k_ ∧ some k_ ≠ (u3 : Value).ownBlock) (Kd.Zb3 (HO110.out) (Kd.Zdn HO_3.out) (by decide)) (fun k_ hk => ⟨trivial, hk.2⟩))).1 k_ hk_.symm) ?aF ?aO ?aB ?aS ?aL ?_; (case aP => exact Kd.M_row (Kd.Zbm (Kd.Ze9 rfl (Kd.Zbm (ok' := fun k_ => ((fun _ => True)) k_ ∧ some k_ ≠ (u3 : Value).ownBlock) (Kd.Zb3 (HO110.out) (Kd.Zdn HO_3.out) (by decide)) (fun k_ hk => ⟨trivial, hk.2⟩))) (fun _ h_ => h_))); (case aB => exact (by repeat (first | (with_reducible first | exact HB.out | apply Zab | apply Za | apply Zac) | exact HB.out))); (case aF => exact (fun _ _ => trivial)); (case aO => exact (by (with_reducible repeat (first | apply Kd.Zd | apply Kd.S_drewN | apply Kd.Zdh)); exact Kd.Zc5 HO_3.out (fun k_ hk => ⟨trivial, fun e_ => hk.2 e_⟩))); (case aS => exact (Zae (by repeat (first | (with_reducible first | exact HB.out | apply Zab | apply Za | apply Zac) | exact HB.out)))); (case aL => have := LMc7.out; omega); intro v112 w11 ho hb hg hat; rw [← Ny111.out] at ho; have n0_ := Zaa.mk (hb); have n1_ := Zaa.mk (ho); clear HB; clear HO_3; clear HO110; have HB := n0_; have HO113 := n1_; clear n0_ n1_; clear ho hb hg hat))
   go_roundg k1
   case measure => have := HK1.out; omega
   case rel => exact ⟨(y111), (wrap64 (x4_1 + 1)), (by first | rfl | (simp; done) | (simp [*]; done)), H', ⟨by have := HK1.out; omega⟩, ⟨by (with_reducible repeat (first | apply Kd.Zd | apply Kd.S_drewN | apply Kd.Zdh)); exact HO113.out⟩, ⟨by repeat (first | (with_reducible first | exact HB.out | apply Zab | apply Za | apply Zac) | exact HB.out)⟩⟩
end Go.Proofs.Ytpbcigilipdedaa.P
/- Plain: a copy of a list of lists (secateurref04.Nums). -/
namespace Go.Proofs.Ytpbcigilipdedaa.P
open Go.RowKit Go.Proofs.YtpbcigilipdedaaW.PrintWords Go.Proofs.YtpbcigilipdedaaW.PrintLast Go.Proofs.YtpbcigilipdedaaW.PrintMore
set_option linter.unusedVariables false
set_option linter.unusedSimpArgs false
theorem Zfa (xs : List (List Int)) (n : Nat) (h : n < xs.length) : Zci xs (n : Int) = xs[n] := by simp [Zci, List.getD_eq_getElem?_getD, List.getElem?_eq_getElem h]
theorem ref_Copy_l (l : List (List Int)) (hl : l.length < 5864062014805) (hin : ∀ x ∈ l, x.length < 17592186044416) : ∀ (m n : Nat), n + m = l.length → Ev (fun k => Zb.l0 k l (l.take n) (n : Int)) l := by
  intro m
  induction m with
  | zero =>
    intro n h
    rw [List.take_of_length_le (by omega)]
    exact Ev.step (fun k => by rw [Zb.l0, if_neg (by omega)]) (Ev.pure _)
  | succ m ih =>
    intro n h
    have hn : n < l.length := by omega
    have hx := hin _ (List.getElem_mem hn)
    have hstep := ih (n + 1) (by omega)
    rw [List.take_succ_eq_append_getElem hn] at hstep
    exact Ev.step (fun k => by rw [Zb.l0, if_pos (by omega), Option.bind_some, if_pos (by omega), Zfa l n hn, if_pos (by simp; omega), if_pos (by rw [List.length_take]; omega), w1 (by omega), List.nil_append]) hstep
theorem ref_Copy (l : List (List Int)) (hl : l.length < 5864062014805) (hin : ∀ x ∈ l, x.length < 17592186044416) : Ev (fun k => Zb.f k l) l := ref_Copy_l l hl hin l.length 0 (by omega)
end Go.Proofs.Ytpbcigilipdedaa.P
namespace Go.Proofs.Ytpbcigilipdedaa.P
open Go.RowKit Go.Proofs.YtpbcigilipdedaaW.PrintWords Go.Proofs.YtpbcigilipdedaaW.PrintLast Go.Proofs.YtpbcigilipdedaaW.PrintMore
attribute [local go_sem] Zcz Zc1 Zde Zdf Zct Zcu Zc0 Zc2
set_option linter.unusedVariables false
set_option linter.unusedSimpArgs false
def Zb0.f (k : Nat) (a0_0 : Int) (l0_1 : List Int) (l0_2 : List Int) (a0_3 : Int) (a0_4 : Int) (l0_5 : List (List Int)) (a0_6 : Int) : Option (Int × List Int × List Int × Int × Int × (List (List Int)) × Int) := (some (([] : List Int) : List Int)).bind fun y116 => (if y116.length + l0_1.length < 17592186044416 then ((some (([] : List Int) : List Int)).bind fun y122 => (if y122.length + l0_2.length < 17592186044416 then ((Zb.f k l0_5).bind fun t128 => (some (a0_0, (y116 ++ l0_1), (y122 ++ l0_2), a0_3, a0_4, t128, a0_6))) else (none))) else (none))
theorem Zb0.mono : ∀ a0 a1 a2 a3 a4 a5 a6 k, LeO (Zb0.f k a0 a1 a2 a3 a4 a5 a6) (Zb0.f (k + 1) a0 a1 a2 a3 a4 a5 a6) := by
 intro a0 a1 a2 a3 a4 a5 a6 k
 unfold Zb0.f
 repeat' first
   | (with_reducible exact Zb.mono _ _)
   | (with_reducible exact LeO.refl _)
   | (with_reducible exact LeO.none _)
   | (with_reducible refine LeO.ite ?_ ?_)
   | (with_reducible refine LeO.bind ?_ (fun _ => ?_))
   | exact Zb.mono _ _
   | exact LeO.none _
   | refine LeO.ite ?_ ?_
   | refine LeO.bind ?_ (fun _ => ?_)
set_option maxHeartbeats 8000000 in
set_option maxRecDepth 100000 in
theorem Zb0.calls (k : Nat) (a0_0 : Int) (A0_1 : Option Addr) (c0_1 : Nat) (l0_1 : List Int) (A0_2 : Option Addr) (c0_2 : Nat) (l0_2 : List Int) (a0_3 : Int) (a0_4 : Int) (A0_5 : Option Addr) (c0_5 : Nat) (l0_5 : List (List Int)) (a0_6 : Int) (r1 : Int) (r2 : List Int) (r3 : List Int) (r4 : Int) (r5 : Int) (r6 : List (List Int)) (r7 : Int) (w : World) (hr0_1 : Kd.C (Kd.int .i64) w A0_1 l0_1.length l0_1) (hc0_1 : l0_1.length ≤ c0_1) (hr0_2 : Kd.C (Kd.int .i64) w A0_2 l0_2.length l0_2) (hc0_2 : l0_2.length ≤ c0_2) (hr0_5 : Kd.C (Kd.slice 3 (Kd.int .i64)) w A0_5 l0_5.length l0_5) (hc0_5 : l0_5.length ≤ c0_5) (h : Zb0.f k a0_0 l0_1 l0_2 a0_3 a0_4 l0_5 a0_6 = some (r1, r2, r3, r4, r5, r6, r7)) :
  Calls Try.prog 26 #[.agg #[.int .i64 a0_0, .slice A0_1 l0_1.length c0_1, .slice A0_2 l0_2.length c0_2, .int .i64 a0_3, .int .i64 a0_4, .slice A0_5 l0_5.length c0_5, .int .i64 a0_6]] w fun e w' => ∃ v1_ v2_ v5_ : Value, e = .returned (.agg #[.int .i64 r1, v1_, v2_, .int .i64 r4, .int .i64 r5, v5_, .int .i64 r7]) ∧ Kd.R (Kd.int .i64) 3 w' w.heap.size (fun k_ => some k_ ≠ (v2_ : Value).ownBlock) v1_ r2 ∧ Kd.R (Kd.int .i64) 3 w' w.heap.size (fun k_ => some k_ ≠ (v1_ : Value).ownBlock) v2_ r3 ∧ Kd.S (Kd.slice 3 (Kd.int .i64)) 23 w' w.heap.size (fun k_ => some k_ ≠ (v1_ : Value).ownBlock ∧ some k_ ≠ (v2_ : Value).ownBlock) v5_ r6 ∧ Below w.heap.size w w' := by
 have hu25 := Try.underlying25
 have HR0_1 := Zaa.mk hr0_1
 have HC0_1 := Zaa.mk hc0_1
 clear hr0_1 hc0_1
 have HR0_2 := Zaa.mk hr0_2
 have HC0_2 := Zaa.mk hc0_2
 clear hr0_2 hc0_2
 have HR0_5 := Zaa.mk hr0_5
 have HC0_5 := Zaa.mk hc0_5
 clear hr0_5 hc0_5
 have HB := Zaa.mk (Below.refl w.heap.size w)
 have H : ((some (([] : List Int) : List Int)).bind fun y116 => (if y116.length + l0_1.length < 17592186044416 then ((some (([] : List Int) : List Int)).bind fun y122 => (if y122.length + l0_2.length < 17592186044416 then ((Zb.f k l0_5).bind fun t128 => (some (a0_0, (y116 ++ l0_1), (y122 ++ l0_2), a0_3, a0_4, t128, a0_6))) else (none))) else (none))) = some (r1, r2, r3, r4, r5, r6, r7) := h
 clear h
 obtain ⟨y116, hy116⟩ : ∃ y_ : List Int, y_ = (([] : List Int)) := ⟨_, rfl⟩
 replace H : (if y116.length + l0_1.length < 17592186044416 then ((some (([] : List Int) : List Int)).bind fun y122 => (if y122.length + l0_2.length < 17592186044416 then ((Zb.f k l0_5).bind fun t128 => (some (a0_0, (y116 ++ l0_1), (y122 ++ l0_2), a0_3, a0_4, t128, a0_6))) else (none))) else (none)) = some (r1, r2, r3, r4, r5, r6, r7) := by first | (rw [hy116]; with_reducible exact H) | (have H2_ := (Option.bind_some _ _).symm.trans H; rw [hy116]; with_reducible exact H2_) | (have H2_ := (Option.bind_some _ _).symm.trans H; with_reducible exact H2_) | with_reducible exact H | (rw [hy116]; exact H) | exact H
 have Ny116 := Zaa.mk hy116
 clear hy116
 by_cases c2 : y116.length + l0_1.length < 17592186044416
 rotate_left
 ·rw [if_neg c2] at H
  exact absurd H (by simp)
 rw [if_pos c2] at H
 have LMc2 := Zaa.mk c2
 clear c2
 obtain ⟨y119, hy119⟩ : ∃ y_ : List Int, y_ = (y116 ++ l0_1) := ⟨_, rfl⟩
 replace H : ((some (([] : List Int) : List Int)).bind fun y122 => (if y122.length + l0_2.length < 17592186044416 then ((Zb.f k l0_5).bind fun t128 => (some (a0_0, y119, (y122 ++ l0_2), a0_3, a0_4, t128, a0_6))) else (none))) = some (r1, r2, r3, r4, r5, r6, r7) := by first | (rw [hy119]; with_reducible exact H) | (have H2_ := (Option.bind_some _ _).symm.trans H; rw [hy119]; with_reducible exact H2_) | (have H2_ := (Option.bind_some _ _).symm.trans H; with_reducible exact H2_) | with_reducible exact H | (rw [hy119]; exact H) | exact H
 have Ny119 := Zaa.mk hy119
 clear hy119
 obtain ⟨y122, hy122⟩ : ∃ y_ : List Int, y_ = (([] : List Int)) := ⟨_, rfl⟩
 replace H : (if y122.length + l0_2.length < 17592186044416 then ((Zb.f k l0_5).bind fun t128 => (some (a0_0, y119, (y122 ++ l0_2), a0_3, a0_4, t128, a0_6))) else (none)) = some (r1, r2, r3, r4, r5, r6, r7) := by first | (rw [hy122]; with_reducible exact H) | (have H2_ := (Option.bind_some _ _).symm.trans H; rw [hy122]; with_reducible exact H2_) | (have H2_ := (Option.bind_some _ _).symm.trans H; with_reducible exact H2_) | with_reducible exact H | (rw [hy122]; exact H) | exact H
 have Ny122 := Zaa.mk hy122
 clear hy122
 by_cases c3 : y122.length + l0_2.length < 17592186044416
 rotate_left
 ·rw [if_neg c3] at H
  exact absurd H (by simp)
 rw [if_pos c3] at H
 have LMc3 := Zaa.mk c3
 clear c3
 obtain ⟨y125, hy125⟩ : ∃ y_ : List Int, y_ = (y122 ++ l0_2) := ⟨_, rfl⟩
 replace H : ((Zb.f k l0_5).bind fun t128 => (some (a0_0, y119, y125, a0_3, a0_4, t128, a0_6))) = some (r1, r2, r3, r4, r5, r6, r7) := by first | (rw [hy125]; with_reducible exact H) | (have H2_ := (Option.bind_some _ _).symm.trans H; rw [hy125]; with_reducible exact H2_) | (have H2_ := (Option.bind_some _ _).symm.trans H; with_reducible exact H2_) | with_reducible exact H | (rw [hy125]; exact H) | exact H
 have Ny125 := Zaa.mk hy125
 clear hy125
 replace H := Option.bind_eq_some_iff.mp H
 obtain ⟨t128, A40, H⟩ := H
 replace H : (some (a0_0, y119, y125, a0_3, a0_4, t128, a0_6)) = some (r1, r2, r3, r4, r5, r6, r7) := H
 have A4 := Zaa.mk A40
 clear A40
 simp only [Option.some.injEq, Prod.mk.injEq] at H
 obtain ⟨rfl, rfl, rfl, rfl, rfl, rfl, rfl⟩ := H
 go_enter Try.func26, Try.ntmps26
 go_wp2_with (first | ((with_reducible refine Zbq (N := 1) rfl ?_); refine Zb9 ?hg (N := 1) ?hd (cs := #[.int .i64 a0_0, .slice A0_1 l0_1.length c0_1, .slice A0_2 l0_2.length c0_2, .int .i64 a0_3, .int .i64 a0_4, .slice A0_5 l0_5.length c0_5, .int .i64 a0_6]) (t := 25) ?hr ?_; (case hd => rfl); (case hg => rfl); (case hr => first | (go_simp; done) | (go_simp; rfl)); intro gb114 hg w5 hbox hb; have n0_ := Zaa.mk (Zam (by repeat (first | (with_reducible first | exact HB.out | apply Zab | apply Za | apply Zac) | exact HB.out)) hb); have n1_ := Zaa.mk (hbox); have n3_ := Zaa.mk ((by rw [hg]; exact (Zae (by repeat (first | (with_reducible first | exact HB.out | apply Zab | apply Za | apply Zac) | exact HB.out))) : w.heap.size ≤ gb114)); clear HB; have HB := n0_; have BK114 := n1_; have GE114 := n3_; clear n0_ n1_ n3_; clear hb hbox hg) | ((with_reducible refine Zbq (N := 2) rfl ?_); refine Zb9 ?hg (N := 2) ?hd (cs := #[.int .i64 0, .slice none 0 0, .slice none 0 0, .int .i64 0, .int .i64 0, .slice none 0 0, .int .i64 0]) (t := 25) ?hr ?_; (case hd => rfl); (case hg => rfl); (case hr => first | (go_simp; done) | (go_simp; rfl)); intro gb115 hg w6 hbox hb; have n0_ := Zaa.mk (Zbe (g := gb114) (o := .cells #[.int .i64 a0_0, .slice A0_1 l0_1.length c0_1, .slice A0_2 l0_2.length c0_2, .int .i64 a0_3, .int .i64 a0_4, .slice A0_5 l0_5.length c0_5, .int .i64 a0_6] 25 (0, 0)) (by (with_reducible repeat (first | refine Zag ?_ _ | refine Zak ?_ | refine Zad ?_ _)); exact BK114.out) hb); have n1_ := Zaa.mk (Zam (by repeat (first | (with_reducible first | exact HB.out | apply Zab | apply Za | apply Zac | refine Zaf ?_ GE114.out) | exact HB.out)) hb); have n2_ := Zaa.mk (hbox); have n4_ := Zaa.mk ((by rw [hg]; exact (Zae (by repeat (first | (with_reducible first | exact HB.out | apply Zab | apply Za | apply Zac | refine Zaf ?_ GE114.out) | exact HB.out))) : w.heap.size ≤ gb115)); have n5_ := Zaa.mk ((by rw [hg]; exact Nat.ne_of_lt (Zdj (g := gb114) (o := .cells #[.int .i64 a0_0, .slice A0_1 l0_1.length c0_1, .slice A0_2 l0_2.length c0_2, .int .i64 a0_3, .int .i64 a0_4, .slice A0_5 l0_5.length c0_5, .int .i64 a0_6] 25 (0, 0)) (by (with_reducible repeat (first | refine Zag ?_ _ | refine Zak ?_ | refine Zad ?_ _)); exact BK114.out)) : gb114 ≠ gb115)); have n6_ := Zaa.mk ((by rw [hg]; exact Nat.ne_of_gt (Zdj (g := gb114) (o := .cells #[.int .i64 a0_0, .slice A0_1 l0_1.length c0_1, .slice A0_2 l0_2.length c0_2, .int .i64 a0_3, .int .i64 a0_4, .slice A0_5 l0_5.length c0_5, .int .i64 a0_6] 25 (0, 0)) (by (with_reducible repeat (first | refine Zag ?_ _ | refine Zak ?_ | refine Zad ?_ _)); exact BK114.out)) : gb115 ≠ gb114)); clear BK114; clear HB; have BK114 := n0_; have HB := n1_; have BK115 := n2_; have GE115 := n4_; have NB114_115 := n5_; have NB115_114 := n6_; clear n0_ n1_ n2_ n4_ n5_ n6_; clear hb hbox hg) | ((with_reducible refine Zbq (N := 3) rfl ?_); refine Kd.Zds (Kd.int .i64) _ 3 ?hg (N := 3) ?hd (xs := ([] : List Int)) (inner := []) (ok := fun _ => True) (okp := fun _ => True) ?hr ?hp (fun _ hk => hk) trivial (Below.refl _ _) (Nat.le_refl _) (by simp) ?_; (case hd => rfl); (case hg => rfl); (case hr => first | (go_simp; done) | (go_simp; rfl)); (case hp => exact (Reps.none _ _)); intro v117 w7 ho8 hb hg_ hnew_; clear hg_ hnew_; (first | rw [← Ny116.out] at ho8 | (simp only [Int.reduceToNat] at ho8; rw [← Ny116.out] at ho8)); have n0_ := Zaa.mk (Kd.Zbs ho8 (Zae (by repeat (first | (with_reducible first | exact HB.out | apply Zab | apply Za | apply Zac | refine Zaf ?_ GE114.out | refine Zaf ?_ GE115.out) | exact HB.out)))); have n1_ := Zaa.mk (Zbe (g := gb114) (o := .cells #[.int .i64 a0_0, .slice A0_1 l0_1.length c0_1, .slice A0_2 l0_2.length c0_2, .int .i64 a0_3, .int .i64 a0_4, .slice A0_5 l0_5.length c0_5, .int .i64 a0_6] 25 (0, 0)) (by (with_reducible repeat (first | refine Zag ?_ _ | refine Zak ?_ | refine Zad ?_ _)); exact BK114.out) hb); have n2_ := Zaa.mk (Zbe (g := gb115) (o := .cells #[.int .i64 0, .slice none 0 0, .slice none 0 0, .int .i64 0, .int .i64 0, .slice none 0 0, .int .i64 0] 25 (0, 0)) (by (with_reducible repeat (first | refine Zag ?_ _ | refine Zak ?_ | refine Zad ?_ _)); exact BK115.out) hb); have n3_ := Zaa.mk (Zam (by repeat (first | (with_reducible first | exact HB.out | apply Zab | apply Za | apply Zac | refine Zaf ?_ GE114.out | refine Zaf ?_ GE115.out) | exact HB.out)) hb); clear BK114; clear BK115; clear HB; have HO118 := n0_; have BK114 := n1_; have BK115 := n2_; have HB := n3_; clear n0_ n1_ n2_ n3_; clear hb ho8; have hnb9 := NB114_115.out; have hnc9 := NB115_114.out; obtain ⟨hcz10_0, hcz10_1, hcz10_2, hcz10_3, hcz10_4, hcz10_5, hcz10_6, hfz10_0, hfz10_1, hfz10_2, hfz10_3, hfz10_4, hfz10_5, hfz10_6⟩ := Zcg BK114.out) | ((with_reducible refine Zbk (b := .append) (xs := #[.tmp 3, .tmp 5]) rfl ?_); at_builtin; refine Kd.Zdd (Kd.int .i64) (w0 := w) w.heap.size rfl (.tmp 3) (.tmp 5) 23 3 (.int .i64 0) 8 rfl Try.underlying23 info3 rfl (by decide) (by omega) v117 y116 l0_1 _ _ _ (fun _ => True) (fun _ => False) rfl rfl ?aO ?aR (fun _ _ h => h) (fun _ h => h.elim) ?aF ?aB ?aS ?aL ?_; (case aR => repeat (first | exact (Kd.Za8 HR0_1.out HB.out) | (with_reducible refine Kd.C_alloc ?_ _) | (with_reducible refine Kd.Za0 ?_ _) | (with_reducible refine Kd.C_drew ?_))); (case aB => exact (by repeat (first | (with_reducible first | exact HB.out | apply Zab | apply Za | apply Zac | refine Zaf ?_ GE114.out | refine Zaf ?_ GE115.out) | exact HB.out))); (case aF => exact (fun _ _ => trivial)); (case aO => exact (by (with_reducible repeat (first | apply Kd.Za6 | apply Kd.Za5 | apply Kd.Zbb)); exact HO118.out)); (case aS => exact (Zae (by repeat (first | (with_reducible first | exact HB.out | apply Zab | apply Za | apply Zac | refine Zaf ?_ GE114.out | refine Zaf ?_ GE115.out) | exact HB.out)))); (case aL => have := LMc2.out; omega); intro v120 w11 ho hb hg hat; rw [← Ny119.out] at ho; have n0_ := Zaa.mk (Zcv (g := gb114) (o := .cells #[.int .i64 a0_0, .slice A0_1 l0_1.length c0_1, .slice A0_2 l0_2.length c0_2, .int .i64 a0_3, .int .i64 a0_4, .slice A0_5 l0_5.length c0_5, .int .i64 a0_6] 25 (0, 0)) (by (with_reducible repeat (first | refine Zag ?_ _ | refine Zak ?_ | refine Zad ?_ _)); exact BK114.out) hg (Kd.R_ne HO118.out BK114.out (by decide))); have n1_ := Zaa.mk (Zcv (g := gb115) (o := .cells #[.int .i64 0, .slice none 0 0, .slice none 0 0, .int .i64 0, .int .i64 0, .slice none 0 0, .int .i64 0] 25 (0, 0)) (by (with_reducible repeat (first | refine Zag ?_ _ | refine Zak ?_ | refine Zad ?_ _)); exact BK115.out) hg (Kd.R_ne HO118.out BK115.out (by decide))); have n2_ := Zaa.mk (hb); have n3_ := Zaa.mk (ho); clear BK114; clear BK115; clear HB; clear HO118; have BK114 := n0_; have BK115 := n1_; have HB := n2_; have HO121 := n3_; clear n0_ n1_ n2_ n3_; clear ho hb hg hat; obtain ⟨Ao12, co12, eo12⟩ := Kd.Zbn HO121.out; subst eo12; obtain ⟨hcz13_0, hcz13_1, hcz13_2, hcz13_3, hcz13_4, hcz13_5, hcz13_6, hfz13_0, hfz13_1, hfz13_2, hfz13_3, hfz13_4, hfz13_5, hfz13_6⟩ := Zcg BK114.out) | ((with_reducible refine Zbq (N := 8) rfl ?_); refine Kd.Zds (Kd.int .i64) _ 3 ?hg (N := 8) ?hd (xs := ([] : List Int)) (inner := []) (ok := fun _ => True) (okp := fun _ => True) ?hr ?hp (fun _ hk => hk) trivial (Below.refl _ _) (Nat.le_refl _) (by simp) ?_; (case hd => rfl); (case hg => rfl); (case hr => first | (go_simp; done) | (go_simp; rfl)); (case hp => exact (Reps.none _ _)); intro v123 w14 ho15 hb hg_ hnew_; clear hg_ hnew_; (first | rw [← Ny122.out] at ho15 | (simp only [Int.reduceToNat] at ho15; rw [← Ny122.out] at ho15)); have n0_ := Zaa.mk (Kd.Zck (by (with_reducible repeat (first | apply Kd.Za6 | apply Kd.Za5 | apply Kd.Zbb)); exact (fatR1 (Kd.Zc HO121.out BK114.out (by decide)))) (Kd.Zb6 ho15) hb); have n1_ := Zaa.mk (Kd.Zbs (Kd.Zc3 ho15 (Kd.R_lt (by (with_reducible repeat (first | apply Kd.Za6 | apply Kd.Za5 | apply Kd.Zbb)); exact (fatR1 (Kd.Zc HO121.out BK114.out (by decide)))))) (Zae (by repeat (first | (with_reducible first | exact HB.out | apply Zab | apply Za | apply Zac | refine Zaf ?_ GE114.out | refine Zaf ?_ GE115.out) | exact HB.out)))); have n2_ := Zaa.mk (Zbe (g := gb114) (o := .cells #[.int .i64 a0_0, .slice Ao12 y119.length co12, .slice A0_2 l0_2.length c0_2, .int .i64 a0_3, .int .i64 a0_4, .slice A0_5 l0_5.length c0_5, .int .i64 a0_6] 25 (0, 0)) (by (with_reducible repeat (first | refine Zag ?_ _ | refine Zak ?_ | refine Zad ?_ _)); refine Zbl (cs := #[.int .i64 a0_0, .slice A0_1 l0_1.length c0_1, .slice A0_2 l0_2.length c0_2, .int .i64 a0_3, .int .i64 a0_4, .slice A0_5 l0_5.length c0_5, .int .i64 a0_6]) ?_ 1 _ rfl; (with_reducible repeat (first | refine Zag ?_ _ | refine Zak ?_ | refine Zad ?_ _)); exact BK114.out) hb); have n3_ := Zaa.mk (Zbe (g := gb115) (o := .cells #[.int .i64 0, .slice none 0 0, .slice none 0 0, .int .i64 0, .int .i64 0, .slice none 0 0, .int .i64 0] 25 (0, 0)) (by (with_reducible repeat (first | refine Zag ?_ _ | refine Zak ?_ | refine Zad ?_ _)); refine Zcb ?_ NB115_114.out _; (with_reducible repeat (first | refine Zag ?_ _ | refine Zak ?_ | refine Zad ?_ _)); exact BK115.out) hb); have n4_ := Zaa.mk (Zam (by repeat (first | (with_reducible first | exact HB.out | apply Zab | apply Za | apply Zac | refine Zaf ?_ GE114.out | refine Zaf ?_ GE115.out) | exact HB.out)) hb); clear HO121; clear BK114; clear BK115; clear HB; have HO121 := n0_; have HO124 := n1_; have BK114 := n2_; have BK115 := n3_; have HB := n4_; clear n0_ n1_ n2_ n3_ n4_; clear hb ho15; obtain ⟨hcz16_0, hcz16_1, hcz16_2, hcz16_3, hcz16_4, hcz16_5, hcz16_6, hfz16_0, hfz16_1, hfz16_2, hfz16_3, hfz16_4, hfz16_5, hfz16_6⟩ := Zcg BK114.out) | ((with_reducible refine Zbk (b := .append) (xs := #[.tmp 8, .tmp 10]) rfl ?_); at_builtin; refine Kd.Zdd (Kd.int .i64) (w0 := w) w.heap.size rfl (.tmp 8) (.tmp 10) 23 3 (.int .i64 0) 8 rfl Try.underlying23 info3 rfl (by decide) (by omega) v123 y122 l0_2 _ _ _ (fun k_ => some k_ ≠ (.slice Ao12 y119.length co12 : Value).ownBlock) (fun _ => False) rfl rfl ?aO ?aR (fun _ _ h => h) (fun _ h => h.elim) ?aF ?aB ?aS ?aL ?_; (case aR => repeat (first | exact (Kd.Za8 HR0_2.out HB.out) | (with_reducible refine Kd.C_alloc ?_ _) | (with_reducible refine Kd.Za0 ?_ _) | (with_reducible refine Kd.C_drew ?_))); (case aB => exact (by repeat (first | (with_reducible first | exact HB.out | apply Zab | apply Za | apply Zac | refine Zaf ?_ GE114.out | refine Zaf ?_ GE115.out) | exact HB.out))); (case aF => exact (fun k_ hk => Kd.fresh' (Kd.R_lt (by (with_reducible repeat (first | apply Kd.Za6 | apply Kd.Za5 | apply Kd.Zbb)); exact HO121.out)) k_ hk)); (case aO => exact (by (with_reducible repeat (first | apply Kd.Za6 | apply Kd.Za5 | apply Kd.Zbb)); exact Kd.Zbm HO124.out (fun _ hk => hk.2))); (case aS => exact (Zae (by repeat (first | (with_reducible first | exact HB.out | apply Zab | apply Za | apply Zac | refine Zaf ?_ GE114.out | refine Zaf ?_ GE115.out) | exact HB.out)))); (case aL => have := LMc3.out; omega); intro v126 w17 ho hb hg hat; rw [← Ny125.out] at ho; have n0_ := Zaa.mk (Zcv (g := gb114) (o := .cells #[.int .i64 a0_0, .slice Ao12 y119.length co12, .slice A0_2 l0_2.length c0_2, .int .i64 a0_3, .int .i64 a0_4, .slice A0_5 l0_5.length c0_5, .int .i64 a0_6] 25 (0, 0)) (by (with_reducible repeat (first | refine Zag ?_ _ | refine Zak ?_ | refine Zad ?_ _)); exact BK114.out) hg (Kd.R_ne HO124.out BK114.out (by decide))); have n1_ := Zaa.mk (Zcv (g := gb115) (o := .cells #[.int .i64 0, .slice none 0 0, .slice none 0 0, .int .i64 0, .int .i64 0, .slice none 0 0, .int .i64 0] 25 (0, 0)) (by (with_reducible repeat (first | refine Zag ?_ _ | refine Zak ?_ | refine Zad ?_ _)); exact BK115.out) hg (Kd.R_ne HO124.out BK115.out (by decide))); have n2_ := Zaa.mk (Kd.Zc9 (ok := (fun _ => True)) (by (with_reducible repeat (first | apply Kd.Za6 | apply Kd.Za5 | apply Kd.Zbb)); exact HO121.out) hg hat); have n3_ := Zaa.mk (hb); have n4_ := Zaa.mk (ho); clear BK114; clear BK115; clear HO121; clear HB; clear HO124; have BK114 := n0_; have BK115 := n1_; have HO121 := n2_; have HB := n3_; have HO127 := n4_; clear n0_ n1_ n2_ n3_ n4_; clear ho hb hg hat; obtain ⟨Ao18, co18, eo18⟩ := Kd.Zbn HO127.out; subst eo18; obtain ⟨hcz19_0, hcz19_1, hcz19_2, hcz19_3, hcz19_4, hcz19_5, hcz19_6, hfz19_0, hfz19_1, hfz19_2, hfz19_3, hfz19_4, hfz19_5, hfz19_6⟩ := Zcg BK114.out) | ((with_reducible refine Zbo (f := 17) rfl ?_); refine Zcr (some 15) rfl rfl Try.func17 (by kernel_rfl) rfl #[.slice A0_5 l0_5.length c0_5] rfl (by (try simp only [List.map_toArray, List.map_cons, List.map_nil]); first | done | rfl | (simp only [List.length_drop, List.length_take]; rfl)) ?_; (refine withB (m := w.heap.size) (w0 := w) (by repeat (first | (with_reducible first | exact HB.out | apply Zab | apply Za | apply Zac | refine Zaf ?_ GE114.out | refine Zaf ?_ GE115.out) | exact HB.out)) ?_); intro hL_; (with_reducible refine (Zb.calls k _ _ l0_5 t128 _ ?side1 ?side2 A4.out).mono ?_); (case side1 => exact Kd.Za8 HR0_5.out hL_); (case side2 => exact HC0_5.out); rintro e w20 ⟨v129, rfl, ho0, hb⟩; refine ⟨_, rfl, ?_⟩; have n0_ := Zaa.mk (Kd.Zca (by (with_reducible repeat (first | apply Kd.Za6 | apply Kd.Za5 | apply Kd.Zbb)); exact (fatR1 (Kd.Zc HO121.out BK114.out (by decide)))) hb); have n1_ := Zaa.mk (Kd.Zca (by (with_reducible repeat (first | apply Kd.Za6 | apply Kd.Za5 | apply Kd.Zbb)); exact (fatR1 (Kd.Zc HO127.out BK114.out (by decide)))) hb); have n2_ := Zaa.mk (Kd.Zgi (Kd.S_new' (Kd.S_new' ho0 (Kd.R_lt (by (with_reducible repeat (first | apply Kd.Za6 | apply Kd.Za5 | apply Kd.Zbb)); exact (fatR1 (Kd.Zc HO121.out BK114.out (by decide)))))) (Kd.R_lt (by (with_reducible repeat (first | apply Kd.Za6 | apply Kd.Za5 | apply Kd.Zbb)); exact (fatR1 (Kd.Zc HO127.out BK114.out (by decide)))))) (Zae hL_)); have n3_ := Zaa.mk (Zbe (g := gb114) (o := .cells #[.int .i64 a0_0, .slice Ao12 y119.length co12, .slice Ao18 y125.length co18, .int .i64 a0_3, .int .i64 a0_4, .slice A0_5 l0_5.length c0_5, .int .i64 a0_6] 25 (0, 0)) (by (with_reducible repeat (first | refine Zag ?_ _ | refine Zak ?_ | refine Zad ?_ _)); refine Zbl (cs := #[.int .i64 a0_0, .slice Ao12 y119.length co12, .slice A0_2 l0_2.length c0_2, .int .i64 a0_3, .int .i64 a0_4, .slice A0_5 l0_5.length c0_5, .int .i64 a0_6]) ?_ 2 _ rfl; (with_reducible repeat (first | refine Zag ?_ _ | refine Zak ?_ | refine Zad ?_ _)); exact BK114.out) hb); have n4_ := Zaa.mk (Zbe (g := gb115) (o := .cells #[.int .i64 0, .slice none 0 0, .slice none 0 0, .int .i64 0, .int .i64 0, .slice none 0 0, .int .i64 0] 25 (0, 0)) (by (with_reducible repeat (first | refine Zag ?_ _ | refine Zak ?_ | refine Zad ?_ _)); refine Zcb ?_ NB115_114.out _; (with_reducible repeat (first | refine Zag ?_ _ | refine Zak ?_ | refine Zad ?_ _)); exact BK115.out) hb); have n5_ := Zaa.mk (Zam hL_ hb); clear HO121; clear HO127; clear BK114; clear BK115; clear HB; have HO121 := n0_; have HO127 := n1_; have HO130 := n2_; have BK114 := n3_; have BK115 := n4_; have HB := n5_; clear n0_ n1_ n2_ n3_ n4_ n5_; (try clear hb); (try clear hb2); (try clear hk); (try clear hi); (try clear ho0); obtain ⟨Ao21, co21, eo21⟩ := Kd.Zgj HO130.out; subst eo21; obtain ⟨hcz22_0, hcz22_1, hcz22_2, hcz22_3, hcz22_4, hcz22_5, hcz22_6, hfz22_0, hfz22_1, hfz22_2, hfz22_3, hfz22_4, hfz22_5, hfz22_6⟩ := Zcg BK114.out; obtain ⟨hcz23_0, hcz23_1, hcz23_2, hcz23_3, hcz23_4, hcz23_5, hcz23_6, hfz23_0, hfz23_1, hfz23_2, hfz23_3, hfz23_4, hfz23_5, hfz23_6⟩ := Zcg BK115.out))
 refine bodyPost_ret (results_cell_row rfl _ _ gb115 25 #[.int .i64 a0_0, .slice Ao12 y119.length co12, .slice Ao18 y125.length co18, .int .i64 a0_3, .int .i64 a0_4, .slice Ao21 t128.length co21, .int .i64 a0_6] (0, 0) _ rfl (by (with_reducible repeat (first | refine Zag ?_ _ | refine Zak ?_ | refine Zad ?_ _)); refine Zbl (cs := #[.int .i64 a0_0, .slice Ao12 y119.length co12, .slice Ao18 y125.length co18, .int .i64 a0_3, .int .i64 a0_4, .slice Ao21 t128.length co21, .int .i64 0]) ?_ 6 _ rfl; (with_reducible repeat (first | refine Zag ?_ _ | refine Zak ?_ | refine Zad ?_ _)); refine Zbl (cs := #[.int .i64 a0_0, .slice Ao12 y119.length co12, .slice Ao18 y125.length co18, .int .i64 a0_3, .int .i64 a0_4, .slice none 0 0, .int .i64 0]) ?_ 5 _ rfl; (with_reducible repeat (first | refine Zag ?_ _ | refine Zak ?_ | refine Zad ?_ _)); refine Zbl (cs := #[.int .i64 a0_0, .slice Ao12 y119.length co12, .slice Ao18 y125.length co18, .int .i64 a0_3, .int .i64 0, .slice none 0 0, .int .i64 0]) ?_ 4 _ rfl; (with_reducible repeat (first | refine Zag ?_ _ | refine Zak ?_ | refine Zad ?_ _)); refine Zbl (cs := #[.int .i64 a0_0, .slice Ao12 y119.length co12, .slice Ao18 y125.length co18, .int .i64 0, .int .i64 0, .slice none 0 0, .int .i64 0]) ?_ 3 _ rfl; (with_reducible repeat (first | refine Zag ?_ _ | refine Zak ?_ | refine Zad ?_ _)); refine Zbl (cs := #[.int .i64 a0_0, .slice Ao12 y119.length co12, .slice none 0 0, .int .i64 0, .int .i64 0, .slice none 0 0, .int .i64 0]) ?_ 2 _ rfl; (with_reducible repeat (first | refine Zag ?_ _ | refine Zak ?_ | refine Zad ?_ _)); refine Zbl (cs := #[.int .i64 a0_0, .slice none 0 0, .slice none 0 0, .int .i64 0, .int .i64 0, .slice none 0 0, .int .i64 0]) ?_ 1 _ rfl; (with_reducible repeat (first | refine Zag ?_ _ | refine Zak ?_ | refine Zad ?_ _)); refine Zbl (cs := #[.int .i64 0, .slice none 0 0, .slice none 0 0, .int .i64 0, .int .i64 0, .slice none 0 0, .int .i64 0]) ?_ 0 _ rfl; (with_reducible repeat (first | refine Zag ?_ _ | refine Zak ?_ | refine Zad ?_ _)); refine Zcb ?_ NB115_114.out _; (with_reducible repeat (first | refine Zag ?_ _ | refine Zak ?_ | refine Zad ?_ _)); exact BK115.out) Try.underlying25 rfl (by kernel_rfl)) rfl ?_
 exact ⟨_, _, _, by first | rfl | (simp [Za1, Za2] <;> rfl) | (simp [*, Za1, Za2] <;> rfl), by (with_reducible repeat (first | apply Kd.Za6 | apply Kd.Za5 | apply Kd.Zbb)); exact Kd.Zbm (Kd.Zb5 (p := ⟨gb115, 6, none⟩) (Kd.Zb5 (p := ⟨gb115, 5, none⟩) (Kd.Zb5 (p := ⟨gb115, 4, none⟩) (Kd.Zb5 (p := ⟨gb115, 3, none⟩) (Kd.Zb5 (p := ⟨gb115, 2, none⟩) (Kd.Zb5 (p := ⟨gb115, 1, none⟩) (Kd.Zb5 (p := ⟨gb115, 0, none⟩) (Kd.Zb5 (p := ⟨gb114, 5, none⟩) (Kd.Zc (Kd.Zc HO121.out BK114.out (by decide)) BK115.out (by decide)) (fun _ hk => hk.1.2) (.slice Ao21 t128.length co21)) (fun _ hk => hk.2) (.int .i64 a0_0)) (fun _ hk => hk.2) (.slice Ao12 y119.length co12)) (fun _ hk => hk.2) (.slice Ao18 y125.length co18)) (fun _ hk => hk.2) (.int .i64 a0_3)) (fun _ hk => hk.2) (.int .i64 a0_4)) (fun _ hk => hk.2) (.slice Ao21 t128.length co21)) (fun _ hk => hk.2) (.int .i64 a0_6)) (fun _ hk => hk.1.1.2), by (with_reducible repeat (first | apply Kd.Za6 | apply Kd.Za5 | apply Kd.Zbb)); exact Kd.Zbm (Kd.Zb5 (p := ⟨gb115, 6, none⟩) (Kd.Zb5 (p := ⟨gb115, 5, none⟩) (Kd.Zb5 (p := ⟨gb115, 4, none⟩) (Kd.Zb5 (p := ⟨gb115, 3, none⟩) (Kd.Zb5 (p := ⟨gb115, 2, none⟩) (Kd.Zb5 (p := ⟨gb115, 1, none⟩) (Kd.Zb5 (p := ⟨gb115, 0, none⟩) (Kd.Zb5 (p := ⟨gb114, 5, none⟩) (Kd.Zc (Kd.Zc HO127.out BK114.out (by decide)) BK115.out (by decide)) (fun _ hk => hk.1.2) (.slice Ao21 t128.length co21)) (fun _ hk => hk.2) (.int .i64 a0_0)) (fun _ hk => hk.2) (.slice Ao12 y119.length co12)) (fun _ hk => hk.2) (.slice Ao18 y125.length co18)) (fun _ hk => hk.2) (.int .i64 a0_3)) (fun _ hk => hk.2) (.int .i64 a0_4)) (fun _ hk => hk.2) (.slice Ao21 t128.length co21)) (fun _ hk => hk.2) (.int .i64 a0_6)) (fun _ hk => hk.1.1), by (with_reducible repeat (first | apply Kd.Zd | apply Kd.S_drewN | apply Kd.Zdh)); exact Kd.Zc5 (Kd.Zcc (p := ⟨gb115, 6, none⟩) (Kd.Zcc (p := ⟨gb115, 5, none⟩) (Kd.Zcc (p := ⟨gb115, 4, none⟩) (Kd.Zcc (p := ⟨gb115, 3, none⟩) (Kd.Zcc (p := ⟨gb115, 2, none⟩) (Kd.Zcc (p := ⟨gb115, 1, none⟩) (Kd.Zcc (p := ⟨gb115, 0, none⟩) (Kd.Zcc (p := ⟨gb114, 5, none⟩) (Kd.Zdl (Kd.Zdl HO130.out BK114.out (by decide)) BK115.out (by decide)) (fun _ hk => hk.1.2) (.slice Ao21 t128.length co21)) (fun _ hk => hk.2) (.int .i64 a0_0)) (fun _ hk => hk.2) (.slice Ao12 y119.length co12)) (fun _ hk => hk.2) (.slice Ao18 y125.length co18)) (fun _ hk => hk.2) (.int .i64 a0_3)) (fun _ hk => hk.2) (.int .i64 a0_4)) (fun _ hk => hk.2) (.slice Ao21 t128.length co21)) (fun _ hk => hk.2) (.int .i64 a0_6)) (fun _ hk => ⟨hk.1.1.1.2, hk.1.1.2⟩), by repeat (first | (with_reducible first | exact HB.out | apply Zab | apply Za | apply Zac | refine Zaf ?_ GE114.out | refine Zaf ?_ GE115.out) | exact HB.out)⟩
def Zby.f (k : Nat) (a0_0 : Int) (l0_1 : List Int) (l0_2 : List Int) (a0_3 : Int) (a0_4 : Int) (l0_5 : List (List Int)) (a0_6 : Int) : Option (List Int) := (some (([] : List Int) : List Int)).bind fun y201 => (if y201.length + l0_1.length < 17592186044416 then ((some (y201 ++ l0_1 : List Int)).bind fun y204 => (if a0_0 = 4 then (if y204.length < 17592186044416 then ((Zah.f k (y204 ++ [a0_6])).bind fun t210 => (some t210)) else (none)) else ((Zah.f k y204).bind fun t213 => (some t213)))) else (none))
theorem Zby.mono : ∀ a0 a1 a2 a3 a4 a5 a6 k, LeO (Zby.f k a0 a1 a2 a3 a4 a5 a6) (Zby.f (k + 1) a0 a1 a2 a3 a4 a5 a6) := by
 intro a0 a1 a2 a3 a4 a5 a6 k
 unfold Zby.f
 repeat' first
   | (with_reducible exact Zah.mono _ _)
   | (with_reducible exact LeO.refl _)
   | (with_reducible exact LeO.none _)
   | (with_reducible refine LeO.ite ?_ ?_)
   | (with_reducible refine LeO.bind ?_ (fun _ => ?_))
   | exact Zah.mono _ _
   | exact LeO.none _
   | refine LeO.ite ?_ ?_
   | refine LeO.bind ?_ (fun _ => ?_)
set_option maxHeartbeats 8000000 in
set_option maxRecDepth 100000 in
theorem Zby.calls (k : Nat) (a0_0 : Int) (A0_1 : Option Addr) (c0_1 : Nat) (l0_1 : List Int) (A0_2 : Option Addr) (c0_2 : Nat) (l0_2 : List Int) (a0_3 : Int) (a0_4 : Int) (A0_5 : Option Addr) (c0_5 : Nat) (l0_5 : List (List Int)) (a0_6 : Int) (r : List Int) (w : World) (hr0_1 : Kd.C (Kd.int .i64) w A0_1 l0_1.length l0_1) (hc0_1 : l0_1.length ≤ c0_1) (hr0_2 : Kd.C (Kd.int .i64) w A0_2 l0_2.length l0_2) (hc0_2 : l0_2.length ≤ c0_2) (hr0_5 : Kd.C (Kd.slice 3 (Kd.int .i64)) w A0_5 l0_5.length l0_5) (hc0_5 : l0_5.length ≤ c0_5) (h : Zby.f k a0_0 l0_1 l0_2 a0_3 a0_4 l0_5 a0_6 = some r) :
  Calls Try.prog 60 #[.agg #[.int .i64 a0_0, .slice A0_1 l0_1.length c0_1, .slice A0_2 l0_2.length c0_2, .int .i64 a0_3, .int .i64 a0_4, .slice A0_5 l0_5.length c0_5, .int .i64 a0_6]] w fun e w' => ∃ v0_ : Value, e = .returned (v0_) ∧ Kd.R (Kd.int .i64) 3 w' w.heap.size (fun _ => True) v0_ r ∧ Below w.heap.size w w' := by
 have hu25 := Try.underlying25
 have HR0_1 := Zaa.mk hr0_1
 have HC0_1 := Zaa.mk hc0_1
 clear hr0_1 hc0_1
 have HR0_2 := Zaa.mk hr0_2
 have HC0_2 := Zaa.mk hc0_2
 clear hr0_2 hc0_2
 have HR0_5 := Zaa.mk hr0_5
 have HC0_5 := Zaa.mk hc0_5
 clear hr0_5 hc0_5
 have HB := Zaa.mk (Below.refl w.heap.size w)
 have H : ((some (([] : List Int) : List Int)).bind fun y201 => (if y201.length + l0_1.length < 17592186044416 then ((some (y201 ++ l0_1 : List Int)).bind fun y204 => (if a0_0 = 4 then (if y204.length < 17592186044416 then ((Zah.f k (y204 ++ [a0_6])).bind fun t210 => (some t210)) else (none)) else ((Zah.f k y204).bind fun t213 => (some t213)))) else (none))) = some r := h
 clear h
 obtain ⟨y201, hy201⟩ : ∃ y_ : List Int, y_ = (([] : List Int)) := ⟨_, rfl⟩
 replace H : (if y201.length + l0_1.length < 17592186044416 then ((some (y201 ++ l0_1 : List Int)).bind fun y204 => (if a0_0 = 4 then (if y204.length < 17592186044416 then ((Zah.f k (y204 ++ [a0_6])).bind fun t210 => (some t210)) else (none)) else ((Zah.f k y204).bind fun t213 => (some t213)))) else (none)) = some r := by first | (rw [hy201]; with_reducible exact H) | (have H2_ := (Option.bind_some _ _).symm.trans H; rw [hy201]; with_reducible exact H2_) | (have H2_ := (Option.bind_some _ _).symm.trans H; with_reducible exact H2_) | with_reducible exact H | (rw [hy201]; exact H) | exact H
 have Ny201 := Zaa.mk hy201
 clear hy201
 by_cases c2 : y201.length + l0_1.length < 17592186044416
 rotate_left
 ·rw [if_neg c2] at H
  exact absurd H (by simp)
 rw [if_pos c2] at H
 have LMc2 := Zaa.mk c2
 clear c2
 obtain ⟨y204, hy204⟩ : ∃ y_ : List Int, y_ = (y201 ++ l0_1) := ⟨_, rfl⟩
 replace H : (if a0_0 = 4 then (if y204.length < 17592186044416 then ((Zah.f k (y204 ++ [a0_6])).bind fun t210 => (some t210)) else (none)) else ((Zah.f k y204).bind fun t213 => (some t213))) = some r := by first | (rw [hy204]; with_reducible exact H) | (have H2_ := (Option.bind_some _ _).symm.trans H; rw [hy204]; with_reducible exact H2_) | (have H2_ := (Option.bind_some _ _).symm.trans H; with_reducible exact H2_) | with_reducible exact H | (rw [hy204]; exact H) | exact H
 have Ny204 := Zaa.mk hy204
 clear hy204
 by_cases c3 : a0_0 = 4
 rotate_left
 ·rw [if_neg c3] at H
  have c3b0 : (a0_0 == 4) = false := beq_eq_false_iff_ne.mpr c3
  have c3b1 : (a0_0 != 4) = true := bne_iff_ne.mpr c3
  replace H := Option.bind_eq_some_iff.mp H
  obtain ⟨t213, A150, H⟩ := H
  replace H : (some t213) = some r := H
  have A15 := Zaa.mk A150
  clear A150
  obtain rfl := Option.some.inj H
  go_enter Try.func60, Try.ntmps60
  go_wp2_with (first | ((with_reducible refine Zbq (N := 1) rfl ?_); refine Zb9 ?hg (N := 1) ?hd (cs := #[.int .i64 a0_0, .slice A0_1 l0_1.length c0_1, .slice A0_2 l0_2.length c0_2, .int .i64 a0_3, .int .i64 a0_4, .slice A0_5 l0_5.length c0_5, .int .i64 a0_6]) (t := 25) ?hr ?_; (case hd => rfl); (case hg => rfl); (case hr => first | (go_simp; done) | (go_simp; rfl)); intro gb200 hg w16 hbox hb; have n0_ := Zaa.mk (Zam (by repeat (first | (with_reducible first | exact HB.out | apply Zab | apply Za | apply Zac) | exact HB.out)) hb); have n1_ := Zaa.mk (hbox); have n3_ := Zaa.mk ((by rw [hg]; exact (Zae (by repeat (first | (with_reducible first | exact HB.out | apply Zab | apply Za | apply Zac) | exact HB.out))) : w.heap.size ≤ gb200)); clear HB; have HB := n0_; have BK200 := n1_; have GE200 := n3_; clear n0_ n1_ n3_; clear hb hbox hg) | ((with_reducible refine Zbq (N := 4) rfl ?_); refine Kd.Zds (Kd.int .i64) _ 3 ?hg (N := 4) ?hd (xs := ([] : List Int)) (inner := []) (ok := fun _ => True) (okp := fun _ => True) ?hr ?hp (fun _ hk => hk) trivial (Below.refl _ _) (Nat.le_refl _) (by simp) ?_; (case hd => rfl); (case hg => rfl); (case hr => first | (go_simp; done) | (go_simp; rfl)); (case hp => exact (Reps.none _ _)); intro v202 w17 ho18 hb hg_ hnew_; clear hg_ hnew_; (first | rw [← Ny201.out] at ho18 | (simp only [Int.reduceToNat] at ho18; rw [← Ny201.out] at ho18)); have n0_ := Zaa.mk (Kd.Zbs ho18 (Zae (by repeat (first | (with_reducible first | exact HB.out | apply Zab | apply Za | apply Zac | refine Zaf ?_ GE200.out) | exact HB.out)))); have n1_ := Zaa.mk (Zbe (g := gb200) (o := .cells #[.int .i64 a0_0, .slice A0_1 l0_1.length c0_1, .slice A0_2 l0_2.length c0_2, .int .i64 a0_3, .int .i64 a0_4, .slice A0_5 l0_5.length c0_5, .int .i64 a0_6] 25 (0, 0)) (mvK BK200.out) hb); have n2_ := Zaa.mk (Zam (by repeat (first | (with_reducible first | exact HB.out | apply Zab | apply Za | apply Zac | refine Zaf ?_ GE200.out) | exact HB.out)) hb); clear BK200; clear HB; have HO203 := n0_; have BK200 := n1_; have HB := n2_; clear n0_ n1_ n2_; clear hb ho18; obtain ⟨hcz19_0, hcz19_1, hcz19_2, hcz19_3, hcz19_4, hcz19_5, hcz19_6, hfz19_0, hfz19_1, hfz19_2, hfz19_3, hfz19_4, hfz19_5, hfz19_6⟩ := Zcg BK200.out) | ((with_reducible refine Zbk (b := .append) (xs := #[.tmp 4, .tmp 6]) rfl ?_); at_builtin; refine Kd.Zdd (Kd.int .i64) (w0 := w) w.heap.size rfl (.tmp 4) (.tmp 6) 23 3 (.int .i64 0) 8 rfl Try.underlying23 info3 rfl (by decide) (by omega) v202 y201 l0_1 _ _ _ (fun _ => True) (fun _ => False) rfl rfl ?aO ?aR (fun _ _ h => h) (fun _ h => h.elim) ?aF ?aB ?aS ?aL ?_; (case aR => repeat (first | exact (Kd.Za8 HR0_1.out HB.out) | (with_reducible refine Kd.C_alloc ?_ _) | (with_reducible refine Kd.Za0 ?_ _) | (with_reducible refine Kd.C_drew ?_))); (case aB => exact (by repeat (first | (with_reducible first | exact HB.out | apply Zab | apply Za | apply Zac | refine Zaf ?_ GE200.out) | exact HB.out))); (case aF => exact (fun _ _ => trivial)); (case aO => exact (mvR HO203.out)); (case aS => exact (Zae (by repeat (first | (with_reducible first | exact HB.out | apply Zab | apply Za | apply Zac | refine Zaf ?_ GE200.out) | exact HB.out)))); (case aL => have := LMc2.out; omega); intro v205 w20 ho hb hg hat; rw [← Ny204.out] at ho; have n0_ := Zaa.mk (Zcv (g := gb200) (o := .cells #[.int .i64 a0_0, .slice A0_1 l0_1.length c0_1, .slice A0_2 l0_2.length c0_2, .int .i64 a0_3, .int .i64 a0_4, .slice A0_5 l0_5.length c0_5, .int .i64 a0_6] 25 (0, 0)) (mvK BK200.out) hg (Kd.R_ne HO203.out BK200.out (by decide))); have n1_ := Zaa.mk (hb); have n2_ := Zaa.mk (ho); clear BK200; clear HB; clear HO203; have BK200 := n0_; have HB := n1_; have HO206 := n2_; clear n0_ n1_ n2_; clear ho hb hg hat; obtain ⟨hcz21_0, hcz21_1, hcz21_2, hcz21_3, hcz21_4, hcz21_5, hcz21_6, hfz21_0, hfz21_1, hfz21_2, hfz21_3, hfz21_4, hfz21_5, hfz21_6⟩ := Zcg BK200.out; obtain ⟨Ao22, co22, eo22⟩ := Kd.Zbn HO206.out; subst eo22) | ((with_reducible refine Zbo (f := 38) rfl ?_); refine Zcr (some 17) rfl rfl Try.func38 (by kernel_rfl) rfl #[.slice Ao22 y204.length co22] rfl (by (try simp only [List.map_toArray, List.map_cons, List.map_nil]); first | done | rfl | (simp only [List.length_drop, List.length_take]; rfl)) ?_; (refine withB (m := w.heap.size) (w0 := w) (by repeat (first | (with_reducible first | exact HB.out | apply Zab | apply Za | apply Zac | refine Zaf ?_ GE200.out) | exact HB.out)) ?_); intro hL_; (with_reducible refine (Zah.calls k _ _ y204 t213 _ ?side1 ?side2 A15.out).mono ?_); (case side1 => repeat (first | exact (Kd.Zaz HO206.out).2.2 | (with_reducible refine Kd.C_alloc ?_ _) | (with_reducible refine Kd.Za0 ?_ _) | (with_reducible refine Kd.C_drew ?_))); (case side2 => exact (Kd.Zaz HO206.out).2.1); rintro e w23 ⟨v214, rfl, ho0, hb⟩; refine ⟨_, rfl, ?_⟩; have n1_ := Zaa.mk (Kd.Zbs (Kd.Zc3 ho0 (Kd.R_lt (mvR HO206.out))) (Zae hL_)); have n3_ := Zaa.mk (Zam hL_ hb); clear HO206; clear BK200; clear HB; have HO215 := n1_; have HB := n3_; clear n1_ n3_; (try clear hb); (try clear hb2); (try clear hk); (try clear hi); (try clear ho0)))
  go_ret
  exact ⟨_, by first | rfl | (simp [Za1, Za2] <;> rfl) | (simp [*, Za1, Za2] <;> rfl), by (with_reducible repeat (first | apply Kd.Za6 | apply Kd.Za5 | apply Kd.Zbb)); exact Kd.Zbm HO215.out (fun _ hk => trivial), by repeat (first | (with_reducible first | exact HB.out | apply Zab | apply Za | apply Zac | refine Zaf ?_ GE200.out) | exact HB.out)⟩
 rw [if_pos c3] at H
 have c3b0 : (a0_0 == 4) = true := beq_iff_eq.mpr c3
 have c3b1 : (a0_0 != 4) = false := bne_eq_false_iff_eq.mpr c3
 clear c3
 by_cases c4 : y204.length < 17592186044416
 rotate_left
 ·rw [if_neg c4] at H
  exact absurd H (by simp)
 rw [if_pos c4] at H
 have LMc4 := Zaa.mk c4
 clear c4
 obtain ⟨y207, hy207⟩ : ∃ y_ : List Int, y_ = (y204 ++ [a0_6]) := ⟨_, rfl⟩
 replace H : ((Zah.f k y207).bind fun t210 => (some t210)) = some r := by first | (rw [hy207]; with_reducible exact H) | (have H2_ := (Option.bind_some _ _).symm.trans H; rw [hy207]; with_reducible exact H2_) | (have H2_ := (Option.bind_some _ _).symm.trans H; with_reducible exact H2_) | with_reducible exact H | (rw [hy207]; exact H) | exact H
 have Ny207 := Zaa.mk hy207
 clear hy207
 replace H := Option.bind_eq_some_iff.mp H
 obtain ⟨t210, A50, H⟩ := H
 replace H : (some t210) = some r := H
 have A5 := Zaa.mk A50
 clear A50
 obtain rfl := Option.some.inj H
 go_enter Try.func60, Try.ntmps60
 go_wp2_with (first | ((with_reducible refine Zbq (N := 1) rfl ?_); refine Zb9 ?hg (N := 1) ?hd (cs := #[.int .i64 a0_0, .slice A0_1 l0_1.length c0_1, .slice A0_2 l0_2.length c0_2, .int .i64 a0_3, .int .i64 a0_4, .slice A0_5 l0_5.length c0_5, .int .i64 a0_6]) (t := 25) ?hr ?_; (case hd => rfl); (case hg => rfl); (case hr => first | (go_simp; done) | (go_simp; rfl)); intro gb200 hg w6 hbox hb; have n0_ := Zaa.mk (Zam (by repeat (first | (with_reducible first | exact HB.out | apply Zab | apply Za | apply Zac) | exact HB.out)) hb); have n1_ := Zaa.mk (hbox); have n3_ := Zaa.mk ((by rw [hg]; exact (Zae (by repeat (first | (with_reducible first | exact HB.out | apply Zab | apply Za | apply Zac) | exact HB.out))) : w.heap.size ≤ gb200)); clear HB; have HB := n0_; have BK200 := n1_; have GE200 := n3_; clear n0_ n1_ n3_; clear hb hbox hg) | ((with_reducible refine Zbq (N := 4) rfl ?_); refine Kd.Zds (Kd.int .i64) _ 3 ?hg (N := 4) ?hd (xs := ([] : List Int)) (inner := []) (ok := fun _ => True) (okp := fun _ => True) ?hr ?hp (fun _ hk => hk) trivial (Below.refl _ _) (Nat.le_refl _) (by simp) ?_; (case hd => rfl); (case hg => rfl); (case hr => first | (go_simp; done) | (go_simp; rfl)); (case hp => exact (Reps.none _ _)); intro v202 w7 ho8 hb hg_ hnew_; clear hg_ hnew_; (first | rw [← Ny201.out] at ho8 | (simp only [Int.reduceToNat] at ho8; rw [← Ny201.out] at ho8)); have n0_ := Zaa.mk (Kd.Zbs ho8 (Zae (by repeat (first | (with_reducible first | exact HB.out | apply Zab | apply Za | apply Zac | refine Zaf ?_ GE200.out) | exact HB.out)))); have n1_ := Zaa.mk (Zbe (g := gb200) (o := .cells #[.int .i64 a0_0, .slice A0_1 l0_1.length c0_1, .slice A0_2 l0_2.length c0_2, .int .i64 a0_3, .int .i64 a0_4, .slice A0_5 l0_5.length c0_5, .int .i64 a0_6] 25 (0, 0)) (mvK BK200.out) hb); have n2_ := Zaa.mk (Zam (by repeat (first | (with_reducible first | exact HB.out | apply Zab | apply Za | apply Zac | refine Zaf ?_ GE200.out) | exact HB.out)) hb); clear BK200; clear HB; have HO203 := n0_; have BK200 := n1_; have HB := n2_; clear n0_ n1_ n2_; clear hb ho8; obtain ⟨hcz9_0, hcz9_1, hcz9_2, hcz9_3, hcz9_4, hcz9_5, hcz9_6, hfz9_0, hfz9_1, hfz9_2, hfz9_3, hfz9_4, hfz9_5, hfz9_6⟩ := Zcg BK200.out) | ((with_reducible refine Zbk (b := .append) (xs := #[.tmp 4, .tmp 6]) rfl ?_); at_builtin; refine Kd.Zdd (Kd.int .i64) (w0 := w) w.heap.size rfl (.tmp 4) (.tmp 6) 23 3 (.int .i64 0) 8 rfl Try.underlying23 info3 rfl (by decide) (by omega) v202 y201 l0_1 _ _ _ (fun _ => True) (fun _ => False) rfl rfl ?aO ?aR (fun _ _ h => h) (fun _ h => h.elim) ?aF ?aB ?aS ?aL ?_; (case aR => repeat (first | exact (Kd.Za8 HR0_1.out HB.out) | (with_reducible refine Kd.C_alloc ?_ _) | (with_reducible refine Kd.Za0 ?_ _) | (with_reducible refine Kd.C_drew ?_))); (case aB => exact (by repeat (first | (with_reducible first | exact HB.out | apply Zab | apply Za | apply Zac | refine Zaf ?_ GE200.out) | exact HB.out))); (case aF => exact (fun _ _ => trivial)); (case aO => exact (mvR HO203.out)); (case aS => exact (Zae (by repeat (first | (with_reducible first | exact HB.out | apply Zab | apply Za | apply Zac | refine Zaf ?_ GE200.out) | exact HB.out)))); (case aL => have := LMc2.out; omega); intro v205 w10 ho hb hg hat; rw [← Ny204.out] at ho; have n0_ := Zaa.mk (Zcv (g := gb200) (o := .cells #[.int .i64 a0_0, .slice A0_1 l0_1.length c0_1, .slice A0_2 l0_2.length c0_2, .int .i64 a0_3, .int .i64 a0_4, .slice A0_5 l0_5.length c0_5, .int .i64 a0_6] 25 (0, 0)) (mvK BK200.out) hg (Kd.R_ne HO203.out BK200.out (by decide))); have n1_ := Zaa.mk (hb); have n2_ := Zaa.mk (ho); clear BK200; clear HB; clear HO203; have BK200 := n0_; have HB := n1_; have HO206 := n2_; clear n0_ n1_ n2_; clear ho hb hg hat; obtain ⟨hcz11_0, hcz11_1, hcz11_2, hcz11_3, hcz11_4, hcz11_5, hcz11_6, hfz11_0, hfz11_1, hfz11_2, hfz11_3, hfz11_4, hfz11_5, hfz11_6⟩ := Zcg BK200.out) | ((with_reducible refine Zbk (b := .append) (xs := #[.tmp 11, .tmp 14]) rfl ?_); at_builtin; refine Kd.Zcd (Kd.int .i64) (w0 := w) w.heap.size rfl (.tmp 11) (.tmp 14) 23 3 (.int .i64 0) 8 rfl Try.underlying23 info3 rfl (by decide) (by omega) v205 y204 a0_6 [.int .i64 a0_6] (fun _ => True) (fun _ => False) rfl rfl ?aP (fun _ hk => hk.elim) ?aF ?aO ?aB ?aS ?aL ?_; (case aP => exact rfl); (case aB => exact (by repeat (first | (with_reducible first | exact HB.out | apply Zab | apply Za | apply Zac | refine Zaf ?_ GE200.out) | exact HB.out))); (case aF => exact (fun _ _ => trivial)); (case aO => exact (mvR HO206.out)); (case aS => exact (Zae (by repeat (first | (with_reducible first | exact HB.out | apply Zab | apply Za | apply Zac | refine Zaf ?_ GE200.out) | exact HB.out)))); (case aL => have := LMc4.out; omega); intro v208 w12 ho hb hg hat; rw [← Ny207.out] at ho; have n1_ := Zaa.mk (hb); have n2_ := Zaa.mk (ho); clear BK200; clear HB; clear HO206; have HB := n1_; have HO209 := n2_; clear n1_ n2_; clear ho hb hg hat; obtain ⟨Ao13, co13, eo13⟩ := Kd.Zbn HO209.out; subst eo13) | ((with_reducible refine Zbo (f := 38) rfl ?_); refine Zcr (some 17) rfl rfl Try.func38 (by kernel_rfl) rfl #[.slice Ao13 y207.length co13] rfl (by (try simp only [List.map_toArray, List.map_cons, List.map_nil]); first | done | rfl | (simp only [List.length_drop, List.length_take]; rfl)) ?_; (refine withB (m := w.heap.size) (w0 := w) (by repeat (first | (with_reducible first | exact HB.out | apply Zab | apply Za | apply Zac | refine Zaf ?_ GE200.out) | exact HB.out)) ?_); intro hL_; (with_reducible refine (Zah.calls k _ _ y207 t210 _ ?side1 ?side2 A5.out).mono ?_); (case side1 => repeat (first | exact (Kd.Zaz HO209.out).2.2 | (with_reducible refine Kd.C_alloc ?_ _) | (with_reducible refine Kd.Za0 ?_ _) | (with_reducible refine Kd.C_drew ?_))); (case side2 => exact (Kd.Zaz HO209.out).2.1); rintro e w14 ⟨v211, rfl, ho0, hb⟩; refine ⟨_, rfl, ?_⟩; have n1_ := Zaa.mk (Kd.Zbs (Kd.Zc3 ho0 (Kd.R_lt (mvR HO209.out))) (Zae hL_)); have n3_ := Zaa.mk (Zam hL_ hb); clear HO209; clear HB; have HO212 := n1_; have HB := n3_; clear n1_ n3_; (try clear hb); (try clear hb2); (try clear hk); (try clear hi); (try clear ho0)))
 go_ret
 exact ⟨_, by first | rfl | (simp [Za1, Za2] <;> rfl) | (simp [*, Za1, Za2] <;> rfl), by (with_reducible repeat (first | apply Kd.Za6 | apply Kd.Za5 | apply Kd.Zbb)); exact Kd.Zbm HO212.out (fun _ hk => trivial), by repeat (first | (with_reducible first | exact HB.out | apply Zab | apply Za | apply Zac | refine Zaf ?_ GE200.out) | exact HB.out)⟩
mutual
def Zar.l0 : Nat → List Int → Int → Option (Bool)
 | 0, _, _ => none
 | k + 1, x0, x3 => if x3 < (x0.length : Int) then (Zar.l1 k x0 x3 0) else (some true)
def Zar.l1 : Nat → List Int → Int → Int → Option (Bool)
 | 0, _, _, _ => none
 | k + 1, x0, x3, x4 => if x4 < x3 then (if 0 ≤ x3 then (if x3 < (x0.length : Int) then (if 0 ≤ x4 then (if x4 < (x0.length : Int) then (if (rd x0 x3) = (rd x0 x4) then (some false) else (Zar.l1 k x0 x3 (wrap64 (x4 + 1)))) else (none)) else (none)) else (none)) else (none)) else (Zar.l0 k x0 (wrap64 (x3 + 1)))
end
def Zar.f (k : Nat) (l0 : List Int) : Option (Bool) := Zar.l0 k l0 0
theorem Zar.Zb4 : ∀ k, (∀ y0 y1, LeO (Zar.l0 k y0 y1) (Zar.l0 (k + 1) y0 y1)) ∧ (∀ y0 y1 y2, LeO (Zar.l1 k y0 y1 y2) (Zar.l1 (k + 1) y0 y1 y2))
 | 0 => ⟨fun _ _ r h => by simp [Zar.l0] at h, fun _ _ _ r h => by simp [Zar.l1] at h⟩
 | k + 1 => by
  obtain ⟨ih0, ih1⟩ := Zar.Zb4 k
  refine ⟨?_, ?_⟩
  ·intro y0 y1
   unfold Zar.l0
   repeat' first
   | (with_reducible exact ih0 _ _)
   | (with_reducible exact ih1 _ _ _)
   | (with_reducible exact LeO.refl _)
   | (with_reducible exact LeO.none _)
   | (with_reducible refine LeO.ite ?_ ?_)
   | (with_reducible refine LeO.bind ?_ (fun _ => ?_))
   | exact ih0 _ _
   | exact ih1 _ _ _
   | exact LeO.none _
   | refine LeO.ite ?_ ?_
   | refine LeO.bind ?_ (fun _ => ?_)
  intro y0 y1 y2
  unfold Zar.l1
  repeat' first
  | (with_reducible exact ih0 _ _)
  | (with_reducible exact ih1 _ _ _)
  | (with_reducible exact LeO.refl _)
  | (with_reducible exact LeO.none _)
  | (with_reducible refine LeO.ite ?_ ?_)
  | (with_reducible refine LeO.bind ?_ (fun _ => ?_))
  | exact ih0 _ _
  | exact ih1 _ _ _
  | exact LeO.none _
  | refine LeO.ite ?_ ?_
  | refine LeO.bind ?_ (fun _ => ?_)
theorem Zar.mono : ∀ a0 k, LeO (Zar.f k a0) (Zar.f (k + 1) a0) := by
 intro a0 k
 obtain ⟨ih0, ih1⟩ := Zar.Zb4 k
 unfold Zar.f
 repeat' first
   | (with_reducible exact ih0 _ _)
   | (with_reducible exact ih1 _ _ _)
   | (with_reducible exact LeO.refl _)
   | (with_reducible exact LeO.none _)
   | (with_reducible refine LeO.ite ?_ ?_)
   | (with_reducible refine LeO.bind ?_ (fun _ => ?_))
   | exact ih0 _ _
   | exact ih1 _ _ _
   | exact LeO.none _
   | refine LeO.ite ?_ ?_
   | refine LeO.bind ?_ (fun _ => ?_)
set_option maxHeartbeats 8000000 in
set_option maxRecDepth 100000 in
theorem Zar.calls (k : Nat) (A0 : Option Addr) (c0 : Nat) (l0 : List Int) (r : Bool) (w : World) (hr0 : Kd.C (Kd.int .i64) w A0 l0.length l0) (hc0 : l0.length ≤ c0) (h : Zar.f k l0 = some r) :
  Calls Try.prog 86 #[.slice A0 l0.length c0] w fun e w' => e = .returned (.bool r) ∧ Zbw w w' := by
 have HR0 := Zaa.mk hr0
 have HC0 := Zaa.mk hc0
 clear hr0 hc0
 have H : (Zar.l0 k l0 0) = some r := h
 clear h
 have H' := Zaa.mk H
 clear H
 go_enter Try.func86, Try.ntmps86
 go_wp2
 repeat (go_quiet (fail); try go_wp2)
 go_loopg [3] k (fun kq v3 w' => ∃ (x3_1 : Int), v3 = .int .i64 x3_1 ∧ Zaa (Zar.l0 kq l0 x3_1 = some r) ∧ Zaa (kq ≤ k) ∧ Zbw w w')
 case atStart => exact ⟨(0), (by first | rfl | (simp; done) | (simp [*]; done)), H', ⟨Nat.le_refl _⟩, by repeat (first | exact Zbw.refl _ | apply Zbw.step)⟩
 case round =>
  clear H'
  obtain ⟨x3_1, rfl, HA, HK1, ⟨m1, rfl⟩⟩ := hrel
  cases gk with
  | zero => exact absurd HA.out (by simp [Zar.l0])
  | succ k1 =>
   have H := HA.out
   clear HA
   simp only [Zar.l0] at H
   by_cases c2 : x3_1 < (l0.length : Int)
   rotate_left
   ·rw [if_neg c2] at H
    have c2b0 : decide (x3_1 < (l0.length : Int)) = false := decide_eq_false c2
    clear c2
    obtain rfl := Option.some.inj H
    go_wp2
    repeat (go_quiet (fail); try go_wp2)
    go_ret
    exact ⟨by first | rfl | (simp; done) | (simp [*]; done), by repeat (first | exact Zbw.refl _ | apply Zbw.step)⟩
   rw [if_pos c2] at H
   have c2b0 : decide (x3_1 < (l0.length : Int)) = true := decide_eq_true c2
   clear c2
   have H' := Zaa.mk H
   clear H
   go_wp2
   repeat (go_quiet (fail); try go_wp2)
   go_loopg [4] k1 (fun kq v4 w' => ∃ (x4_2 : Int), v4 = .int .i64 x4_2 ∧ Zaa (Zar.l1 kq l0 x3_1 x4_2 = some r) ∧ Zaa (kq ≤ k1) ∧ Zbw w w')
   case atStart => exact ⟨(0), (by first | rfl | (simp; done) | (simp [*]; done)), H', ⟨Nat.le_refl _⟩, by repeat (first | exact Zbw.refl _ | apply Zbw.step)⟩
   case round =>
    clear H'
    try clear c2
    try clear c2b0
    try clear p2
    obtain ⟨x4_2, rfl, HA, HK2, ⟨m2, rfl⟩⟩ := hrel
    cases gk with
    | zero => exact absurd HA.out (by simp [Zar.l1])
    | succ k2 =>
     have H := HA.out
     clear HA
     simp only [Zar.l1] at H
     by_cases c3 : x4_2 < x3_1
     rotate_left
     ·rw [if_neg c3] at H
      have c3b0 : decide (x4_2 < x3_1) = false := decide_eq_false c3
      clear c3
      have H' := Zaa.mk H
      clear H
      go_wp2
      repeat (go_quiet (fail); try go_wp2)
      go_roundg k2
      case measure => have := HK1.out; have := HK2.out; omega
      case rel => exact ⟨(wrap64 (x3_1 + 1)), (by first | rfl | (simp; done) | (simp [*]; done)), H', ⟨by have := HK1.out; have := HK2.out; omega⟩, by repeat (first | exact Zbw.refl _ | apply Zbw.step)⟩
     rw [if_pos c3] at H
     have c3b0 : decide (x4_2 < x3_1) = true := decide_eq_true c3
     clear c3
     by_cases c4 : 0 ≤ x3_1
     rotate_left
     ·rw [if_neg c4] at H
      exact absurd H (by simp)
     rw [if_pos c4] at H
     have c4b0 : decide (0 ≤ x3_1) = true := decide_eq_true c4
     clear c4
     by_cases c5 : x3_1 < (l0.length : Int)
     rotate_left
     ·rw [if_neg c5] at H
      exact absurd H (by simp)
     rw [if_pos c5] at H
     have c5b0 : decide (x3_1 < (l0.length : Int)) = true := decide_eq_true c5
     clear c5
     by_cases c6 : 0 ≤ x4_2
     rotate_left
     ·rw [if_neg c6] at H
      exact absurd H (by simp)
     rw [if_pos c6] at H
     have c6b0 : decide (0 ≤ x4_2) = true := decide_eq_true c6
     clear c6
     by_cases c7 : x4_2 < (l0.length : Int)
     rotate_left
     ·rw [if_neg c7] at H
      exact absurd H (by simp)
     rw [if_pos c7] at H
     have c7b0 : decide (x4_2 < (l0.length : Int)) = true := decide_eq_true c7
     clear c7
     by_cases c8 : (rd l0 x3_1) = (rd l0 x4_2)
     ·rw [if_pos c8] at H
      have c8b0 : ((rd l0 x3_1) == (rd l0 x4_2)) = true := beq_iff_eq.mpr c8
      have c8b1 : ((rd l0 x3_1) != (rd l0 x4_2)) = false := bne_eq_false_iff_eq.mpr c8
      clear c8
      obtain rfl := Option.some.inj H
      have p216 : 0 ≤ (x3_1 : Int) := of_decide_eq_true (by first | (with_reducible assumption) | assumption)
      have q216 : x3_1 < (l0.length : Int) := of_decide_eq_true (by first | (with_reducible assumption) | assumption)
      obtain ⟨ad216, e216, hx216_0⟩ := Kd.Zbx HR0.out x3_1 p216 q216
      cases e216
      replace p216 := eq_true p216
      replace q216 := eq_true q216
      have p217 : 0 ≤ (x4_2 : Int) := of_decide_eq_true (by first | (with_reducible assumption) | assumption)
      have q217 : x4_2 < (l0.length : Int) := of_decide_eq_true (by first | (with_reducible assumption) | assumption)
      obtain ⟨ad217, e217, hx217_0⟩ := Kd.Zbx HR0.out x4_2 p217 q217
      obtain rfl : ad216 = ad217 := (by injection e217)
      replace p217 := eq_true p217
      replace q217 := eq_true q217
      go_wp2
      repeat (go_quiet (fail); try go_wp2)
      go_ret
      exact ⟨by first | rfl | (simp; done) | (simp [*]; done), by repeat (first | exact Zbw.refl _ | apply Zbw.step)⟩
     rw [if_neg c8] at H
     have c8b0 : ((rd l0 x3_1) == (rd l0 x4_2)) = false := beq_eq_false_iff_ne.mpr c8
     have c8b1 : ((rd l0 x3_1) != (rd l0 x4_2)) = true := bne_iff_ne.mpr c8
     have H' := Zaa.mk H
     clear H
     have p216 : 0 ≤ (x3_1 : Int) := of_decide_eq_true (by first | (with_reducible assumption) | assumption)
     have q216 : x3_1 < (l0.length : Int) := of_decide_eq_true (by first | (with_reducible assumption) | assumption)
     obtain ⟨ad216, e216, hx216_0⟩ := Kd.Zbx HR0.out x3_1 p216 q216
     cases e216
     replace p216 := eq_true p216
     replace q216 := eq_true q216
     have p217 : 0 ≤ (x4_2 : Int) := of_decide_eq_true (by first | (with_reducible assumption) | assumption)
     have q217 : x4_2 < (l0.length : Int) := of_decide_eq_true (by first | (with_reducible assumption) | assumption)
     obtain ⟨ad217, e217, hx217_0⟩ := Kd.Zbx HR0.out x4_2 p217 q217
     obtain rfl : ad216 = ad217 := (by injection e217)
     replace p217 := eq_true p217
     replace q217 := eq_true q217
     go_wp2
     repeat (go_quiet (fail); try go_wp2)
     go_roundg k2
     case measure => have := HK1.out; have := HK2.out; omega
     case rel => exact ⟨(wrap64 (x4_2 + 1)), (by first | rfl | (simp; done) | (simp [*]; done)), H', ⟨by have := HK1.out; have := HK2.out; omega⟩, by repeat (first | exact Zbw.refl _ | apply Zbw.step)⟩
mutual
def Zau.l0 : Nat → Int → Int → List Int → List Int → Int → Int → List (List Int) → Int → Option (Bool)
 | 0, _, _, _, _, _, _, _, _ => none
 | k + 1, x3, x222000, x222001, x222002, x222003, x222004, x222005, x222006 => if x3 < (x222005.length : Int) then (if 0 ≤ x3 then (if ((Zci x222005 x3).length : Int) = (x222001.length : Int) then (Zau.l1 k x3 0 x222000 x222001 x222002 x222003 x222004 x222005 x222006) else (some false)) else (none)) else (some (decide ((x222005.length : Int) ≤ 1024)))
def Zau.l1 : Nat → Int → Int → Int → List Int → List Int → Int → Int → List (List Int) → Int → Option (Bool)
 | 0, _, _, _, _, _, _, _, _, _ => none
 | k + 1, x3, x4, x222000, x222001, x222002, x222003, x222004, x222005, x222006 => if 0 ≤ x3 then (if x3 < (x222005.length : Int) then (if x4 < ((Zci x222005 x3).length : Int) then (if 0 ≤ x4 then ((Zb1.f (rd (Zci x222005 x3) x4)).bind fun t226 => (if t226 = true then (Zau.l1 k x3 (wrap64 (x4 + 1)) x222000 x222001 x222002 x222003 x222004 x222005 x222006) else (some false))) else (none)) else (Zau.l0 k (wrap64 (x3 + 1)) x222000 x222001 x222002 x222003 x222004 x222005 x222006)) else (none)) else (none)
end
def Zau.f (k : Nat) (a0_0 : Int) (l0_1 : List Int) (l0_2 : List Int) (a0_3 : Int) (a0_4 : Int) (l0_5 : List (List Int)) (a0_6 : Int) : Option (Bool) := Zau.l0 k 0 a0_0 l0_1 l0_2 a0_3 a0_4 l0_5 a0_6
theorem Zau.Zb4 : ∀ k, (∀ y0 y1 y2 y3 y4 y5 y6 y7, LeO (Zau.l0 k y0 y1 y2 y3 y4 y5 y6 y7) (Zau.l0 (k + 1) y0 y1 y2 y3 y4 y5 y6 y7)) ∧ (∀ y0 y1 y2 y3 y4 y5 y6 y7 y8, LeO (Zau.l1 k y0 y1 y2 y3 y4 y5 y6 y7 y8) (Zau.l1 (k + 1) y0 y1 y2 y3 y4 y5 y6 y7 y8))
 | 0 => ⟨fun _ _ _ _ _ _ _ _ r h => by simp [Zau.l0] at h, fun _ _ _ _ _ _ _ _ _ r h => by simp [Zau.l1] at h⟩
 | k + 1 => by
  obtain ⟨ih0, ih1⟩ := Zau.Zb4 k
  refine ⟨?_, ?_⟩
  ·intro y0 y1 y2 y3 y4 y5 y6 y7
   unfold Zau.l0
   repeat' first
   | (with_reducible exact ih0 _ _ _ _ _ _ _ _)
   | (with_reducible exact ih1 _ _ _ _ _ _ _ _ _)
   | (with_reducible exact LeO.refl _)
   | (with_reducible exact LeO.none _)
   | (with_reducible refine LeO.ite ?_ ?_)
   | (with_reducible refine LeO.bind ?_ (fun _ => ?_))
   | exact ih0 _ _ _ _ _ _ _ _
   | exact ih1 _ _ _ _ _ _ _ _ _
   | exact LeO.none _
   | refine LeO.ite ?_ ?_
   | refine LeO.bind ?_ (fun _ => ?_)
  intro y0 y1 y2 y3 y4 y5 y6 y7 y8
  unfold Zau.l1
  repeat' first
  | (with_reducible exact ih0 _ _ _ _ _ _ _ _)
  | (with_reducible exact ih1 _ _ _ _ _ _ _ _ _)
  | (with_reducible exact LeO.refl _)
  | (with_reducible exact LeO.none _)
  | (with_reducible refine LeO.ite ?_ ?_)
  | (with_reducible refine LeO.bind ?_ (fun _ => ?_))
  | exact ih0 _ _ _ _ _ _ _ _
  | exact ih1 _ _ _ _ _ _ _ _ _
  | exact LeO.none _
  | refine LeO.ite ?_ ?_
  | refine LeO.bind ?_ (fun _ => ?_)
theorem Zau.mono : ∀ a0 a1 a2 a3 a4 a5 a6 k, LeO (Zau.f k a0 a1 a2 a3 a4 a5 a6) (Zau.f (k + 1) a0 a1 a2 a3 a4 a5 a6) := by
 intro a0 a1 a2 a3 a4 a5 a6 k
 obtain ⟨ih0, ih1⟩ := Zau.Zb4 k
 unfold Zau.f
 repeat' first
   | (with_reducible exact ih0 _ _ _ _ _ _ _ _)
   | (with_reducible exact ih1 _ _ _ _ _ _ _ _ _)
   | (with_reducible exact LeO.refl _)
   | (with_reducible exact LeO.none _)
   | (with_reducible refine LeO.ite ?_ ?_)
   | (with_reducible refine LeO.bind ?_ (fun _ => ?_))
   | exact ih0 _ _ _ _ _ _ _ _
   | exact ih1 _ _ _ _ _ _ _ _ _
   | exact LeO.none _
   | refine LeO.ite ?_ ?_
   | refine LeO.bind ?_ (fun _ => ?_)
set_option maxHeartbeats 8000000 in
set_option maxRecDepth 100000 in
theorem Zau.calls (k : Nat) (a0_0 : Int) (A0_1 : Option Addr) (c0_1 : Nat) (l0_1 : List Int) (A0_2 : Option Addr) (c0_2 : Nat) (l0_2 : List Int) (a0_3 : Int) (a0_4 : Int) (A0_5 : Option Addr) (c0_5 : Nat) (l0_5 : List (List Int)) (a0_6 : Int) (r : Bool) (w : World) (hr0_1 : Kd.C (Kd.int .i64) w A0_1 l0_1.length l0_1) (hc0_1 : l0_1.length ≤ c0_1) (hr0_2 : Kd.C (Kd.int .i64) w A0_2 l0_2.length l0_2) (hc0_2 : l0_2.length ≤ c0_2) (hr0_5 : Kd.C (Kd.slice 3 (Kd.int .i64)) w A0_5 l0_5.length l0_5) (hc0_5 : l0_5.length ≤ c0_5) (h : Zau.f k a0_0 l0_1 l0_2 a0_3 a0_4 l0_5 a0_6 = some r) :
  Calls Try.prog 88 #[.agg #[.int .i64 a0_0, .slice A0_1 l0_1.length c0_1, .slice A0_2 l0_2.length c0_2, .int .i64 a0_3, .int .i64 a0_4, .slice A0_5 l0_5.length c0_5, .int .i64 a0_6]] w fun e w' => e = .returned (.bool r) ∧ Below w.heap.size w w' := by
 have hu25 := Try.underlying25
 have HR0_1 := Zaa.mk hr0_1
 have HC0_1 := Zaa.mk hc0_1
 clear hr0_1 hc0_1
 have HR0_2 := Zaa.mk hr0_2
 have HC0_2 := Zaa.mk hc0_2
 clear hr0_2 hc0_2
 have HR0_5 := Zaa.mk hr0_5
 have HC0_5 := Zaa.mk hc0_5
 clear hr0_5 hc0_5
 have HB := Zaa.mk (Below.refl w.heap.size w)
 have H : (Zau.l0 k 0 a0_0 l0_1 l0_2 a0_3 a0_4 l0_5 a0_6) = some r := h
 clear h
 have H' := Zaa.mk H
 clear H
 go_enter Try.func88, Try.ntmps88
 go_wp2_with (first | ((with_reducible refine Zbq (N := 1) rfl ?_); refine Zb9 ?hg (N := 1) ?hd (cs := #[.int .i64 a0_0, .slice A0_1 l0_1.length c0_1, .slice A0_2 l0_2.length c0_2, .int .i64 a0_3, .int .i64 a0_4, .slice A0_5 l0_5.length c0_5, .int .i64 a0_6]) (t := 25) ?hr ?_; (case hd => rfl); (case hg => rfl); (case hr => first | (go_simp; done) | (go_simp; rfl)); intro gb221 hg w2 hbox hb; have n0_ := Zaa.mk (Zam (by repeat (first | (with_reducible first | exact HB.out | apply Zab | apply Za | apply Zac) | exact HB.out)) hb); have n1_ := Zaa.mk (hbox); have n3_ := Zaa.mk ((by rw [hg]; exact (Zae (by repeat (first | (with_reducible first | exact HB.out | apply Zab | apply Za | apply Zac) | exact HB.out))) : w.heap.size ≤ gb221)); clear HB; have HB := n0_; have BK221 := n1_; have GE221 := n3_; clear n0_ n1_ n3_; clear hb hbox hg))
 repeat (go_quiet (first | ((with_reducible refine Zbq (N := 1) rfl ?_); refine Zb9 ?hg (N := 1) ?hd (cs := #[.int .i64 a0_0, .slice A0_1 l0_1.length c0_1, .slice A0_2 l0_2.length c0_2, .int .i64 a0_3, .int .i64 a0_4, .slice A0_5 l0_5.length c0_5, .int .i64 a0_6]) (t := 25) ?hr ?_; (case hd => rfl); (case hg => rfl); (case hr => first | (go_simp; done) | (go_simp; rfl)); intro gb221 hg w2 hbox hb; have n0_ := Zaa.mk (Zam (by repeat (first | (with_reducible first | exact HB.out | apply Zab | apply Za | apply Zac) | exact HB.out)) hb); have n1_ := Zaa.mk (hbox); have n3_ := Zaa.mk ((by rw [hg]; exact (Zae (by repeat (first | (with_reducible first | exact HB.out | apply Zab | apply Za | apply Zac) | exact HB.out))) : w.heap.size ≤ gb221)); clear HB; have HB := n0_; have BK221 := n1_; have GE221 := n3_; clear n0_ n1_ n3_; clear hb hbox hg)); try go_wp2_with (first | ((with_reducible refine Zbq (N := 1) rfl ?_); refine Zb9 ?hg (N := 1) ?hd (cs := #[.int .i64 a0_0, .slice A0_1 l0_1.length c0_1, .slice A0_2 l0_2.length c0_2, .int .i64 a0_3, .int .i64 a0_4, .slice A0_5 l0_5.length c0_5, .int .i64 a0_6]) (t := 25) ?hr ?_; (case hd => rfl); (case hg => rfl); (case hr => first | (go_simp; done) | (go_simp; rfl)); intro gb221 hg w2 hbox hb; have n0_ := Zaa.mk (Zam (by repeat (first | (with_reducible first | exact HB.out | apply Zab | apply Za | apply Zac) | exact HB.out)) hb); have n1_ := Zaa.mk (hbox); have n3_ := Zaa.mk ((by rw [hg]; exact (Zae (by repeat (first | (with_reducible first | exact HB.out | apply Zab | apply Za | apply Zac) | exact HB.out))) : w.heap.size ≤ gb221)); clear HB; have HB := n0_; have BK221 := n1_; have GE221 := n3_; clear n0_ n1_ n3_; clear hb hbox hg)))
 go_loopg [3] k (fun kq v3 w' => ∃ (x3_1 : Int), v3 = .int .i64 x3_1 ∧ Zaa (Zau.l0 kq x3_1 a0_0 l0_1 l0_2 a0_3 a0_4 l0_5 a0_6 = some r) ∧ Zaa (kq ≤ k) ∧ Zaa (w'.heap[gb221]? = some (.cells #[.int .i64 a0_0, (.slice A0_1 l0_1.length c0_1), (.slice A0_2 l0_2.length c0_2), .int .i64 a0_3, .int .i64 a0_4, (.slice A0_5 l0_5.length c0_5), .int .i64 a0_6] 25 (0, 0))) ∧ Zaa (Below w.heap.size w w'))
 case atStart => exact ⟨(0), (by first | rfl | (simp; done) | (simp [*]; done)), H', ⟨Nat.le_refl _⟩, ⟨by (with_reducible repeat (first | refine Zag ?_ _ | refine Zak ?_ | refine Zad ?_ _)); exact BK221.out⟩, ⟨by repeat (first | (with_reducible first | exact HB.out | apply Zab | apply Za | apply Zac | refine Zaf ?_ GE221.out) | exact HB.out)⟩⟩
 case round =>
  clear H'
  try clear p2
  obtain ⟨x3_1, rfl, HA, HK1, BK221, HB⟩ := hrel
  cases gk with
  | zero => exact absurd HA.out (by simp [Zau.l0])
  | succ k1 =>
   have H := HA.out
   clear HA
   simp only [Zau.l0] at H
   by_cases c3 : x3_1 < (l0_5.length : Int)
   rotate_left
   ·rw [if_neg c3] at H
    have c3b0 : decide (x3_1 < (l0_5.length : Int)) = false := decide_eq_false c3
    clear c3
    obtain rfl := Option.some.inj H
    obtain ⟨hcz17_0, hcz17_1, hcz17_2, hcz17_3, hcz17_4, hcz17_5, hcz17_6, hfz17_0, hfz17_1, hfz17_2, hfz17_3, hfz17_4, hfz17_5, hfz17_6⟩ := Zcg BK221.out
    go_wp2
    repeat (go_quiet (fail); try go_wp2)
    go_ret
    exact ⟨by first | rfl | (simp [Za1, Za2] <;> rfl) | (simp [*, Za1, Za2] <;> rfl), by repeat (first | (with_reducible first | exact HB.out | apply Zab | apply Za | apply Zac | refine Zaf ?_ GE221.out) | exact HB.out)⟩
   rw [if_pos c3] at H
   have c3b0 : decide (x3_1 < (l0_5.length : Int)) = true := decide_eq_true c3
   clear c3
   by_cases c4 : 0 ≤ x3_1
   rotate_left
   ·rw [if_neg c4] at H
    exact absurd H (by simp)
   rw [if_pos c4] at H
   have c4b0 : decide (0 ≤ x3_1) = true := decide_eq_true c4
   clear c4
   by_cases c5 : ((Zci l0_5 x3_1).length : Int) = (l0_1.length : Int)
   rotate_left
   ·rw [if_neg c5] at H
    have c5b0 : (((Zci l0_5 x3_1).length : Int) == (l0_1.length : Int)) = false := beq_eq_false_iff_ne.mpr c5
    have c5b1 : (((Zci l0_5 x3_1).length : Int) != (l0_1.length : Int)) = true := bne_iff_ne.mpr c5
    have c5b2 : ((Zci l0_5 x3_1).length == l0_1.length) = false := by first | simpa using c5 | (simp at c5 ⊢; omega)
    obtain rfl := Option.some.inj H
    obtain ⟨hcz16_0, hcz16_1, hcz16_2, hcz16_3, hcz16_4, hcz16_5, hcz16_6, hfz16_0, hfz16_1, hfz16_2, hfz16_3, hfz16_4, hfz16_5, hfz16_6⟩ := Zcg BK221.out
    have p222 : 0 ≤ (x3_1 : Int) := of_decide_eq_true (by first | (with_reducible assumption) | assumption)
    have q222 : x3_1 < (l0_5.length : Int) := of_decide_eq_true (by first | (with_reducible assumption) | assumption)
    obtain ⟨ad222, A222_0, c222_0, e222, hx222_0, hl222_0, hi222_0⟩ := Zf9 HR0_5.out x3_1 p222 q222
    cases e222
    replace hx222_0 := (HB.out.cell (World.block_lt_of_cell? w _ hx222_0)).trans hx222_0
    have HR222_0 := Zaa.mk hi222_0
    have HC222_0 := Zaa.mk hl222_0
    clear hi222_0 hl222_0
    replace p222 := eq_true p222
    replace q222 := eq_true q222
    go_wp2
    repeat (go_quiet (fail); try go_wp2)
    go_ret
    exact ⟨by first | rfl | (simp [Za1, Za2] <;> rfl) | (simp [*, Za1, Za2] <;> rfl), by repeat (first | (with_reducible first | exact HB.out | apply Zab | apply Za | apply Zac | refine Zaf ?_ GE221.out) | exact HB.out)⟩
   rw [if_pos c5] at H
   have c5b0 : (((Zci l0_5 x3_1).length : Int) == (l0_1.length : Int)) = true := beq_iff_eq.mpr c5
   have c5b1 : (((Zci l0_5 x3_1).length : Int) != (l0_1.length : Int)) = false := bne_eq_false_iff_eq.mpr c5
   have c5b2 : ((Zci l0_5 x3_1).length == l0_1.length) = true := by first | simpa using c5 | (simp at c5 ⊢; omega)
   clear c5
   have H' := Zaa.mk H
   clear H
   obtain ⟨hcz6_0, hcz6_1, hcz6_2, hcz6_3, hcz6_4, hcz6_5, hcz6_6, hfz6_0, hfz6_1, hfz6_2, hfz6_3, hfz6_4, hfz6_5, hfz6_6⟩ := Zcg BK221.out
   have p222 : 0 ≤ (x3_1 : Int) := of_decide_eq_true (by first | (with_reducible assumption) | assumption)
   have q222 : x3_1 < (l0_5.length : Int) := of_decide_eq_true (by first | (with_reducible assumption) | assumption)
   obtain ⟨ad222, A222_0, c222_0, e222, hx222_0, hl222_0, hi222_0⟩ := Zf9 HR0_5.out x3_1 p222 q222
   cases e222
   replace hx222_0 := (HB.out.cell (World.block_lt_of_cell? w _ hx222_0)).trans hx222_0
   have HR222_0 := Zaa.mk hi222_0
   have HC222_0 := Zaa.mk hl222_0
   clear hi222_0 hl222_0
   replace p222 := eq_true p222
   replace q222 := eq_true q222
   go_wp2
   repeat (go_quiet (fail); try go_wp2)
   go_loopg [4] k1 (fun kq v4 w' => ∃ (x4_2 : Int), v4 = .int .i64 x4_2 ∧ Zaa (Zau.l1 kq x3_1 x4_2 a0_0 l0_1 l0_2 a0_3 a0_4 l0_5 a0_6 = some r) ∧ Zaa (kq ≤ k1) ∧ Zaa (w'.heap[gb221]? = some (.cells #[.int .i64 a0_0, (.slice A0_1 l0_1.length c0_1), (.slice A0_2 l0_2.length c0_2), .int .i64 a0_3, .int .i64 a0_4, (.slice (some ad222) l0_5.length c0_5), .int .i64 a0_6] 25 (0, 0))) ∧ Zaa (Below w.heap.size w w'))
   case atStart => exact ⟨(0), (by first | rfl | (simp; done) | (simp [*]; done)), H', ⟨Nat.le_refl _⟩, ⟨by (with_reducible repeat (first | refine Zag ?_ _ | refine Zak ?_ | refine Zad ?_ _)); exact BK221.out⟩, ⟨by repeat (first | (with_reducible first | exact HB.out | apply Zab | apply Za | apply Zac | refine Zaf ?_ GE221.out) | exact HB.out)⟩⟩
   case round =>
    clear H'
    try clear c2
    try clear p2
    try clear q2
    try clear hx2
    try clear c3
    try clear c3b0
    try clear c4
    try clear c4b0
    try clear c5
    try clear c5b0
    try clear c5b1
    try clear c5b2
    try clear hcz6_0
    try clear hcz6_1
    try clear hcz6_2
    try clear hcz6_3
    try clear hcz6_4
    try clear hcz6_5
    try clear hcz6_6
    try clear hfz6_0
    try clear hfz6_1
    try clear hfz6_2
    try clear hfz6_3
    try clear hfz6_4
    try clear hfz6_5
    try clear hfz6_6
    try clear hx222_0
    try clear p2
    try clear p222
    try clear q222
    obtain ⟨x4_2, rfl, HA, HK2, BK221, HB⟩ := hrel
    cases gk with
    | zero => exact absurd HA.out (by simp [Zau.l1])
    | succ k2 =>
     have H := HA.out
     clear HA
     simp only [Zau.l1] at H
     by_cases c7 : 0 ≤ x3_1
     rotate_left
     ·rw [if_neg c7] at H
      exact absurd H (by simp)
     rw [if_pos c7] at H
     have c7b0 : decide (0 ≤ x3_1) = true := decide_eq_true c7
     clear c7
     by_cases c8 : x3_1 < (l0_5.length : Int)
     rotate_left
     ·rw [if_neg c8] at H
      exact absurd H (by simp)
     rw [if_pos c8] at H
     have c8b0 : decide (x3_1 < (l0_5.length : Int)) = true := decide_eq_true c8
     clear c8
     by_cases c9 : x4_2 < ((Zci l0_5 x3_1).length : Int)
     rotate_left
     ·rw [if_neg c9] at H
      have c9b0 : decide (x4_2 < ((Zci l0_5 x3_1).length : Int)) = false := decide_eq_false c9
      clear c9
      have H' := Zaa.mk H
      clear H
      obtain ⟨hcz15_0, hcz15_1, hcz15_2, hcz15_3, hcz15_4, hcz15_5, hcz15_6, hfz15_0, hfz15_1, hfz15_2, hfz15_3, hfz15_4, hfz15_5, hfz15_6⟩ := Zcg BK221.out
      have p223 : 0 ≤ (x3_1 : Int) := of_decide_eq_true (by first | (with_reducible assumption) | assumption)
      have q223 : x3_1 < (l0_5.length : Int) := of_decide_eq_true (by first | (with_reducible assumption) | assumption)
      obtain ⟨ad223, A223_0, c223_0, e223, hx223_0, hl223_0, hi223_0⟩ := Zf9 HR0_5.out x3_1 p223 q223
      obtain rfl : ad222 = ad223 := (by injection e223)
      replace hx223_0 := (HB.out.cell (World.block_lt_of_cell? w _ hx223_0)).trans hx223_0
      have HR223_0 := Zaa.mk hi223_0
      have HC223_0 := Zaa.mk hl223_0
      clear hi223_0 hl223_0
      replace p223 := eq_true p223
      replace q223 := eq_true q223
      go_wp2
      repeat (go_quiet (fail); try go_wp2)
      go_roundg k2
      case measure => have := HK1.out; have := HK2.out; omega
      case rel => exact ⟨(wrap64 (x3_1 + 1)), (by first | rfl | (simp; done) | (simp [*]; done)), H', ⟨by have := HK1.out; have := HK2.out; omega⟩, ⟨by (with_reducible repeat (first | refine Zag ?_ _ | refine Zak ?_ | refine Zad ?_ _)); exact BK221.out⟩, ⟨by repeat (first | (with_reducible first | exact HB.out | apply Zab | apply Za | apply Zac | refine Zaf ?_ GE221.out) | exact HB.out)⟩⟩
     rw [if_pos c9] at H
     have c9b0 : decide (x4_2 < ((Zci l0_5 x3_1).length : Int)) = true := decide_eq_true c9
     clear c9
     by_cases c10 : 0 ≤ x4_2
     rotate_left
     ·rw [if_neg c10] at H
      exact absurd H (by simp)
     rw [if_pos c10] at H
     have c10b0 : decide (0 ≤ x4_2) = true := decide_eq_true c10
     clear c10
     replace H := Option.bind_eq_some_iff.mp H
     obtain ⟨t226, A110, H⟩ := H
     replace H : (if t226 = true then (Zau.l1 k2 x3_1 (wrap64 (x4_2 + 1)) a0_0 l0_1 l0_2 a0_3 a0_4 l0_5 a0_6) else (some false)) = some r := H
     have A11 := Zaa.mk A110
     clear A110
     by_cases c12 : t226 = true
     rotate_left
     ·replace c12 := Bool.eq_false_iff.mpr c12
      subst c12
      have H1 : (some false) = some r := by rw [if_neg (show ¬ (false = true) by decide)] at H; exact H
      clear H
      have H := H1
      clear H1
      obtain rfl := Option.some.inj H
      obtain ⟨hcz14_0, hcz14_1, hcz14_2, hcz14_3, hcz14_4, hcz14_5, hcz14_6, hfz14_0, hfz14_1, hfz14_2, hfz14_3, hfz14_4, hfz14_5, hfz14_6⟩ := Zcg BK221.out
      have p223 : 0 ≤ (x3_1 : Int) := of_decide_eq_true (by first | (with_reducible assumption) | assumption)
      have q223 : x3_1 < (l0_5.length : Int) := of_decide_eq_true (by first | (with_reducible assumption) | assumption)
      obtain ⟨ad223, A223_0, c223_0, e223, hx223_0, hl223_0, hi223_0⟩ := Zf9 HR0_5.out x3_1 p223 q223
      obtain rfl : ad222 = ad223 := (by injection e223)
      replace hx223_0 := (HB.out.cell (World.block_lt_of_cell? w _ hx223_0)).trans hx223_0
      have HR223_0 := Zaa.mk hi223_0
      have HC223_0 := Zaa.mk hl223_0
      clear hi223_0 hl223_0
      replace p223 := eq_true p223
      replace q223 := eq_true q223
      have p224 : 0 ≤ (x3_1 : Int) := of_decide_eq_true (by first | (with_reducible assumption) | assumption)
      have q224 : x3_1 < (l0_5.length : Int) := of_decide_eq_true (by first | (with_reducible assumption) | assumption)
      obtain ⟨ad224, A224_0, c224_0, e224, hx224_0, hl224_0, hi224_0⟩ := Zf9 HR0_5.out x3_1 p224 q224
      obtain rfl : ad222 = ad224 := (by injection e224)
      replace hx224_0 := (HB.out.cell (World.block_lt_of_cell? w _ hx224_0)).trans hx224_0
      have HR224_0 := Zaa.mk hi224_0
      have HC224_0 := Zaa.mk hl224_0
      clear hi224_0 hl224_0
      replace p224 := eq_true p224
      replace q224 := eq_true q224
      have ea_ := Option.some.inj (hx223_0.symm.trans hx224_0)
      injection ea_ with ea_ en_ ec_
      subst ea_
      subst ec_
      clear en_
      have p225 : 0 ≤ (x4_2 : Int) := of_decide_eq_true (by first | (with_reducible assumption) | assumption)
      have q225 : x4_2 < ((Zci l0_5 x3_1).length : Int) := of_decide_eq_true (by first | (with_reducible assumption) | assumption)
      obtain ⟨ad225, e225, hx225_0⟩ := Kd.Zbx HR224_0.out x4_2 p225 q225
      cases e225
      replace hx225_0 := (HB.out.cell (World.block_lt_of_cell? w _ hx225_0)).trans hx225_0
      replace p225 := eq_true p225
      replace q225 := eq_true q225
      go_wp2_with (first | (go_at_call 85; (with_reducible refine (Zb1.calls (rd (Zci l0_5 x3_1) x4_2) false _ A11.out).mono ?_); rintro e w' ⟨rfl, ⟨nd, rfl⟩⟩; (try first | exact ⟨rfl, _, World.drewN_drewN _ _ _⟩ | exact ⟨rfl, _, Eq.trans (World.drewN_drewN _ _ _) (congrArg (World.drewN _) (Nat.add_assoc _ _ _))⟩)))
      repeat (go_quiet (first | (go_at_call 85; (with_reducible refine (Zb1.calls (rd (Zci l0_5 x3_1) x4_2) false _ A11.out).mono ?_); rintro e w' ⟨rfl, ⟨nd, rfl⟩⟩; (try first | exact ⟨rfl, _, World.drewN_drewN _ _ _⟩ | exact ⟨rfl, _, Eq.trans (World.drewN_drewN _ _ _) (congrArg (World.drewN _) (Nat.add_assoc _ _ _))⟩))); try go_wp2_with (first | (go_at_call 85; (with_reducible refine (Zb1.calls (rd (Zci l0_5 x3_1) x4_2) false _ A11.out).mono ?_); rintro e w' ⟨rfl, ⟨nd, rfl⟩⟩; (try first | exact ⟨rfl, _, World.drewN_drewN _ _ _⟩ | exact ⟨rfl, _, Eq.trans (World.drewN_drewN _ _ _) (congrArg (World.drewN _) (Nat.add_assoc _ _ _))⟩))))
      go_ret
      exact ⟨by first | rfl | (simp [Za1, Za2] <;> rfl) | (simp [*, Za1, Za2] <;> rfl), by repeat (first | (with_reducible first | exact HB.out | apply Zab | apply Za | apply Zac | refine Zaf ?_ GE221.out) | exact HB.out)⟩
     subst c12
     have H1 : (Zau.l1 k2 x3_1 (wrap64 (x4_2 + 1)) a0_0 l0_1 l0_2 a0_3 a0_4 l0_5 a0_6) = some r := by rw [if_pos rfl] at H; exact H
     clear H
     have H := H1
     clear H1
     have H' := Zaa.mk H
     clear H
     obtain ⟨hcz13_0, hcz13_1, hcz13_2, hcz13_3, hcz13_4, hcz13_5, hcz13_6, hfz13_0, hfz13_1, hfz13_2, hfz13_3, hfz13_4, hfz13_5, hfz13_6⟩ := Zcg BK221.out
     have p223 : 0 ≤ (x3_1 : Int) := of_decide_eq_true (by first | (with_reducible assumption) | assumption)
     have q223 : x3_1 < (l0_5.length : Int) := of_decide_eq_true (by first | (with_reducible assumption) | assumption)
     obtain ⟨ad223, A223_0, c223_0, e223, hx223_0, hl223_0, hi223_0⟩ := Zf9 HR0_5.out x3_1 p223 q223
     obtain rfl : ad222 = ad223 := (by injection e223)
     replace hx223_0 := (HB.out.cell (World.block_lt_of_cell? w _ hx223_0)).trans hx223_0
     have HR223_0 := Zaa.mk hi223_0
     have HC223_0 := Zaa.mk hl223_0
     clear hi223_0 hl223_0
     replace p223 := eq_true p223
     replace q223 := eq_true q223
     have p224 : 0 ≤ (x3_1 : Int) := of_decide_eq_true (by first | (with_reducible assumption) | assumption)
     have q224 : x3_1 < (l0_5.length : Int) := of_decide_eq_true (by first | (with_reducible assumption) | assumption)
     obtain ⟨ad224, A224_0, c224_0, e224, hx224_0, hl224_0, hi224_0⟩ := Zf9 HR0_5.out x3_1 p224 q224
     obtain rfl : ad222 = ad224 := (by injection e224)
     replace hx224_0 := (HB.out.cell (World.block_lt_of_cell? w _ hx224_0)).trans hx224_0
     have HR224_0 := Zaa.mk hi224_0
     have HC224_0 := Zaa.mk hl224_0
     clear hi224_0 hl224_0
     replace p224 := eq_true p224
     replace q224 := eq_true q224
     have ea_ := Option.some.inj (hx223_0.symm.trans hx224_0)
     injection ea_ with ea_ en_ ec_
     subst ea_
     subst ec_
     clear en_
     have p225 : 0 ≤ (x4_2 : Int) := of_decide_eq_true (by first | (with_reducible assumption) | assumption)
     have q225 : x4_2 < ((Zci l0_5 x3_1).length : Int) := of_decide_eq_true (by first | (with_reducible assumption) | assumption)
     obtain ⟨ad225, e225, hx225_0⟩ := Kd.Zbx HR224_0.out x4_2 p225 q225
     cases e225
     replace hx225_0 := (HB.out.cell (World.block_lt_of_cell? w _ hx225_0)).trans hx225_0
     replace p225 := eq_true p225
     replace q225 := eq_true q225
     go_wp2_with (first | (go_at_call 85; (with_reducible refine (Zb1.calls (rd (Zci l0_5 x3_1) x4_2) true _ A11.out).mono ?_); rintro e w' ⟨rfl, ⟨nd, rfl⟩⟩; (try first | exact ⟨rfl, _, World.drewN_drewN _ _ _⟩ | exact ⟨rfl, _, Eq.trans (World.drewN_drewN _ _ _) (congrArg (World.drewN _) (Nat.add_assoc _ _ _))⟩)))
     repeat (go_quiet (first | (go_at_call 85; (with_reducible refine (Zb1.calls (rd (Zci l0_5 x3_1) x4_2) true _ A11.out).mono ?_); rintro e w' ⟨rfl, ⟨nd, rfl⟩⟩; (try first | exact ⟨rfl, _, World.drewN_drewN _ _ _⟩ | exact ⟨rfl, _, Eq.trans (World.drewN_drewN _ _ _) (congrArg (World.drewN _) (Nat.add_assoc _ _ _))⟩))); try go_wp2_with (first | (go_at_call 85; (with_reducible refine (Zb1.calls (rd (Zci l0_5 x3_1) x4_2) true _ A11.out).mono ?_); rintro e w' ⟨rfl, ⟨nd, rfl⟩⟩; (try first | exact ⟨rfl, _, World.drewN_drewN _ _ _⟩ | exact ⟨rfl, _, Eq.trans (World.drewN_drewN _ _ _) (congrArg (World.drewN _) (Nat.add_assoc _ _ _))⟩))))
     go_roundg k2
     case measure => have := HK1.out; have := HK2.out; omega
     case rel => exact ⟨(wrap64 (x4_2 + 1)), (by first | rfl | (simp; done) | (simp [*]; done)), H', ⟨by have := HK1.out; have := HK2.out; omega⟩, ⟨by (with_reducible repeat (first | refine Zag ?_ _ | refine Zak ?_ | refine Zad ?_ _)); exact BK221.out⟩, ⟨by repeat (first | (with_reducible first | exact HB.out | apply Zab | apply Za | apply Zac | refine Zaf ?_ GE221.out) | exact HB.out)⟩⟩
mutual
def Zaj.j0 : Nat → Bool → Int → List Int → List Int → Int → Int → List (List Int) → Int → Option (Bool)
 | 0, _, _, _, _, _, _, _, _ => none
 | k + 1, x5, x236000, x236001, x236002, x236003, x236004, x236005, x236006 => if x5 = true then (Zaj.j1 k ((x236002.length : Int) == 0) x236000 x236001 x236002 x236003 x236004 x236005 x236006) else (Zaj.j1 k false x236000 x236001 x236002 x236003 x236004 x236005 x236006)
def Zaj.j1 : Nat → Bool → Int → List Int → List Int → Int → Int → List (List Int) → Int → Option (Bool)
 | 0, _, _, _, _, _, _, _, _ => none
 | k + 1, x6, x236000, x236001, x236002, x236003, x236004, x236005, x236006 => if x236003 ≥ 0 then (Zaj.j2 k x6 x236000 x236001 x236002 x236003 x236004 x236005 x236006) else (Zaj.j2 k x6 x236000 x236001 x236002 x236003 x236004 x236005 x236006)
def Zaj.j2 : Nat → Bool → Int → List Int → List Int → Int → Int → List (List Int) → Int → Option (Bool)
 | 0, _, _, _, _, _, _, _, _ => none
 | k + 1, x6, x236000, x236001, x236002, x236003, x236004, x236005, x236006 => if (x236001.length : Int) > 0 then ((Zar.f k x236001).bind fun t236 => (Zaj.j3 k x6 t236 x236000 x236001 x236002 x236003 x236004 x236005 x236006)) else (Zaj.j3 k x6 false x236000 x236001 x236002 x236003 x236004 x236005 x236006)
def Zaj.j3 : Nat → Bool → Bool → Int → List Int → List Int → Int → Int → List (List Int) → Int → Option (Bool)
 | 0, _, _, _, _, _, _, _, _, _ => none
 | k + 1, x6, x8, x236000, x236001, x236002, x236003, x236004, x236005, x236006 => if x236000 = 0 then (none) else (if x236000 = 1 then (none) else (if x236000 = 2 then (if x6 = true then (if x8 = true then ((Zau.f k x236000 x236001 x236002 x236003 x236004 x236005 x236006).bind fun t237 => (some t237)) else (some false)) else (some false)) else (if x236000 = 3 then (if (x236005.length : Int) = 0 then (if x6 = true then (if x8 = true then (some (decide ((x236001.length : Int) ≥ 3))) else (some false)) else (some false)) else (some false)) else (none))))
end
def Zaj.f (k : Nat) (l0 : List (List (S41))) (a1_0 : Int) (l1_1 : List Int) (l1_2 : List Int) (a1_3 : Int) (a1_4 : Int) (l1_5 : List (List Int)) (a1_6 : Int) : Option (Bool) := if a1_3 = 0 then (if a1_4 = 0 then (Zaj.j0 k (a1_6 == 0) a1_0 l1_1 l1_2 a1_3 a1_4 l1_5 a1_6) else (Zaj.j0 k false a1_0 l1_1 l1_2 a1_3 a1_4 l1_5 a1_6)) else (Zaj.j0 k false a1_0 l1_1 l1_2 a1_3 a1_4 l1_5 a1_6)
theorem Zaj.Zb4 : ∀ k, (∀ y0 y1 y2 y3 y4 y5 y6 y7, LeO (Zaj.j0 k y0 y1 y2 y3 y4 y5 y6 y7) (Zaj.j0 (k + 1) y0 y1 y2 y3 y4 y5 y6 y7)) ∧ (∀ y0 y1 y2 y3 y4 y5 y6 y7, LeO (Zaj.j1 k y0 y1 y2 y3 y4 y5 y6 y7) (Zaj.j1 (k + 1) y0 y1 y2 y3 y4 y5 y6 y7)) ∧ (∀ y0 y1 y2 y3 y4 y5 y6 y7, LeO (Zaj.j2 k y0 y1 y2 y3 y4 y5 y6 y7) (Zaj.j2 (k + 1) y0 y1 y2 y3 y4 y5 y6 y7)) ∧ (∀ y0 y1 y2 y3 y4 y5 y6 y7 y8, LeO (Zaj.j3 k y0 y1 y2 y3 y4 y5 y6 y7 y8) (Zaj.j3 (k + 1) y0 y1 y2 y3 y4 y5 y6 y7 y8))
 | 0 => ⟨fun _ _ _ _ _ _ _ _ r h => by simp [Zaj.j0] at h, fun _ _ _ _ _ _ _ _ r h => by simp [Zaj.j1] at h, fun _ _ _ _ _ _ _ _ r h => by simp [Zaj.j2] at h, fun _ _ _ _ _ _ _ _ _ r h => by simp [Zaj.j3] at h⟩
 | k + 1 => by
  obtain ⟨ih0, ih1, ih2, ih3⟩ := Zaj.Zb4 k
  refine ⟨?_, ?_, ?_, ?_⟩
  ·intro y0 y1 y2 y3 y4 y5 y6 y7
   unfold Zaj.j0
   repeat' first
   | (with_reducible exact ih0 _ _ _ _ _ _ _ _)
   | (with_reducible exact ih1 _ _ _ _ _ _ _ _)
   | (with_reducible exact ih2 _ _ _ _ _ _ _ _)
   | (with_reducible exact ih3 _ _ _ _ _ _ _ _ _)
   | (with_reducible exact Zar.mono _ _)
   | (with_reducible exact Zau.mono _ _ _ _ _ _ _ _)
   | (with_reducible exact LeO.refl _)
   | (with_reducible exact LeO.none _)
   | (with_reducible refine LeO.ite ?_ ?_)
   | (with_reducible refine LeO.bind ?_ (fun _ => ?_))
   | exact ih0 _ _ _ _ _ _ _ _
   | exact ih1 _ _ _ _ _ _ _ _
   | exact ih2 _ _ _ _ _ _ _ _
   | exact ih3 _ _ _ _ _ _ _ _ _
   | exact Zar.mono _ _
   | exact Zau.mono _ _ _ _ _ _ _ _
   | exact LeO.none _
   | refine LeO.ite ?_ ?_
   | refine LeO.bind ?_ (fun _ => ?_)
  ·intro y0 y1 y2 y3 y4 y5 y6 y7
   unfold Zaj.j1
   repeat' first
   | (with_reducible exact ih0 _ _ _ _ _ _ _ _)
   | (with_reducible exact ih1 _ _ _ _ _ _ _ _)
   | (with_reducible exact ih2 _ _ _ _ _ _ _ _)
   | (with_reducible exact ih3 _ _ _ _ _ _ _ _ _)
   | (with_reducible exact Zar.mono _ _)
   | (with_reducible exact Zau.mono _ _ _ _ _ _ _ _)
   | (with_reducible exact LeO.refl _)
   | (with_reducible exact LeO.none _)
   | (with_reducible refine LeO.ite ?_ ?_)
   | (with_reducible refine LeO.bind ?_ (fun _ => ?_))
   | exact ih0 _ _ _ _ _ _ _ _
   | exact ih1 _ _ _ _ _ _ _ _
   | exact ih2 _ _ _ _ _ _ _ _
   | exact ih3 _ _ _ _ _ _ _ _ _
   | exact Zar.mono _ _
   | exact Zau.mono _ _ _ _ _ _ _ _
   | exact LeO.none _
   | refine LeO.ite ?_ ?_
   | refine LeO.bind ?_ (fun _ => ?_)
  ·intro y0 y1 y2 y3 y4 y5 y6 y7
   unfold Zaj.j2
   repeat' first
   | (with_reducible exact ih0 _ _ _ _ _ _ _ _)
   | (with_reducible exact ih1 _ _ _ _ _ _ _ _)
   | (with_reducible exact ih2 _ _ _ _ _ _ _ _)
   | (with_reducible exact ih3 _ _ _ _ _ _ _ _ _)
   | (with_reducible exact Zar.mono _ _)
   | (with_reducible exact Zau.mono _ _ _ _ _ _ _ _)
   | (with_reducible exact LeO.refl _)
   | (with_reducible exact LeO.none _)
   | (with_reducible refine LeO.ite ?_ ?_)
   | (with_reducible refine LeO.bind ?_ (fun _ => ?_))
   | exact ih0 _ _ _ _ _ _ _ _
   | exact ih1 _ _ _ _ _ _ _ _
   | exact ih2 _ _ _ _ _ _ _ _
   | exact ih3 _ _ _ _ _ _ _ _ _
   | exact Zar.mono _ _
   | exact Zau.mono _ _ _ _ _ _ _ _
   | exact LeO.none _
   | refine LeO.ite ?_ ?_
   | refine LeO.bind ?_ (fun _ => ?_)
  intro y0 y1 y2 y3 y4 y5 y6 y7 y8
  unfold Zaj.j3
  repeat' first
  | (with_reducible exact ih0 _ _ _ _ _ _ _ _)
  | (with_reducible exact ih1 _ _ _ _ _ _ _ _)
  | (with_reducible exact ih2 _ _ _ _ _ _ _ _)
  | (with_reducible exact ih3 _ _ _ _ _ _ _ _ _)
  | (with_reducible exact Zar.mono _ _)
  | (with_reducible exact Zau.mono _ _ _ _ _ _ _ _)
  | (with_reducible exact LeO.refl _)
  | (with_reducible exact LeO.none _)
  | (with_reducible refine LeO.ite ?_ ?_)
  | (with_reducible refine LeO.bind ?_ (fun _ => ?_))
  | exact ih0 _ _ _ _ _ _ _ _
  | exact ih1 _ _ _ _ _ _ _ _
  | exact ih2 _ _ _ _ _ _ _ _
  | exact ih3 _ _ _ _ _ _ _ _ _
  | exact Zar.mono _ _
  | exact Zau.mono _ _ _ _ _ _ _ _
  | exact LeO.none _
  | refine LeO.ite ?_ ?_
  | refine LeO.bind ?_ (fun _ => ?_)
theorem Zaj.mono : ∀ a0 a1 a2 a3 a4 a5 a6 a7 k, LeO (Zaj.f k a0 a1 a2 a3 a4 a5 a6 a7) (Zaj.f (k + 1) a0 a1 a2 a3 a4 a5 a6 a7) := by
 intro a0 a1 a2 a3 a4 a5 a6 a7 k
 obtain ⟨ih0, ih1, ih2, ih3⟩ := Zaj.Zb4 k
 unfold Zaj.f
 repeat' first
   | (with_reducible exact ih0 _ _ _ _ _ _ _ _)
   | (with_reducible exact ih1 _ _ _ _ _ _ _ _)
   | (with_reducible exact ih2 _ _ _ _ _ _ _ _)
   | (with_reducible exact ih3 _ _ _ _ _ _ _ _ _)
   | (with_reducible exact Zar.mono _ _)
   | (with_reducible exact Zau.mono _ _ _ _ _ _ _ _)
   | (with_reducible exact LeO.refl _)
   | (with_reducible exact LeO.none _)
   | (with_reducible refine LeO.ite ?_ ?_)
   | (with_reducible refine LeO.bind ?_ (fun _ => ?_))
   | exact ih0 _ _ _ _ _ _ _ _
   | exact ih1 _ _ _ _ _ _ _ _
   | exact ih2 _ _ _ _ _ _ _ _
   | exact ih3 _ _ _ _ _ _ _ _ _
   | exact Zar.mono _ _
   | exact Zau.mono _ _ _ _ _ _ _ _
   | exact LeO.none _
   | refine LeO.ite ?_ ?_
   | refine LeO.bind ?_ (fun _ => ?_)
set_option maxHeartbeats 8000000 in
set_option maxRecDepth 100000 in
theorem Zaj.calls (k : Nat) (A0 : Option Addr) (c0 : Nat) (l0 : List (List (S41))) (a1_0 : Int) (A1_1 : Option Addr) (c1_1 : Nat) (l1_1 : List Int) (A1_2 : Option Addr) (c1_2 : Nat) (l1_2 : List Int) (a1_3 : Int) (a1_4 : Int) (A1_5 : Option Addr) (c1_5 : Nat) (l1_5 : List (List Int)) (a1_6 : Int) (r : Bool) (w : World) (hr0 : Kd.C (Kd.slice 41 k41) w A0 l0.length l0) (hc0 : l0.length ≤ c0) (hr1_1 : Kd.C (Kd.int .i64) w A1_1 l1_1.length l1_1) (hc1_1 : l1_1.length ≤ c1_1) (hr1_2 : Kd.C (Kd.int .i64) w A1_2 l1_2.length l1_2) (hc1_2 : l1_2.length ≤ c1_2) (hr1_5 : Kd.C (Kd.slice 3 (Kd.int .i64)) w A1_5 l1_5.length l1_5) (hc1_5 : l1_5.length ≤ c1_5) (h : Zaj.f k l0 a1_0 l1_1 l1_2 a1_3 a1_4 l1_5 a1_6 = some r) :
  Calls Try.prog 61 #[.slice A0 l0.length c0, .agg #[.int .i64 a1_0, .slice A1_1 l1_1.length c1_1, .slice A1_2 l1_2.length c1_2, .int .i64 a1_3, .int .i64 a1_4, .slice A1_5 l1_5.length c1_5, .int .i64 a1_6]] w fun e w' => e = .returned (.bool r) ∧ Below w.heap.size w w' := by
 have hu25 := Try.underlying25
 have HR0 := Zaa.mk hr0
 have HC0 := Zaa.mk hc0
 clear hr0 hc0
 have HR1_1 := Zaa.mk hr1_1
 have HC1_1 := Zaa.mk hc1_1
 clear hr1_1 hc1_1
 have HR1_2 := Zaa.mk hr1_2
 have HC1_2 := Zaa.mk hc1_2
 clear hr1_2 hc1_2
 have HR1_5 := Zaa.mk hr1_5
 have HC1_5 := Zaa.mk hc1_5
 clear hr1_5 hc1_5
 have HB := Zaa.mk (Below.refl w.heap.size w)
 have H : (if a1_3 = 0 then (if a1_4 = 0 then (Zaj.j0 k (a1_6 == 0) a1_0 l1_1 l1_2 a1_3 a1_4 l1_5 a1_6) else (Zaj.j0 k false a1_0 l1_1 l1_2 a1_3 a1_4 l1_5 a1_6)) else (Zaj.j0 k false a1_0 l1_1 l1_2 a1_3 a1_4 l1_5 a1_6)) = some r := h
 clear h
 have HC3 := Zaa.mk H
 clear H
 go_enter Try.func61, Try.ntmps61
 go_upto_region 1 with (first | ((with_reducible refine Zbq (N := 3) rfl ?_); (try (refine Zcm (by rfl) ?_; dsimp only)); refine Zb9 ?hg (N := 3) ?hd (cs := #[.int .i64 a1_0, .slice A1_1 l1_1.length c1_1, .slice A1_2 l1_2.length c1_2, .int .i64 a1_3, .int .i64 a1_4, .slice A1_5 l1_5.length c1_5, .int .i64 a1_6]) (t := 25) ?hr ?_; (case hd => rfl); (case hg => rfl); (case hr => first | (go_simp; done) | (go_simp; rfl)); intro gb235 hg w4 hbox hb; have n0_ := Zaa.mk (Zam (by repeat (first | (with_reducible first | exact HB.out | apply Zab | apply Za | apply Zac) | exact HB.out)) hb); have n1_ := Zaa.mk (hbox); have n3_ := Zaa.mk ((by rw [hg]; exact (Zae (by repeat (first | (with_reducible first | exact HB.out | apply Zab | apply Za | apply Zac) | exact HB.out))) : w.heap.size ≤ gb235)); clear HB; have HB := n0_; have BK235 := n1_; have GE235 := n3_; clear n0_ n1_ n3_; clear hb hbox hg))
 (try simp only [Act.put, List.setIfInBounds_toArray, List.set_cons_zero, List.set_cons_succ])
 go_cut [5] (fun v5 wc => ∃ (kq : Nat) (x5_2 : Bool), v5 = .bool x5_2 ∧ Zaa (Zaj.j0 kq x5_2 a1_0 l1_1 l1_2 a1_3 a1_4 l1_5 a1_6 = some r) ∧ Zaa (kq ≤ k) ∧ Zaa (wc.heap[gb235]? = some (.cells #[.int .i64 a1_0, (.slice A1_1 l1_1.length c1_1), (.slice A1_2 l1_2.length c1_2), .int .i64 a1_3, .int .i64 a1_4, (.slice A1_5 l1_5.length c1_5), .int .i64 a1_6] 25 (0, 0))) ∧ Zaa (Below w.heap.size w wc))
 case first =>
  have H := HC3.out
  clear HC3
  by_cases c5 : a1_3 = 0
  rotate_left
  ·rw [if_neg c5] at H
   have c5b0 : (a1_3 == 0) = false := beq_eq_false_iff_ne.mpr c5
   have c5b1 : (a1_3 != 0) = true := bne_iff_ne.mpr c5
   (first | rw [c5b0] | (simp only [Zbh, Zbi]; rw [c5b0]) | skip)
   have H' := Zaa.mk H
   clear H
   obtain ⟨hcz9_0, hcz9_1, hcz9_2, hcz9_3, hcz9_4, hcz9_5, hcz9_6, hfz9_0, hfz9_1, hfz9_2, hfz9_3, hfz9_4, hfz9_5, hfz9_6⟩ := Zcg BK235.out
   go_wp2
   go_meet
   case rel => exact ⟨_, (false), (by first | rfl | (simp; done) | (simp [*]; done)), H', ⟨by first | omega | exact Nat.le_refl _⟩, ⟨by (with_reducible repeat (first | refine Zag ?_ _ | refine Zak ?_ | refine Zad ?_ _)); exact BK235.out⟩, ⟨by repeat (first | (with_reducible first | exact HB.out | apply Zab | apply Za | apply Zac | refine Zaf ?_ GE235.out) | exact HB.out)⟩⟩
  rw [if_pos c5] at H
  have c5b0 : (a1_3 == 0) = true := beq_iff_eq.mpr c5
  have c5b1 : (a1_3 != 0) = false := bne_eq_false_iff_eq.mpr c5
  clear c5
  (first | rw [c5b0] | (simp only [Zbh, Zbi]; rw [c5b0]) | skip)
  by_cases c6 : a1_4 = 0
  rotate_left
  ·rw [if_neg c6] at H
   have c6b0 : (a1_4 == 0) = false := beq_eq_false_iff_ne.mpr c6
   have c6b1 : (a1_4 != 0) = true := bne_iff_ne.mpr c6
   have H' := Zaa.mk H
   clear H
   obtain ⟨hcz8_0, hcz8_1, hcz8_2, hcz8_3, hcz8_4, hcz8_5, hcz8_6, hfz8_0, hfz8_1, hfz8_2, hfz8_3, hfz8_4, hfz8_5, hfz8_6⟩ := Zcg BK235.out
   go_wp2
   go_meet
   case rel => exact ⟨_, (false), (by first | rfl | (simp; done) | (simp [*]; done)), H', ⟨by first | omega | exact Nat.le_refl _⟩, ⟨by (with_reducible repeat (first | refine Zag ?_ _ | refine Zak ?_ | refine Zad ?_ _)); exact BK235.out⟩, ⟨by repeat (first | (with_reducible first | exact HB.out | apply Zab | apply Za | apply Zac | refine Zaf ?_ GE235.out) | exact HB.out)⟩⟩
  rw [if_pos c6] at H
  have c6b0 : (a1_4 == 0) = true := beq_iff_eq.mpr c6
  have c6b1 : (a1_4 != 0) = false := bne_eq_false_iff_eq.mpr c6
  clear c6
  have H' := Zaa.mk H
  clear H
  obtain ⟨hcz7_0, hcz7_1, hcz7_2, hcz7_3, hcz7_4, hcz7_5, hcz7_6, hfz7_0, hfz7_1, hfz7_2, hfz7_3, hfz7_4, hfz7_5, hfz7_6⟩ := Zcg BK235.out
  go_wp2
  go_meet
  case rel => exact ⟨_, ((a1_6 == 0)), (by first | rfl | (simp; done) | (simp [*]; done)), H', ⟨by first | omega | exact Nat.le_refl _⟩, ⟨by (with_reducible repeat (first | refine Zag ?_ _ | refine Zak ?_ | refine Zad ?_ _)); exact BK235.out⟩, ⟨by repeat (first | (with_reducible first | exact HB.out | apply Zab | apply Za | apply Zac | refine Zaf ?_ GE235.out) | exact HB.out)⟩⟩
 case rest =>
  clear HC3
  try clear c1
  try clear p2
  try clear c5
  try clear c5b0
  try clear c5b1
  try clear c6
  try clear c6b0
  try clear c6b1
  try clear hcz7_0
  try clear hcz7_1
  try clear hcz7_2
  try clear hcz7_3
  try clear hcz7_4
  try clear hcz7_5
  try clear hcz7_6
  try clear hcz8_0
  try clear hcz8_1
  try clear hcz8_2
  try clear hcz8_3
  try clear hcz8_4
  try clear hcz8_5
  try clear hcz8_6
  try clear hcz9_0
  try clear hcz9_1
  try clear hcz9_2
  try clear hcz9_3
  try clear hcz9_4
  try clear hcz9_5
  try clear hcz9_6
  try clear hfz7_0
  try clear hfz7_1
  try clear hfz7_2
  try clear hfz7_3
  try clear hfz7_4
  try clear hfz7_5
  try clear hfz7_6
  try clear hfz8_0
  try clear hfz8_1
  try clear hfz8_2
  try clear hfz8_3
  try clear hfz8_4
  try clear hfz8_5
  try clear hfz8_6
  try clear hfz9_0
  try clear hfz9_1
  try clear hfz9_2
  try clear hfz9_3
  try clear hfz9_4
  try clear hfz9_5
  try clear hfz9_6
  obtain ⟨kq, x5_2, rfl, HA, HJ2, BK235, HB⟩ := hcut
  cases kq with
  | zero => exact absurd HA.out (by simp [Zaj.j0])
  | succ kj2 =>
   have H := HA.out
   clear HA
   simp only [Zaj.j0] at H
   have HC10 := Zaa.mk H
   clear H
   go_upto_region 2 with (fail)
   go_cut [6] (fun v6 wc => ∃ (kq : Nat) (x6_9 : Bool), v6 = .bool x6_9 ∧ Zaa (Zaj.j1 kq x6_9 a1_0 l1_1 l1_2 a1_3 a1_4 l1_5 a1_6 = some r) ∧ Zaa (kq ≤ kj2) ∧ Zaa (wc.heap[gb235]? = some (.cells #[.int .i64 a1_0, (.slice A1_1 l1_1.length c1_1), (.slice A1_2 l1_2.length c1_2), .int .i64 a1_3, .int .i64 a1_4, (.slice A1_5 l1_5.length c1_5), .int .i64 a1_6] 25 (0, 0))) ∧ Zaa (Below w.heap.size w wc))
   case first =>
    have H := HC10.out
    clear HC10
    by_cases c11 : x5_2 = true
    rotate_left
    ·replace c11 := Bool.eq_false_iff.mpr c11
     subst c11
     have H1 : (Zaj.j1 kj2 false a1_0 l1_1 l1_2 a1_3 a1_4 l1_5 a1_6) = some r := by rw [if_neg (show ¬ (false = true) by decide)] at H; exact H
     clear H
     have H := H1
     clear H1
     have H' := Zaa.mk H
     clear H
     go_wp2
     go_meet
     case rel => exact ⟨_, (false), (by first | rfl | (simp; done) | (simp [*]; done)), H', ⟨by have := HJ2.out; first | omega | exact Nat.le_refl _⟩, ⟨by (with_reducible repeat (first | refine Zag ?_ _ | refine Zak ?_ | refine Zad ?_ _)); exact BK235.out⟩, ⟨by repeat (first | (with_reducible first | exact HB.out | apply Zab | apply Za | apply Zac | refine Zaf ?_ GE235.out) | exact HB.out)⟩⟩
    subst c11
    have H1 : (Zaj.j1 kj2 ((l1_2.length : Int) == 0) a1_0 l1_1 l1_2 a1_3 a1_4 l1_5 a1_6) = some r := by rw [if_pos rfl] at H; exact H
    clear H
    have H := H1
    clear H1
    have H' := Zaa.mk H
    clear H
    obtain ⟨hcz12_0, hcz12_1, hcz12_2, hcz12_3, hcz12_4, hcz12_5, hcz12_6, hfz12_0, hfz12_1, hfz12_2, hfz12_3, hfz12_4, hfz12_5, hfz12_6⟩ := Zcg BK235.out
    go_wp2
    go_meet
    case rel => exact ⟨_, (((l1_2.length : Int) == 0)), (by first | rfl | (simp; done) | (simp [*]; done)), H', ⟨by have := HJ2.out; first | omega | exact Nat.le_refl _⟩, ⟨by (with_reducible repeat (first | refine Zag ?_ _ | refine Zak ?_ | refine Zad ?_ _)); exact BK235.out⟩, ⟨by repeat (first | (with_reducible first | exact HB.out | apply Zab | apply Za | apply Zac | refine Zaf ?_ GE235.out) | exact HB.out)⟩⟩
   case rest =>
    clear HC10
    try clear c1
    try clear p2
    try clear c5
    try clear c5b0
    try clear c5b1
    try clear c6
    try clear c6b0
    try clear c6b1
    try clear c11
    try clear hcz12_0
    try clear hcz12_1
    try clear hcz12_2
    try clear hcz12_3
    try clear hcz12_4
    try clear hcz12_5
    try clear hcz12_6
    try clear hcz7_0
    try clear hcz7_1
    try clear hcz7_2
    try clear hcz7_3
    try clear hcz7_4
    try clear hcz7_5
    try clear hcz7_6
    try clear hcz8_0
    try clear hcz8_1
    try clear hcz8_2
    try clear hcz8_3
    try clear hcz8_4
    try clear hcz8_5
    try clear hcz8_6
    try clear hcz9_0
    try clear hcz9_1
    try clear hcz9_2
    try clear hcz9_3
    try clear hcz9_4
    try clear hcz9_5
    try clear hcz9_6
    try clear hfz12_0
    try clear hfz12_1
    try clear hfz12_2
    try clear hfz12_3
    try clear hfz12_4
    try clear hfz12_5
    try clear hfz12_6
    try clear hfz7_0
    try clear hfz7_1
    try clear hfz7_2
    try clear hfz7_3
    try clear hfz7_4
    try clear hfz7_5
    try clear hfz7_6
    try clear hfz8_0
    try clear hfz8_1
    try clear hfz8_2
    try clear hfz8_3
    try clear hfz8_4
    try clear hfz8_5
    try clear hfz8_6
    try clear hfz9_0
    try clear hfz9_1
    try clear hfz9_2
    try clear hfz9_3
    try clear hfz9_4
    try clear hfz9_5
    try clear hfz9_6
    try clear p2
    obtain ⟨kq, x6_9, rfl, HA, HJ9, BK235, HB⟩ := hcut
    cases kq with
    | zero => exact absurd HA.out (by simp [Zaj.j1])
    | succ kj9 =>
     have H := HA.out
     clear HA
     simp only [Zaj.j1] at H
     have HC13 := Zaa.mk H
     clear H
     go_upto_region 3 with (fail)
     go_cut [] (fun wc => ∃ (kq : Nat), Zaa (Zaj.j2 kq x6_9 a1_0 l1_1 l1_2 a1_3 a1_4 l1_5 a1_6 = some r) ∧ Zaa (kq ≤ kj9) ∧ Zaa (wc.heap[gb235]? = some (.cells #[.int .i64 a1_0, (.slice A1_1 l1_1.length c1_1), (.slice A1_2 l1_2.length c1_2), .int .i64 a1_3, .int .i64 a1_4, (.slice A1_5 l1_5.length c1_5), .int .i64 a1_6] 25 (0, 0))) ∧ Zaa (Below w.heap.size w wc))
     case first =>
      have H := HC13.out
      clear HC13
      by_cases c14 : a1_3 ≥ 0
      ·rw [if_pos c14] at H
       have c14b0 : decide (0 ≤ a1_3) = true := decide_eq_true c14
       clear c14
       (first | rw [c14b0] | (simp only [Zbh, Zbi]; rw [c14b0]) | skip)
       have H' := Zaa.mk H
       clear H
       obtain ⟨hcz15_0, hcz15_1, hcz15_2, hcz15_3, hcz15_4, hcz15_5, hcz15_6, hfz15_0, hfz15_1, hfz15_2, hfz15_3, hfz15_4, hfz15_5, hfz15_6⟩ := Zcg BK235.out
       go_wp2
       go_meet
       case rel => exact ⟨_, H', ⟨by have := HJ2.out; have := HJ9.out; first | omega | exact Nat.le_refl _⟩, ⟨by (with_reducible repeat (first | refine Zag ?_ _ | refine Zak ?_ | refine Zad ?_ _)); exact BK235.out⟩, ⟨by repeat (first | (with_reducible first | exact HB.out | apply Zab | apply Za | apply Zac | refine Zaf ?_ GE235.out) | exact HB.out)⟩⟩
      rw [if_neg c14] at H
      have c14b0 : decide (0 ≤ a1_3) = false := decide_eq_false c14
      clear c14
      (first | rw [c14b0] | (simp only [Zbh, Zbi]; rw [c14b0]) | skip)
      have H' := Zaa.mk H
      clear H
      obtain ⟨hcz16_0, hcz16_1, hcz16_2, hcz16_3, hcz16_4, hcz16_5, hcz16_6, hfz16_0, hfz16_1, hfz16_2, hfz16_3, hfz16_4, hfz16_5, hfz16_6⟩ := Zcg BK235.out
      go_wp2
      go_meet
      case rel => exact ⟨_, H', ⟨by have := HJ2.out; have := HJ9.out; first | omega | exact Nat.le_refl _⟩, ⟨by (with_reducible repeat (first | refine Zag ?_ _ | refine Zak ?_ | refine Zad ?_ _)); exact BK235.out⟩, ⟨by repeat (first | (with_reducible first | exact HB.out | apply Zab | apply Za | apply Zac | refine Zaf ?_ GE235.out) | exact HB.out)⟩⟩
     case rest =>
      clear HC13
      try clear c1
      try clear p2
      try clear c5
      try clear c5b0
      try clear c5b1
      try clear c6
      try clear c6b0
      try clear c6b1
      try clear c11
      try clear c14
      try clear c14b0
      try clear hcz12_0
      try clear hcz12_1
      try clear hcz12_2
      try clear hcz12_3
      try clear hcz12_4
      try clear hcz12_5
      try clear hcz12_6
      try clear hcz15_0
      try clear hcz15_1
      try clear hcz15_2
      try clear hcz15_3
      try clear hcz15_4
      try clear hcz15_5
      try clear hcz15_6
      try clear hcz16_0
      try clear hcz16_1
      try clear hcz16_2
      try clear hcz16_3
      try clear hcz16_4
      try clear hcz16_5
      try clear hcz16_6
      try clear hcz7_0
      try clear hcz7_1
      try clear hcz7_2
      try clear hcz7_3
      try clear hcz7_4
      try clear hcz7_5
      try clear hcz7_6
      try clear hcz8_0
      try clear hcz8_1
      try clear hcz8_2
      try clear hcz8_3
      try clear hcz8_4
      try clear hcz8_5
      try clear hcz8_6
      try clear hcz9_0
      try clear hcz9_1
      try clear hcz9_2
      try clear hcz9_3
      try clear hcz9_4
      try clear hcz9_5
      try clear hcz9_6
      try clear hfz12_0
      try clear hfz12_1
      try clear hfz12_2
      try clear hfz12_3
      try clear hfz12_4
      try clear hfz12_5
      try clear hfz12_6
      try clear hfz15_0
      try clear hfz15_1
      try clear hfz15_2
      try clear hfz15_3
      try clear hfz15_4
      try clear hfz15_5
      try clear hfz15_6
      try clear hfz16_0
      try clear hfz16_1
      try clear hfz16_2
      try clear hfz16_3
      try clear hfz16_4
      try clear hfz16_5
      try clear hfz16_6
      try clear hfz7_0
      try clear hfz7_1
      try clear hfz7_2
      try clear hfz7_3
      try clear hfz7_4
      try clear hfz7_5
      try clear hfz7_6
      try clear hfz8_0
      try clear hfz8_1
      try clear hfz8_2
      try clear hfz8_3
      try clear hfz8_4
      try clear hfz8_5
      try clear hfz8_6
      try clear hfz9_0
      try clear hfz9_1
      try clear hfz9_2
      try clear hfz9_3
      try clear hfz9_4
      try clear hfz9_5
      try clear hfz9_6
      try clear p2
      obtain ⟨kq, HA, HJ12, BK235, HB⟩ := hcut
      cases kq with
      | zero => exact absurd HA.out (by simp [Zaj.j2])
      | succ kj12 =>
       have H := HA.out
       clear HA
       simp only [Zaj.j2] at H
       have HC17 := Zaa.mk H
       clear H
       go_upto_region 4 with (fail)
       go_cut [8] (fun v8 wc => ∃ (kq : Nat) (x8_16 : Bool), v8 = .bool x8_16 ∧ Zaa (Zaj.j3 kq x6_9 x8_16 a1_0 l1_1 l1_2 a1_3 a1_4 l1_5 a1_6 = some r) ∧ Zaa (kq ≤ kj12) ∧ Zaa (wc.heap[gb235]? = some (.cells #[.int .i64 a1_0, (.slice A1_1 l1_1.length c1_1), (.slice A1_2 l1_2.length c1_2), .int .i64 a1_3, .int .i64 a1_4, (.slice A1_5 l1_5.length c1_5), .int .i64 a1_6] 25 (0, 0))) ∧ Zaa (Below w.heap.size w wc))
       case first =>
        have H := HC17.out
        clear HC17
        by_cases c18 : (l1_1.length : Int) > 0
        rotate_left
        ·rw [if_neg c18] at H
         have c18b0 : decide (0 < (l1_1.length : Int)) = false := decide_eq_false c18
         have c18b1 : decide (0 < l1_1.length) = false := decide_eq_false (by omega)
         clear c18
         (first | rw [c18b0] | (simp only [Zbh, Zbi]; rw [c18b0]) | skip)
         have H' := Zaa.mk H
         clear H
         obtain ⟨hcz21_0, hcz21_1, hcz21_2, hcz21_3, hcz21_4, hcz21_5, hcz21_6, hfz21_0, hfz21_1, hfz21_2, hfz21_3, hfz21_4, hfz21_5, hfz21_6⟩ := Zcg BK235.out
         go_wp2
         go_meet
         case rel => exact ⟨_, (false), (by first | rfl | (simp; done) | (simp [*]; done)), H', ⟨by have := HJ2.out; have := HJ9.out; have := HJ12.out; first | omega | exact Nat.le_refl _⟩, ⟨by (with_reducible repeat (first | refine Zag ?_ _ | refine Zak ?_ | refine Zad ?_ _)); exact BK235.out⟩, ⟨by repeat (first | (with_reducible first | exact HB.out | apply Zab | apply Za | apply Zac | refine Zaf ?_ GE235.out) | exact HB.out)⟩⟩
        rw [if_pos c18] at H
        have c18b0 : decide (0 < (l1_1.length : Int)) = true := decide_eq_true c18
        have c18b1 : decide (0 < l1_1.length) = true := decide_eq_true (by omega)
        clear c18
        (first | rw [c18b0] | (simp only [Zbh, Zbi]; rw [c18b0]) | skip)
        replace H := Option.bind_eq_some_iff.mp H
        obtain ⟨t236, A190, H⟩ := H
        replace H : (Zaj.j3 kj12 x6_9 t236 a1_0 l1_1 l1_2 a1_3 a1_4 l1_5 a1_6) = some r := H
        have A19 := Zaa.mk A190
        clear A190
        have H' := Zaa.mk H
        clear H
        obtain ⟨hcz20_0, hcz20_1, hcz20_2, hcz20_3, hcz20_4, hcz20_5, hcz20_6, hfz20_0, hfz20_1, hfz20_2, hfz20_3, hfz20_4, hfz20_5, hfz20_6⟩ := Zcg BK235.out
        go_wp2_with (first | (go_at_call 86; (with_reducible refine (Zar.calls kj12 _ _ l1_1 t236 _ ?side1 ?side2 A19.out).mono ?_); (case side1 => repeat (first | exact (Kd.Za8 HR1_1.out HB.out) | (with_reducible refine Kd.C_alloc ?_ _) | (with_reducible refine Kd.Za0 ?_ _) | (with_reducible refine Kd.C_drew ?_))); (case side2 => exact HC1_1.out); rintro e w' ⟨rfl, ⟨nd, rfl⟩⟩))
        go_meet
        case rel => exact ⟨_, (t236), (by first | rfl | (simp; done) | (simp [*]; done)), H', ⟨by have := HJ2.out; have := HJ9.out; have := HJ12.out; first | omega | exact Nat.le_refl _⟩, ⟨by (with_reducible repeat (first | refine Zag ?_ _ | refine Zak ?_ | refine Zad ?_ _)); exact BK235.out⟩, ⟨by repeat (first | (with_reducible first | exact HB.out | apply Zab | apply Za | apply Zac | refine Zaf ?_ GE235.out) | exact HB.out)⟩⟩
       case rest =>
        clear HC17
        try clear c1
        try clear p2
        try clear c5
        try clear c5b0
        try clear c5b1
        try clear c6
        try clear c6b0
        try clear c6b1
        try clear c11
        try clear c14
        try clear c14b0
        try clear c18
        try clear c18b0
        try clear c18b1
        try clear hcz12_0
        try clear hcz12_1
        try clear hcz12_2
        try clear hcz12_3
        try clear hcz12_4
        try clear hcz12_5
        try clear hcz12_6
        try clear hcz15_0
        try clear hcz15_1
        try clear hcz15_2
        try clear hcz15_3
        try clear hcz15_4
        try clear hcz15_5
        try clear hcz15_6
        try clear hcz16_0
        try clear hcz16_1
        try clear hcz16_2
        try clear hcz16_3
        try clear hcz16_4
        try clear hcz16_5
        try clear hcz16_6
        try clear hcz20_0
        try clear hcz20_1
        try clear hcz20_2
        try clear hcz20_3
        try clear hcz20_4
        try clear hcz20_5
        try clear hcz20_6
        try clear hcz21_0
        try clear hcz21_1
        try clear hcz21_2
        try clear hcz21_3
        try clear hcz21_4
        try clear hcz21_5
        try clear hcz21_6
        try clear hcz7_0
        try clear hcz7_1
        try clear hcz7_2
        try clear hcz7_3
        try clear hcz7_4
        try clear hcz7_5
        try clear hcz7_6
        try clear hcz8_0
        try clear hcz8_1
        try clear hcz8_2
        try clear hcz8_3
        try clear hcz8_4
        try clear hcz8_5
        try clear hcz8_6
        try clear hcz9_0
        try clear hcz9_1
        try clear hcz9_2
        try clear hcz9_3
        try clear hcz9_4
        try clear hcz9_5
        try clear hcz9_6
        try clear hfz12_0
        try clear hfz12_1
        try clear hfz12_2
        try clear hfz12_3
        try clear hfz12_4
        try clear hfz12_5
        try clear hfz12_6
        try clear hfz15_0
        try clear hfz15_1
        try clear hfz15_2
        try clear hfz15_3
        try clear hfz15_4
        try clear hfz15_5
        try clear hfz15_6
        try clear hfz16_0
        try clear hfz16_1
        try clear hfz16_2
        try clear hfz16_3
        try clear hfz16_4
        try clear hfz16_5
        try clear hfz16_6
        try clear hfz20_0
        try clear hfz20_1
        try clear hfz20_2
        try clear hfz20_3
        try clear hfz20_4
        try clear hfz20_5
        try clear hfz20_6
        try clear hfz21_0
        try clear hfz21_1
        try clear hfz21_2
        try clear hfz21_3
        try clear hfz21_4
        try clear hfz21_5
        try clear hfz21_6
        try clear hfz7_0
        try clear hfz7_1
        try clear hfz7_2
        try clear hfz7_3
        try clear hfz7_4
        try clear hfz7_5
        try clear hfz7_6
        try clear hfz8_0
        try clear hfz8_1
        try clear hfz8_2
        try clear hfz8_3
        try clear hfz8_4
        try clear hfz8_5
        try clear hfz8_6
        try clear hfz9_0
        try clear hfz9_1
        try clear hfz9_2
        try clear hfz9_3
        try clear hfz9_4
        try clear hfz9_5
        try clear hfz9_6
        try clear p2
        obtain ⟨kq, x8_16, rfl, HA, HJ16, BK235, HB⟩ := hcut
        cases kq with
        | zero => exact absurd HA.out (by simp [Zaj.j3])
        | succ kj16 =>
         have H := HA.out
         clear HA
         simp only [Zaj.j3] at H
         by_cases c22 : a1_0 = 0
         ·rw [if_pos c22] at H
          exact absurd H (by simp)
         rw [if_neg c22] at H
         have c22b0 : (a1_0 == 0) = false := beq_eq_false_iff_ne.mpr c22
         have c22b1 : (a1_0 != 0) = true := bne_iff_ne.mpr c22
         by_cases c23 : a1_0 = 1
         ·rw [if_pos c23] at H
          exact absurd H (by simp)
         rw [if_neg c23] at H
         have c23b0 : (a1_0 == 1) = false := beq_eq_false_iff_ne.mpr c23
         have c23b1 : (a1_0 != 1) = true := bne_iff_ne.mpr c23
         by_cases c24 : a1_0 = 2
         rotate_left
         ·rw [if_neg c24] at H
          have c24b0 : (a1_0 == 2) = false := beq_eq_false_iff_ne.mpr c24
          have c24b1 : (a1_0 != 2) = true := bne_iff_ne.mpr c24
          by_cases c32 : a1_0 = 3
          rotate_left
          ·rw [if_neg c32] at H
           exact absurd H (by simp)
          rw [if_pos c32] at H
          have c32b0 : (a1_0 == 3) = true := beq_iff_eq.mpr c32
          have c32b1 : (a1_0 != 3) = false := bne_eq_false_iff_eq.mpr c32
          clear c32
          by_cases c33 : (l1_5.length : Int) = 0
          rotate_left
          ·rw [if_neg c33] at H
           have c33b0 : ((l1_5.length : Int) == 0) = false := beq_eq_false_iff_ne.mpr c33
           have c33b1 : ((l1_5.length : Int) != 0) = true := bne_iff_ne.mpr c33
           have c33b2 : ¬ (l1_5 = []) := fun h_ => c33 (by rw [h_]; rfl)
           obtain rfl := Option.some.inj H
           obtain ⟨hcz39_0, hcz39_1, hcz39_2, hcz39_3, hcz39_4, hcz39_5, hcz39_6, hfz39_0, hfz39_1, hfz39_2, hfz39_3, hfz39_4, hfz39_5, hfz39_6⟩ := Zcg BK235.out
           go_wp2
           go_ret
           exact ⟨by first | rfl | (simp [Za1, Za2] <;> rfl) | (simp [*, Za1, Za2] <;> rfl), by repeat (first | (with_reducible first | exact HB.out | apply Zab | apply Za | apply Zac | refine Zaf ?_ GE235.out) | exact HB.out)⟩
          rw [if_pos c33] at H
          have c33b0 : ((l1_5.length : Int) == 0) = true := beq_iff_eq.mpr c33
          have c33b1 : ((l1_5.length : Int) != 0) = false := bne_eq_false_iff_eq.mpr c33
          clear c33
          by_cases c34 : x6_9 = true
          rotate_left
          ·replace c34 := Bool.eq_false_iff.mpr c34
           subst c34
           have H1 : (some false) = some r := by rw [if_neg (show ¬ (false = true) by decide)] at H; exact H
           clear H
           have H := H1
           clear H1
           obtain rfl := Option.some.inj H
           obtain ⟨hcz38_0, hcz38_1, hcz38_2, hcz38_3, hcz38_4, hcz38_5, hcz38_6, hfz38_0, hfz38_1, hfz38_2, hfz38_3, hfz38_4, hfz38_5, hfz38_6⟩ := Zcg BK235.out
           go_wp2
           go_ret
           exact ⟨by first | rfl | (simp [Za1, Za2] <;> rfl) | (simp [*, Za1, Za2] <;> rfl), by repeat (first | (with_reducible first | exact HB.out | apply Zab | apply Za | apply Zac | refine Zaf ?_ GE235.out) | exact HB.out)⟩
          subst c34
          have H1 : (if x8_16 = true then (some (decide ((l1_1.length : Int) ≥ 3))) else (some false)) = some r := by rw [if_pos rfl] at H; exact H
          clear H
          have H := H1
          clear H1
          by_cases c35 : x8_16 = true
          ·subst c35
           have H1 : (some (decide ((l1_1.length : Int) ≥ 3))) = some r := by rw [if_pos rfl] at H; exact H
           clear H
           have H := H1
           clear H1
           obtain rfl := Option.some.inj H
           obtain ⟨hcz36_0, hcz36_1, hcz36_2, hcz36_3, hcz36_4, hcz36_5, hcz36_6, hfz36_0, hfz36_1, hfz36_2, hfz36_3, hfz36_4, hfz36_5, hfz36_6⟩ := Zcg BK235.out
           go_wp2
           go_ret
           exact ⟨by first | rfl | (simp [Za1, Za2] <;> rfl) | (simp [*, Za1, Za2] <;> rfl), by repeat (first | (with_reducible first | exact HB.out | apply Zab | apply Za | apply Zac | refine Zaf ?_ GE235.out) | exact HB.out)⟩
          replace c35 := Bool.eq_false_iff.mpr c35
          subst c35
          have H1 : (some false) = some r := by rw [if_neg (show ¬ (false = true) by decide)] at H; exact H
          clear H
          have H := H1
          clear H1
          obtain rfl := Option.some.inj H
          obtain ⟨hcz37_0, hcz37_1, hcz37_2, hcz37_3, hcz37_4, hcz37_5, hcz37_6, hfz37_0, hfz37_1, hfz37_2, hfz37_3, hfz37_4, hfz37_5, hfz37_6⟩ := Zcg BK235.out
          go_wp2
          go_ret
          exact ⟨by first | rfl | (simp [Za1, Za2] <;> rfl) | (simp [*, Za1, Za2] <;> rfl), by repeat (first | (with_reducible first | exact HB.out | apply Zab | apply Za | apply Zac | refine Zaf ?_ GE235.out) | exact HB.out)⟩
         rw [if_pos c24] at H
         have c24b0 : (a1_0 == 2) = true := beq_iff_eq.mpr c24
         have c24b1 : (a1_0 != 2) = false := bne_eq_false_iff_eq.mpr c24
         clear c24
         by_cases c25 : x6_9 = true
         rotate_left
         ·replace c25 := Bool.eq_false_iff.mpr c25
          subst c25
          have H1 : (some false) = some r := by rw [if_neg (show ¬ (false = true) by decide)] at H; exact H
          clear H
          have H := H1
          clear H1
          obtain rfl := Option.some.inj H
          obtain ⟨hcz31_0, hcz31_1, hcz31_2, hcz31_3, hcz31_4, hcz31_5, hcz31_6, hfz31_0, hfz31_1, hfz31_2, hfz31_3, hfz31_4, hfz31_5, hfz31_6⟩ := Zcg BK235.out
          go_wp2
          go_ret
          exact ⟨by first | rfl | (simp [Za1, Za2] <;> rfl) | (simp [*, Za1, Za2] <;> rfl), by repeat (first | (with_reducible first | exact HB.out | apply Zab | apply Za | apply Zac | refine Zaf ?_ GE235.out) | exact HB.out)⟩
         subst c25
         have H1 : (if x8_16 = true then ((Zau.f kj16 a1_0 l1_1 l1_2 a1_3 a1_4 l1_5 a1_6).bind fun t237 => (some t237)) else (some false)) = some r := by rw [if_pos rfl] at H; exact H
         clear H
         have H := H1
         clear H1
         by_cases c26 : x8_16 = true
         rotate_left
         ·replace c26 := Bool.eq_false_iff.mpr c26
          subst c26
          have H1 : (some false) = some r := by rw [if_neg (show ¬ (false = true) by decide)] at H; exact H
          clear H
          have H := H1
          clear H1
          obtain rfl := Option.some.inj H
          obtain ⟨hcz30_0, hcz30_1, hcz30_2, hcz30_3, hcz30_4, hcz30_5, hcz30_6, hfz30_0, hfz30_1, hfz30_2, hfz30_3, hfz30_4, hfz30_5, hfz30_6⟩ := Zcg BK235.out
          go_wp2
          go_ret
          exact ⟨by first | rfl | (simp [Za1, Za2] <;> rfl) | (simp [*, Za1, Za2] <;> rfl), by repeat (first | (with_reducible first | exact HB.out | apply Zab | apply Za | apply Zac | refine Zaf ?_ GE235.out) | exact HB.out)⟩
         subst c26
         have H1 : ((Zau.f kj16 a1_0 l1_1 l1_2 a1_3 a1_4 l1_5 a1_6).bind fun t237 => (some t237)) = some r := by rw [if_pos rfl] at H; exact H
         clear H
         have H := H1
         clear H1
         replace H := Option.bind_eq_some_iff.mp H
         obtain ⟨t237, A270, H⟩ := H
         replace H : (some t237) = some r := H
         have A27 := Zaa.mk A270
         clear A270
         obtain rfl := Option.some.inj H
         obtain ⟨hcz28_0, hcz28_1, hcz28_2, hcz28_3, hcz28_4, hcz28_5, hcz28_6, hfz28_0, hfz28_1, hfz28_2, hfz28_3, hfz28_4, hfz28_5, hfz28_6⟩ := Zcg BK235.out
         go_wp2_with (first | (go_at_call 88; (with_reducible refine (Zau.calls kj16 a1_0 _ _ l1_1 _ _ l1_2 a1_3 a1_4 _ _ l1_5 a1_6 t237 _ ?side1 ?side2 ?side3 ?side4 ?side5 ?side6 A27.out).mono ?_); (case side1 => repeat (first | exact (Kd.Za8 HR1_1.out HB.out) | (with_reducible refine Kd.C_alloc ?_ _) | (with_reducible refine Kd.Za0 ?_ _) | (with_reducible refine Kd.C_drew ?_))); (case side2 => exact HC1_1.out); (case side3 => repeat (first | exact (Kd.Za8 HR1_2.out HB.out) | (with_reducible refine Kd.C_alloc ?_ _) | (with_reducible refine Kd.Za0 ?_ _) | (with_reducible refine Kd.C_drew ?_))); (case side4 => exact HC1_2.out); (case side5 => repeat (first | exact (Kd.Za8 HR1_5.out HB.out) | (with_reducible refine Kd.C_alloc ?_ _) | (with_reducible refine Kd.Za0 ?_ _) | (with_reducible refine Kd.C_drew ?_))); (case side6 => exact HC1_5.out); rintro e w29 ⟨rfl, hb⟩; have n1_ := Zaa.mk (Zam (by repeat (first | (with_reducible first | exact HB.out | apply Zab | apply Za | apply Zac | refine Zaf ?_ GE235.out) | exact HB.out)) hb); clear BK235; clear HB; have HB := n1_; clear n1_; (try clear hb); (try clear hb2); (try clear hk); (try clear hi)))
         go_ret
         exact ⟨by first | rfl | (simp [Za1, Za2] <;> rfl) | (simp [*, Za1, Za2] <;> rfl), by repeat (first | (with_reducible first | exact HB.out | apply Zab | apply Za | apply Zac | refine Zaf ?_ GE235.out) | exact HB.out)⟩
mutual
def Zas.j0 : Nat → List Int → Int → Int → Bool → Option (Bool)
 | 0, _, _, _, _ => none
 | k + 1, x0, x1, x5, x15 => if x15 = true then (some true) else (Zas.l0 k x0 (wrap64 (x5 - (mx x1 (wrap64 (-x1))))) 0)
def Zas.l0 : Nat → List Int → Int → Int → Option (Bool)
 | 0, _, _, _ => none
 | k + 1, x0, x5, x6 => if x6 < (x0.length : Int) then (if 0 ≤ x6 then (if (rd x0 x6) > 4398046511104 then (Zas.j2 k x0 x5 x6 true) else (Zas.j2 k x0 x5 x6 (decide ((rd x0 x6) < (-4398046511104))))) else (none)) else (some false)
def Zas.j2 : Nat → List Int → Int → Int → Bool → Option (Bool)
 | 0, _, _, _, _ => none
 | k + 1, x0, x5, x6, x39 => if x39 = true then (some true) else (if 0 ≤ x6 then (if x6 < (x0.length : Int) then (if (wrap64 (x5 - (wrap64 ((mx (rd x0 x6) (wrap64 (-(rd x0 x6)))) * 1048576)))) < 0 then (some true) else (Zas.l0 k x0 (wrap64 (x5 - (wrap64 ((mx (rd x0 x6) (wrap64 (-(rd x0 x6)))) * 1048576)))) (wrap64 (x6 + 1)))) else (none)) else (none))
end
def Zas.f (k : Nat) (l0 : List Int) (a1 : Int) : Option (Bool) := if a1 > 4611686018427387904 then (Zas.j0 k l0 a1 4611686018427387904 true) else (Zas.j0 k l0 a1 4611686018427387904 (decide (a1 < (-4611686018427387904))))
theorem Zas.Zb4 : ∀ k, (∀ y0 y1 y2 y3, LeO (Zas.j0 k y0 y1 y2 y3) (Zas.j0 (k + 1) y0 y1 y2 y3)) ∧ (∀ y0 y1 y2, LeO (Zas.l0 k y0 y1 y2) (Zas.l0 (k + 1) y0 y1 y2)) ∧ (∀ y0 y1 y2 y3, LeO (Zas.j2 k y0 y1 y2 y3) (Zas.j2 (k + 1) y0 y1 y2 y3))
 | 0 => ⟨fun _ _ _ _ r h => by simp [Zas.j0] at h, fun _ _ _ r h => by simp [Zas.l0] at h, fun _ _ _ _ r h => by simp [Zas.j2] at h⟩
 | k + 1 => by
  obtain ⟨ih0, ih1, ih2⟩ := Zas.Zb4 k
  refine ⟨?_, ?_, ?_⟩
  ·intro y0 y1 y2 y3
   unfold Zas.j0
   repeat' first
   | (with_reducible exact ih0 _ _ _ _)
   | (with_reducible exact ih1 _ _ _)
   | (with_reducible exact ih2 _ _ _ _)
   | (with_reducible exact LeO.refl _)
   | (with_reducible exact LeO.none _)
   | (with_reducible refine LeO.ite ?_ ?_)
   | (with_reducible refine LeO.bind ?_ (fun _ => ?_))
   | exact ih0 _ _ _ _
   | exact ih1 _ _ _
   | exact ih2 _ _ _ _
   | exact LeO.none _
   | refine LeO.ite ?_ ?_
   | refine LeO.bind ?_ (fun _ => ?_)
  ·intro y0 y1 y2
   unfold Zas.l0
   repeat' first
   | (with_reducible exact ih0 _ _ _ _)
   | (with_reducible exact ih1 _ _ _)
   | (with_reducible exact ih2 _ _ _ _)
   | (with_reducible exact LeO.refl _)
   | (with_reducible exact LeO.none _)
   | (with_reducible refine LeO.ite ?_ ?_)
   | (with_reducible refine LeO.bind ?_ (fun _ => ?_))
   | exact ih0 _ _ _ _
   | exact ih1 _ _ _
   | exact ih2 _ _ _ _
   | exact LeO.none _
   | refine LeO.ite ?_ ?_
   | refine LeO.bind ?_ (fun _ => ?_)
  intro y0 y1 y2 y3
  unfold Zas.j2
  repeat' first
  | (with_reducible exact ih0 _ _ _ _)
  | (with_reducible exact ih1 _ _ _)
  | (with_reducible exact ih2 _ _ _ _)
  | (with_reducible exact LeO.refl _)
  | (with_reducible exact LeO.none _)
  | (with_reducible refine LeO.ite ?_ ?_)
  | (with_reducible refine LeO.bind ?_ (fun _ => ?_))
  | exact ih0 _ _ _ _
  | exact ih1 _ _ _
  | exact ih2 _ _ _ _
  | exact LeO.none _
  | refine LeO.ite ?_ ?_
  | refine LeO.bind ?_ (fun _ => ?_)
theorem Zas.mono : ∀ a0 a1 k, LeO (Zas.f k a0 a1) (Zas.f (k + 1) a0 a1) := by
 intro a0 a1 k
 obtain ⟨ih0, ih1, ih2⟩ := Zas.Zb4 k
 unfold Zas.f
 repeat' first
   | (with_reducible exact ih0 _ _ _ _)
   | (with_reducible exact ih1 _ _ _)
   | (with_reducible exact ih2 _ _ _ _)
   | (with_reducible exact LeO.refl _)
   | (with_reducible exact LeO.none _)
   | (with_reducible refine LeO.ite ?_ ?_)
   | (with_reducible refine LeO.bind ?_ (fun _ => ?_))
   | exact ih0 _ _ _ _
   | exact ih1 _ _ _
   | exact ih2 _ _ _ _
   | exact LeO.none _
   | refine LeO.ite ?_ ?_
   | refine LeO.bind ?_ (fun _ => ?_)
set_option maxHeartbeats 8000000 in
set_option maxRecDepth 100000 in
theorem Zas.calls (k : Nat) (A0 : Option Addr) (c0 : Nat) (l0 : List Int) (a1 : Int) (r : Bool) (w : World) (hr0 : Kd.C (Kd.int .i64) w A0 l0.length l0) (hc0 : l0.length ≤ c0) (h : Zas.f k l0 a1 = some r) :
  Calls Try.prog 62 #[.slice A0 l0.length c0, .int .i64 a1] w fun e w' => e = .returned (.bool r) ∧ Below w.heap.size w w' := by
 have HR0 := Zaa.mk hr0
 have HC0 := Zaa.mk hc0
 clear hr0 hc0
 have HB := Zaa.mk (Below.refl w.heap.size w)
 have H : (if a1 > 4611686018427387904 then (Zas.j0 k l0 a1 4611686018427387904 true) else (Zas.j0 k l0 a1 4611686018427387904 (decide (a1 < (-4611686018427387904))))) = some r := h
 clear h
 have HC3 := Zaa.mk H
 clear H
 go_enter Try.func62, Try.ntmps62
 go_upto_region 2 with (fail)
 repeat (go_quiet (fail); go_upto_region 2 with (fail))
 go_cut [15] (fun v15 wc => ∃ (kq : Nat) (x15_2 : Bool), v15 = .bool x15_2 ∧ Zaa (Zas.j0 kq l0 a1 4611686018427387904 x15_2 = some r) ∧ Zaa (kq ≤ k) ∧ Zaa (Below w.heap.size w wc))
 case first =>
  have H := HC3.out
  clear HC3
  by_cases c4 : a1 > 4611686018427387904
  ·rw [if_pos c4] at H
   have c4b0 : decide (4611686018427387904 < a1) = true := decide_eq_true c4
   clear c4
   (first | rw [c4b0] | (simp only [Zbh, Zbi]; rw [c4b0]) | skip)
   have H' := Zaa.mk H
   clear H
   go_wp2
   repeat (go_quiet (fail); try go_wp2)
   go_meet
   case rel => exact ⟨_, (true), (by first | rfl | (simp; done) | (simp [*]; done)), H', ⟨by first | omega | exact Nat.le_refl _⟩, ⟨by repeat (first | (with_reducible first | exact HB.out | apply Zab | apply Za | apply Zac) | exact HB.out)⟩⟩
  rw [if_neg c4] at H
  have c4b0 : decide (4611686018427387904 < a1) = false := decide_eq_false c4
  clear c4
  (first | rw [c4b0] | (simp only [Zbh, Zbi]; rw [c4b0]) | skip)
  have H' := Zaa.mk H
  clear H
  go_wp2
  repeat (go_quiet (fail); try go_wp2)
  go_meet
  case rel => exact ⟨_, (decide (a1 < (-4611686018427387904))), (by first | rfl | (simp; done) | (simp [*]; done)), H', ⟨by first | omega | exact Nat.le_refl _⟩, ⟨by repeat (first | (with_reducible first | exact HB.out | apply Zab | apply Za | apply Zac) | exact HB.out)⟩⟩
 case rest =>
  clear HC3
  try clear p2
  try clear c4
  try clear c4b0
  obtain ⟨kq, x15_2, rfl, HA, HJ2, HB⟩ := hcut
  cases kq with
  | zero => exact absurd HA.out (by simp [Zas.j0])
  | succ kj2 =>
   have H := HA.out
   clear HA
   simp only [Zas.j0] at H
   by_cases c5 : x15_2 = true
   ·subst c5
    have H1 : (some true) = some r := by rw [if_pos rfl] at H; exact H
    clear H
    have H := H1
    clear H1
    obtain rfl := Option.some.inj H
    go_wp2
    repeat (go_quiet (fail); try go_wp2)
    go_ret
    exact ⟨by first | rfl | (simp [Za1, Za2] <;> rfl) | (simp [*, Za1, Za2] <;> rfl), by repeat (first | (with_reducible first | exact HB.out | apply Zab | apply Za | apply Zac) | exact HB.out)⟩
   replace c5 := Bool.eq_false_iff.mpr c5
   subst c5
   have H1 : (Zas.l0 kj2 l0 (wrap64 (4611686018427387904 - (mx a1 (wrap64 (-a1))))) 0) = some r := by rw [if_neg (show ¬ (false = true) by decide)] at H; exact H
   clear H
   have H := H1
   clear H1
   obtain ⟨ji6, hji6⟩ : ∃ j_ : Int, (mx a1 (wrap64 (-a1))) = j_ := ⟨_, rfl⟩
   replace H : (Zas.l0 kj2 l0 (wrap64 (4611686018427387904 - (ji6))) 0) = some r := by first | (rw [hji6] at H; exact H) | (simp only [hji6] at H ⊢; exact H)
   have hji6_ : (if a1 < (wrap64 (-a1)) then (wrap64 (-a1)) else a1) = ji6 := hji6
   have H' := Zaa.mk H
   clear H
   go_wp2
   repeat (go_quiet (fail); try go_wp2)
   go_loopg [5, 6] kj2 (fun kq v5 v6 w' => ∃ (x5_2 : Int) (x6_2 : Int), v5 = .int .i64 x5_2 ∧ v6 = .int .i64 x6_2 ∧ Zaa (Zas.l0 kq l0 x5_2 x6_2 = some r) ∧ Zaa (kq ≤ kj2) ∧ Zaa (Below w.heap.size w w'))
   case atStart => exact ⟨(wrap64 (4611686018427387904 - (ji6))), (0), (by first | rfl | (simp; done) | (simp only [← hji6] <;> (first | rfl | simp)) | (simp [*]; done)), (by first | rfl | (simp; done) | (simp [*]; done)), H', ⟨Nat.le_refl _⟩, ⟨by repeat (first | (with_reducible first | exact HB.out | apply Zab | apply Za | apply Zac) | exact HB.out)⟩⟩
   case round =>
    clear H'
    try clear p2
    try clear c4
    try clear c4b0
    try clear c5
    try clear c6
    try clear p6
    try clear p2
    obtain ⟨x5_2, x6_2, rfl, rfl, HA, HK2, HB⟩ := hrel
    cases gk with
    | zero => exact absurd HA.out (by simp [Zas.l0])
    | succ k2 =>
     have H := HA.out
     clear HA
     simp only [Zas.l0] at H
     by_cases c7 : x6_2 < (l0.length : Int)
     rotate_left
     ·rw [if_neg c7] at H
      have c7b0 : decide (x6_2 < (l0.length : Int)) = false := decide_eq_false c7
      clear c7
      obtain rfl := Option.some.inj H
      go_wp2
      repeat (go_quiet (fail); try go_wp2)
      go_ret
      exact ⟨by first | rfl | (simp [Za1, Za2] <;> rfl) | (simp only [← hji6]; first | rfl | (simp [Za1, Za2] <;> rfl)) | (simp [*, Za1, Za2] <;> rfl), by repeat (first | (with_reducible first | exact HB.out | apply Zab | apply Za | apply Zac) | exact HB.out)⟩
     rw [if_pos c7] at H
     have c7b0 : decide (x6_2 < (l0.length : Int)) = true := decide_eq_true c7
     clear c7
     have HC8 := Zaa.mk H
     clear H
     go_upto_region 8 with (fail)
     repeat (go_quiet (fail); go_upto_region 8 with (fail))
     go_cut [39] (fun v39 wc => ∃ (kq : Nat) (x39_7 : Bool), v39 = .bool x39_7 ∧ Zaa (Zas.j2 kq l0 x5_2 x6_2 x39_7 = some r) ∧ Zaa (kq ≤ k2) ∧ Zaa (Below w.heap.size w wc))
     case first =>
      have H := HC8.out
      clear HC8
      by_cases c9 : 0 ≤ x6_2
      rotate_left
      ·rw [if_neg c9] at H
       exact absurd H (by simp)
      rw [if_pos c9] at H
      have c9b0 : decide (0 ≤ x6_2) = true := decide_eq_true c9
      clear c9
      (first | rw [c9b0] | (simp only [Zbh, Zbi]; rw [c9b0]) | skip)
      by_cases c10 : (rd l0 x6_2) > 4398046511104
      ·rw [if_pos c10] at H
       have c10b0 : decide (4398046511104 < (rd l0 x6_2)) = true := decide_eq_true c10
       clear c10
       have H' := Zaa.mk H
       clear H
       have p238 : 0 ≤ (x6_2 : Int) := of_decide_eq_true (by first | (with_reducible assumption) | assumption)
       have q238 : x6_2 < (l0.length : Int) := of_decide_eq_true (by first | (with_reducible assumption) | assumption)
       obtain ⟨ad238, e238, hx238_0⟩ := Kd.Zbx HR0.out x6_2 p238 q238
       cases e238
       replace hx238_0 := (HB.out.cell (World.block_lt_of_cell? w _ hx238_0)).trans hx238_0
       replace p238 := eq_true p238
       replace q238 := eq_true q238
       go_wp2
       repeat (go_quiet (fail); try go_wp2)
       go_meet
       case rel => exact ⟨_, (true), (by first | rfl | (simp; done) | (simp [*]; done)), H', ⟨by have := HJ2.out; have := HK2.out; first | omega | exact Nat.le_refl _⟩, ⟨by repeat (first | (with_reducible first | exact HB.out | apply Zab | apply Za | apply Zac) | exact HB.out)⟩⟩
      rw [if_neg c10] at H
      have c10b0 : decide (4398046511104 < (rd l0 x6_2)) = false := decide_eq_false c10
      clear c10
      have H' := Zaa.mk H
      clear H
      have p238 : 0 ≤ (x6_2 : Int) := of_decide_eq_true (by first | (with_reducible assumption) | assumption)
      have q238 : x6_2 < (l0.length : Int) := of_decide_eq_true (by first | (with_reducible assumption) | assumption)
      obtain ⟨ad238, e238, hx238_0⟩ := Kd.Zbx HR0.out x6_2 p238 q238
      cases e238
      replace hx238_0 := (HB.out.cell (World.block_lt_of_cell? w _ hx238_0)).trans hx238_0
      replace p238 := eq_true p238
      replace q238 := eq_true q238
      have p239 : 0 ≤ (x6_2 : Int) := of_decide_eq_true (by first | (with_reducible assumption) | assumption)
      have q239 : x6_2 < (l0.length : Int) := of_decide_eq_true (by first | (with_reducible assumption) | assumption)
      obtain ⟨ad239, e239, hx239_0⟩ := Kd.Zbx HR0.out x6_2 p239 q239
      obtain rfl : ad238 = ad239 := (by injection e239)
      replace hx239_0 := (HB.out.cell (World.block_lt_of_cell? w _ hx239_0)).trans hx239_0
      replace p239 := eq_true p239
      replace q239 := eq_true q239
      go_wp2
      repeat (go_quiet (fail); try go_wp2)
      go_meet
      case rel => exact ⟨_, (decide ((rd l0 x6_2) < (-4398046511104))), (by first | rfl | (simp; done) | (simp [*]; done)), H', ⟨by have := HJ2.out; have := HK2.out; first | omega | exact Nat.le_refl _⟩, ⟨by repeat (first | (with_reducible first | exact HB.out | apply Zab | apply Za | apply Zac) | exact HB.out)⟩⟩
     case rest =>
      clear HC8
      try clear c1
      try clear p2
      try clear q2
      try clear hx2
      try clear c4
      try clear c4b0
      try clear c5
      try clear c6
      try clear p6
      try clear c7
      try clear c7b0
      try clear c9
      try clear c9b0
      try clear c10
      try clear c10b0
      try clear hx238_0
      try clear hx239_0
      try clear p2
      try clear p238
      try clear p239
      try clear p6
      try clear q238
      try clear q239
      obtain ⟨kq, x39_7, rfl, HA, HJ7, HB⟩ := hcut
      cases kq with
      | zero => exact absurd HA.out (by simp [Zas.j2])
      | succ kj7 =>
       have H := HA.out
       clear HA
       simp only [Zas.j2] at H
       by_cases c11 : x39_7 = true
       ·subst c11
        have H1 : (some true) = some r := by rw [if_pos rfl] at H; exact H
        clear H
        have H := H1
        clear H1
        obtain rfl := Option.some.inj H
        go_wp2
        repeat (go_quiet (fail); try go_wp2)
        go_ret
        exact ⟨by first | rfl | (simp [Za1, Za2] <;> rfl) | (simp only [← hji6]; first | rfl | (simp [Za1, Za2] <;> rfl)) | (simp [*, Za1, Za2] <;> rfl), by repeat (first | (with_reducible first | exact HB.out | apply Zab | apply Za | apply Zac) | exact HB.out)⟩
       replace c11 := Bool.eq_false_iff.mpr c11
       subst c11
       have H1 : (if 0 ≤ x6_2 then (if x6_2 < (l0.length : Int) then (if (wrap64 (x5_2 - (wrap64 ((mx (rd l0 x6_2) (wrap64 (-(rd l0 x6_2)))) * 1048576)))) < 0 then (some true) else (Zas.l0 kj7 l0 (wrap64 (x5_2 - (wrap64 ((mx (rd l0 x6_2) (wrap64 (-(rd l0 x6_2)))) * 1048576)))) (wrap64 (x6_2 + 1)))) else (none)) else (none)) = some r := by rw [if_neg (show ¬ (false = true) by decide)] at H; exact H
       clear H
       have H := H1
       clear H1
       by_cases c12 : 0 ≤ x6_2
       rotate_left
       ·rw [if_neg c12] at H
        exact absurd H (by simp)
       rw [if_pos c12] at H
       have c12b0 : decide (0 ≤ x6_2) = true := decide_eq_true c12
       clear c12
       by_cases c13 : x6_2 < (l0.length : Int)
       rotate_left
       ·rw [if_neg c13] at H
        exact absurd H (by simp)
       rw [if_pos c13] at H
       have c13b0 : decide (x6_2 < (l0.length : Int)) = true := decide_eq_true c13
       clear c13
       obtain ⟨ji14, hji14⟩ : ∃ j_ : Int, (mx (rd l0 x6_2) (wrap64 (-(rd l0 x6_2)))) = j_ := ⟨_, rfl⟩
       replace H : (if (wrap64 (x5_2 - (wrap64 ((ji14) * 1048576)))) < 0 then (some true) else (Zas.l0 kj7 l0 (wrap64 (x5_2 - (wrap64 ((ji14) * 1048576)))) (wrap64 (x6_2 + 1)))) = some r := by first | (rw [hji14] at H; exact H) | (simp only [hji14] at H ⊢; exact H)
       have hji14_ : (if (rd l0 x6_2) < (wrap64 (-(rd l0 x6_2))) then (wrap64 (-(rd l0 x6_2))) else (rd l0 x6_2)) = ji14 := hji14
       by_cases c15 : (wrap64 (x5_2 - (wrap64 ((ji14) * 1048576)))) < 0
       ·rw [if_pos c15] at H
        have c15b0 : decide ((wrap64 (x5_2 - (wrap64 ((ji14) * 1048576)))) < 0) = true := decide_eq_true c15
        clear c15
        obtain rfl := Option.some.inj H
        have p240 : 0 ≤ (x6_2 : Int) := of_decide_eq_true (by first | (with_reducible assumption) | assumption)
        have q240 : x6_2 < (l0.length : Int) := of_decide_eq_true (by first | (with_reducible assumption) | assumption)
        obtain ⟨ad240, e240, hx240_0⟩ := Kd.Zbx HR0.out x6_2 p240 q240
        cases e240
        replace hx240_0 := (HB.out.cell (World.block_lt_of_cell? w _ hx240_0)).trans hx240_0
        replace p240 := eq_true p240
        replace q240 := eq_true q240
        have p241 : 0 ≤ (x6_2 : Int) := of_decide_eq_true (by first | (with_reducible assumption) | assumption)
        have q241 : x6_2 < (l0.length : Int) := of_decide_eq_true (by first | (with_reducible assumption) | assumption)
        obtain ⟨ad241, e241, hx241_0⟩ := Kd.Zbx HR0.out x6_2 p241 q241
        obtain rfl : ad240 = ad241 := (by injection e241)
        replace hx241_0 := (HB.out.cell (World.block_lt_of_cell? w _ hx241_0)).trans hx241_0
        replace p241 := eq_true p241
        replace q241 := eq_true q241
        go_wp2
        repeat (go_quiet (fail); try go_wp2)
        go_ret
        exact ⟨by first | rfl | (simp [Za1, Za2] <;> rfl) | (simp only [← hji6, ← hji14]; first | rfl | (simp [Za1, Za2] <;> rfl)) | (simp [*, Za1, Za2] <;> rfl), by repeat (first | (with_reducible first | exact HB.out | apply Zab | apply Za | apply Zac) | exact HB.out)⟩
       rw [if_neg c15] at H
       have c15b0 : decide ((wrap64 (x5_2 - (wrap64 ((ji14) * 1048576)))) < 0) = false := decide_eq_false c15
       clear c15
       have H' := Zaa.mk H
       clear H
       have p240 : 0 ≤ (x6_2 : Int) := of_decide_eq_true (by first | (with_reducible assumption) | assumption)
       have q240 : x6_2 < (l0.length : Int) := of_decide_eq_true (by first | (with_reducible assumption) | assumption)
       obtain ⟨ad240, e240, hx240_0⟩ := Kd.Zbx HR0.out x6_2 p240 q240
       cases e240
       replace hx240_0 := (HB.out.cell (World.block_lt_of_cell? w _ hx240_0)).trans hx240_0
       replace p240 := eq_true p240
       replace q240 := eq_true q240
       have p241 : 0 ≤ (x6_2 : Int) := of_decide_eq_true (by first | (with_reducible assumption) | assumption)
       have q241 : x6_2 < (l0.length : Int) := of_decide_eq_true (by first | (with_reducible assumption) | assumption)
       obtain ⟨ad241, e241, hx241_0⟩ := Kd.Zbx HR0.out x6_2 p241 q241
       obtain rfl : ad240 = ad241 := (by injection e241)
       replace hx241_0 := (HB.out.cell (World.block_lt_of_cell? w _ hx241_0)).trans hx241_0
       replace p241 := eq_true p241
       replace q241 := eq_true q241
       go_wp2
       repeat (go_quiet (fail); try go_wp2)
       go_roundg kj7
       case measure => have := HJ2.out; have := HK2.out; have := HJ7.out; omega
       case rel => exact ⟨(wrap64 (x5_2 - (wrap64 ((ji14) * 1048576)))), (wrap64 (x6_2 + 1)), (by first | rfl | (simp; done) | (simp only [← hji14] <;> (first | rfl | simp)) | (simp [*]; done)), (by first | rfl | (simp; done) | (simp [*]; done)), H', ⟨by have := HJ2.out; have := HK2.out; have := HJ7.out; omega⟩, ⟨by repeat (first | (with_reducible first | exact HB.out | apply Zab | apply Za | apply Zac) | exact HB.out)⟩⟩
end Go.Proofs.Ytpbcigilipdedaa.P
