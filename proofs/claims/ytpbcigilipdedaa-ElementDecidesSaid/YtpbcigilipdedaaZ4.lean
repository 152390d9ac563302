/- Proved: what each function of the program that the statements of this seat reach comes to, for whatever memory and arguments it is called with (on condition that its plain text tells a result). -/
import Derived.Test.YtpbcigilipdedaaZ1
import Derived.Test.YtpbcigilipdedaaZ3
import Derived.Test.YtpbcigilipdedaaZ2
import Derived.Laws.BitsLemmas
import Derived.Shelf.SlicesE.DeleteFunc
import Derived.Deep.LoopGhost
import Derived.Deep.RegionHeld3
import Derived.Deep.DrawnRows
import Derived.Test.YtpbcigilipdedaaU1
namespace Go.Proofs.Ytpbcigilipdedaa.P
open Go.RowKit Go.Proofs.YtpbcigilipdedaaW.PrintWords Go.Proofs.YtpbcigilipdedaaW.PrintLast Go.Proofs.YtpbcigilipdedaaW.PrintMore
attribute [local go_sem] Zcz Zc1 Zde Zdf Zct Zcu Zc0 Zc2
set_option linter.unusedVariables false
set_option linter.unusedSimpArgs false
def Zbt.l0 : Nat → List (S41) → List (S41) → Int → Int → Option ((List (S41)))
 | 0, _, _, _, _ => none
 | k + 1, x6, x16, x17, x18 => if x18 < x17 then (if 0 ≤ x18 then (if x18 < (x16.length : Int) then (if (x6.length : Int) > 0 then (if 0 ≤ (wrap64 ((x6.length : Int) - 1)) then (if (wrap64 ((x6.length : Int) - 1)) < (x6.length : Int) then (if ((Zaw x16 x18).f0) ≤ (wrap64 (((Zaw x6 (wrap64 ((x6.length : Int) - 1))).f1) + 1)) then (Zbt.l0 k (x6.set ((wrap64 ((x6.length : Int) - 1)) : Int).toNat (⟨(Zaw x6 (wrap64 ((x6.length : Int) - 1))).f0, mx ((Zaw x6 (wrap64 ((x6.length : Int) - 1))).f1) ((Zaw x16 x18).f1)⟩ : S41)) x16 x17 (wrap64 (x18 + 1))) else (if x6.length < 8796093022208 then (Zbt.l0 k (x6 ++ [(⟨(Zaw x16 x18).f0, (Zaw x16 x18).f1⟩ : S41)]) x16 x17 (wrap64 (x18 + 1))) else (none))) else (none)) else (none)) else (if x6.length < 8796093022208 then (Zbt.l0 k (x6 ++ [(⟨(Zaw x16 x18).f0, (Zaw x16 x18).f1⟩ : S41)]) x16 x17 (wrap64 (x18 + 1))) else (none))) else (none)) else (none)) else (some x6)
def Zbt.f (k : Nat) (l0 : List (S41)) (l1 : List (S41)) : Option ((List (S41))) := (cloneR.f l0).bind fun t836 => (if t836.length + l1.length < 8796093022208 then ((some (t836 ++ l1 : List (S41))).bind fun y839 => ((sortLo.f y839).bind fun t842 => (Zbt.l0 k ([] : List (S41)) t842 (y839.length : Int) 0))) else (none))
theorem Zbt.Zb4 : ∀ k, (∀ y0 y1 y2 y3, LeO (Zbt.l0 k y0 y1 y2 y3) (Zbt.l0 (k + 1) y0 y1 y2 y3))
 | 0 => fun _ _ _ _ r h => by simp [Zbt.l0] at h
 | k + 1 => by
  have ih0 := Zbt.Zb4 k
  intro y0 y1 y2 y3
  unfold Zbt.l0
  repeat' first
  | (with_reducible exact ih0 _ _ _ _)
  | (with_reducible exact LeO.refl _)
  | (with_reducible exact LeO.none _)
  | (with_reducible refine LeO.ite ?_ ?_)
  | (with_reducible refine LeO.bind ?_ (fun _ => ?_))
  | exact ih0 _ _ _ _
  | exact LeO.none _
  | refine LeO.ite ?_ ?_
  | refine LeO.bind ?_ (fun _ => ?_)
theorem Zbt.mono : ∀ a0 a1 k, LeO (Zbt.f k a0 a1) (Zbt.f (k + 1) a0 a1) := by
 intro a0 a1 k
 have ih0 := Zbt.Zb4 k
 unfold Zbt.f
 repeat' first
   | (with_reducible exact ih0 _ _ _ _)
   | (with_reducible exact LeO.refl _)
   | (with_reducible exact LeO.none _)
   | (with_reducible refine LeO.ite ?_ ?_)
   | (with_reducible refine LeO.bind ?_ (fun _ => ?_))
   | exact ih0 _ _ _ _
   | exact LeO.none _
   | refine LeO.ite ?_ ?_
   | refine LeO.bind ?_ (fun _ => ?_)
def Zbt.T8 : Bool × List (List Nat × List Nat) := (true, [([], []), ([0], [0]), ([1], [1]), ([2], [2]), ([3, 2], [2, 3]), ([2], [2]), ([2], [2]), ([6, 2], [2, 6]), ([5, 7, 2], [2, 5, 7]), ([8, 2], [2, 8]), ([9, 2], [2, 9]), ([10, 2], [2, 10]), ([4, 11, 2], [2, 4, 11]), ([2, 12], [2, 12])])
def Zbt.B8 : List Nat := [0, 1, 3, 7, 15, 7, 7, 71, 231, 487, 999, 2023, 4095, 8191]
theorem Zbt.tab8 : rtab .any (opsOf Try.f57 8) = Zbt.T8 := by kernel_rfl
theorem Zbt.bits8 : waitsOk Zbt.T8.2 Zbt.B8 = true := by kernel_rfl
def Zbt.T9 : Bool × List (List Nat × List Nat) := (true, [([], []), ([], []), ([1], [1]), ([], []), ([], []), ([4], [4]), ([3, 5], [3, 5]), ([6], [6]), ([7], [7]), ([], []), ([9], [9]), ([8, 10], [8, 10]), ([0, 2, 0, 1, 2, 3, 4, 5, 6, 7, 8, 9, 10, 11], [0, 2]), ([12, 0, 1, 2, 3, 4, 5, 6, 7, 8, 9, 10, 11], [12]), ([13, 11, 0, 1, 2, 3, 4, 5, 6, 7, 8, 9, 10, 11], [11, 13])])
def Zbt.B9 : List Nat := [0, 0, 2, 0, 0, 16, 56, 120, 248, 0, 512, 2040, 4095, 8191, 16383]
theorem Zbt.tab9 : rtab .any (opsOf Try.f57 9) = Zbt.T9 := by kernel_rfl
theorem Zbt.bits9 : waitsOk Zbt.T9.2 Zbt.B9 = true := by kernel_rfl
set_option maxHeartbeats 8000000 in
set_option maxRecDepth 100000 in
theorem Zbt.calls (k : Nat) (A0 : Option Addr) (c0 : Nat) (l0 : List (S41)) (A1 : Option Addr) (c1 : Nat) (l1 : List (S41)) (r : List (S41)) (w : World) (hr0 : Kd.C k41 w A0 l0.length l0) (hc0 : l0.length ≤ c0) (hr1 : Kd.C k41 w A1 l1.length l1) (hc1 : l1.length ≤ c1) (h : Zbt.f k l0 l1 = some r) :
  Calls Try.prog 57 #[.slice A0 l0.length c0, .slice A1 l1.length c1] w fun e w' => ∃ v0_ : Value, e = .returned (v0_) ∧ Kd.R k41 41 w' w.heap.size (fun _ => True) v0_ r ∧ Below w.heap.size w w' := by
 have hu41 := Try.underlying41
 have HR0 := Zaa.mk hr0
 have HC0 := Zaa.mk hc0
 clear hr0 hc0
 have HR1 := Zaa.mk hr1
 have HC1 := Zaa.mk hc1
 clear hr1 hc1
 have HB := Zaa.mk (Below.refl w.heap.size w)
 have H : ((cloneR.f l0).bind fun t836 => (if t836.length + l1.length < 8796093022208 then ((some (t836 ++ l1 : List (S41))).bind fun y839 => ((sortLo.f y839).bind fun t842 => (Zbt.l0 k ([] : List (S41)) t842 (y839.length : Int) 0))) else (none))) = some r := h
 clear h
 replace H := Option.bind_eq_some_iff.mp H
 obtain ⟨t836, A30, H⟩ := H
 replace H : (if t836.length + l1.length < 8796093022208 then ((some (t836 ++ l1 : List (S41))).bind fun y839 => ((sortLo.f y839).bind fun t842 => (Zbt.l0 k ([] : List (S41)) t842 (y839.length : Int) 0))) else (none)) = some r := H
 have A3 := Zaa.mk A30
 clear A30
 by_cases c4 : t836.length + l1.length < 8796093022208
 rotate_left
 ·rw [if_neg c4] at H
  exact absurd H (by simp)
 rw [if_pos c4] at H
 have LMc4 := Zaa.mk c4
 clear c4
 obtain ⟨y839, hy839⟩ : ∃ y_ : List (S41), y_ = (t836 ++ l1) := ⟨_, rfl⟩
 replace H : ((sortLo.f y839).bind fun t842 => (Zbt.l0 k ([] : List (S41)) t842 (y839.length : Int) 0)) = some r := by first | (rw [hy839]; with_reducible exact H) | (have H2_ := (Option.bind_some _ _).symm.trans H; rw [hy839]; with_reducible exact H2_) | (have H2_ := (Option.bind_some _ _).symm.trans H; with_reducible exact H2_) | with_reducible exact H | (rw [hy839]; exact H) | exact H
 have Ny839 := Zaa.mk hy839
 clear hy839
 replace H := Option.bind_eq_some_iff.mp H
 obtain ⟨t842, A50, H⟩ := H
 replace H : (Zbt.l0 k ([] : List (S41)) t842 (y839.length : Int) 0) = some r := H
 have A5 := Zaa.mk A50
 clear A50
 have H' := Zaa.mk H
 clear H
 go_enter Try.func57, Try.ntmps57
 go_wp2_with (first | ((with_reducible refine Zbo (f := 42) rfl ?_); refine Zcr (some 11) rfl rfl Try.func42 (by kernel_rfl) rfl #[.slice A0 l0.length c0] rfl (by (try simp only [List.map_toArray, List.map_cons, List.map_nil]); first | done | rfl | (simp only [List.length_drop, List.length_take]; rfl)) ?_; (refine withB (m := w.heap.size) (w0 := w) (by repeat (first | (with_reducible first | exact HB.out | apply Zab | apply Za | apply Zac) | exact HB.out)) ?_); intro hL_; (with_reducible refine (cloneR.calls _ _ l0 t836 _ ?side1 ?side2 A3.out).mono ?_); (case side1 => repeat (first | exact HR0.out | (with_reducible refine Kd.C_alloc ?_ _) | (with_reducible refine Kd.Za0 ?_ _) | (with_reducible refine Kd.C_drew ?_))); (case side2 => exact HC0.out); rintro e w6 ⟨v837, rfl, ho0, hb⟩; refine ⟨_, rfl, ?_⟩; have n0_ := Zaa.mk (Kd.Zbs ho0 (Zae hL_)); have n1_ := Zaa.mk (Zam hL_ hb); clear HB; have HO838 := n0_; have HB := n1_; clear n0_ n1_; (try clear hb); (try clear hb2); (try clear hk); (try clear hi); (try clear ho0)) | ((with_reducible refine Zbk (b := .append) (xs := #[.tmp 11, .tmp 12]) rfl ?_); at_builtin; refine Kd.Zdd k41 (w0 := w) w.heap.size rfl (.tmp 11) (.tmp 12) 39 41 (.agg #[(.int .i64 0), (.int .i64 0)]) 16 rfl Try.underlying39 Zeb rfl (by decide) (by omega) v837 t836 l1 _ _ _ (fun _ => True) (fun _ => False) rfl rfl ?aO ?aR (fun _ _ h => h) (fun _ h => h.elim) ?aF ?aB ?aS ?aL ?_; (case aR => repeat (first | exact (Kd.Za8 HR1.out HB.out) | (with_reducible refine Kd.C_alloc ?_ _) | (with_reducible refine Kd.Za0 ?_ _) | (with_reducible refine Kd.C_drew ?_))); (case aB => exact (by repeat (first | (with_reducible first | exact HB.out | apply Zab | apply Za | apply Zac) | exact HB.out))); (case aF => exact (fun _ _ => trivial)); (case aO => exact (mvR HO838.out)); (case aS => exact (Zae (by repeat (first | (with_reducible first | exact HB.out | apply Zab | apply Za | apply Zac) | exact HB.out)))); (case aL => have := LMc4.out; omega); intro v840 w7 ho hb hg hat; rw [← Ny839.out] at ho; have n0_ := Zaa.mk (hb); have n1_ := Zaa.mk (ho); clear HB; clear HO838; have HB := n0_; have HO841 := n1_; clear n0_ n1_; clear ho hb hg hat; obtain ⟨Ao8, co8, eo8⟩ := Kd.Zbn HO841.out; subst eo8) | ((with_reducible refine Zbo (f := 83) rfl ?_); refine Zcr (some 15) rfl rfl Try.func83 (by kernel_rfl) rfl #[.slice Ao8 y839.length co8, .func (.func 84) #[] #[]] rfl (by (try simp only [List.map_toArray, List.map_cons, List.map_nil]); first | done | rfl | (simp only [List.length_drop, List.length_take]; rfl)) ?_; (with_reducible refine (sortLo.calls (fun k_ => some k_ = (.slice Ao8 y839.length co8 : Value).ownBlock) (.slice Ao8 y839.length co8) y839 t842 w _ ?side1 ?side2 A5.out).mono ?_); (case side1 => repeat (first | (with_reducible first | exact HB.out | apply Zab | apply Za | apply Zac) | exact HB.out)); (case side2 => exact Kd.Ze9 rfl HO841.out); rintro e w9 ⟨rfl, hy0, hb, hkp⟩; refine ⟨_, rfl, ?_⟩; have n0_ := Zaa.mk (Kd.R_reok rfl hy0 (fun k_ e_ => HO841.out.1 k_ e_)); have n1_ := Zaa.mk (hb); clear HO841; clear HB; have HO841 := n0_; have HB := n1_; clear n0_ n1_; (try clear hb); (try clear hkp); (try clear hy0)))
 go_loopg [6, 18] k (fun kq v6 v18 w' => ∃ (x6_1 : List (S41)) (x16_1 : List (S41)) (x18_1 : Int), v18 = .int .i64 x18_1 ∧ Zaa (Zbt.l0 kq x6_1 x16_1 (y839.length : Int) x18_1 = some r) ∧ Zaa (kq ≤ k) ∧ Zaa (Kd.R k41 41 w' w.heap.size (fun k_ => some k_ ≠ ((.slice Ao8 y839.length co8) : Value).ownBlock) v6 x6_1) ∧ Zaa (Kd.R k41 41 w' w.heap.size (fun k_ => some k_ ≠ (v6 : Value).ownBlock) (.slice Ao8 y839.length co8) x16_1) ∧ Zaa (Below w.heap.size w w'))
 case atStart => exact ⟨(([] : List (S41))), (t842), (0), (by first | rfl | (simp; done) | (simp [*]; done)), H', ⟨Nat.le_refl _⟩, ⟨by first | exact Kd.Zgh _ _ _ _ _ | exact Kd.N_nil _ _ _ _ _ | exact Kd.V_nil _ _ _ _ _ | exact Kd.Q_nil _ _ _ _ _ | exact Kd.S_nil _ _ _ _ _⟩, ⟨by (with_reducible repeat (first | apply Kd.Za6 | apply Kd.Za5 | apply Kd.Zbb)); exact Kd.Zbm HO841.out (fun _ hk => (by simp [Value.ownBlock]))⟩, ⟨by repeat (first | (with_reducible first | exact HB.out | apply Zab | apply Za | apply Zac) | exact HB.out)⟩⟩
 case round =>
  clear H'
  try clear c1
  try clear p2
  try clear c4
  try clear c5
  try clear c8
  obtain ⟨x6_1, x16_1, x18_1, rfl, HA, HK1, HO_6, HO_16, HB⟩ := hrel
  have hl16_1 := (Kd.Zaz HO_16.out).1
  rw [hl16_1] at HO_16
  (try simp only [hl16_1])
  (try simp only [hl16_1] at HO_6)
  cases gk with
  | zero => exact absurd HA.out (by simp [Zbt.l0])
  | succ k1 =>
   have H := HA.out
   clear HA
   simp only [Zbt.l0] at H
   by_cases c10 : x18_1 < (y839.length : Int)
   rotate_left
   ·rw [if_neg c10] at H
    have c10b0 : decide (x18_1 < (y839.length : Int)) = false := decide_eq_false c10
    have c10b0_l : decide (x18_1 < (x16_1.length : Int)) = false := by first | (rw [← hl16_1]; exact c10b0) | exact c10b0
    clear c10
    obtain rfl := Option.some.inj H
    go_wp2
    go_ret
    exact ⟨_, by first | rfl | (simp [Za1, Za2] <;> rfl) | (simp [*, Za1, Za2] <;> rfl), by (with_reducible repeat (first | apply Kd.Za6 | apply Kd.Za5 | apply Kd.Zbb)); exact Kd.Zbm HO_6.out (fun _ hk => trivial), by repeat (first | (with_reducible first | exact HB.out | apply Zab | apply Za | apply Zac) | exact HB.out)⟩
   rw [if_pos c10] at H
   have c10b0 : decide (x18_1 < (y839.length : Int)) = true := decide_eq_true c10
   have c10b0_l : decide (x18_1 < (x16_1.length : Int)) = true := by first | (rw [← hl16_1]; exact c10b0) | exact c10b0
   clear c10
   by_cases c11 : 0 ≤ x18_1
   rotate_left
   ·rw [if_neg c11] at H
    exact absurd H (by simp)
   rw [if_pos c11] at H
   have c11b0 : decide (0 ≤ x18_1) = true := decide_eq_true c11
   clear c11
   by_cases c12 : x18_1 < (x16_1.length : Int)
   rotate_left
   ·rw [if_neg c12] at H
    exact absurd H (by simp)
   rw [if_pos c12] at H
   have c12b0 : decide (x18_1 < (x16_1.length : Int)) = true := decide_eq_true c12
   clear c12
   by_cases c13 : (x6_1.length : Int) > 0
   rotate_left
   ·rw [if_neg c13] at H
    have c13b0 : decide (0 < (x6_1.length : Int)) = false := decide_eq_false c13
    have c13b1 : decide (0 < x6_1.length) = false := decide_eq_false (by omega)
    clear c13
    by_cases c35 : x6_1.length < 8796093022208
    rotate_left
    ·rw [if_neg c35] at H
     exact absurd H (by simp)
    rw [if_pos c35] at H
    have LMc35 := Zaa.mk c35
    clear c35
    obtain ⟨y851, hy851⟩ : ∃ y_ : List (S41), y_ = (x6_1 ++ [(⟨(Zaw x16_1 x18_1).f0, (Zaw x16_1 x18_1).f1⟩ : S41)]) := ⟨_, rfl⟩
    replace H : (Zbt.l0 k1 y851 x16_1 (y839.length : Int) (wrap64 (x18_1 + 1))) = some r := by first | (rw [hy851]; with_reducible exact H) | (have H2_ := (Option.bind_some _ _).symm.trans H; rw [hy851]; with_reducible exact H2_) | (have H2_ := (Option.bind_some _ _).symm.trans H; with_reducible exact H2_) | with_reducible exact H | (rw [hy851]; exact H) | exact H
    have Ny851 := Zaa.mk hy851
    clear hy851
    have H' := Zaa.mk H
    clear H
    have p843 : 0 ≤ (x18_1 : Int) := of_decide_eq_true (by first | (with_reducible assumption) | assumption)
    have q843 : x18_1 < (x16_1.length : Int) := of_decide_eq_true (by first | (with_reducible assumption) | assumption)
    obtain ⟨ad843, e843, hx843_0, hx843_1⟩ := Zch (Kd.Zaz HO_16.out).2.2 x18_1 p843 q843
    cases e843
    replace p843 := eq_true p843
    replace q843 := eq_true q843
    try go_wp2_with (first | ((with_reducible refine Zbq (N := 8) rfl ?_); refine Zb9 ?hg (N := 8) ?hd (cs := #[.int .i64 0, .int .i64 0]) (t := 41) ?hr ?_; (case hd => rfl); (case hg => rfl); (case hr => first | (go_simp; done) | (go_simp; rfl)); intro gb844 hg w36 hbox hb; have n0_ := Zaa.mk (Kd.Zca (Kd.Ze1 (mvR HO_6.out) gb844 (Nat.le_of_eq hg.symm)) hb); have n1_ := Zaa.mk (Kd.Zca (Kd.Ze1 (mvR HO_16.out) gb844 (Nat.le_of_eq hg.symm)) hb); have n2_ := Zaa.mk (Zam (by repeat (first | (with_reducible first | exact HB.out | apply Zab | apply Za | apply Zac) | exact HB.out)) hb); have n3_ := Zaa.mk (hbox); have n5_ := Zaa.mk ((by rw [hg]; exact (Zae (by repeat (first | (with_reducible first | exact HB.out | apply Zab | apply Za | apply Zac) | exact HB.out))) : w.heap.size ≤ gb844)); clear HO_6; clear HO_16; clear HB; have HO_6 := n0_; have HO_16 := n1_; have HB := n2_; have BK844 := n3_; have GE844 := n5_; clear n0_ n1_ n2_ n3_ n5_; clear hb hbox hg; obtain ⟨hcz37_0, hcz37_1, hfz37_0, hfz37_1⟩ := blks2 BK844.out; obtain ⟨Ao38, co38, eo38⟩ := Kd.Zbn HO_6.out; subst eo38))
    have n0_ : Zaa (Kd.R k41 41 ((w36.setCell ⟨gb844, 0, none⟩ (.int .i64 ((Zaw x16_1 x18_1).f0))).setCell ⟨gb844, 1, none⟩ (.int .i64 ((Zaw x16_1 x18_1).f1))) w.heap.size (fun k_ => some k_ ≠ (.slice (some ad843) x16_1.length co8 : Value).ownBlock ∧ k_ ≠ gb844) (.slice Ao38 x6_1.length co38) x6_1) := ⟨by (with_reducible repeat (first | apply Kd.Za6 | apply Kd.Za5 | apply Kd.Zbb)); exact Kd.Zbm (Kd.Zb5 (p := ⟨gb844, 1, none⟩) (Kd.Zb5 (p := ⟨gb844, 0, none⟩) (Kd.Zbm HO_6.out (fun k_ hk => (⟨hk, hk.2⟩ : _ ∧ k_ ≠ gb844))) (fun _ hk => hk.2) (.int .i64 ((Zaw x16_1 x18_1).f0))) (fun _ hk => hk.2) (.int .i64 ((Zaw x16_1 x18_1).f1))) (fun _ hk => ⟨hk.1.1, hk.1.2⟩)⟩
    have n1_ : Zaa (Kd.R k41 41 ((w36.setCell ⟨gb844, 0, none⟩ (.int .i64 ((Zaw x16_1 x18_1).f0))).setCell ⟨gb844, 1, none⟩ (.int .i64 ((Zaw x16_1 x18_1).f1))) w.heap.size (fun k_ => some k_ ≠ (.slice Ao38 x6_1.length co38 : Value).ownBlock ∧ k_ ≠ gb844) (.slice (some ad843) x16_1.length co8) x16_1) := ⟨by (with_reducible repeat (first | apply Kd.Za6 | apply Kd.Za5 | apply Kd.Zbb)); exact Kd.Zbm (Kd.Zb5 (p := ⟨gb844, 1, none⟩) (Kd.Zb5 (p := ⟨gb844, 0, none⟩) (Kd.Zbm HO_16.out (fun k_ hk => (⟨hk, hk.2⟩ : _ ∧ k_ ≠ gb844))) (fun _ hk => hk.2) (.int .i64 ((Zaw x16_1 x18_1).f0))) (fun _ hk => hk.2) (.int .i64 ((Zaw x16_1 x18_1).f1))) (fun _ hk => ⟨hk.1.1, hk.1.2⟩)⟩
    have n2_ : Zaa (((w36.setCell ⟨gb844, 0, none⟩ (.int .i64 ((Zaw x16_1 x18_1).f0))).setCell ⟨gb844, 1, none⟩ (.int .i64 ((Zaw x16_1 x18_1).f1))).heap[gb844]? = some (.cells #[.int .i64 ((Zaw x16_1 x18_1).f0), .int .i64 ((Zaw x16_1 x18_1).f1)] 41 (0, 0))) := ⟨by (with_reducible repeat (first | refine Zag ?_ _ | refine Zak ?_ | refine Zad ?_ _)); refine Zbl (cs := #[.int .i64 ((Zaw x16_1 x18_1).f0), .int .i64 0]) ?_ 1 _ rfl; (with_reducible repeat (first | refine Zag ?_ _ | refine Zak ?_ | refine Zad ?_ _)); refine Zbl (cs := #[.int .i64 0, .int .i64 0]) ?_ 0 _ rfl; (with_reducible repeat (first | refine Zag ?_ _ | refine Zak ?_ | refine Zad ?_ _)); exact BK844.out⟩
    have n3_ : Zaa (Below w.heap.size w ((w36.setCell ⟨gb844, 0, none⟩ (.int .i64 ((Zaw x16_1 x18_1).f0))).setCell ⟨gb844, 1, none⟩ (.int .i64 ((Zaw x16_1 x18_1).f1)))) := ⟨by repeat (first | (with_reducible first | exact HB.out | apply Zab | apply Za | apply Zac | refine Zaf ?_ GE844.out) | exact HB.out)⟩
    (try clear HO_6)
    (try clear HO_16)
    (try clear BK844)
    (try clear HB)
    generalize ((w36.setCell ⟨gb844, 0, none⟩ (.int .i64 ((Zaw x16_1 x18_1).f0))).setCell ⟨gb844, 1, none⟩ (.int .i64 ((Zaw x16_1 x18_1).f1))) = w39 at n0_ n1_ n2_ n3_ ⊢
    have HO_6 := n0_
    have HO_16 := n1_
    have BK844 := n2_
    have HB := n3_
    clear n0_ n1_ n2_ n3_
    have n0_ := Zaa.mk (Kd.Zbb HO_6.out)
    have n1_ := Zaa.mk (Kd.Zbb HO_16.out)
    have n2_ := Zaa.mk (Zak BK844.out)
    have n3_ := Zaa.mk (Zac HB.out)
    clear HO_6
    clear HO_16
    clear BK844
    clear HB
    have HO_6 := n0_
    have HO_16 := n1_
    have BK844 := n2_
    have HB := n3_
    clear n0_ n1_ n2_ n3_
    refine Zeg (n := 14) (S := fun w' => True) (ds := []) #[false, false, false, false, false, false, false, false, false, false, false, false, false, false] (by kernel_rfl) rfl rfl trivial (fun hHeld => ?_); refine Zda Zbt.tab8 Zbt.bits8 (fun HT_ HW_ => ?_)
    generalize w39.drew = w40 at HO_6 HO_16 BK844 HB hHeld ⊢
    refine Zbv (i := 0) (N := some 24) (v := ?_) (a' := ?_) #[true, false, false, false, false, false, false, false, false, false, false, false, false, false] rfl rfl (Zbf HT_.out (by kernel_rfl)) (fun _ _ _ h => h) (Or.inl ⟨by rfl, ?_⟩) ?_ ?_
    rotate_left
    ·intro w'
     go_simp
     with_reducible rfl
    rotate_left
    ·simp only [Act.put, List.setIfInBounds_toArray, List.set_cons_zero, List.set_cons_succ, Zbh, Zbi]
     rfl
    refine Zbv (i := 1) (N := some 25) (v := ?_) (a' := ?_) #[true, true, false, false, false, false, false, false, false, false, false, false, false, false] rfl rfl (Zbf HT_.out (by kernel_rfl)) (fun _ _ _ h => h) (Or.inl ⟨by rfl, ?_⟩) ?_ ?_
    rotate_left
    ·intro w'
     go_simp
     with_reducible rfl
    rotate_left
    ·simp only [Act.put, List.setIfInBounds_toArray, List.set_cons_zero, List.set_cons_succ, Zbh, Zbi]
     rfl
    refine Zbv (i := 2) (N := some 26) (v := ?_) (a' := ?_) #[true, true, true, false, false, false, false, false, false, false, false, false, false, false] rfl rfl (Zbf HT_.out (by kernel_rfl)) (fun _ _ _ h => h) (Or.inl ⟨by rfl, ?_⟩) ?_ ?_
    rotate_left
    ·intro w'
     go_simp
     with_reducible rfl
    rotate_left
    ·simp only [Act.put, List.setIfInBounds_toArray, List.set_cons_zero, List.set_cons_succ, Zbh, Zbi]
     rfl
    refine Zbv (i := 3) (N := some 27) (v := undef) (a' := ?_) #[true, true, true, true, false, false, false, false, false, false, false, false, false, false] rfl rfl (Zbf HT_.out (by kernel_rfl)) (fun _ _ _ h => h) (Or.inr ⟨by rfl, rfl⟩) ?_ ?_
    rotate_left
    ·simp only [Act.put, List.setIfInBounds_toArray, List.set_cons_zero, List.set_cons_succ, Zbh, Zbi]
     rfl
    refine Zbv (i := 4) (N := some 28) (v := undef) (a' := ?_) #[true, true, true, true, true, false, false, false, false, false, false, false, false, false] rfl rfl (Zbf HT_.out (by kernel_rfl)) (fun _ _ _ h => h) (Or.inr ⟨by rfl, rfl⟩) ?_ ?_
    rotate_left
    ·simp only [Act.put, List.setIfInBounds_toArray, List.set_cons_zero, List.set_cons_succ, Zbh, Zbi]
     rfl
    refine Zbv (i := 5) (N := some 29) (v := undef) (a' := ?_) #[true, true, true, true, true, true, false, false, false, false, false, false, false, false] rfl rfl (Zbf HT_.out (by kernel_rfl)) (fun _ _ _ h => h) (Or.inr ⟨by rfl, rfl⟩) ?_ ?_
    rotate_left
    ·simp only [Act.put, List.setIfInBounds_toArray, List.set_cons_zero, List.set_cons_succ, Zbh, Zbi]
     rfl
    refine Zbv (i := 6) (N := some 30) (v := undef) (a' := ?_) #[true, true, true, true, true, true, true, false, false, false, false, false, false, false] rfl rfl (Zbf HT_.out (by kernel_rfl)) (fun _ _ _ h => h) (Or.inr ⟨by rfl, rfl⟩) ?_ ?_
    rotate_left
    ·simp only [Act.put, List.setIfInBounds_toArray, List.set_cons_zero, List.set_cons_succ, Zbh, Zbi]
     rfl
    refine Zbv (i := 7) (N := some 31) (v := undef) (a' := ?_) #[true, true, true, true, true, true, true, true, false, false, false, false, false, false] rfl rfl (Zbf HT_.out (by kernel_rfl)) (fun _ _ _ h => h) (Or.inr ⟨by rfl, rfl⟩) ?_ ?_
    rotate_left
    ·simp only [Act.put, List.setIfInBounds_toArray, List.set_cons_zero, List.set_cons_succ, Zbh, Zbi]
     rfl
    refine Zbv (i := 8) (N := some 32) (v := undef) (a' := ?_) #[true, true, true, true, true, true, true, true, true, false, false, false, false, false] rfl rfl (Zbf HT_.out (by kernel_rfl)) (fun _ _ _ h => h) (Or.inr ⟨by rfl, rfl⟩) ?_ ?_
    rotate_left
    ·simp only [Act.put, List.setIfInBounds_toArray, List.set_cons_zero, List.set_cons_succ, Zbh, Zbi]
     rfl
    refine Zbv (i := 9) (N := some 33) (v := undef) (a' := ?_) #[true, true, true, true, true, true, true, true, true, true, false, false, false, false] rfl rfl (Zbf HT_.out (by kernel_rfl)) (fun _ _ _ h => h) (Or.inr ⟨by rfl, rfl⟩) ?_ ?_
    rotate_left
    ·simp only [Act.put, List.setIfInBounds_toArray, List.set_cons_zero, List.set_cons_succ, Zbh, Zbi]
     rfl
    refine Zbv (i := 10) (N := some 34) (v := undef) (a' := ?_) #[true, true, true, true, true, true, true, true, true, true, true, false, false, false] rfl rfl (Zbf HT_.out (by kernel_rfl)) (fun _ _ _ h => h) (Or.inr ⟨by rfl, rfl⟩) ?_ ?_
    rotate_left
    ·simp only [Act.put, List.setIfInBounds_toArray, List.set_cons_zero, List.set_cons_succ, Zbh, Zbi]
     rfl
    refine Zbv (i := 11) (N := some 35) (v := undef) (a' := ?_) #[true, true, true, true, true, true, true, true, true, true, true, true, false, false] rfl rfl (Zbf HT_.out (by kernel_rfl)) (fun _ _ _ h => h) (Or.inr ⟨by rfl, rfl⟩) ?_ ?_
    rotate_left
    ·simp only [Act.put, List.setIfInBounds_toArray, List.set_cons_zero, List.set_cons_succ, Zbh, Zbi]
     rfl
    refine Zbv (i := 12) (N := some 36) (v := undef) (a' := ?_) #[true, true, true, true, true, true, true, true, true, true, true, true, true, false] rfl rfl (Zbf HT_.out (by kernel_rfl)) (fun _ _ _ h => h) (Or.inr ⟨by rfl, rfl⟩) ?_ ?_
    rotate_left
    ·simp only [Act.put, List.setIfInBounds_toArray, List.set_cons_zero, List.set_cons_succ, Zbh, Zbi]
     rfl
    refine Zbv (i := 13) (N := some 37) (v := ?_) (a' := ?_) #[true, true, true, true, true, true, true, true, true, true, true, true, true, true] rfl rfl (Zbf HT_.out (by kernel_rfl)) (fun _ _ _ h => h) (Or.inl ⟨by rfl, ?_⟩) ?_ ?_
    rotate_left
    ·intro w'
     go_simp
     with_reducible rfl
    rotate_left
    ·simp only [Act.put, List.setIfInBounds_toArray, List.set_cons_zero, List.set_cons_succ, Zbh, Zbi]
     rfl
    refine Zfw (Zdz HT_.out (by kernel_rfl)) ?_
    obtain ⟨hcz41_0, hcz41_1, hfz41_0, hfz41_1⟩ := blks2 BK844.out
    try go_wp2_with (first | ((with_reducible refine Zbk (b := .append) (xs := #[.tmp 52, .tmp 54]) rfl ?_); at_builtin; refine Kd.Zcd k41 (w0 := w) w.heap.size rfl (.tmp 52) (.tmp 54) 39 41 (.agg #[(.int .i64 0), (.int .i64 0)]) 16 rfl Try.underlying39 Zeb rfl (by decide) (by omega) (.slice Ao38 x6_1.length co38) x6_1 (⟨(Zaw x16_1 x18_1).f0, (Zaw x16_1 x18_1).f1⟩ : S41) [.int .i64 ((Zaw x16_1 x18_1).f0), .int .i64 ((Zaw x16_1 x18_1).f1)] (fun k_ => some k_ ≠ (.slice (some ad843) x16_1.length co8 : Value).ownBlock ∧ k_ ≠ gb844) (fun _ => False) rfl rfl ?aP (fun _ hk => hk.elim) ?aF ?aO ?aB ?aS ?aL ?_; (case aP => exact Zcy _ _ _ (⟨(Zaw x16_1 x18_1).f0, (Zaw x16_1 x18_1).f1⟩ : S41)); (case aB => exact (by repeat (first | (with_reducible first | exact HB.out | apply Zab | apply Za | apply Zac | refine Zaf ?_ GE844.out) | exact HB.out))); (case aF => exact (fun k_ hk => ⟨Kd.fresh' (Kd.R_lt (mvR HO_16.out)) k_ hk, Kd.freshB (g := gb844) (o := .cells #[.int .i64 ((Zaw x16_1 x18_1).f0), .int .i64 ((Zaw x16_1 x18_1).f1)] 41 (0, 0)) (mvK BK844.out) k_ hk⟩)); (case aO => exact (mvR HO_6.out)); (case aS => exact (Zae (by repeat (first | (with_reducible first | exact HB.out | apply Zab | apply Za | apply Zac | refine Zaf ?_ GE844.out) | exact HB.out)))); (case aL => have := LMc35.out; omega); intro v852 w42 ho hb hg hat; rw [← Ny851.out] at ho; have n0_ := Zaa.mk (Kd.Zc9 (ok := (fun k_ => k_ ≠ gb844)) (mvR (Kd.Zbm HO_16.out (fun _ hk => ⟨hk.2, hk.1⟩))) hg hat); have n2_ := Zaa.mk (hb); have n3_ := Zaa.mk (ho); clear HO_16; clear BK844; clear HB; clear HO_6; have HO_16 := n0_; have HB := n2_; have HO853 := n3_; clear n0_ n2_ n3_; clear ho hb hg hat))
    (try simp only [← hl16_1])
    go_roundg k1
    case measure => have := HK1.out; omega
    case rel => exact ⟨(y851), (x16_1), (wrap64 (x18_1 + 1)), (by first | rfl | (simp; done) | (simp [*]; done)), H', ⟨by have := HK1.out; omega⟩, ⟨by (try simp only [hl16_1]); (with_reducible repeat (first | apply Kd.Za6 | apply Kd.Za5 | apply Kd.Zbb)); exact Kd.Zbm HO853.out (fun _ hk => hk.1)⟩, ⟨by (try simp only [hl16_1]); (with_reducible repeat (first | apply Kd.Za6 | apply Kd.Za5 | apply Kd.Zbb)); exact Kd.Zbm HO_16.out (fun _ hk => hk.2)⟩, ⟨by repeat (first | (with_reducible first | exact HB.out | apply Zab | apply Za | apply Zac | refine Zaf ?_ GE844.out) | exact HB.out)⟩⟩
   rw [if_pos c13] at H
   have c13b0 : decide (0 < (x6_1.length : Int)) = true := decide_eq_true c13
   have c13b1 : decide (0 < x6_1.length) = true := decide_eq_true (by omega)
   clear c13
   obtain ⟨ji14, hji14⟩ : ∃ j_ : Int, (wrap64 ((x6_1.length : Int) - 1)) = j_ := ⟨_, rfl⟩
   replace H : (if 0 ≤ (ji14) then (if (ji14) < (x6_1.length : Int) then (if ((Zaw x16_1 x18_1).f0) ≤ (wrap64 (((Zaw x6_1 (ji14)).f1) + 1)) then (Zbt.l0 k1 (x6_1.set ((ji14) : Int).toNat (⟨(Zaw x6_1 (ji14)).f0, mx ((Zaw x6_1 (ji14)).f1) ((Zaw x16_1 x18_1).f1)⟩ : S41)) x16_1 (y839.length : Int) (wrap64 (x18_1 + 1))) else (if x6_1.length < 8796093022208 then (Zbt.l0 k1 (x6_1 ++ [(⟨(Zaw x16_1 x18_1).f0, (Zaw x16_1 x18_1).f1⟩ : S41)]) x16_1 (y839.length : Int) (wrap64 (x18_1 + 1))) else (none))) else (none)) else (none)) = some r := by first | (rw [hji14] at H; exact H) | (simp only [hji14] at H ⊢; exact H)
   have hji14w : (IntKind.i64.wrap ((x6_1.length : Int) - 1)) = ji14 := (Zbh _).trans hji14
   by_cases c15 : 0 ≤ (ji14)
   rotate_left
   ·rw [if_neg c15] at H
    exact absurd H (by simp)
   rw [if_pos c15] at H
   have c15b0 : decide (0 ≤ (ji14)) = true := decide_eq_true c15
   clear c15
   by_cases c16 : (ji14) < (x6_1.length : Int)
   rotate_left
   ·rw [if_neg c16] at H
    exact absurd H (by simp)
   rw [if_pos c16] at H
   have c16b0 : decide ((ji14) < (x6_1.length : Int)) = true := decide_eq_true c16
   clear c16
   by_cases c17 : ((Zaw x16_1 x18_1).f0) ≤ (wrap64 (((Zaw x6_1 (ji14)).f1) + 1))
   rotate_left
   ·rw [if_neg c17] at H
    have c17b0 : decide (((Zaw x16_1 x18_1).f0) ≤ (wrap64 (((Zaw x6_1 (ji14)).f1) + 1))) = false := decide_eq_false c17
    clear c17
    by_cases c27 : x6_1.length < 8796093022208
    rotate_left
    ·rw [if_neg c27] at H
     exact absurd H (by simp)
    rw [if_pos c27] at H
    have LMc27 := Zaa.mk c27
    clear c27
    obtain ⟨y848, hy848⟩ : ∃ y_ : List (S41), y_ = (x6_1 ++ [(⟨(Zaw x16_1 x18_1).f0, (Zaw x16_1 x18_1).f1⟩ : S41)]) := ⟨_, rfl⟩
    replace H : (Zbt.l0 k1 y848 x16_1 (y839.length : Int) (wrap64 (x18_1 + 1))) = some r := by first | (rw [hy848]; with_reducible exact H) | (have H2_ := (Option.bind_some _ _).symm.trans H; rw [hy848]; with_reducible exact H2_) | (have H2_ := (Option.bind_some _ _).symm.trans H; with_reducible exact H2_) | with_reducible exact H | (rw [hy848]; exact H) | exact H
    have Ny848 := Zaa.mk hy848
    clear hy848
    have H' := Zaa.mk H
    clear H
    have p843 : 0 ≤ (x18_1 : Int) := of_decide_eq_true (by first | (with_reducible assumption) | assumption)
    have q843 : x18_1 < (x16_1.length : Int) := of_decide_eq_true (by first | (with_reducible assumption) | assumption)
    obtain ⟨ad843, e843, hx843_0, hx843_1⟩ := Zch (Kd.Zaz HO_16.out).2.2 x18_1 p843 q843
    cases e843
    replace p843 := eq_true p843
    replace q843 := eq_true q843
    try go_wp2_with (first | ((with_reducible refine Zbq (N := 8) rfl ?_); refine Zb9 ?hg (N := 8) ?hd (cs := #[.int .i64 0, .int .i64 0]) (t := 41) ?hr ?_; (case hd => rfl); (case hg => rfl); (case hr => first | (go_simp; done) | (go_simp; rfl)); intro gb844 hg w28 hbox hb; have n0_ := Zaa.mk (Kd.Zca (Kd.Ze1 (mvR HO_6.out) gb844 (Nat.le_of_eq hg.symm)) hb); have n1_ := Zaa.mk (Kd.Zca (Kd.Ze1 (mvR HO_16.out) gb844 (Nat.le_of_eq hg.symm)) hb); have n2_ := Zaa.mk (Zam (by repeat (first | (with_reducible first | exact HB.out | apply Zab | apply Za | apply Zac) | exact HB.out)) hb); have n3_ := Zaa.mk (hbox); have n5_ := Zaa.mk ((by rw [hg]; exact (Zae (by repeat (first | (with_reducible first | exact HB.out | apply Zab | apply Za | apply Zac) | exact HB.out))) : w.heap.size ≤ gb844)); clear HO_6; clear HO_16; clear HB; have HO_6 := n0_; have HO_16 := n1_; have HB := n2_; have BK844 := n3_; have GE844 := n5_; clear n0_ n1_ n2_ n3_ n5_; clear hb hbox hg; obtain ⟨hcz29_0, hcz29_1, hfz29_0, hfz29_1⟩ := blks2 BK844.out; obtain ⟨Ao30, co30, eo30⟩ := Kd.Zbn HO_6.out; subst eo30))
    have n0_ : Zaa (Kd.R k41 41 ((w28.setCell ⟨gb844, 0, none⟩ (.int .i64 ((Zaw x16_1 x18_1).f0))).setCell ⟨gb844, 1, none⟩ (.int .i64 ((Zaw x16_1 x18_1).f1))) w.heap.size (fun k_ => some k_ ≠ (.slice (some ad843) x16_1.length co8 : Value).ownBlock ∧ k_ ≠ gb844) (.slice Ao30 x6_1.length co30) x6_1) := ⟨by (with_reducible repeat (first | apply Kd.Za6 | apply Kd.Za5 | apply Kd.Zbb)); exact Kd.Zbm (Kd.Zb5 (p := ⟨gb844, 1, none⟩) (Kd.Zb5 (p := ⟨gb844, 0, none⟩) (Kd.Zbm HO_6.out (fun k_ hk => (⟨hk, hk.2⟩ : _ ∧ k_ ≠ gb844))) (fun _ hk => hk.2) (.int .i64 ((Zaw x16_1 x18_1).f0))) (fun _ hk => hk.2) (.int .i64 ((Zaw x16_1 x18_1).f1))) (fun _ hk => ⟨hk.1.1, hk.1.2⟩)⟩
    have n1_ : Zaa (Kd.R k41 41 ((w28.setCell ⟨gb844, 0, none⟩ (.int .i64 ((Zaw x16_1 x18_1).f0))).setCell ⟨gb844, 1, none⟩ (.int .i64 ((Zaw x16_1 x18_1).f1))) w.heap.size (fun k_ => some k_ ≠ (.slice Ao30 x6_1.length co30 : Value).ownBlock ∧ k_ ≠ gb844) (.slice (some ad843) x16_1.length co8) x16_1) := ⟨by (with_reducible repeat (first | apply Kd.Za6 | apply Kd.Za5 | apply Kd.Zbb)); exact Kd.Zbm (Kd.Zb5 (p := ⟨gb844, 1, none⟩) (Kd.Zb5 (p := ⟨gb844, 0, none⟩) (Kd.Zbm HO_16.out (fun k_ hk => (⟨hk, hk.2⟩ : _ ∧ k_ ≠ gb844))) (fun _ hk => hk.2) (.int .i64 ((Zaw x16_1 x18_1).f0))) (fun _ hk => hk.2) (.int .i64 ((Zaw x16_1 x18_1).f1))) (fun _ hk => ⟨hk.1.1, hk.1.2⟩)⟩
    have n2_ : Zaa (((w28.setCell ⟨gb844, 0, none⟩ (.int .i64 ((Zaw x16_1 x18_1).f0))).setCell ⟨gb844, 1, none⟩ (.int .i64 ((Zaw x16_1 x18_1).f1))).heap[gb844]? = some (.cells #[.int .i64 ((Zaw x16_1 x18_1).f0), .int .i64 ((Zaw x16_1 x18_1).f1)] 41 (0, 0))) := ⟨by (with_reducible repeat (first | refine Zag ?_ _ | refine Zak ?_ | refine Zad ?_ _)); refine Zbl (cs := #[.int .i64 ((Zaw x16_1 x18_1).f0), .int .i64 0]) ?_ 1 _ rfl; (with_reducible repeat (first | refine Zag ?_ _ | refine Zak ?_ | refine Zad ?_ _)); refine Zbl (cs := #[.int .i64 0, .int .i64 0]) ?_ 0 _ rfl; (with_reducible repeat (first | refine Zag ?_ _ | refine Zak ?_ | refine Zad ?_ _)); exact BK844.out⟩
    have n3_ : Zaa (Below w.heap.size w ((w28.setCell ⟨gb844, 0, none⟩ (.int .i64 ((Zaw x16_1 x18_1).f0))).setCell ⟨gb844, 1, none⟩ (.int .i64 ((Zaw x16_1 x18_1).f1)))) := ⟨by repeat (first | (with_reducible first | exact HB.out | apply Zab | apply Za | apply Zac | refine Zaf ?_ GE844.out) | exact HB.out)⟩
    (try clear HO_6)
    (try clear HO_16)
    (try clear BK844)
    (try clear HB)
    generalize ((w28.setCell ⟨gb844, 0, none⟩ (.int .i64 ((Zaw x16_1 x18_1).f0))).setCell ⟨gb844, 1, none⟩ (.int .i64 ((Zaw x16_1 x18_1).f1))) = w31 at n0_ n1_ n2_ n3_ ⊢
    have HO_6 := n0_
    have HO_16 := n1_
    have BK844 := n2_
    have HB := n3_
    clear n0_ n1_ n2_ n3_
    have n0_ := Zaa.mk (Kd.Zbb HO_6.out)
    have n1_ := Zaa.mk (Kd.Zbb HO_16.out)
    have n2_ := Zaa.mk (Zak BK844.out)
    have n3_ := Zaa.mk (Zac HB.out)
    clear HO_6
    clear HO_16
    clear BK844
    clear HB
    have HO_6 := n0_
    have HO_16 := n1_
    have BK844 := n2_
    have HB := n3_
    clear n0_ n1_ n2_ n3_
    have p845 : 0 ≤ ((ji14) : Int) := of_decide_eq_true (by first | (with_reducible assumption) | assumption)
    have q845 : (ji14) < (x6_1.length : Int) := of_decide_eq_true (by first | (with_reducible assumption) | assumption)
    obtain ⟨ad845, e845, hx845_0, hx845_1⟩ := Zch (Kd.Zaz HO_6.out).2.2 (ji14) p845 q845
    cases e845
    replace p845 := eq_true p845
    replace q845 := eq_true q845
    refine Zeg (n := 14) (S := fun w' => w'.cell? ⟨gb844, 0, none⟩ = some (.int .i64 ((Zaw x16_1 x18_1).f0)) ∧ w'.cell? ⟨gb844, 1, none⟩ = some (.int .i64 ((Zaw x16_1 x18_1).f1)) ∧ w'.cell? (ad845.add (((ji14)).toNat * 2)) = some (.int .i64 ((Zaw x6_1 (ji14)).f0)) ∧ w'.cell? ⟨(ad845.add (((ji14)).toNat * 2)).block, (ad845.add (((ji14)).toNat * 2)).off + 1, none⟩ = some (.int .i64 ((Zaw x6_1 (ji14)).f1))) (ds := []) #[false, false, false, false, false, false, false, false, false, false, false, false, false, false] (by kernel_rfl) rfl rfl ⟨(Za3 BK844.out 0).trans rfl, (Za3 BK844.out 1).trans rfl, hx845_0, hx845_1⟩ (fun hHeld => ?_); refine Zda Zbt.tab8 Zbt.bits8 (fun HT_ HW_ => ?_)
    generalize w31.drew = w32 at HO_6 HO_16 BK844 HB hx845_0 hx845_1 hHeld ⊢
    refine Zbv (i := 0) (N := some 24) (v := ?_) (a' := ?_) #[true, false, false, false, false, false, false, false, false, false, false, false, false, false] rfl rfl (Zbf HT_.out (by kernel_rfl)) (fun _ _ _ h => h) (Or.inl ⟨by rfl, ?_⟩) ?_ ?_
    rotate_left
    ·intro w'
     go_simp
     with_reducible rfl
    rotate_left
    ·simp only [Act.put, List.setIfInBounds_toArray, List.set_cons_zero, List.set_cons_succ, Zbh, Zbi]
     rfl
    refine Zbv (i := 1) (N := some 25) (v := ?_) (a' := ?_) #[true, true, false, false, false, false, false, false, false, false, false, false, false, false] rfl rfl (Zbf HT_.out (by kernel_rfl)) (fun _ _ _ h => h) (Or.inl ⟨by rfl, ?_⟩) ?_ ?_
    rotate_left
    ·intro w'
     go_simp
     with_reducible rfl
    rotate_left
    ·simp only [Act.put, List.setIfInBounds_toArray, List.set_cons_zero, List.set_cons_succ, Zbh, Zbi]
     rfl
    refine Zbv (i := 2) (N := some 26) (v := ?_) (a' := ?_) #[true, true, true, false, false, false, false, false, false, false, false, false, false, false] rfl rfl (Zbf HT_.out (by kernel_rfl)) (fun _ _ _ h => h) (Or.inl ⟨by rfl, ?_⟩) ?_ ?_
    rotate_left
    ·intro w'
     go_simp
     with_reducible rfl
    rotate_left
    ·simp only [Act.put, List.setIfInBounds_toArray, List.set_cons_zero, List.set_cons_succ, Zbh, Zbi]
     rfl
    refine Zbv (i := 3) (N := some 27) (v := ?_) (a' := ?_) #[true, true, true, true, false, false, false, false, false, false, false, false, false, false] rfl rfl (Zbf HT_.out (by kernel_rfl)) (fun _ _ _ h => h) (Or.inl ⟨by rfl, ?_⟩) ?_ ?_
    rotate_left
    ·intro w'
     go_simp
     with_reducible rfl
    rotate_left
    ·simp only [Act.put, List.setIfInBounds_toArray, List.set_cons_zero, List.set_cons_succ, Zbh, Zbi]
     rfl
    refine Zbv (i := 5) (N := some 29) (v := ?_) (a' := ?_) #[true, true, true, true, false, true, false, false, false, false, false, false, false, false] rfl rfl (Zbf HT_.out (by kernel_rfl)) (fun _ _ _ h => h) (Or.inl ⟨by rfl, ?_⟩) ?_ ?_
    rotate_left
    ·intro w'
     go_simp
     with_reducible rfl
    rotate_left
    ·simp only [Act.put, List.setIfInBounds_toArray, List.set_cons_zero, List.set_cons_succ, Zbh, Zbi]
     rfl
    refine Zbv (i := 6) (N := some 30) (v := ?_) (a' := ?_) #[true, true, true, true, false, true, true, false, false, false, false, false, false, false] rfl rfl (Zbf HT_.out (by kernel_rfl)) (fun _ _ _ h => h) (Or.inl ⟨by rfl, ?_⟩) ?_ ?_
    rotate_left
    ·intro w'
     go_simp
     with_reducible rfl
    rotate_left
    ·simp only [Act.put, List.setIfInBounds_toArray, List.set_cons_zero, List.set_cons_succ, Zbh, Zbi]
     rfl
    refine Zbv (i := 7) (N := some 31) (v := ?_) (a' := ?_) #[true, true, true, true, false, true, true, true, false, false, false, false, false, false] rfl rfl (Zbf HT_.out (by kernel_rfl)) (fun _ _ _ h => h) (Or.inl ⟨by rfl, ?_⟩) ?_ ?_
    rotate_left
    ·intro w'
     go_simp
     with_reducible rfl
    rotate_left
    ·simp only [Act.put, List.setIfInBounds_toArray, List.set_cons_zero, List.set_cons_succ, Zbh, Zbi]
     rfl
    refine Zbv (i := 8) (N := some 32) (v := ?_) (a' := ?_) #[true, true, true, true, false, true, true, true, true, false, false, false, false, false] rfl rfl (Zbf HT_.out (by kernel_rfl)) (fun _ _ _ h => h) (Or.inl ⟨by rfl, ?_⟩) ?_ ?_
    rotate_left
    ·intro w'
     go_simp
     with_reducible rfl
    rotate_left
    ·simp only [Act.put, List.setIfInBounds_toArray, List.set_cons_zero, List.set_cons_succ, Zbh, Zbi]
     rfl
    refine Zbv (i := 9) (N := some 33) (v := ?_) (a' := ?_) #[true, true, true, true, false, true, true, true, true, true, false, false, false, false] rfl rfl (Zbf HT_.out (by kernel_rfl)) (fun _ _ _ h => h) (Or.inl ⟨by rfl, ?_⟩) ?_ ?_
    rotate_left
    ·intro w'
     go_simp
     with_reducible rfl
    rotate_left
    ·simp only [Act.put, List.setIfInBounds_toArray, List.set_cons_zero, List.set_cons_succ, Zbh, Zbi]
     rfl
    refine Zdw (i := 4) (N := some 28) (v := ?_) (a' := ?_) #[true, true, true, true, true, true, true, true, true, true, false, false, false, false] rfl rfl (Zcq HT_.out HW_.out (by kernel_rfl)) (fun _ _ _ h => h) (Or.inl ⟨by rfl, ?_⟩) hHeld ?_ ?_
    rotate_left
    ·rintro w' ⟨s0, s1, s2, s3⟩
     go_simp
     with_reducible rfl
    rotate_left
    ·simp only [Act.put, List.setIfInBounds_toArray, List.set_cons_zero, List.set_cons_succ, Zbh, Zbi]
     rfl
    refine Zdw (i := 10) (N := some 34) (v := ?_) (a' := ?_) #[true, true, true, true, true, true, true, true, true, true, true, false, false, false] rfl rfl (Zcq HT_.out HW_.out (by kernel_rfl)) (fun _ _ _ h => h) (Or.inl ⟨by rfl, ?_⟩) hHeld ?_ ?_
    rotate_left
    ·rintro w' ⟨s0, s1, s2, s3⟩
     go_simp
     with_reducible rfl
    rotate_left
    ·simp only [Act.put, List.setIfInBounds_toArray, List.set_cons_zero, List.set_cons_succ, Zbh, Zbi]
     rfl
    refine Zbv (i := 11) (N := some 35) (v := ?_) (a' := ?_) #[true, true, true, true, true, true, true, true, true, true, true, true, false, false] rfl rfl (Zbf HT_.out (by kernel_rfl)) (fun _ _ _ h => h) (Or.inl ⟨by rfl, ?_⟩) ?_ ?_
    rotate_left
    ·intro w'
     go_simp
     with_reducible rfl
    rotate_left
    ·simp only [Act.put, List.setIfInBounds_toArray, List.set_cons_zero, List.set_cons_succ, Zbh, Zbi]
     rfl
    refine Zbv (i := 12) (N := some 36) (v := ?_) (a' := ?_) #[true, true, true, true, true, true, true, true, true, true, true, true, true, false] rfl rfl (Zbf HT_.out (by kernel_rfl)) (fun _ _ _ h => h) (Or.inl ⟨by rfl, ?_⟩) ?_ ?_
    rotate_left
    ·intro w'
     go_simp
     with_reducible rfl
    rotate_left
    ·simp only [Act.put, List.setIfInBounds_toArray, List.set_cons_zero, List.set_cons_succ, Zbh, Zbi]
     rfl
    refine Zbv (i := 13) (N := some 37) (v := ?_) (a' := ?_) #[true, true, true, true, true, true, true, true, true, true, true, true, true, true] rfl rfl (Zbf HT_.out (by kernel_rfl)) (fun _ _ _ h => h) (Or.inl ⟨by rfl, ?_⟩) ?_ ?_
    rotate_left
    ·intro w'
     go_simp
     with_reducible rfl
    rotate_left
    ·simp only [Act.put, List.setIfInBounds_toArray, List.set_cons_zero, List.set_cons_succ, Zbh, Zbi]
     rfl
    refine Zfw (Zdz HT_.out (by kernel_rfl)) ?_
    obtain ⟨hcz33_0, hcz33_1, hfz33_0, hfz33_1⟩ := blks2 BK844.out
    try go_wp2_with (first | ((with_reducible refine Zbk (b := .append) (xs := #[.tmp 52, .tmp 54]) rfl ?_); at_builtin; refine Kd.Zcd k41 (w0 := w) w.heap.size rfl (.tmp 52) (.tmp 54) 39 41 (.agg #[(.int .i64 0), (.int .i64 0)]) 16 rfl Try.underlying39 Zeb rfl (by decide) (by omega) (.slice (some ad845) x6_1.length co30) x6_1 (⟨(Zaw x16_1 x18_1).f0, (Zaw x16_1 x18_1).f1⟩ : S41) [.int .i64 ((Zaw x16_1 x18_1).f0), .int .i64 ((Zaw x16_1 x18_1).f1)] (fun k_ => some k_ ≠ (.slice (some ad843) x16_1.length co8 : Value).ownBlock ∧ k_ ≠ gb844) (fun _ => False) rfl rfl ?aP (fun _ hk => hk.elim) ?aF ?aO ?aB ?aS ?aL ?_; (case aP => exact Zcy _ _ _ (⟨(Zaw x16_1 x18_1).f0, (Zaw x16_1 x18_1).f1⟩ : S41)); (case aB => exact (by repeat (first | (with_reducible first | exact HB.out | apply Zab | apply Za | apply Zac | refine Zaf ?_ GE844.out) | exact HB.out))); (case aF => exact (fun k_ hk => ⟨Kd.fresh' (Kd.R_lt (mvR HO_16.out)) k_ hk, Kd.freshB (g := gb844) (o := .cells #[.int .i64 ((Zaw x16_1 x18_1).f0), .int .i64 ((Zaw x16_1 x18_1).f1)] 41 (0, 0)) (mvK BK844.out) k_ hk⟩)); (case aO => exact (mvR HO_6.out)); (case aS => exact (Zae (by repeat (first | (with_reducible first | exact HB.out | apply Zab | apply Za | apply Zac | refine Zaf ?_ GE844.out) | exact HB.out)))); (case aL => have := LMc27.out; omega); intro v849 w34 ho hb hg hat; rw [← Ny848.out] at ho; have n0_ := Zaa.mk (Kd.Zc9 (ok := (fun k_ => k_ ≠ gb844)) (mvR (Kd.Zbm HO_16.out (fun _ hk => ⟨hk.2, hk.1⟩))) hg hat); have n2_ := Zaa.mk (hb); have n3_ := Zaa.mk (ho); clear HO_16; clear BK844; clear HB; clear HO_6; have HO_16 := n0_; have HB := n2_; have HO850 := n3_; clear n0_ n2_ n3_; clear ho hb hg hat))
    (try simp only [← hl16_1])
    go_roundg k1
    case measure => have := HK1.out; omega
    case rel => exact ⟨(y848), (x16_1), (wrap64 (x18_1 + 1)), (by first | rfl | (simp; done) | (simp [*]; done)), H', ⟨by have := HK1.out; omega⟩, ⟨by (try simp only [hl16_1]); (with_reducible repeat (first | apply Kd.Za6 | apply Kd.Za5 | apply Kd.Zbb)); exact Kd.Zbm HO850.out (fun _ hk => hk.1)⟩, ⟨by (try simp only [hl16_1]); (with_reducible repeat (first | apply Kd.Za6 | apply Kd.Za5 | apply Kd.Zbb)); exact Kd.Zbm HO_16.out (fun _ hk => hk.2)⟩, ⟨by repeat (first | (with_reducible first | exact HB.out | apply Zab | apply Za | apply Zac | refine Zaf ?_ GE844.out) | exact HB.out)⟩⟩
   rw [if_pos c17] at H
   have c17b0 : decide (((Zaw x16_1 x18_1).f0) ≤ (wrap64 (((Zaw x6_1 (ji14)).f1) + 1))) = true := decide_eq_true c17
   clear c17
   obtain ⟨ji18, hji18⟩ : ∃ j_ : Int, (mx ((Zaw x6_1 (ji14)).f1) ((Zaw x16_1 x18_1).f1)) = j_ := ⟨_, rfl⟩
   replace H : (Zbt.l0 k1 (x6_1.set ((ji14) : Int).toNat (⟨(Zaw x6_1 (ji14)).f0, ji18⟩ : S41)) x16_1 (y839.length : Int) (wrap64 (x18_1 + 1))) = some r := by first | (rw [hji18] at H; exact H) | (simp only [hji18] at H ⊢; exact H)
   have hji18_ : (if ((Zaw x6_1 (ji14)).f1) < ((Zaw x16_1 x18_1).f1) then ((Zaw x16_1 x18_1).f1) else ((Zaw x6_1 (ji14)).f1)) = ji18 := hji18
   obtain ⟨y847, hy847⟩ : ∃ y_ : List (S41), y_ = (x6_1.set ((ji14) : Int).toNat (⟨(Zaw x6_1 (ji14)).f0, ji18⟩ : S41)) := ⟨_, rfl⟩
   replace H : (Zbt.l0 k1 y847 x16_1 (y839.length : Int) (wrap64 (x18_1 + 1))) = some r := by first | (rw [hy847]; with_reducible exact H) | (have H2_ := (Option.bind_some _ _).symm.trans H; rw [hy847]; with_reducible exact H2_) | (have H2_ := (Option.bind_some _ _).symm.trans H; with_reducible exact H2_) | with_reducible exact H | (rw [hy847]; exact H) | exact H
   have Ny847 := Zaa.mk hy847
   clear hy847
   have H' := Zaa.mk H
   clear H
   have p843 : 0 ≤ (x18_1 : Int) := of_decide_eq_true (by first | (with_reducible assumption) | assumption)
   have q843 : x18_1 < (x16_1.length : Int) := of_decide_eq_true (by first | (with_reducible assumption) | assumption)
   obtain ⟨ad843, e843, hx843_0, hx843_1⟩ := Zch (Kd.Zaz HO_16.out).2.2 x18_1 p843 q843
   cases e843
   replace p843 := eq_true p843
   replace q843 := eq_true q843
   try go_wp2_with (first | ((with_reducible refine Zbq (N := 8) rfl ?_); refine Zb9 ?hg (N := 8) ?hd (cs := #[.int .i64 0, .int .i64 0]) (t := 41) ?hr ?_; (case hd => rfl); (case hg => rfl); (case hr => first | (go_simp; done) | (go_simp; rfl)); intro gb844 hg w20 hbox hb; have n0_ := Zaa.mk (Kd.Zca (Kd.Ze1 (mvR HO_6.out) gb844 (Nat.le_of_eq hg.symm)) hb); have n1_ := Zaa.mk (Kd.Zca (Kd.Ze1 (mvR HO_16.out) gb844 (Nat.le_of_eq hg.symm)) hb); have n2_ := Zaa.mk (Zam (by repeat (first | (with_reducible first | exact HB.out | apply Zab | apply Za | apply Zac) | exact HB.out)) hb); have n3_ := Zaa.mk (hbox); have n5_ := Zaa.mk ((by rw [hg]; exact (Zae (by repeat (first | (with_reducible first | exact HB.out | apply Zab | apply Za | apply Zac) | exact HB.out))) : w.heap.size ≤ gb844)); clear HO_6; clear HO_16; clear HB; have HO_6 := n0_; have HO_16 := n1_; have HB := n2_; have BK844 := n3_; have GE844 := n5_; clear n0_ n1_ n2_ n3_ n5_; clear hb hbox hg; obtain ⟨hcz21_0, hcz21_1, hfz21_0, hfz21_1⟩ := blks2 BK844.out; obtain ⟨Ao22, co22, eo22⟩ := Kd.Zbn HO_6.out; subst eo22))
   have n0_ : Zaa (Kd.R k41 41 ((w20.setCell ⟨gb844, 0, none⟩ (.int .i64 ((Zaw x16_1 x18_1).f0))).setCell ⟨gb844, 1, none⟩ (.int .i64 ((Zaw x16_1 x18_1).f1))) w.heap.size (fun k_ => some k_ ≠ (.slice (some ad843) x16_1.length co8 : Value).ownBlock ∧ k_ ≠ gb844) (.slice Ao22 x6_1.length co22) x6_1) := ⟨by (with_reducible repeat (first | apply Kd.Za6 | apply Kd.Za5 | apply Kd.Zbb)); exact Kd.Zbm (Kd.Zb5 (p := ⟨gb844, 1, none⟩) (Kd.Zb5 (p := ⟨gb844, 0, none⟩) (Kd.Zbm HO_6.out (fun k_ hk => (⟨hk, hk.2⟩ : _ ∧ k_ ≠ gb844))) (fun _ hk => hk.2) (.int .i64 ((Zaw x16_1 x18_1).f0))) (fun _ hk => hk.2) (.int .i64 ((Zaw x16_1 x18_1).f1))) (fun _ hk => ⟨hk.1.1, hk.1.2⟩)⟩
   have n1_ : Zaa (Kd.R k41 41 ((w20.setCell ⟨gb844, 0, none⟩ (.int .i64 ((Zaw x16_1 x18_1).f0))).setCell ⟨gb844, 1, none⟩ (.int .i64 ((Zaw x16_1 x18_1).f1))) w.heap.size (fun k_ => some k_ ≠ (.slice Ao22 x6_1.length co22 : Value).ownBlock ∧ k_ ≠ gb844) (.slice (some ad843) x16_1.length co8) x16_1) := ⟨by (with_reducible repeat (first | apply Kd.Za6 | apply Kd.Za5 | apply Kd.Zbb)); exact Kd.Zbm (Kd.Zb5 (p := ⟨gb844, 1, none⟩) (Kd.Zb5 (p := ⟨gb844, 0, none⟩) (Kd.Zbm HO_16.out (fun k_ hk => (⟨hk, hk.2⟩ : _ ∧ k_ ≠ gb844))) (fun _ hk => hk.2) (.int .i64 ((Zaw x16_1 x18_1).f0))) (fun _ hk => hk.2) (.int .i64 ((Zaw x16_1 x18_1).f1))) (fun _ hk => ⟨hk.1.1, hk.1.2⟩)⟩
   have n2_ : Zaa (((w20.setCell ⟨gb844, 0, none⟩ (.int .i64 ((Zaw x16_1 x18_1).f0))).setCell ⟨gb844, 1, none⟩ (.int .i64 ((Zaw x16_1 x18_1).f1))).heap[gb844]? = some (.cells #[.int .i64 ((Zaw x16_1 x18_1).f0), .int .i64 ((Zaw x16_1 x18_1).f1)] 41 (0, 0))) := ⟨by (with_reducible repeat (first | refine Zag ?_ _ | refine Zak ?_ | refine Zad ?_ _)); refine Zbl (cs := #[.int .i64 ((Zaw x16_1 x18_1).f0), .int .i64 0]) ?_ 1 _ rfl; (with_reducible repeat (first | refine Zag ?_ _ | refine Zak ?_ | refine Zad ?_ _)); refine Zbl (cs := #[.int .i64 0, .int .i64 0]) ?_ 0 _ rfl; (with_reducible repeat (first | refine Zag ?_ _ | refine Zak ?_ | refine Zad ?_ _)); exact BK844.out⟩
   have n3_ : Zaa (Below w.heap.size w ((w20.setCell ⟨gb844, 0, none⟩ (.int .i64 ((Zaw x16_1 x18_1).f0))).setCell ⟨gb844, 1, none⟩ (.int .i64 ((Zaw x16_1 x18_1).f1)))) := ⟨by repeat (first | (with_reducible first | exact HB.out | apply Zab | apply Za | apply Zac | refine Zaf ?_ GE844.out) | exact HB.out)⟩
   (try clear HO_6)
   (try clear HO_16)
   (try clear BK844)
   (try clear HB)
   generalize ((w20.setCell ⟨gb844, 0, none⟩ (.int .i64 ((Zaw x16_1 x18_1).f0))).setCell ⟨gb844, 1, none⟩ (.int .i64 ((Zaw x16_1 x18_1).f1))) = w23 at n0_ n1_ n2_ n3_ ⊢
   have HO_6 := n0_
   have HO_16 := n1_
   have BK844 := n2_
   have HB := n3_
   clear n0_ n1_ n2_ n3_
   have n0_ := Zaa.mk (Kd.Zbb HO_6.out)
   have n1_ := Zaa.mk (Kd.Zbb HO_16.out)
   have n2_ := Zaa.mk (Zak BK844.out)
   have n3_ := Zaa.mk (Zac HB.out)
   clear HO_6
   clear HO_16
   clear BK844
   clear HB
   have HO_6 := n0_
   have HO_16 := n1_
   have BK844 := n2_
   have HB := n3_
   clear n0_ n1_ n2_ n3_
   have p845 : 0 ≤ ((ji14) : Int) := of_decide_eq_true (by first | (with_reducible assumption) | assumption)
   have q845 : (ji14) < (x6_1.length : Int) := of_decide_eq_true (by first | (with_reducible assumption) | assumption)
   obtain ⟨ad845, e845, hx845_0, hx845_1⟩ := Zch (Kd.Zaz HO_6.out).2.2 (ji14) p845 q845
   cases e845
   replace p845 := eq_true p845
   replace q845 := eq_true q845
   refine Zeg (n := 14) (S := fun w' => w'.cell? ⟨gb844, 0, none⟩ = some (.int .i64 ((Zaw x16_1 x18_1).f0)) ∧ w'.cell? ⟨gb844, 1, none⟩ = some (.int .i64 ((Zaw x16_1 x18_1).f1)) ∧ w'.cell? (ad845.add (((ji14)).toNat * 2)) = some (.int .i64 ((Zaw x6_1 (ji14)).f0)) ∧ w'.cell? ⟨(ad845.add (((ji14)).toNat * 2)).block, (ad845.add (((ji14)).toNat * 2)).off + 1, none⟩ = some (.int .i64 ((Zaw x6_1 (ji14)).f1))) (ds := []) #[false, false, false, false, false, false, false, false, false, false, false, false, false, false] (by kernel_rfl) rfl rfl ⟨(Za3 BK844.out 0).trans rfl, (Za3 BK844.out 1).trans rfl, hx845_0, hx845_1⟩ (fun hHeld => ?_); refine Zda Zbt.tab8 Zbt.bits8 (fun HT_ HW_ => ?_)
   generalize w23.drew = w24 at HO_6 HO_16 BK844 HB hx845_0 hx845_1 hHeld ⊢
   refine Zbv (i := 0) (N := some 24) (v := ?_) (a' := ?_) #[true, false, false, false, false, false, false, false, false, false, false, false, false, false] rfl rfl (Zbf HT_.out (by kernel_rfl)) (fun _ _ _ h => h) (Or.inl ⟨by rfl, ?_⟩) ?_ ?_
   rotate_left
   ·intro w'
    go_simp
    with_reducible rfl
   rotate_left
   ·simp only [Act.put, List.setIfInBounds_toArray, List.set_cons_zero, List.set_cons_succ, Zbh, Zbi]
    rfl
   refine Zbv (i := 1) (N := some 25) (v := ?_) (a' := ?_) #[true, true, false, false, false, false, false, false, false, false, false, false, false, false] rfl rfl (Zbf HT_.out (by kernel_rfl)) (fun _ _ _ h => h) (Or.inl ⟨by rfl, ?_⟩) ?_ ?_
   rotate_left
   ·intro w'
    go_simp
    with_reducible rfl
   rotate_left
   ·simp only [Act.put, List.setIfInBounds_toArray, List.set_cons_zero, List.set_cons_succ, Zbh, Zbi]
    rfl
   refine Zbv (i := 2) (N := some 26) (v := ?_) (a' := ?_) #[true, true, true, false, false, false, false, false, false, false, false, false, false, false] rfl rfl (Zbf HT_.out (by kernel_rfl)) (fun _ _ _ h => h) (Or.inl ⟨by rfl, ?_⟩) ?_ ?_
   rotate_left
   ·intro w'
    go_simp
    with_reducible rfl
   rotate_left
   ·simp only [Act.put, List.setIfInBounds_toArray, List.set_cons_zero, List.set_cons_succ, Zbh, Zbi]
    rfl
   refine Zbv (i := 3) (N := some 27) (v := ?_) (a' := ?_) #[true, true, true, true, false, false, false, false, false, false, false, false, false, false] rfl rfl (Zbf HT_.out (by kernel_rfl)) (fun _ _ _ h => h) (Or.inl ⟨by rfl, ?_⟩) ?_ ?_
   rotate_left
   ·intro w'
    go_simp
    with_reducible rfl
   rotate_left
   ·simp only [Act.put, List.setIfInBounds_toArray, List.set_cons_zero, List.set_cons_succ, Zbh, Zbi]
    rfl
   refine Zbv (i := 5) (N := some 29) (v := ?_) (a' := ?_) #[true, true, true, true, false, true, false, false, false, false, false, false, false, false] rfl rfl (Zbf HT_.out (by kernel_rfl)) (fun _ _ _ h => h) (Or.inl ⟨by rfl, ?_⟩) ?_ ?_
   rotate_left
   ·intro w'
    go_simp
    with_reducible rfl
   rotate_left
   ·simp only [Act.put, List.setIfInBounds_toArray, List.set_cons_zero, List.set_cons_succ, Zbh, Zbi]
    rfl
   refine Zbv (i := 6) (N := some 30) (v := ?_) (a' := ?_) #[true, true, true, true, false, true, true, false, false, false, false, false, false, false] rfl rfl (Zbf HT_.out (by kernel_rfl)) (fun _ _ _ h => h) (Or.inl ⟨by rfl, ?_⟩) ?_ ?_
   rotate_left
   ·intro w'
    go_simp
    with_reducible rfl
   rotate_left
   ·simp only [Act.put, List.setIfInBounds_toArray, List.set_cons_zero, List.set_cons_succ, Zbh, Zbi]
    rfl
   refine Zbv (i := 7) (N := some 31) (v := ?_) (a' := ?_) #[true, true, true, true, false, true, true, true, false, false, false, false, false, false] rfl rfl (Zbf HT_.out (by kernel_rfl)) (fun _ _ _ h => h) (Or.inl ⟨by rfl, ?_⟩) ?_ ?_
   rotate_left
   ·intro w'
    go_simp
    with_reducible rfl
   rotate_left
   ·simp only [Act.put, List.setIfInBounds_toArray, List.set_cons_zero, List.set_cons_succ, Zbh, Zbi]
    rfl
   refine Zbv (i := 8) (N := some 32) (v := ?_) (a' := ?_) #[true, true, true, true, false, true, true, true, true, false, false, false, false, false] rfl rfl (Zbf HT_.out (by kernel_rfl)) (fun _ _ _ h => h) (Or.inl ⟨by rfl, ?_⟩) ?_ ?_
   rotate_left
   ·intro w'
    go_simp
    with_reducible rfl
   rotate_left
   ·simp only [Act.put, List.setIfInBounds_toArray, List.set_cons_zero, List.set_cons_succ, Zbh, Zbi]
    rfl
   refine Zbv (i := 9) (N := some 33) (v := ?_) (a' := ?_) #[true, true, true, true, false, true, true, true, true, true, false, false, false, false] rfl rfl (Zbf HT_.out (by kernel_rfl)) (fun _ _ _ h => h) (Or.inl ⟨by rfl, ?_⟩) ?_ ?_
   rotate_left
   ·intro w'
    go_simp
    with_reducible rfl
   rotate_left
   ·simp only [Act.put, List.setIfInBounds_toArray, List.set_cons_zero, List.set_cons_succ, Zbh, Zbi]
    rfl
   refine Zdw (i := 4) (N := some 28) (v := ?_) (a' := ?_) #[true, true, true, true, true, true, true, true, true, true, false, false, false, false] rfl rfl (Zcq HT_.out HW_.out (by kernel_rfl)) (fun _ _ _ h => h) (Or.inl ⟨by rfl, ?_⟩) hHeld ?_ ?_
   rotate_left
   ·rintro w' ⟨s0, s1, s2, s3⟩
    go_simp
    with_reducible rfl
   rotate_left
   ·simp only [Act.put, List.setIfInBounds_toArray, List.set_cons_zero, List.set_cons_succ, Zbh, Zbi]
    rfl
   refine Zdw (i := 10) (N := some 34) (v := ?_) (a' := ?_) #[true, true, true, true, true, true, true, true, true, true, true, false, false, false] rfl rfl (Zcq HT_.out HW_.out (by kernel_rfl)) (fun _ _ _ h => h) (Or.inl ⟨by rfl, ?_⟩) hHeld ?_ ?_
   rotate_left
   ·rintro w' ⟨s0, s1, s2, s3⟩
    go_simp
    with_reducible rfl
   rotate_left
   ·simp only [Act.put, List.setIfInBounds_toArray, List.set_cons_zero, List.set_cons_succ, Zbh, Zbi]
    rfl
   refine Zbv (i := 11) (N := some 35) (v := ?_) (a' := ?_) #[true, true, true, true, true, true, true, true, true, true, true, true, false, false] rfl rfl (Zbf HT_.out (by kernel_rfl)) (fun _ _ _ h => h) (Or.inl ⟨by rfl, ?_⟩) ?_ ?_
   rotate_left
   ·intro w'
    go_simp
    with_reducible rfl
   rotate_left
   ·simp only [Act.put, List.setIfInBounds_toArray, List.set_cons_zero, List.set_cons_succ, Zbh, Zbi]
    rfl
   refine Zbv (i := 12) (N := some 36) (v := ?_) (a' := ?_) #[true, true, true, true, true, true, true, true, true, true, true, true, true, false] rfl rfl (Zbf HT_.out (by kernel_rfl)) (fun _ _ _ h => h) (Or.inl ⟨by rfl, ?_⟩) ?_ ?_
   rotate_left
   ·intro w'
    go_simp
    with_reducible rfl
   rotate_left
   ·simp only [Act.put, List.setIfInBounds_toArray, List.set_cons_zero, List.set_cons_succ, Zbh, Zbi]
    rfl
   refine Zbv (i := 13) (N := some 37) (v := ?_) (a' := ?_) #[true, true, true, true, true, true, true, true, true, true, true, true, true, true] rfl rfl (Zbf HT_.out (by kernel_rfl)) (fun _ _ _ h => h) (Or.inl ⟨by rfl, ?_⟩) ?_ ?_
   rotate_left
   ·intro w'
    go_simp
    with_reducible rfl
   rotate_left
   ·simp only [Act.put, List.setIfInBounds_toArray, List.set_cons_zero, List.set_cons_succ, Zbh, Zbi]
    rfl
   refine Zfw (Zdz HT_.out (by kernel_rfl)) ?_
   try go_wp2
   have n0_ := Zaa.mk (Kd.Zbb HO_6.out)
   have n1_ := Zaa.mk (Kd.Zbb HO_16.out)
   have n2_ := Zaa.mk (Zak BK844.out)
   have n3_ := Zaa.mk (Zac HB.out)
   clear HO_6
   clear HO_16
   clear BK844
   clear HB
   have HO_6 := n0_
   have HO_16 := n1_
   have BK844 := n2_
   have HB := n3_
   clear n0_ n1_ n2_ n3_
   have p846 : 0 ≤ ((ji14) : Int) := of_decide_eq_true (by first | (with_reducible assumption) | assumption)
   have q846 : (ji14) < (x6_1.length : Int) := of_decide_eq_true (by first | (with_reducible assumption) | assumption)
   obtain ⟨ad846, e846, hx846_0, hx846_1⟩ := Zch (Kd.Zaz HO_6.out).2.2 (ji14) p846 q846
   obtain rfl : ad845 = ad846 := (by injection e846)
   replace p846 := eq_true p846
   replace q846 := eq_true q846
   have p19 : 0 ≤ ((ji14) : Int) := of_decide_eq_true (by first | (with_reducible assumption) | assumption)
   have q19 : ((ji14) : Int) < ((x6_1.length : Int) : Int) := of_decide_eq_true (by first | (with_reducible assumption) | assumption)
   obtain ⟨go19, co19, eo19, gb19, gl19, cl19, HG19⟩ := Kd.R_form HO_6.out (by omega)
   (first | cases eo19 | (injection eo19 with ea_ en_ ec_; (first | subst ea_ | (injection ea_ with ea_; subst ea_)); subst ec_; clear en_))
   have GB19 := Zaa.mk gb19
   have GG19 := Zaa.mk HG19
   clear gb19 gl19 HG19
   (first | simp only [add_plain] at hx845_0 | skip)
   (first | simp only [add_plain] at hx845_1 | skip)
   (first | simp only [add_plain] at hx846_0 | skip)
   (first | simp only [add_plain] at hx846_1 | skip)
   obtain ⟨ce19, hcl19, hM19, hcc19, hfr19⟩ := Kd.Zg5 HO_6.out z41 ((ji14) : Int) p19 q19
   obtain rfl := Zev hM19
   have hx19_0 : World.cell? _ ⟨go19, ((ji14) : Int).toNat * 2, none⟩ = some (.int .i64 ((Zaw x6_1 (ji14)).f0)) := hcc19 0 _ rfl
   have hx19_1 : World.cell? _ ⟨go19, ((ji14) : Int).toNat * 2 + 1, none⟩ = some (.int .i64 ((Zaw x6_1 (ji14)).f1)) := hcc19 1 _ rfl
   have hf19_0 : World.frozen? _ ⟨go19, ((ji14) : Int).toNat * 2, none⟩ = false := hfr19 0
   have hf19_1 : World.frozen? _ ⟨go19, ((ji14) : Int).toNat * 2 + 1, none⟩ = false := hfr19 1
   (try clear hM19); clear hcl19 hcc19 hfr19
   replace p19 := eq_true p19
   replace q19 := eq_true q19
   obtain ⟨ce26, hcl26, hM26, hcc26, hfr26⟩ := Kd.Zg5 HO_6.out z41 ((ji14) : Int) (of_decide_eq_true (by first | (with_reducible assumption) | assumption)) (by have h_ : ((ji14) : Int) < ((x6_1.length : Int) : Int) := of_decide_eq_true (by first | (with_reducible assumption) | assumption); first | exact h_ | (have e_ := (Kd.Zaz HO_6.out).1; omega) | simpa using h_)
   obtain rfl := Zev hM26
   have HP26 := (Kd.R_seg HO_6.out ((ji14) : Int) (of_decide_eq_true (by first | (with_reducible assumption) | assumption)) (by have h_ : ((ji14) : Int) < ((x6_1.length : Int) : Int) := of_decide_eq_true (by first | (with_reducible assumption) | assumption); first | exact h_ | (have e_ := (Kd.Zaz HO_6.out).1; omega) | simpa using h_) (seg := [.int .i64 ji18]) (j := 1) hcl26 hcc26 (show 2 ≤ 2 from by decide) (x' := (⟨(Zaw x6_1 (ji14)).f0, ji18⟩ : S41)) (Zcy _ _ _ (⟨(Zaw x6_1 (ji14)).f0, ji18⟩ : S41) ) (fun _ hk => hk)).1
   rw [← Ny847.out] at HP26
   have HQ26 := Zaa.mk HP26
   (try clear hM26); clear hcl26 hcc26 hfr26 HP26
   refine Zeg (n := 15) (S := fun w' => w'.cell? ⟨gb844, 0, none⟩ = some (.int .i64 ((Zaw x16_1 x18_1).f0)) ∧ w'.cell? ⟨gb844, 1, none⟩ = some (.int .i64 ((Zaw x16_1 x18_1).f1)) ∧ w'.cell? ⟨go19, ((ji14) : Int).toNat * 2, none⟩ = some (.int .i64 ((Zaw x6_1 (ji14)).f0)) ∧ w'.cell? ⟨go19, ((ji14) : Int).toNat * 2 + 1, none⟩ = some (.int .i64 ((Zaw x6_1 (ji14)).f1))) (ds := [14]) #[false, false, false, false, false, false, false, false, false, false, false, false, false, false, false] (by kernel_rfl) rfl rfl ⟨(Za3 BK844.out 0).trans rfl, (Za3 BK844.out 1).trans rfl, hx19_0, hx19_1⟩ (fun hHeld => ?_); refine Zda Zbt.tab9 Zbt.bits9 (fun HT_ HW_ => ?_)
   generalize w24.drew = w25 at HO_6 HO_16 BK844 HB GG19 HQ26 hf19_0 hf19_1 hx19_0 hx19_1 hx845_0 hx845_1 hx846_0 hx846_1 hHeld ⊢
   refine Zbv (i := 0) (N := some 38) (v := ?_) (a' := ?_) #[true, false, false, false, false, false, false, false, false, false, false, false, false, false, false] rfl rfl (Zbf HT_.out (by kernel_rfl)) (fun _ _ _ h => h) (Or.inl ⟨by rfl, ?_⟩) ?_ ?_
   rotate_left
   ·intro w'
    go_simp
    with_reducible rfl
   rotate_left
   ·simp only [Act.put, List.setIfInBounds_toArray, List.set_cons_zero, List.set_cons_succ, Zbh, Zbi]
    rfl
   refine Zbv (i := 1) (N := some 39) (v := ?_) (a' := ?_) #[true, true, false, false, false, false, false, false, false, false, false, false, false, false, false] rfl rfl (Zbf HT_.out (by kernel_rfl)) (fun _ _ _ h => h) (Or.inl ⟨by rfl, ?_⟩) ?_ ?_
   rotate_left
   ·intro w'
    go_simp
    with_reducible rfl
   rotate_left
   ·simp only [Act.put, List.setIfInBounds_toArray, List.set_cons_zero, List.set_cons_succ, Zbh, Zbi]
    rfl
   refine Zbv (i := 2) (N := some 40) (v := ?_) (a' := ?_) #[true, true, true, false, false, false, false, false, false, false, false, false, false, false, false] rfl rfl (Zbf HT_.out (by kernel_rfl)) (fun _ _ _ h => h) (Or.inl ⟨by rfl, ?_⟩) ?_ ?_
   rotate_left
   ·intro w'
    go_simp
    with_reducible rfl
   rotate_left
   ·simp only [Act.put, List.setIfInBounds_toArray, List.set_cons_zero, List.set_cons_succ, Zbh, Zbi]
    rfl
   refine Zbv (i := 3) (N := some 41) (v := ?_) (a' := ?_) #[true, true, true, true, false, false, false, false, false, false, false, false, false, false, false] rfl rfl (Zbf HT_.out (by kernel_rfl)) (fun _ _ _ h => h) (Or.inl ⟨by rfl, ?_⟩) ?_ ?_
   rotate_left
   ·intro w'
    go_simp
    with_reducible rfl
   rotate_left
   ·simp only [Act.put, List.setIfInBounds_toArray, List.set_cons_zero, List.set_cons_succ, Zbh, Zbi]
    rfl
   refine Zbv (i := 4) (N := some 42) (v := ?_) (a' := ?_) #[true, true, true, true, true, false, false, false, false, false, false, false, false, false, false] rfl rfl (Zbf HT_.out (by kernel_rfl)) (fun _ _ _ h => h) (Or.inl ⟨by rfl, ?_⟩) ?_ ?_
   rotate_left
   ·intro w'
    go_simp
    with_reducible rfl
   rotate_left
   ·simp only [Act.put, List.setIfInBounds_toArray, List.set_cons_zero, List.set_cons_succ, Zbh, Zbi]
    rfl
   refine Zbv (i := 5) (N := some 43) (v := ?_) (a' := ?_) #[true, true, true, true, true, true, false, false, false, false, false, false, false, false, false] rfl rfl (Zbf HT_.out (by kernel_rfl)) (fun _ _ _ h => h) (Or.inl ⟨by rfl, ?_⟩) ?_ ?_
   rotate_left
   ·intro w'
    go_simp
    with_reducible rfl
   rotate_left
   ·simp only [Act.put, List.setIfInBounds_toArray, List.set_cons_zero, List.set_cons_succ, Zbh, Zbi]
    rfl
   refine Zbv (i := 6) (N := some 44) (v := ?_) (a' := ?_) #[true, true, true, true, true, true, true, false, false, false, false, false, false, false, false] rfl rfl (Zbf HT_.out (by kernel_rfl)) (fun _ _ _ h => h) (Or.inl ⟨by rfl, ?_⟩) ?_ ?_
   rotate_left
   ·intro w'
    go_simp
    with_reducible rfl
   rotate_left
   ·simp only [Act.put, List.setIfInBounds_toArray, List.set_cons_zero, List.set_cons_succ, Zbh, Zbi]
    rfl
   refine Zbv (i := 7) (N := some 45) (v := ?_) (a' := ?_) #[true, true, true, true, true, true, true, true, false, false, false, false, false, false, false] rfl rfl (Zbf HT_.out (by kernel_rfl)) (fun _ _ _ h => h) (Or.inl ⟨by rfl, ?_⟩) ?_ ?_
   rotate_left
   ·intro w'
    go_simp
    with_reducible rfl
   rotate_left
   ·simp only [Act.put, List.setIfInBounds_toArray, List.set_cons_zero, List.set_cons_succ, Zbh, Zbi]
    rfl
   refine Zbv (i := 9) (N := some 47) (v := ?_) (a' := ?_) #[true, true, true, true, true, true, true, true, false, true, false, false, false, false, false] rfl rfl (Zbf HT_.out (by kernel_rfl)) (fun _ _ _ h => h) (Or.inl ⟨by rfl, ?_⟩) ?_ ?_
   rotate_left
   ·intro w'
    go_simp
    with_reducible rfl
   rotate_left
   ·simp only [Act.put, List.setIfInBounds_toArray, List.set_cons_zero, List.set_cons_succ, Zbh, Zbi]
    rfl
   refine Zdw (i := 8) (N := some 46) (v := ?_) (a' := ?_) #[true, true, true, true, true, true, true, true, true, true, false, false, false, false, false] rfl rfl (Zcq HT_.out HW_.out (by kernel_rfl)) (fun _ _ _ h => h) (Or.inl ⟨by rfl, ?_⟩) hHeld ?_ ?_
   rotate_left
   ·rintro w' ⟨s0, s1, s2, s3⟩
    go_simp
    with_reducible rfl
   rotate_left
   ·simp only [Act.put, List.setIfInBounds_toArray, List.set_cons_zero, List.set_cons_succ, Zbh, Zbi]
    rfl
   refine Zdw (i := 10) (N := some 48) (v := ?_) (a' := ?_) #[true, true, true, true, true, true, true, true, true, true, true, false, false, false, false] rfl rfl (Zcq HT_.out HW_.out (by kernel_rfl)) (fun _ _ _ h => h) (Or.inl ⟨by rfl, ?_⟩) hHeld ?_ ?_
   rotate_left
   ·rintro w' ⟨s0, s1, s2, s3⟩
    go_simp
    with_reducible rfl
   rotate_left
   ·simp only [Act.put, List.setIfInBounds_toArray, List.set_cons_zero, List.set_cons_succ, Zbh, Zbi]
    rfl
   refine Zbv (i := 11) (N := some 49) (v := ?_) (a' := ?_) #[true, true, true, true, true, true, true, true, true, true, true, true, false, false, false] rfl rfl (Zbf HT_.out (by kernel_rfl)) (fun _ _ _ h => h) (Or.inl ⟨by rfl, ?_⟩) ?_ ?_
   rotate_left
   ·intro w'
    go_simp
    with_reducible rfl
   rotate_left
   ·simp only [Act.put, List.setIfInBounds_toArray, List.set_cons_zero, List.set_cons_succ, Zbh, Zbi]
    rfl
   refine Zbv (i := 12) (N := some 50) (v := ?_) (a' := ?_) #[true, true, true, true, true, true, true, true, true, true, true, true, true, false, false] rfl rfl (Zbf HT_.out (by kernel_rfl)) (fun _ _ _ h => h) (Or.inl ⟨by rfl, ?_⟩) ?_ ?_
   rotate_left
   ·intro w'
    go_simp
    with_reducible rfl
   rotate_left
   ·simp only [Act.put, List.setIfInBounds_toArray, List.set_cons_zero, List.set_cons_succ, Zbh, Zbi]
    rfl
   refine Zbv (i := 13) (N := some 51) (v := ?_) (a' := ?_) #[true, true, true, true, true, true, true, true, true, true, true, true, true, true, false] rfl rfl (Zbf HT_.out (by kernel_rfl)) (fun _ _ _ h => h) (Or.inl ⟨by rfl, ?_⟩) ?_ ?_
   rotate_left
   ·intro w'
    go_simp
    with_reducible rfl
   rotate_left
   ·simp only [Act.put, List.setIfInBounds_toArray, List.set_cons_zero, List.set_cons_succ, Zbh, Zbi]
    rfl
   refine last_ (i := 14) (N := none) #[true, true, true, true, true, true, true, true, true, true, true, true, true, true, true] rfl rfl (Zec HT_.out (by kernel_rfl)) (by decide) (fun K hK => ?_)
   refine skip_ (w1 := ?_) (by rfl) rfl ?_ ?_
   rotate_left
   ·go_simp
    rfl
   refine hK.out _ _ ?_
   clear hK K
   refine Zfw (Zdz HT_.out (by kernel_rfl)) ?_
   try go_wp2
   (try simp only [← hl16_1])
   go_roundg k1
   case measure => have := HK1.out; omega
   case rel => exact ⟨(y847), (x16_1), (wrap64 (x18_1 + 1)), (by first | rfl | (simp; done) | (simp [*]; done)), H', ⟨by have := HK1.out; omega⟩, ⟨by (try simp only [hl16_1]); (with_reducible repeat (first | apply Kd.Za6 | apply Kd.Za5 | apply Kd.Zbb)); exact Kd.Zbm HQ26.out (fun _ hk => hk.1)⟩, ⟨by (try simp only [hl16_1]); (with_reducible repeat (first | apply Kd.Za6 | apply Kd.Za5 | apply Kd.Zbb)); exact Kd.Zbm (Kd.Zb5 (p := ⟨go19, ((ji14) : Int).toNat * 2 + 1, none⟩) (Kd.Zbm HO_16.out (fun k_ hk => (⟨hk, fun e_ => hk.1 (by rw [e_]; rfl)⟩ : _ ∧ k_ ≠ go19))) (fun _ hk => hk.2) (.int .i64 ji18)) (fun _ hk => hk.1.1)⟩, ⟨by repeat (first | (with_reducible first | exact HB.out | apply Zab | apply Za | apply Zac | refine Zaf ?_ GB19.out | refine Zaf ?_ GE844.out) | exact HB.out)⟩⟩
end Go.Proofs.Ytpbcigilipdedaa.P
/- Plain: what is in both, and in one (the seat that has no Cut and no Minus). -/
namespace Go.Proofs.Ytpbcigilipdedaa.P
open Go.RowKit Go.Proofs.YtpbcigilipdedaaW.PrintWords Go.Proofs.YtpbcigilipdedaaW.PrintLast Go.Proofs.YtpbcigilipdedaaW.PrintMore
set_option linter.unusedVariables false
set_option linter.unusedSimpArgs false
def DomOf (r : List Rg) (q : Int → Prop) : Prop := Gd 1048576 (-1048576) r ∧ ∀ v, Va r v ↔ q v
theorem DomOf.eq {r s : List Rg} {q q' : Int → Prop} (h : DomOf r q) (k : DomOf s q') (e : ∀ v, q v ↔ q' v) : r = s := Gd.ext h.1 k.1 (fun v => (h.2 v).trans ((e v).trans (k.2 v).symm))
theorem DomOf.len {r : List Rg} {q : Int → Prop} (h : DomOf r q) : r.length ≤ 2097153 := by
  have h1 := Zcx h.1
  have h2 := Zdg h.1
  omega
theorem Gd.at {V b : Int} {d : List Rg} (h : Gd V b d) {n : Nat} (hn : n < d.length) : b ≤ d[n].f0 ∧ d[n].f0 ≤ d[n].f1 ∧ d[n].f1 ≤ V ∧ Gd V (d[n].f1 + 2) (d.drop (n + 1)) := by
  have hg := h.drop n
  rw [List.drop_eq_getElem_cons hn] at hg
  exact hg
theorem Va_drop {d : List Rg} {n : Nat} (hn : n < d.length) (v : Int) : Va (d.drop n) v ↔ (d[n].f0 ≤ v ∧ v ≤ d[n].f1) ∨ Va (d.drop (n + 1)) v := by rw [List.drop_eq_getElem_cons hn, Zco]
theorem Meet_l0 (a b : List Rg) {Vb ba bb : Int} (ha : Gd 1048576 ba a) (hba : -1048576 ≤ ba) (hb : Gd Vb bb b) (hla : a.length ≤ 3000000) (hlb : b.length ≤ 3000000) : ∀ (m i j : Nat) (out : List Rg), (a.length - i) + (b.length - j) ≤ m → i ≤ a.length → j ≤ b.length →
    out.length ≤ i + j → Gd 1048576 (-1048576) out → (∀ v, Va (a.drop i) v → Va (b.drop j) v → endB (-1048576) out ≤ v) →
    ∃ r, Ev (fun k => Zbr.l0 k a b out (i : Int) (j : Int)) r ∧ DomOf r (fun v => Va out v ∨ (Va (a.drop i) v ∧ Va (b.drop j) v)) := by
  intro m
  induction m with
  | zero =>
    intro i j out hm hi hj ho hg _
    have e1 : a.drop i = [] := List.drop_eq_nil_iff.2 (by omega)
    refine ⟨out, ?_, hg, fun v => by rw [e1]; simp⟩
    refine Ev.step (fun k => by rw [Zbr.l0, if_neg (by omega)]) ?_
    exact Ev.step (G := fun _ => some out) (fun k => by rw [Zbr.j1, if_neg (by simp)]) (Ev.pure _)
  | succ m ih =>
    intro i j out hm hi hj ho hg hend
    by_cases hil : i < a.length
    rotate_left
    · have e1 : a.drop i = [] := List.drop_eq_nil_iff.2 (by omega)
      refine ⟨out, ?_, hg, fun v => by rw [e1]; simp⟩
      refine Ev.step (fun k => by rw [Zbr.l0, if_neg (by omega)]) ?_
      exact Ev.step (G := fun _ => some out) (fun k => by rw [Zbr.j1, if_neg (by simp)]) (Ev.pure _)
    by_cases hjl : j < b.length
    rotate_left
    · have e1 : b.drop j = [] := List.drop_eq_nil_iff.2 (by omega)
      refine ⟨out, ?_, hg, fun v => by rw [e1]; simp⟩
      refine Ev.step (fun k => by rw [Zbr.l0, if_pos (by omega), decide_eq_false (show ¬ (j : Int) < (b.length : Int) by omega)]) ?_
      exact Ev.step (G := fun _ => some out) (fun k => by rw [Zbr.j1, if_neg (by simp)]) (Ev.pure _)
    obtain ⟨x1, x2, x3, x4⟩ := ha.at hil
    obtain ⟨y1, y2, y3, y4⟩ := hb.at hjl
    have hxa := show Zaw a (i : Int) = a[i] from Zf7 a i hil
    have hyb := show Zaw b (j : Int) = b[j] from Zf7 b j hjl
    have hva := Va_drop hil
    have hvb := Va_drop hjl
    have enter : ∀ {r}, Ev (fun k => Zbr.j1 k a b out (i : Int) (j : Int) true) r → Ev (fun k => Zbr.l0 k a b out (i : Int) (j : Int)) r := fun h =>
      Ev.step (fun k => by rw [Zbr.l0, if_pos (by omega), decide_eq_true (show (j : Int) < (b.length : Int) by omega)]) h
    by_cases hlt : a[i].f1 < b[j].f1
    · have next : ∀ out', out'.length ≤ i + 1 + j → Gd 1048576 (-1048576) out' → (∀ v, Va (a.drop (i + 1)) v → Va (b.drop j) v → endB (-1048576) out' ≤ v) → _ := fun out' h1 h2 h3 => ih (i + 1) j out' (by omega) (by omega) hj h1 h2 h3
      by_cases hin : mx a[i].f0 b[j].f0 ≤ mn a[i].f1 b[j].f1
      rotate_left
      · have hno : ¬ (∃ v, (a[i].f0 ≤ v ∧ v ≤ a[i].f1) ∧ (b[j].f0 ≤ v ∧ v ≤ b[j].f1)) := by
          rintro ⟨v, h1, h2⟩
          apply hin
          unfold mx mn
          split <;> split <;> omega
        obtain ⟨r, hr, hD⟩ := next out (by omega) hg (fun v h1 h2 => hend v ((hva v).2 (.inr h1)) h2)
        refine ⟨r, enter (Ev.step (fun k => by rw [Zbr.j1, if_pos rfl, if_pos (by omega), if_pos (by omega), if_pos (by omega), if_pos (by omega), hxa, hyb, if_neg hin, if_pos hlt, w1 (by omega)]) hr), hD.1, fun v => ?_⟩
        have hv := hD.2 v
        dsimp only at hv ⊢
        rw [hv, hva v, hvb v]
        constructor
        · rintro (h | ⟨h1, h2⟩)
          · exact .inl h
          exact .inr ⟨.inr h1, h2⟩
        rintro (h | ⟨h1 | h1, h2⟩)
        · exact .inl h
        · rcases h2 with h2 | h2
          · exact absurd ⟨v, h1, h2⟩ hno
          have := y4.ge h2; omega
        exact .inr ⟨h1, h2⟩
      have hlo : a[i].f0 ≤ mx a[i].f0 b[j].f0 ∧ b[j].f0 ≤ mx a[i].f0 b[j].f0 ∧ (mx a[i].f0 b[j].f0 = a[i].f0 ∨ mx a[i].f0 b[j].f0 = b[j].f0) := by unfold mx; split <;> omega
      have hhi : mn a[i].f1 b[j].f1 = a[i].f1 := by unfold mn; split <;> omega
      rw [hhi] at hin
      obtain ⟨r, hr, hD⟩ := next (out ++ [⟨mx a[i].f0 b[j].f0, a[i].f1⟩]) (by simp; omega) (Zd3.2 ⟨hg, hend (mx a[i].f0 b[j].f0) ((hva _).2 (.inl ⟨hlo.1, hin⟩)) ((hvb _).2 (.inl ⟨hlo.2.1, by omega⟩)), hin, x3⟩) (fun v h1 h2 => by
        rw [Zeu]
        exact x4.ge h1)
      refine ⟨r, enter (Ev.step (fun k => by rw [Zbr.j1, if_pos rfl, if_pos (by omega), if_pos (by omega), if_pos (by omega), if_pos (by omega), hxa, hyb, hhi, if_pos hin, if_pos (by omega), Option.bind_some, if_pos hlt, w1 (by omega)]) hr), hD.1, fun v => ?_⟩
      have hv := hD.2 v
      dsimp only at hv ⊢
      rw [hv, Zdi, Zco, hva v, hvb v]
      simp only [Va_nil, or_false]
      constructor
      · rintro ((h | h) | ⟨h1, h2⟩)
        · exact .inl h
        · exact .inr ⟨.inl ⟨by omega, h.2⟩, .inl ⟨by omega, by omega⟩⟩
        exact .inr ⟨.inr h1, h2⟩
      rintro (h | ⟨h1 | h1, h2⟩)
      · exact .inl (.inl h)
      · rcases h2 with h2 | h2
        · exact .inl (.inr ⟨by omega, h1.2⟩)
        have := y4.ge h2; omega
      exact .inr ⟨h1, h2⟩
    have next : ∀ out', out'.length ≤ i + (j + 1) → Gd 1048576 (-1048576) out' → (∀ v, Va (a.drop i) v → Va (b.drop (j + 1)) v → endB (-1048576) out' ≤ v) → _ := fun out' h1 h2 h3 => ih i (j + 1) out' (by omega) hi (by omega) h1 h2 h3
    by_cases hin : mx a[i].f0 b[j].f0 ≤ mn a[i].f1 b[j].f1
    rotate_left
    · have hno : ¬ (∃ v, (a[i].f0 ≤ v ∧ v ≤ a[i].f1) ∧ (b[j].f0 ≤ v ∧ v ≤ b[j].f1)) := by
        rintro ⟨v, h1, h2⟩
        apply hin
        unfold mx mn
        split <;> split <;> omega
      obtain ⟨r, hr, hD⟩ := next out (by omega) hg (fun v h1 h2 => hend v h1 ((hvb v).2 (.inr h2)))
      refine ⟨r, enter (Ev.step (fun k => by rw [Zbr.j1, if_pos rfl, if_pos (by omega), if_pos (by omega), if_pos (by omega), if_pos (by omega), hxa, hyb, if_neg hin, if_neg hlt, w1 (by omega)]) hr), hD.1, fun v => ?_⟩
      have hv := hD.2 v
      dsimp only at hv ⊢
      rw [hv, hva v, hvb v]
      constructor
      · rintro (h | ⟨h1, h2⟩)
        · exact .inl h
        exact .inr ⟨h1, .inr h2⟩
      rintro (h | ⟨h1, h2 | h2⟩)
      · exact .inl h
      · rcases h1 with h1 | h1
        · exact absurd ⟨v, h1, h2⟩ hno
        have := x4.ge h1; omega
      exact .inr ⟨h1, h2⟩
    have hlo : a[i].f0 ≤ mx a[i].f0 b[j].f0 ∧ b[j].f0 ≤ mx a[i].f0 b[j].f0 ∧ (mx a[i].f0 b[j].f0 = a[i].f0 ∨ mx a[i].f0 b[j].f0 = b[j].f0) := by unfold mx; split <;> omega
    have hhi : mn a[i].f1 b[j].f1 = b[j].f1 := by unfold mn; split <;> omega
    rw [hhi] at hin
    obtain ⟨r, hr, hD⟩ := next (out ++ [⟨mx a[i].f0 b[j].f0, b[j].f1⟩]) (by simp; omega) (Zd3.2 ⟨hg, hend (mx a[i].f0 b[j].f0) ((hva _).2 (.inl ⟨hlo.1, by omega⟩)) ((hvb _).2 (.inl ⟨hlo.2.1, hin⟩)), hin, by show b[j].f1 ≤ 1048576; omega⟩) (fun v h1 h2 => by
      rw [Zeu]
      exact y4.ge h2)
    refine ⟨r, enter (Ev.step (fun k => by rw [Zbr.j1, if_pos rfl, if_pos (by omega), if_pos (by omega), if_pos (by omega), if_pos (by omega), hxa, hyb, hhi, if_pos hin, if_pos (by omega), Option.bind_some, if_neg hlt, w1 (by omega)]) hr), hD.1, fun v => ?_⟩
    have hv := hD.2 v
    dsimp only at hv ⊢
    rw [hv, Zdi, Zco, hva v, hvb v]
    simp only [Va_nil, or_false]
    constructor
    · rintro ((h | h) | ⟨h1, h2⟩)
      · exact .inl h
      · exact .inr ⟨.inl ⟨by omega, by omega⟩, .inl ⟨by omega, h.2⟩⟩
      exact .inr ⟨h1, .inr h2⟩
    rintro (h | ⟨h1, h2 | h2⟩)
    · exact .inl (.inl h)
    · rcases h1 with h1 | h1
      · exact .inl (.inr ⟨by omega, h2.2⟩)
      have := x4.ge h1; omega
    exact .inr ⟨h1, h2⟩
theorem Meet_ev (a b : List Rg) {Vb bb : Int} (ha : Gd 1048576 (-1048576) a) (hb : Gd Vb bb b) (hlb : b.length ≤ 3000000) : ∃ r, Ev (fun k => Zbr.f k a b) r ∧ DomOf r (fun v => Va a v ∧ Va b v) := by
  have h1 := Zcx ha
  have h2 := Zdg ha
  obtain ⟨r, hr, hD⟩ := Meet_l0 a b ha (Int.le_refl _) hb (by omega) hlb (a.length + b.length) 0 0 [] (by omega) (by omega) (by omega) (by simp) trivial (fun v hv _ => by simp [endB]; exact ha.ge hv)
  exact ⟨r, hr, hD.1, fun v => by rw [hD.2 v]; simp⟩
set_option maxHeartbeats 2000000 in
theorem Join_l0 (l : List Rg) (hl : l.length ≤ 6000000) (hok : ∀ x ∈ l, -1048576 ≤ x.f0 ∧ x.f0 ≤ x.f1 ∧ x.f1 ≤ 1048576) (hs : ∀ i j (hi : i < l.length) (hj : j < l.length), i < j → l[i].f0 ≤ l[j].f0) : ∀ (m n : Nat) (out : List Rg), n + m = l.length → out.length ≤ n → Gd 1048576 (-1048576) out →
    (∀ o y, out = o ++ [y] → ∀ x ∈ l.drop n, y.f0 ≤ x.f0) →
    ∃ r, Ev (fun k => Zbt.l0 k out l (l.length : Int) (n : Int)) r ∧ DomOf r (fun v => Va out v ∨ Va (l.drop n) v) := by
  intro m
  induction m with
  | zero =>
    intro n out h ho hg _
    exact ⟨out, Ev.step (G := fun _ => some out) (fun k => by rw [Zbt.l0, if_neg (by omega)]) (Ev.pure _), hg, fun v => by rw [drop_nil' h]; simp⟩
  | succ m ih =>
    intro n out h ho hg hle
    have hn : n < l.length := by omega
    have hx := show Zaw l (n : Int) = l[n] from Zf7 l n hn
    have hva := Va_drop hn
    obtain ⟨b1, b2, b3⟩ := hok _ (List.getElem_mem hn)
    have hlater : ∀ x ∈ l.drop (n + 1), l[n].f0 ≤ x.f0 := fun x hx => by
      obtain ⟨j, hj, rfl⟩ := List.mem_drop_iff_getElem.1 hx
      exact hs n (n + 1 + j) hn (by omega) (by omega)
    have app : endB (-1048576) out ≤ l[n].f0 → ∃ r, Ev (fun k => Zbt.l0 k (out ++ [⟨l[n].f0, l[n].f1⟩]) l (l.length : Int) ((n + 1 : Nat) : Int)) r ∧ DomOf r (fun v => Va out v ∨ Va (l.drop n) v) := fun he => by
      obtain ⟨r, hr, hD⟩ := ih (n + 1) (out ++ [⟨l[n].f0, l[n].f1⟩]) (by omega) (by simp; omega) (Zd3.2 ⟨hg, he, b2, b3⟩) (fun o y e x hx => by
        have e2 := List.append_inj_right' e rfl
        simp only [List.cons.injEq, and_true] at e2
        rw [← e2]
        exact hlater x hx)
      refine ⟨r, hr, hD.1, fun v => ?_⟩
      have hv := hD.2 v
      dsimp only at hv ⊢
      rw [hv, Zdi, Zco, hva v]
      simp [or_assoc]
    rcases List.eq_nil_or_concat out with rfl | ⟨o, y, rfl⟩
    · obtain ⟨r, hr, hD⟩ := app (by simp [endB]; omega)
      refine ⟨r, Ev.step (fun k => by rw [Zbt.l0, if_pos (by omega), if_pos (by omega), if_pos (by omega), if_neg (by simp), if_pos (by simp), hx, w1 (by omega)]) hr, hD⟩
    rw [List.concat_eq_append] at *
    have hy := (Zd3.1 hg).2
    have hlen : (o ++ [y]).length = o.length + 1 := by simp
    have hlast : wrap64 (((o ++ [y]).length : Int) - 1) = ((o ++ [y]).length : Int) - 1 := w64 (by omega) (by omega)
    have hlt := show Zaw (o ++ [y]) (((o ++ [y]).length : Int) - 1) = y from rg_last o y
    have hyx : y.f0 ≤ l[n].f0 := hle o y rfl l[n] (by rw [List.drop_eq_getElem_cons hn]; exact List.mem_cons_self)
    have hge := (Zd3.1 hg).1.end_ge
    have hw : wrap64 (y.f1 + 1) = y.f1 + 1 := w64 (by omega) (by omega)
    by_cases c : l[n].f0 ≤ y.f1 + 1
    rotate_left
    · obtain ⟨r, hr, hD⟩ := app (by rw [Zeu]; omega)
      refine ⟨r, Ev.step (fun k => by rw [Zbt.l0, if_pos (by omega), if_pos (by omega), if_pos (by omega), if_pos (by omega), hlast, if_pos (by omega), if_pos (by omega), hx, hlt, hw, if_neg c, if_pos (by omega), w1 (by omega)]) hr, hD⟩
    have hmx : y.f1 ≤ mx y.f1 l[n].f1 ∧ l[n].f1 ≤ mx y.f1 l[n].f1 ∧ (mx y.f1 l[n].f1 = y.f1 ∨ mx y.f1 l[n].f1 = l[n].f1) := by unfold mx; split <;> omega
    have hset : (o ++ [y]).set ((((o ++ [y]).length : Int) - 1)).toNat (⟨y.f0, mx y.f1 l[n].f1⟩ : Rg) = o ++ [⟨y.f0, mx y.f1 l[n].f1⟩] := by
      have : ((((o ++ [y]).length : Int) - 1)).toNat = o.length := by rw [hlen]; omega
      rw [this]
      simp
    have h9 : (o ++ [(⟨y.f0, mx y.f1 l[n].f1⟩ : Rg)]).length = o.length + 1 := by simp
    obtain ⟨r, hr, hD⟩ := ih (n + 1) (o ++ [⟨y.f0, mx y.f1 l[n].f1⟩]) (by omega) (by omega) (Zd3.2 ⟨(Zd3.1 hg).1, hy.1, by show y.f0 ≤ mx y.f1 l[n].f1; omega, by show mx y.f1 l[n].f1 ≤ 1048576; omega⟩) (fun o' y' e x hx => by
      have e2 := List.append_inj_right' e rfl
      simp only [List.cons.injEq, and_true] at e2
      rw [← e2]
      have := hlater x hx
      show y.f0 ≤ x.f0
      omega)
    refine ⟨r, Ev.step (fun k => by rw [Zbt.l0, if_pos (by omega), if_pos (by omega), if_pos (by omega), if_pos (by omega), hlast, if_pos (by omega), if_pos (by omega), hx, hlt, hw, if_pos c, hset, w1 (by omega)]) hr, hD.1, fun v => ?_⟩
    have hv := hD.2 v
    dsimp only at hv ⊢
    rw [hv, Zdi, Zdi, Zco, Zco, hva v]
    simp only [Va_nil, or_false]
    constructor
    · rintro ((h | h) | h)
      · exact .inl (.inl h)
      · by_cases h2 : v ≤ y.f1
        · exact .inl (.inr ⟨h.1, h2⟩)
        exact .inr (.inl ⟨by omega, by omega⟩)
      exact .inr (.inr h)
    rintro ((h | h) | h | h)
    · exact .inl (.inl h)
    · exact .inl (.inr ⟨h.1, by omega⟩)
    · exact .inl (.inr ⟨by omega, by omega⟩)
    exact .inr h
theorem sortedLo_perm (l : List Rg) (hok : ∀ x ∈ l, okLo x) : List.Perm ((sortedLo l).toList.map (·.r)) l := by
  have h := Go.Sort.pdq_sorts (ltOf cfLo) swoLo (l.map toLo).toArray 0 (l.map toLo).toArray.size (Go.Lib.bitLen (l.map toLo).toArray.size) true true (Nat.zero_le _) (Nat.le_refl _) (Or.inl rfl)
  have hp := h.1.2.2
  have hsz := h.1.1
  have e1 : (sortedLo l).extract 0 (l.map toLo).toArray.size = sortedLo l := by
    have : (l.map toLo).toArray.size = (sortedLo l).size := hsz.symm
    rw [this]
    simp
  have e2 : (l.map toLo).toArray.extract 0 (l.map toLo).toArray.size = (l.map toLo).toArray := by simp [List.take_of_length_le]
  rw [e2] at hp
  have hp2 : List.Perm (sortedLo l).toList (l.map toLo) := by
    have : (Go.Sort.pdq (ltOf cfLo) (l.map toLo).toArray 0 (l.map toLo).toArray.size (Go.Lib.bitLen (l.map toLo).toArray.size) true true).extract 0 (l.map toLo).toArray.size = sortedLo l := e1
    rw [this] at hp
    exact hp
  have e3 : (l.map toLo).map (·.r) = l := by
    rw [List.map_map]
    exact (List.map_congr_left (fun x hx => toLo_val (hok x hx))).trans (List.map_id' l)
  have := hp2.map (·.r)
  rwa [e3] at this
theorem sortedLo_le (l : List Rg) (i j : Nat) (hi : i < ((sortedLo l).toList.map SubLo.r).length) (hj : j < ((sortedLo l).toList.map SubLo.r).length) (hij : i < j) : (((sortedLo l).toList.map SubLo.r)[i]).f0 ≤ (((sortedLo l).toList.map SubLo.r)[j]).f0 := by
  have h := Go.Sort.pdq_sorts (ltOf cfLo) swoLo (l.map toLo).toArray 0 (l.map toLo).toArray.size (Go.Lib.bitLen (l.map toLo).toArray.size) true true (Nat.zero_le _) (Nat.le_refl _) (Or.inl rfl)
  have hsz := Zem l
  simp at hi hj
  have hs := h.2 i j (Nat.zero_le _) hij (by simp; omega)
  have hs' : ltOf cfLo (sortedLo l)[j]! (sortedLo l)[i]! = false := hs
  rw [ltLo, decide_eq_false_iff_not, getElem!_pos _ i (by omega), getElem!_pos _ j (by omega)] at hs'
  simp only [List.getElem_map, Array.getElem_toList]
  omega
theorem Join_ev (a b : List Rg) (ha : Gd 1048576 (-1048576) a) (hb : Gd 1048576 (-1048576) b) : ∃ r, Ev (fun k => Zbt.f k a b) r ∧ DomOf r (fun v => Va a v ∨ Va b v) := by
  have h1 := Zcx ha
  have h2 := Zdg ha
  have h3 := Zcx hb
  have h4 := Zdg hb
  have hin : ∀ {d : List Rg}, Gd 1048576 (-1048576) d → ∀ x ∈ d, -1048576 ≤ x.f0 ∧ x.f0 ≤ x.f1 ∧ x.f1 ≤ 1048576 := fun hd x hx => by
    obtain ⟨n, hn, rfl⟩ := List.mem_iff_getElem.1 hx
    obtain ⟨q1, q2, q3, _⟩ := hd.at hn
    exact ⟨q1, q2, q3⟩
  have hab : ∀ x ∈ a ++ b, -1048576 ≤ x.f0 ∧ x.f0 ≤ x.f1 ∧ x.f1 ≤ 1048576 := fun x hx => (List.mem_append.1 hx).elim (hin ha x) (hin hb x)
  have hok : ∀ x ∈ a ++ b, okLo x := fun x hx => by have := hab x hx; exact ⟨by omega, by omega⟩
  have hsl : ((sortedLo (a ++ b)).toList.map (·.r)).length = (a ++ b).length := by simp [Zem]
  have hp := sortedLo_perm (a ++ b) hok
  have hsort : sortLo.f (a ++ b) = some ((sortedLo (a ++ b)).toList.map (·.r)) := by
    rw [sortLo.f, if_pos (List.all_eq_true.2 (fun x hx => decide_eq_true (hok x hx))), if_pos (by simp; omega)]
  obtain ⟨r, hr, hD⟩ := Join_l0 ((sortedLo (a ++ b)).toList.map (·.r)) (by rw [hsl]; simp; omega) (fun x hx => hab x (hp.mem_iff.1 hx)) (sortedLo_le (a ++ b)) _ 0 [] (Nat.zero_add _) (by simp) trivial (fun o y e => by simp at e)
  rw [hsl] at hr
  refine ⟨r, ?_, hD.1, fun v => ?_⟩
  · refine Ev.bind (Ev.const (show cloneR.f a = some a by rw [cloneR.f, if_pos (by omega)])) ?_
    refine Ev.Zcf (by omega) (Ev.bind (Ev.pure _) (Ev.bind (Ev.const hsort) hr))
  have hv := hD.2 v
  dsimp only at hv ⊢
  rw [hv, List.drop_zero]
  simp only [Va_nil, false_or]
  rw [← Zdi]
  unfold Va
  exact ⟨fun ⟨x, h1, h2⟩ => ⟨x, hp.mem_iff.1 h1, h2⟩, fun ⟨x, h1, h2⟩ => ⟨x, hp.mem_iff.2 h1, h2⟩⟩
end Go.Proofs.Ytpbcigilipdedaa.P
/- Lists of good domains. -/
namespace Go.Proofs.Ytpbcigilipdedaa.P
open Go.RowKit Go.Proofs.YtpbcigilipdedaaW.PrintWords Go.Proofs.YtpbcigilipdedaaW.PrintLast Go.Proofs.YtpbcigilipdedaaW.PrintMore
set_option linter.unusedVariables false
set_option linter.unusedSimpArgs false
def dv (d : List (List Rg)) (v : Int) : List Rg := d.getD v.toNat []
theorem and16 (x : Int) : 0 ≤ Go.bits .and .i64 x 65535 ∧ Go.bits .and .i64 x 65535 ≤ 65535 := by
  have h : ((BitVec.ofInt IntKind.i64.bits x &&& BitVec.ofInt IntKind.i64.bits 65535).toNat : Int) ≤ 65535 := by
    rw [BitVec.toNat_and]
    have h1 := Nat.and_le_right (n := (BitVec.ofInt IntKind.i64.bits x).toNat) (m := (BitVec.ofInt IntKind.i64.bits 65535).toNat)
    have h2 : (BitVec.ofInt IntKind.i64.bits 65535).toNat = 65535 := by decide
    omega
  have e : Go.bits .and .i64 x 65535 = IntKind.i64.wrap ((BitVec.ofInt IntKind.i64.bits x &&& BitVec.ofInt IntKind.i64.bits 65535).toNat : Int) := rfl
  rw [e, Zbh, w64 (by omega) (by omega)]
  omega
theorem tmod_in {n : Int} {m : Nat} (hn : 0 ≤ n) (hm : 0 < m) : 0 ≤ Int.tmod n (m : Int) ∧ Int.tmod n (m : Int) < (m : Int) := by
  rw [Int.tmod_eq_emod_of_nonneg hn]
  exact ⟨Int.emod_nonneg _ (by omega), Int.emod_lt_of_pos _ (by omega)⟩
def Doms (d : List (List Rg)) : Prop := d.length ≤ 64 ∧ ∀ x ∈ d, Gd 1048576 (-1048576) x ∧ (vals x).length ≤ 4096
theorem domsC_doms (D : List (List Int)) : Doms (domsC D) := by
  refine ⟨Nat.le_trans (Zea D) (by omega), fun x hx => ?_⟩
  obtain ⟨y, _, rfl⟩ := List.mem_map.1 hx
  exact ⟨dsm_gd _, Nat.le_trans (dsm_vlen _) (by omega)⟩
end Go.Proofs.Ytpbcigilipdedaa.P
/- element.Prune, in plain words. -/
namespace Go.Proofs.Ytpbcigilipdedaa.P
open Go.RowKit Go.Proofs.YtpbcigilipdedaaW.PrintWords Go.Proofs.YtpbcigilipdedaaW.PrintLast Go.Proofs.YtpbcigilipdedaaW.PrintMore
set_option linter.unusedVariables false
def Zai.meets (k : Nat) (l0 : List (List S41)) (rs : List S41) : List Int → Option (List (List S41))
 | [] => some []
 | v :: vs => if 0 ≤ v then (if v < (l0.length : Int) then ((Zbr.f k (l0.getD v.toNat []) rs).bind fun m => ((Zai.meets k l0 rs vs).bind fun ms => (some (m :: ms)))) else (none)) else (none)
def Zai.joins (k : Nat) (ms : List (List S41)) : List Int → List S41 → Option (List S41)
 | [], may => some may
 | i :: is, may => (Zbt.f k may (ms.getD i.toNat [])).bind fun m => Zai.joins k ms is m
def Zai.placed (ms : List (List S41)) (i : Int) : Bool := decide (0 ≤ i) && decide (i < (ms.length : Int)) && !(ms.getD i.toNat []).isEmpty
def Zai.last (l0 : List (List S41)) (ix rs : Int) (list places : List Int) (o may : List S41) : List (List S41) :=
  if places.length = 1 then ((l0.set ix.toNat o).set rs.toNat may).set (list.getD (places.getD 0 0).toNat 0).toNat may else (l0.set ix.toNat o).set rs.toNat may
def Zai.g (k : Nat) (l0 : List (List S41)) (ix rs : Int) (list : List Int) : Option (List (List S41) × Bool) :=
  if 0 ≤ ix ∧ ix < (l0.length : Int) ∧ 0 ≤ rs ∧ rs < (l0.length : Int) then
    ((Zai.meets k l0 (l0.getD rs.toNat []) list).bind fun ms =>
    ((Zdq.f (l0.getD ix.toNat [])).bind fun vals =>
    (if vals = [] then none else if vals.filter (Zai.placed ms) = [] then some ([], false) else
    ((Zai.joins k ms (vals.filter (Zai.placed ms)) []).bind fun may =>
    ((Ze.f k (vals.filter (Zai.placed ms))).bind fun o =>
    (if may.length < 8796093022208 then some (Zai.last l0 ix rs list (vals.filter (Zai.placed ms)) o.1 may, true) else none))))))
  else none
def Zai.f (k : Nat) (l0 : List (List S41)) (a1_0 : Int) (l1_1 : List Int) (l1_2 : List Int) (a1_3 : Int) (a1_4 : Int) (l1_5 : List (List Int)) (a1_6 : Int) : Option (List (List S41) × Bool) :=
  if l0.length < 5864062014805 ∧ (∀ x ∈ l0, x.length < 8796093022208) then
    (if l0.any List.isEmpty = true then some ([], false) else match l1_1 with
      | ix :: rs :: list => Zai.g k l0 ix rs list
      | _ => none)
  else none
theorem Zai.Zg9 (l0 : List (List S41)) (rs : List S41) (k : Nat) : ∀ vs, LeO (Zai.meets k l0 rs vs) (Zai.meets (k + 1) l0 rs vs)
  | [] => LeO.refl _
  | v :: vs => by
    unfold Zai.meets
    refine LeO.ite (LeO.ite (LeO.bind (Zbr.mono _ _ _) (fun m => LeO.bind (Zai.Zg9 l0 rs k vs) (fun _ => LeO.refl _))) (LeO.refl _)) (LeO.refl _)
theorem Zai.Zg8 (ms : List (List S41)) (k : Nat) : ∀ is may, LeO (Zai.joins k ms is may) (Zai.joins (k + 1) ms is may)
  | [], may => LeO.refl _
  | i :: is, may => by
    unfold Zai.joins
    exact LeO.bind (Zbt.mono _ _ _) (fun m => Zai.Zg8 ms k is m)
theorem Zai.mono : ∀ a0 a1 a2 a3 a4 a5 a6 a7 k, LeO (Zai.f k a0 a1 a2 a3 a4 a5 a6 a7) (Zai.f (k + 1) a0 a1 a2 a3 a4 a5 a6 a7) := by
  intro a0 a1 a2 a3 a4 a5 a6 a7 k
  unfold Zai.f
  refine LeO.ite (LeO.ite (LeO.refl _) ?_) (LeO.refl _)
  split
  · unfold Zai.g
    refine LeO.ite (LeO.bind (Zai.Zg9 _ _ _ _) (fun ms => LeO.bind (LeO.refl _) (fun vals => LeO.ite (LeO.refl _) (LeO.ite (LeO.refl _) (LeO.bind (Zai.Zg8 _ _ _ _) (fun may => LeO.bind (Ze.mono _ _) (fun o => LeO.refl _))))))) (LeO.refl _)
  exact LeO.refl _
end Go.Proofs.Ytpbcigilipdedaa.P
/- element.Prune on good domains: what is left of them. -/
namespace Go.Proofs.Ytpbcigilipdedaa.P
open Go.RowKit Go.Proofs.YtpbcigilipdedaaW.PrintWords Go.Proofs.YtpbcigilipdedaaW.PrintLast Go.Proofs.YtpbcigilipdedaaW.PrintMore
set_option linter.unusedVariables false
set_option linter.unusedSimpArgs false
theorem Zgk {d : List (List Rg)} {v : Int} (h0 : 0 ≤ v) (h1 : v < (d.length : Int)) : dv d v ∈ d := by
  unfold dv
  rw [List.getD_eq_getElem?_getD, List.getElem?_eq_getElem (by omega)]
  exact List.getElem_mem _
theorem Gd.some {V b : Int} {d : List Rg} (h : Gd V b d) (hne : d ≠ []) : ∃ v, Va d v := by
  cases d with
  | nil => exact absurd rfl hne
  | cons x ds =>
    obtain ⟨_, h2, _⟩ := h
    exact ⟨x.f0, x, List.mem_cons_self, Int.le_refl _, h2⟩
theorem Va_ne {d : List Rg} {v : Int} (h : Va d v) : d ≠ [] := by
  rintro rfl
  obtain ⟨x, hx, _⟩ := h
  cases hx
theorem Doms.len {d : List (List Rg)} (hd : Doms d) {x : List Rg} (hx : x ∈ d) : x.length ≤ 4096 := Nat.le_trans (Zcx (hd.2 x hx).1) (hd.2 x hx).2
theorem meets_ev (d : List (List Rg)) (hd : Doms d) (rs : Int) (hr0 : 0 ≤ rs) (hr1 : rs < (d.length : Int)) : ∀ (list : List Int), (∀ v ∈ list, 0 ≤ v ∧ v < (d.length : Int)) →
    ∃ ms, Ev (fun k => Zai.meets k d (d.getD rs.toNat []) list) ms ∧ ms.length = list.length ∧ ∀ i, i < list.length → DomOf (ms.getD i []) (fun x => Va (dv d (list.getD i 0)) x ∧ Va (dv d rs) x)
  | [], _ => ⟨[], Ev.eq (fun k => by rw [Zai.meets]) (Ev.pure _), rfl, fun i h => absurd h (Nat.not_lt_zero _)⟩
  | v :: vs, h => by
    obtain ⟨ms, hms, hl, hg⟩ := meets_ev d hd rs hr0 hr1 vs (fun x hx => h x (List.mem_cons_of_mem _ hx))
    obtain ⟨h0, h1⟩ := h v List.mem_cons_self
    have ga := (hd.2 _ (Zgk h0 h1)).1
    have gb := (hd.2 _ (Zgk hr0 hr1)).1
    have lb := hd.len (Zgk hr0 hr1)
    obtain ⟨m, hm, hD⟩ := Meet_ev (dv d v) (dv d rs) ga gb (by omega)
    refine ⟨m :: ms, ?_, by simp [hl], fun i hi => ?_⟩
    · simp only [Zai.meets]
      exact Ev.Zcf h0 (Ev.Zcf h1 (Ev.bind hm (Ev.bind hms (Ev.pure _))))
    cases i with
    | zero => exact hD
    | succ i => exact hg i (by simpa using hi)
theorem joins_ev (ms : List (List Rg)) (hms : ∀ m ∈ ms, Gd 1048576 (-1048576) m) : ∀ (is : List Int) (may : List Rg) (q : Int → Prop), DomOf may q → (∀ i ∈ is, 0 ≤ i ∧ i < (ms.length : Int)) →
    ∃ r, Ev (fun k => Zai.joins k ms is may) r ∧ DomOf r (fun x => q x ∨ ∃ i ∈ is, Va (ms.getD i.toNat []) x)
  | [], may, q, hD, _ => ⟨may, Ev.eq (fun k => by rw [Zai.joins]) (Ev.pure _), hD.1, fun v => by rw [hD.2 v]; simp⟩
  | i :: is, may, q, hD, h => by
    obtain ⟨h0, h1⟩ := h i List.mem_cons_self
    have hm : ms.getD i.toNat [] ∈ ms := by
      rw [List.getD_eq_getElem?_getD, List.getElem?_eq_getElem (by omega)]
      exact List.getElem_mem _
    obtain ⟨m, hm', hD'⟩ := Join_ev may (ms.getD i.toNat []) hD.1 (hms _ hm)
    obtain ⟨r, hr, hR⟩ := joins_ev ms hms is m (fun x => q x ∨ Va (ms.getD i.toNat []) x) ⟨hD'.1, fun v => (hD'.2 v).trans (or_congr (hD.2 v) Iff.rfl)⟩ (fun x hx => h x (List.mem_cons_of_mem _ hx))
    refine ⟨r, by simp only [Zai.joins]; exact Ev.bind hm' hr, hR.1, fun v => (hR.2 v).trans ?_⟩
    simp only [List.mem_cons, exists_eq_or_imp, or_assoc]
def isPlace (d : List (List Rg)) (rs : Int) (list : List Int) (i : Int) : Prop := 0 ≤ i ∧ i < (list.length : Int) ∧ ∃ x, Va (dv d (list.getD i.toNat 0)) x ∧ Va (dv d rs) x
theorem placed_iff {d : List (List Rg)} {rs : Int} {list : List Int} {ms : List (List Rg)} (hl : ms.length = list.length) (hg : ∀ i, i < list.length → DomOf (ms.getD i []) (fun x => Va (dv d (list.getD i 0)) x ∧ Va (dv d rs) x)) (i : Int) : Zai.placed ms i = true ↔ isPlace d rs list i := by
  unfold Zai.placed isPlace
  simp only [Bool.and_eq_true, decide_eq_true_iff, Bool.not_eq_true', hl]
  constructor
  · rintro ⟨⟨h0, h1⟩, h2⟩
    have hD := hg i.toNat (by omega)
    obtain ⟨v, hv⟩ := hD.1.some (fun e => by rw [e] at h2; cases h2)
    exact ⟨h0, h1, v, (hD.2 v).1 hv⟩
  rintro ⟨h0, h1, x, hx⟩
  have hD := hg i.toNat (by omega)
  refine ⟨⟨h0, h1⟩, ?_⟩
  have := Va_ne ((hD.2 x).2 hx)
  cases h : ms.getD i.toNat [] with
  | nil => exact absurd h this
  | cons a l => rfl
theorem prune_ev (d : List (List Rg)) (hd : Doms d) (ix rs : Int) (list : List Int) (hm : ∀ v ∈ ix :: rs :: list, 0 ≤ v ∧ v < (d.length : Int)) (kd : Int) (coefs : List Int) (op rhs : Int) (rows : List (List Int)) (b : Int) :
    ((∃ x ∈ d, x = []) ∧ Ev (fun k => Zai.f k d kd (ix :: rs :: list) coefs op rhs rows b) ([], false)) ∨
    ((∀ x ∈ d, x ≠ []) ∧ ∃ places : List Int, SS places ∧ (∀ i, i ∈ places ↔ Va (dv d ix) i ∧ isPlace d rs list i) ∧
      ((places = [] ∧ Ev (fun k => Zai.f k d kd (ix :: rs :: list) coefs op rhs rows b) ([], false)) ∨
       (places ≠ [] ∧ ∃ o may, DomOf o (fun i => i ∈ places) ∧ DomOf may (fun x => ∃ i ∈ places, Va (dv d (list.getD i.toNat 0)) x ∧ Va (dv d rs) x) ∧
         Ev (fun k => Zai.f k d kd (ix :: rs :: list) coefs op rhs rows b) (Zai.last d ix rs list places o may, true)))) := by
  have h64 := hd.1
  have hsz : d.length < 5864062014805 ∧ ∀ x ∈ d, x.length < 8796093022208 := ⟨by omega, fun x hx => by have := hd.len hx; omega⟩
  obtain ⟨i0, i1⟩ := hm ix List.mem_cons_self
  obtain ⟨r0, r1⟩ := hm rs (List.mem_cons_of_mem _ List.mem_cons_self)
  have hlist : ∀ v ∈ list, 0 ≤ v ∧ v < (d.length : Int) := fun v hv => hm v (List.mem_cons_of_mem _ (List.mem_cons_of_mem _ hv))
  by_cases he : d.any List.isEmpty = true
  · obtain ⟨x, hx, hxe⟩ := List.any_eq_true.1 he
    exact .inl ⟨⟨x, hx, List.isEmpty_iff.1 hxe⟩, Ev.eq (G := fun _ => some ([], false)) (fun k => by rw [Zai.f, if_pos hsz, if_pos he]) (Ev.pure _)⟩
  have hne : ∀ x ∈ d, x ≠ [] := fun x hx e => he (List.any_eq_true.2 ⟨x, hx, by rw [e]; rfl⟩)
  refine .inr ⟨hne, ?_⟩
  have hF : ∀ k, Zai.f k d kd (ix :: rs :: list) coefs op rhs rows b = Zai.g k d ix rs list := fun k => by
    unfold Zai.f
    rw [if_pos hsz, if_neg he]
  obtain ⟨ms, hms, hl, hg⟩ := meets_ev d hd rs r0 r1 list hlist
  obtain ⟨gi, vi⟩ := hd.2 _ (Zgk i0 i1)
  have hV := Values_ev (dv d ix) gi (Int.le_refl _) (by omega)
  have hvne : ¬ vals (dv d ix) = [] := by
    obtain ⟨v, hv⟩ := gi.some (hne _ (Zgk i0 i1))
    exact List.ne_nil_of_mem ((Zc8 v _).2 hv)
  have hpl := fun i => placed_iff (rs := rs) (d := d) hl hg i
  obtain ⟨places, hp⟩ : ∃ places, (vals (dv d ix)).filter (Zai.placed ms) = places := ⟨_, rfl⟩
  have hmem : ∀ i, i ∈ places ↔ Va (dv d ix) i ∧ isPlace d rs list i := fun i => by rw [← hp, List.mem_filter, Zc8, hpl i]
  have hss : SS places := by rw [← hp]; exact List.Pairwise.filter _ (Zf3 gi)
  have hpl2 : places.length ≤ 4096 := by rw [← hp]; exact Nat.le_trans (List.length_filter_le _ _) vi
  refine ⟨places, hss, hmem, ?_⟩
  have hin : 0 ≤ ix ∧ ix < (d.length : Int) ∧ 0 ≤ rs ∧ rs < (d.length : Int) := ⟨i0, i1, r0, r1⟩
  by_cases hp0 : places = []
  · refine .inl ⟨hp0, Ev.eq hF ?_⟩
    unfold Zai.g
    refine Ev.Zcf hin (Ev.bind hms (Ev.bind (Ev.const hV) (Ev.Zc4 hvne ?_)))
    rw [hp]
    exact Ev.Zcf hp0 (Ev.pure _)
  refine .inr ⟨hp0, ?_⟩
  have hmsG : ∀ m ∈ ms, Gd 1048576 (-1048576) m := fun m hm => by
    obtain ⟨i, hi, rfl⟩ := List.mem_iff_getElem.1 hm
    have := (hg i (by omega)).1
    rwa [List.getD_eq_getElem?_getD, List.getElem?_eq_getElem hi] at this
  have hpb : ∀ i ∈ places, 0 ≤ i ∧ i < (ms.length : Int) := fun i hi => by
    obtain ⟨_, h0, h1, _⟩ := (hmem i).1 hi
    exact ⟨h0, by omega⟩
  obtain ⟨may, hmay, hM⟩ := joins_ev ms hmsG places [] (fun _ => False) ⟨trivial, fun v => by simp⟩ hpb
  have hO := Of_ev places hpl2
  have hbd : ∀ x ∈ places, -1048576 ≤ x ∧ x ≤ 1048576 := fun x hx => by
    have hv := ((hmem x).1 hx).1
    exact ⟨gi.ge hv, gi.le hv⟩
  rw [Zh (fun x hx => (Zfi x).2 (hbd x hx)), sd_self hss] at hO
  have hlm := (show DomOf may _ from hM).len
  refine ⟨pack places, may, Zd2 hss hbd, ⟨hM.1, fun v => (hM.2 v).trans ?_⟩, Ev.eq hF ?_⟩
  · constructor
    · rintro (h | ⟨i, hi, h⟩)
      · exact h.elim
      have := hpb i hi
      exact ⟨i, hi, ((hg i.toNat (by omega)).2 v).1 h⟩
    rintro ⟨i, hi, h⟩
    have := hpb i hi
    exact .inr ⟨i, hi, ((hg i.toNat (by omega)).2 v).2 h⟩
  unfold Zai.g
  refine Ev.Zcf hin (Ev.bind hms (Ev.bind (Ev.const hV) (Ev.Zc4 hvne ?_)))
  rw [hp]
  refine Ev.Zc4 hp0 (Ev.bind hmay (Ev.bind hO ?_))
  exact Ev.Zcf (by omega) (Ev.pure _)
end Go.Proofs.Ytpbcigilipdedaa.P
namespace Go.Proofs.Ytpbcigilipdedaa.P
open Go.RowKit Go.Proofs.YtpbcigilipdedaaW.PrintWords Go.Proofs.YtpbcigilipdedaaW.PrintLast Go.Proofs.YtpbcigilipdedaaW.PrintMore
attribute [local go_sem] Zcz Zc1 Zde Zdf Zct Zcu Zc0 Zc2
set_option linter.unusedVariables false
set_option linter.unusedSimpArgs false
def Zbd.l0 : Nat → Bool → List Int → List Int → List Int → Int → Option ((List (S41)))
 | 0, _, _, _, _, _ => none
 | k + 1, x2, x7, x8, x9, x10 => if x10 < (x7.length : Int) then (if 0 ≤ x10 then ((Za4.f k x8 (rd x7 x10)).bind fun t561 => (if (t561 == x2) = true then (if x9.length < 17592186044416 then (Zbd.l0 k x2 x7 x8 (x9 ++ [rd x7 x10]) (wrap64 (x10 + 1))) else (none)) else (Zbd.l0 k x2 x7 x8 x9 (wrap64 (x10 + 1))))) else (none)) else ((Zal.f k x9).bind fun t566 => (some t566))
def Zbd.f (k : Nat) (l0 : List (S41)) (l1 : List (S41)) (a2 : Bool) : Option ((List (S41))) := (Zan.f k l0).bind fun t551 => ((Zan.f k l1).bind fun t554 => (Zbd.l0 k a2 t551 t554 (([] : List Int)) 0))
theorem Zbd.Zb4 : ∀ k, (∀ y0 y1 y2 y3 y4, LeO (Zbd.l0 k y0 y1 y2 y3 y4) (Zbd.l0 (k + 1) y0 y1 y2 y3 y4))
 | 0 => fun _ _ _ _ _ r h => by simp [Zbd.l0] at h
 | k + 1 => by
  have ih0 := Zbd.Zb4 k
  intro y0 y1 y2 y3 y4
  unfold Zbd.l0
  repeat' first
  | (with_reducible exact ih0 _ _ _ _ _)
  | (with_reducible exact Za4.mono _ _ _)
  | (with_reducible exact Zal.mono _ _)
  | (with_reducible exact Zan.mono _ _)
  | (with_reducible exact LeO.refl _)
  | (with_reducible exact LeO.none _)
  | (with_reducible refine LeO.ite ?_ ?_)
  | (with_reducible refine LeO.bind ?_ (fun _ => ?_))
  | exact ih0 _ _ _ _ _
  | exact Za4.mono _ _ _
  | exact Zal.mono _ _
  | exact Zan.mono _ _
  | exact LeO.none _
  | refine LeO.ite ?_ ?_
  | refine LeO.bind ?_ (fun _ => ?_)
theorem Zbd.mono : ∀ a0 a1 a2 k, LeO (Zbd.f k a0 a1 a2) (Zbd.f (k + 1) a0 a1 a2) := by
 intro a0 a1 a2 k
 have ih0 := Zbd.Zb4 k
 unfold Zbd.f
 repeat' first
   | (with_reducible exact ih0 _ _ _ _ _)
   | (with_reducible exact Za4.mono _ _ _)
   | (with_reducible exact Zal.mono _ _)
   | (with_reducible exact Zan.mono _ _)
   | (with_reducible exact LeO.refl _)
   | (with_reducible exact LeO.none _)
   | (with_reducible refine LeO.ite ?_ ?_)
   | (with_reducible refine LeO.bind ?_ (fun _ => ?_))
   | exact ih0 _ _ _ _ _
   | exact Za4.mono _ _ _
   | exact Zal.mono _ _
   | exact Zan.mono _ _
   | exact LeO.none _
   | refine LeO.ite ?_ ?_
   | refine LeO.bind ?_ (fun _ => ?_)
set_option maxHeartbeats 8000000 in
set_option maxRecDepth 100000 in
theorem Zbd.calls (k : Nat) (A0 : Option Addr) (c0 : Nat) (l0 : List (S41)) (A1 : Option Addr) (c1 : Nat) (l1 : List (S41)) (a2 : Bool) (r : List (S41)) (w : World) (hr0 : Kd.C k41 w A0 l0.length l0) (hc0 : l0.length ≤ c0) (hr1 : Kd.C k41 w A1 l1.length l1) (hc1 : l1.length ≤ c1) (h : Zbd.f k l0 l1 a2 = some r) :
  Calls Try.prog 37 #[.slice A0 l0.length c0, .slice A1 l1.length c1, .bool a2] w fun e w' => ∃ v0_ : Value, e = .returned (v0_) ∧ Kd.R k41 41 w' w.heap.size (fun _ => True) v0_ r ∧ Below w.heap.size w w' := by
 have HR0 := Zaa.mk hr0
 have HC0 := Zaa.mk hc0
 clear hr0 hc0
 have HR1 := Zaa.mk hr1
 have HC1 := Zaa.mk hc1
 clear hr1 hc1
 have HB := Zaa.mk (Below.refl w.heap.size w)
 have H : ((Zan.f k l0).bind fun t551 => ((Zan.f k l1).bind fun t554 => (Zbd.l0 k a2 t551 t554 (([] : List Int)) 0))) = some r := h
 clear h
 replace H := Option.bind_eq_some_iff.mp H
 obtain ⟨t551, A40, H⟩ := H
 replace H : ((Zan.f k l1).bind fun t554 => (Zbd.l0 k a2 t551 t554 (([] : List Int)) 0)) = some r := H
 have A4 := Zaa.mk A40
 clear A40
 replace H := Option.bind_eq_some_iff.mp H
 obtain ⟨t554, A50, H⟩ := H
 replace H : (Zbd.l0 k a2 t551 t554 (([] : List Int)) 0) = some r := H
 have A5 := Zaa.mk A50
 clear A50
 obtain ⟨y557, hy557⟩ : ∃ y_ : List Int, y_ = (([] : List Int)) := ⟨_, rfl⟩
 replace H : (Zbd.l0 k a2 t551 t554 y557 0) = some r := by first | (rw [hy557]; with_reducible exact H) | (have H2_ := (Option.bind_some _ _).symm.trans H; rw [hy557]; with_reducible exact H2_) | (have H2_ := (Option.bind_some _ _).symm.trans H; with_reducible exact H2_) | with_reducible exact H | (rw [hy557]; exact H) | exact H
 have Ny557 := Zaa.mk hy557
 clear hy557
 have H' := Zaa.mk H
 clear H
 go_enter Try.func37, Try.ntmps37
 go_wp2_with (first | ((with_reducible refine Zbo (f := 29) rfl ?_); refine Zcr (some 12) rfl rfl Try.func29 (by kernel_rfl) rfl #[.slice A0 l0.length c0] rfl (by (try simp only [List.map_toArray, List.map_cons, List.map_nil]); first | done | rfl | (simp only [List.length_drop, List.length_take]; rfl)) ?_; (refine withB (m := w.heap.size) (w0 := w) (by repeat (first | (with_reducible first | exact HB.out | apply Zab | apply Za | apply Zac) | exact HB.out)) ?_); intro hL_; (with_reducible refine (Zan.calls k _ _ l0 t551 _ ?side1 ?side2 A4.out).mono ?_); (case side1 => repeat (first | exact HR0.out | (with_reducible refine Kd.C_alloc ?_ _) | (with_reducible refine Kd.Za0 ?_ _) | (with_reducible refine Kd.C_drew ?_))); (case side2 => exact HC0.out); rintro e w6 ⟨v552, rfl, ho0, hb⟩; refine ⟨_, rfl, ?_⟩; have n0_ := Zaa.mk (Kd.Zbs ho0 (Zae hL_)); have n1_ := Zaa.mk (Zam hL_ hb); clear HB; have HO553 := n0_; have HB := n1_; clear n0_ n1_; (try clear hb); (try clear hb2); (try clear hk); (try clear hi); (try clear ho0)) | ((with_reducible refine Zbo (f := 29) rfl ?_); refine Zcr (some 14) rfl rfl Try.func29 (by kernel_rfl) rfl #[.slice A1 l1.length c1] rfl (by (try simp only [List.map_toArray, List.map_cons, List.map_nil]); first | done | rfl | (simp only [List.length_drop, List.length_take]; rfl)) ?_; (refine withB (m := w.heap.size) (w0 := w) (by repeat (first | (with_reducible first | exact HB.out | apply Zab | apply Za | apply Zac) | exact HB.out)) ?_); intro hL_; (with_reducible refine (Zan.calls k _ _ l1 t554 _ ?side1 ?side2 A5.out).mono ?_); (case side1 => repeat (first | exact (Kd.Za8 HR1.out HB.out) | (with_reducible refine Kd.C_alloc ?_ _) | (with_reducible refine Kd.Za0 ?_ _) | (with_reducible refine Kd.C_drew ?_))); (case side2 => exact HC1.out); rintro e w7 ⟨v555, rfl, ho0, hb⟩; refine ⟨_, rfl, ?_⟩; have n0_ := Zaa.mk (Kd.Zck (mvR HO553.out) (Kd.Zb6 ho0) hb); have n1_ := Zaa.mk (Kd.Zbs (Kd.Zc3 ho0 (Kd.R_lt (mvR HO553.out))) (Zae hL_)); have n2_ := Zaa.mk (Zam hL_ hb); clear HO553; clear HB; have HO553 := n0_; have HO556 := n1_; have HB := n2_; clear n0_ n1_ n2_; (try clear hb); (try clear hb2); (try clear hk); (try clear hi); (try clear ho0)) | ((with_reducible refine Zbq (N := 15) rfl ?_); refine Kd.Zds (Kd.int .i64) _ 3 ?hg (N := 15) ?hd (xs := ([] : List Int)) (inner := []) (ok := fun _ => True) (okp := fun _ => True) ?hr ?hp (fun _ hk => hk) trivial (Below.refl _ _) (Nat.le_refl _) (by simp) ?_; (case hd => rfl); (case hg => rfl); (case hr => first | (go_simp; done) | (go_simp; rfl)); (case hp => exact (Reps.none _ _)); intro v558 w8 ho9 hb hg_ hnew_; clear hg_ hnew_; (first | rw [← Ny557.out] at ho9 | (simp only [Int.reduceToNat] at ho9; rw [← Ny557.out] at ho9)); have n0_ := Zaa.mk (Kd.Zck (mvR HO553.out) (Kd.Zb6 ho9) hb); have n1_ := Zaa.mk (Kd.Zck (mvR HO556.out) (Kd.Zb6 ho9) hb); have n2_ := Zaa.mk (Kd.Zbs (Kd.Zc3 (Kd.Zc3 ho9 (Kd.R_lt (mvR HO553.out))) (Kd.R_lt (mvR HO556.out))) (Zae (by repeat (first | (with_reducible first | exact HB.out | apply Zab | apply Za | apply Zac) | exact HB.out)))); have n3_ := Zaa.mk (Zam (by repeat (first | (with_reducible first | exact HB.out | apply Zab | apply Za | apply Zac) | exact HB.out)) hb); clear HO553; clear HO556; clear HB; have HO553 := n0_; have HO556 := n1_; have HO559 := n2_; have HB := n3_; clear n0_ n1_ n2_ n3_; clear hb ho9))
 go_loopg [9, 10] k (fun kq v9 v10 w' => ∃ (x9_1 : List Int) (x10_1 : Int), v10 = .int .i64 x10_1 ∧ Zaa (Zbd.l0 kq a2 t551 t554 x9_1 x10_1 = some r) ∧ Zaa (kq ≤ k) ∧ Zaa (Kd.R (Kd.int .i64) 3 w' w.heap.size (fun k_ => some k_ ≠ (v555 : Value).ownBlock ∧ some k_ ≠ (v9 : Value).ownBlock) v552 t551) ∧ Zaa (Kd.R (Kd.int .i64) 3 w' w.heap.size (fun k_ => some k_ ≠ (v552 : Value).ownBlock ∧ some k_ ≠ (v9 : Value).ownBlock) v555 t554) ∧ Zaa (Kd.R (Kd.int .i64) 3 w' w.heap.size (fun k_ => some k_ ≠ (v552 : Value).ownBlock ∧ some k_ ≠ (v555 : Value).ownBlock) v9 x9_1) ∧ Zaa (Below w.heap.size w w'))
 case atStart => exact ⟨(y557), (0), (by first | rfl | (simp; done) | (simp [*]; done)), H', ⟨Nat.le_refl _⟩, ⟨by (with_reducible repeat (first | apply Kd.Za6 | apply Kd.Za5 | apply Kd.Zbb)); exact Kd.Zbm HO553.out (fun _ hk => ⟨hk.1.2, hk.2⟩)⟩, ⟨by (with_reducible repeat (first | apply Kd.Za6 | apply Kd.Za5 | apply Kd.Zbb)); exact Kd.Zbm HO556.out (fun _ hk => ⟨hk.1.2, hk.2⟩)⟩, ⟨by (with_reducible repeat (first | apply Kd.Za6 | apply Kd.Za5 | apply Kd.Zbb)); exact Kd.Zbm HO559.out (fun _ hk => ⟨hk.1.2, hk.2⟩)⟩, ⟨by repeat (first | (with_reducible first | exact HB.out | apply Zab | apply Za | apply Zac) | exact HB.out)⟩⟩
 case round =>
  clear H'
  try clear c1
  try clear c2
  try clear p2
  try clear c3
  obtain ⟨x9_1, x10_1, rfl, HA, HK1, HO_7, HO_8, HO_9, HB⟩ := hrel
  cases gk with
  | zero => exact absurd HA.out (by simp [Zbd.l0])
  | succ k1 =>
   have H := HA.out
   clear HA
   simp only [Zbd.l0] at H
   by_cases c10 : x10_1 < (t551.length : Int)
   rotate_left
   ·rw [if_neg c10] at H
    have c10b0 : decide (x10_1 < (t551.length : Int)) = false := decide_eq_false c10
    clear c10
    replace H := Option.bind_eq_some_iff.mp H
    obtain ⟨t566, A200, H⟩ := H
    replace H : (some t566) = some r := H
    have A20 := Zaa.mk A200
    clear A200
    obtain rfl := Option.some.inj H
    obtain ⟨Ao21, co21, eo21⟩ := Kd.Zbn HO_7.out
    subst eo21
    obtain ⟨Ao22, co22, eo22⟩ := Kd.Zbn HO_9.out
    subst eo22
    go_wp2_with (first | ((with_reducible refine Zbo (f := 58) rfl ?_); refine Zcr (some 38) rfl rfl Try.func58 (by kernel_rfl) rfl #[.slice Ao22 x9_1.length co22] rfl (by (try simp only [List.map_toArray, List.map_cons, List.map_nil]); first | done | rfl | (simp only [List.length_drop, List.length_take]; rfl)) ?_; (refine withB (m := w.heap.size) (w0 := w) (by repeat (first | (with_reducible first | exact HB.out | apply Zab | apply Za | apply Zac) | exact HB.out)) ?_); intro hL_; (with_reducible refine (Zal.calls k1 _ _ x9_1 t566 _ ?side1 ?side2 A20.out).mono ?_); (case side1 => repeat (first | exact (Kd.Zaz HO_9.out).2.2 | (with_reducible refine Kd.C_alloc ?_ _) | (with_reducible refine Kd.Za0 ?_ _) | (with_reducible refine Kd.C_drew ?_))); (case side2 => exact (Kd.Zaz HO_9.out).2.1); rintro e w23 ⟨v567, rfl, ho0, hb⟩; refine ⟨_, rfl, ?_⟩; have n3_ := Zaa.mk (Kd.Zbs ho0 (Zae hL_)); have n4_ := Zaa.mk (Zam hL_ hb); clear HO_7; clear HO_8; clear HO_9; clear HB; have HO568 := n3_; have HB := n4_; clear n3_ n4_; (try clear hb); (try clear hb2); (try clear hk); (try clear hi); (try clear ho0)))
    go_ret
    exact ⟨_, by first | rfl | (simp [Za1, Za2] <;> rfl) | (simp [*, Za1, Za2] <;> rfl), by (with_reducible repeat (first | apply Kd.Za6 | apply Kd.Za5 | apply Kd.Zbb)); exact HO568.out, by repeat (first | (with_reducible first | exact HB.out | apply Zab | apply Za | apply Zac) | exact HB.out)⟩
   rw [if_pos c10] at H
   have c10b0 : decide (x10_1 < (t551.length : Int)) = true := decide_eq_true c10
   clear c10
   by_cases c11 : 0 ≤ x10_1
   rotate_left
   ·rw [if_neg c11] at H
    exact absurd H (by simp)
   rw [if_pos c11] at H
   have c11b0 : decide (0 ≤ x10_1) = true := decide_eq_true c11
   clear c11
   replace H := Option.bind_eq_some_iff.mp H
   obtain ⟨t561, A120, H⟩ := H
   replace H : (if (t561 == a2) = true then (if x9_1.length < 17592186044416 then (Zbd.l0 k1 a2 t551 t554 (x9_1 ++ [rd t551 x10_1]) (wrap64 (x10_1 + 1))) else (none)) else (Zbd.l0 k1 a2 t551 t554 x9_1 (wrap64 (x10_1 + 1)))) = some r := H
   have A12 := Zaa.mk A120
   clear A120
   by_cases c13 : (t561 == a2) = true
   rotate_left
   ·rw [if_neg c13] at H
    have c13b0 : (t561 == a2) = false := by simpa using c13
    (try (have c13b1 : decide (t561 = a2) = false := by simpa using c13))
    (try (have c13b2 : (t561 == a2) = false := by simpa using c13))
    (try (have c13b3 : ¬ (t561 = a2) := by simpa using c13))
    clear c13
    have H' := Zaa.mk H
    clear H
    obtain ⟨Ao18, co18, eo18⟩ := Kd.Zbn HO_7.out
    subst eo18
    have p560 : 0 ≤ (x10_1 : Int) := of_decide_eq_true (by first | (with_reducible assumption) | assumption)
    have q560 : x10_1 < (t551.length : Int) := of_decide_eq_true (by first | (with_reducible assumption) | assumption)
    obtain ⟨ad560, e560, hx560_0⟩ := Kd.Zbx (Kd.Zaz HO_7.out).2.2 x10_1 p560 q560
    cases e560
    replace p560 := eq_true p560
    replace q560 := eq_true q560
    obtain ⟨Ao19, co19, eo19⟩ := Kd.Zbn HO_8.out
    subst eo19
    go_wp2_with (first | ((with_reducible refine Zbo (f := 31) rfl ?_); refine Zcr (some 27) rfl rfl Try.func31 (by kernel_rfl) rfl #[.slice Ao19 t554.length co19, .int .i64 (rd t551 x10_1)] rfl (by (try simp only [List.map_toArray, List.map_cons, List.map_nil]); first | done | rfl | (simp only [List.length_drop, List.length_take]; rfl)) ?_; (with_reducible refine (Za4.calls k1 _ _ t554 (rd t551 x10_1) t561 _ ?side1 ?side2 A12.out).mono ?_); (case side1 => repeat (first | exact (Kd.Zaz HO_8.out).2.2 | (with_reducible refine Kd.C_alloc ?_ _) | (with_reducible refine Kd.Za0 ?_ _) | (with_reducible refine Kd.C_drew ?_))); (case side2 => exact (Kd.Zaz HO_8.out).2.1); rintro e w' ⟨rfl, ⟨nd, rfl⟩⟩; refine ⟨_, rfl, ?_⟩))
    go_roundg k1
    case measure => have := HK1.out; omega
    case rel => exact ⟨(x9_1), (wrap64 (x10_1 + 1)), (by first | rfl | (simp; done) | (simp [*]; done)), H', ⟨by have := HK1.out; omega⟩, ⟨by (with_reducible repeat (first | apply Kd.Za6 | apply Kd.Za5 | apply Kd.Zbb)); exact HO_7.out⟩, ⟨by (with_reducible repeat (first | apply Kd.Za6 | apply Kd.Za5 | apply Kd.Zbb)); exact HO_8.out⟩, ⟨by (with_reducible repeat (first | apply Kd.Za6 | apply Kd.Za5 | apply Kd.Zbb)); exact HO_9.out⟩, ⟨by repeat (first | (with_reducible first | exact HB.out | apply Zab | apply Za | apply Zac) | exact HB.out)⟩⟩
   rw [if_pos c13] at H
   have c13b0 : (t561 == a2) = true := c13
   (try (have c13b1 : decide (t561 = a2) = true := by simpa using c13))
   (try (have c13b2 : (t561 == a2) = true := by simpa using c13))
   clear c13
   by_cases c14 : x9_1.length < 17592186044416
   rotate_left
   ·rw [if_neg c14] at H
    exact absurd H (by simp)
   rw [if_pos c14] at H
   have LMc14 := Zaa.mk c14
   clear c14
   obtain ⟨y563, hy563⟩ : ∃ y_ : List Int, y_ = (x9_1 ++ [rd t551 x10_1]) := ⟨_, rfl⟩
   replace H : (Zbd.l0 k1 a2 t551 t554 y563 (wrap64 (x10_1 + 1))) = some r := by first | (rw [hy563]; with_reducible exact H) | (have H2_ := (Option.bind_some _ _).symm.trans H; rw [hy563]; with_reducible exact H2_) | (have H2_ := (Option.bind_some _ _).symm.trans H; with_reducible exact H2_) | with_reducible exact H | (rw [hy563]; exact H) | exact H
   have Ny563 := Zaa.mk hy563
   clear hy563
   have H' := Zaa.mk H
   clear H
   obtain ⟨Ao15, co15, eo15⟩ := Kd.Zbn HO_7.out
   subst eo15
   have p560 : 0 ≤ (x10_1 : Int) := of_decide_eq_true (by first | (with_reducible assumption) | assumption)
   have q560 : x10_1 < (t551.length : Int) := of_decide_eq_true (by first | (with_reducible assumption) | assumption)
   obtain ⟨ad560, e560, hx560_0⟩ := Kd.Zbx (Kd.Zaz HO_7.out).2.2 x10_1 p560 q560
   cases e560
   replace p560 := eq_true p560
   replace q560 := eq_true q560
   obtain ⟨Ao16, co16, eo16⟩ := Kd.Zbn HO_8.out
   subst eo16
   go_wp2_with (first | ((with_reducible refine Zbo (f := 31) rfl ?_); refine Zcr (some 27) rfl rfl Try.func31 (by kernel_rfl) rfl #[.slice Ao16 t554.length co16, .int .i64 (rd t551 x10_1)] rfl (by (try simp only [List.map_toArray, List.map_cons, List.map_nil]); first | done | rfl | (simp only [List.length_drop, List.length_take]; rfl)) ?_; (with_reducible refine (Za4.calls k1 _ _ t554 (rd t551 x10_1) t561 _ ?side1 ?side2 A12.out).mono ?_); (case side1 => repeat (first | exact (Kd.Zaz HO_8.out).2.2 | (with_reducible refine Kd.C_alloc ?_ _) | (with_reducible refine Kd.Za0 ?_ _) | (with_reducible refine Kd.C_drew ?_))); (case side2 => exact (Kd.Zaz HO_8.out).2.1); rintro e w' ⟨rfl, ⟨nd, rfl⟩⟩; refine ⟨_, rfl, ?_⟩; have p562 : 0 ≤ (x10_1 : Int) := of_decide_eq_true (by first | (with_reducible assumption) | assumption); have q562 : x10_1 < (t551.length : Int) := of_decide_eq_true (by first | (with_reducible assumption) | assumption); obtain ⟨ad562, e562, hx562_0⟩ := Kd.Zbx (Kd.Zaz HO_7.out).2.2 x10_1 p562 q562; obtain rfl : ad560 = ad562 := (by injection e562); replace p562 := eq_true p562; replace q562 := eq_true q562) | ((with_reducible refine Zbk (b := .append) (xs := #[.tmp 30, .tmp 35]) rfl ?_); at_builtin; refine Kd.Zcd (Kd.int .i64) (w0 := w) w.heap.size rfl (.tmp 30) (.tmp 35) 23 3 (.int .i64 0) 8 rfl Try.underlying23 info3 rfl (by decide) (by omega) u9 x9_1 (rd t551 x10_1) [.int .i64 (rd t551 x10_1)] (fun k_ => some k_ ≠ (.slice (some ad560) t551.length co15 : Value).ownBlock ∧ some k_ ≠ (.slice Ao16 t554.length co16 : Value).ownBlock) (fun _ => False) rfl rfl ?aP (fun _ hk => hk.elim) ?aF ?aO ?aB ?aS ?aL ?_; (case aP => exact rfl); (case aB => exact (by repeat (first | (with_reducible first | exact HB.out | apply Zab | apply Za | apply Zac) | exact HB.out))); (case aF => exact (fun k_ hk => ⟨Kd.fresh' (Kd.R_lt (mvR HO_7.out)) k_ hk, Kd.fresh' (Kd.R_lt (mvR HO_8.out)) k_ hk⟩)); (case aO => exact (mvR HO_9.out)); (case aS => exact (Zae (by repeat (first | (with_reducible first | exact HB.out | apply Zab | apply Za | apply Zac) | exact HB.out)))); (case aL => have := LMc14.out; omega); intro v564 w17 ho hb hg hat; rw [← Ny563.out] at ho; have n0_ := Zaa.mk (Kd.Zc9 (ok := (fun k_ => some k_ ≠ (.slice Ao16 t554.length co16 : Value).ownBlock)) (mvR HO_7.out) hg hat); have n1_ := Zaa.mk (Kd.Zc9 (ok := (fun k_ => some k_ ≠ (.slice (some ad560) t551.length co15 : Value).ownBlock)) (mvR HO_8.out) hg hat); have n2_ := Zaa.mk (hb); have n3_ := Zaa.mk (ho); clear HO_7; clear HO_8; clear HB; clear HO_9; have HO_7 := n0_; have HO_8 := n1_; have HB := n2_; have HO565 := n3_; clear n0_ n1_ n2_ n3_; clear ho hb hg hat))
   go_roundg k1
   case measure => have := HK1.out; omega
   case rel => exact ⟨(y563), (wrap64 (x10_1 + 1)), (by first | rfl | (simp; done) | (simp [*]; done)), H', ⟨by have := HK1.out; omega⟩, ⟨by (with_reducible repeat (first | apply Kd.Za6 | apply Kd.Za5 | apply Kd.Zbb)); exact HO_7.out⟩, ⟨by (with_reducible repeat (first | apply Kd.Za6 | apply Kd.Za5 | apply Kd.Zbb)); exact HO_8.out⟩, ⟨by (with_reducible repeat (first | apply Kd.Za6 | apply Kd.Za5 | apply Kd.Zbb)); exact HO565.out⟩, ⟨by repeat (first | (with_reducible first | exact HB.out | apply Zab | apply Za | apply Zac) | exact HB.out)⟩⟩
end Go.Proofs.Ytpbcigilipdedaa.P
/- Plain: the document's Pick (the seat that has no Cut and no Minus). -/
namespace Go.Proofs.Ytpbcigilipdedaa.P
open Go.RowKit Go.Proofs.YtpbcigilipdedaaW.PrintWords Go.Proofs.YtpbcigilipdedaaW.PrintLast Go.Proofs.YtpbcigilipdedaaW.PrintMore
set_option linter.unusedVariables false
set_option linter.unusedSimpArgs false
theorem pack_dom {l : List Int} (hs : SS l) (hb : ∀ x ∈ l, -1048576 ≤ x ∧ x ≤ 1048576) : DomOf (pack l) (fun v => v ∈ l) := Zd2 hs hb
theorem vals_bd {d : List Rg} (hd : Gd 1048576 (-1048576) d) : ∀ x ∈ vals d, -1048576 ≤ x ∧ x ≤ 1048576 := fun x hx => ⟨hd.ge ((Zc8 x d).1 hx), hd.le ((Zc8 x d).1 hx)⟩
def pickL (q : Bool) (x y : List Int) : List Int := x.filter fun v => decide (v ∈ y) == q
theorem ref_Pick_l0 (q : Bool) (x y : List Int) (hx : x.length ≤ 3000000) (hy : y.length ≤ 3000000) (hs : SS x) (hb : ∀ v ∈ x, -1048576 ≤ v ∧ v ≤ 1048576) : ∀ (m n : Nat), n + m = x.length → Ev (fun k => Zbd.l0 k q x y (pickL q (x.take n) y) (n : Int)) (pack (pickL q x y)) := by
  intro m
  induction m with
  | zero =>
    intro n h
    rw [List.take_of_length_le (by omega)]
    have hl : (pickL q x y).length ≤ x.length := List.length_filter_le _ _
    refine Ev.step (fun k => by rw [Zbd.l0, if_neg (by omega)]) (Ev.bind (ref_Pack (pickL q x y) (by omega) (List.Pairwise.filter _ hs) (fun v hv => ?_)) (Ev.pure _))
    have := hb v (List.mem_filter.1 hv).1
    omega
  | succ m ih =>
    intro n h
    have hn : n < x.length := by omega
    have hl : (pickL q (x.take n) y).length ≤ (x.take n).length := List.length_filter_le _ _
    rw [List.length_take] at hl
    have next := ih (n + 1) (by omega)
    rw [List.take_succ_eq_append_getElem hn, pickL, List.filter_append] at next
    refine Ev.step (fun k => by rw [Zbd.l0, if_pos (by omega), if_pos (by omega), Zcw x n hn]) (Ev.bind (ref_Has y x[n] (by omega)) ?_)
    by_cases c : (decide (x[n] ∈ y) == q) = true
    · simp only [List.filter_cons, c, if_true, List.filter_nil] at next
      refine Ev.Zcf c (Ev.Zcf (by omega) ?_)
      rw [w1 (by omega)]
      exact next
    simp only [List.filter_cons, Bool.eq_false_iff.mpr c, Bool.false_eq_true, if_false, List.filter_nil, List.append_nil] at next
    refine Ev.Zc4 c ?_
    rw [w1 (by omega)]
    exact next
theorem ref_Pick_ev (q : Bool) (a b : List Rg) (ha : Gd 1048576 (-1048576) a) (hb : Gd 1048576 (-1048576) b) : ∃ r, Ev (fun k => Zbd.f k a b q) r ∧ DomOf r (fun v => Va a v ∧ (decide (Va b v) = q)) := by
  have h1 := Zdg ha
  have h2 := Zdg hb
  have hs := Zf3 ha
  refine ⟨pack (pickL q (vals a) (vals b)), Ev.bind (Zf0 a ha (Int.le_refl _)) (Ev.bind (Zf0 b hb (Int.le_refl _)) (ref_Pick_l0 q (vals a) (vals b) (by omega) (by omega) hs (vals_bd ha) (vals a).length 0 (by omega))), ?_⟩
  have hd := pack_dom (l := pickL q (vals a) (vals b)) (List.Pairwise.filter _ hs) (fun v hv => vals_bd ha v (List.mem_filter.1 hv).1)
  refine ⟨hd.1, fun v => (hd.2 v).trans ?_⟩
  show v ∈ pickL q (vals a) (vals b) ↔ Va a v ∧ decide (Va b v) = q
  unfold pickL
  rw [List.mem_filter, Zc8, show decide (v ∈ vals b) = decide (Va b v) from decide_eq_decide.2 (Zc8 v b)]
  simp
theorem rsame_ev {a b : List Rg} {q q' : Int → Prop} (ha : DomOf a q) (hb : DomOf b q') (e : ∀ v, q v ↔ q' v) : Ev (fun k => Za9.f k a b) true := by
  obtain rfl := ha.eq hb e
  exact Zfm a (by have := ha.len; omega)
end Go.Proofs.Ytpbcigilipdedaa.P
namespace Go.Proofs.Ytpbcigilipdedaa.P
open Go.RowKit Go.Proofs.YtpbcigilipdedaaW.PrintWords Go.Proofs.YtpbcigilipdedaaW.PrintLast Go.Proofs.YtpbcigilipdedaaW.PrintMore
attribute [local go_sem] Zcz Zc1 Zde Zdf Zct Zcu Zc0 Zc2
set_option linter.unusedVariables false
set_option linter.unusedSimpArgs false
def Zap.l0 : Nat → List (List (S41)) → List (List (S41)) → Int → Option (Bool)
 | 0, _, _, _ => none
 | k + 1, x0, x1, x5 => if x5 < (x0.length : Int) then (if 0 ≤ x5 then (if x5 < (x1.length : Int) then ((Za9.f k (Zdb x0 x5) (Zdb x1 x5)).bind fun t350 => (if t350 = true then (Zap.l0 k x0 x1 (wrap64 (x5 + 1))) else (some false))) else (none)) else (none)) else (some true)
def Zap.f (k : Nat) (l0 : List (List (S41))) (l1 : List (List (S41))) : Option (Bool) := if (l0.length : Int) = (l1.length : Int) then (Zap.l0 k l0 l1 0) else (some false)
theorem Zap.Zb4 : ∀ k, (∀ y0 y1 y2, LeO (Zap.l0 k y0 y1 y2) (Zap.l0 (k + 1) y0 y1 y2))
 | 0 => fun _ _ _ r h => by simp [Zap.l0] at h
 | k + 1 => by
  have ih0 := Zap.Zb4 k
  intro y0 y1 y2
  unfold Zap.l0
  repeat' first
  | (with_reducible exact ih0 _ _ _)
  | (with_reducible exact Za9.mono _ _ _)
  | (with_reducible exact LeO.refl _)
  | (with_reducible exact LeO.none _)
  | (with_reducible refine LeO.ite ?_ ?_)
  | (with_reducible refine LeO.bind ?_ (fun _ => ?_))
  | exact ih0 _ _ _
  | exact Za9.mono _ _ _
  | exact LeO.none _
  | refine LeO.ite ?_ ?_
  | refine LeO.bind ?_ (fun _ => ?_)
theorem Zap.mono : ∀ a0 a1 k, LeO (Zap.f k a0 a1) (Zap.f (k + 1) a0 a1) := by
 intro a0 a1 k
 have ih0 := Zap.Zb4 k
 unfold Zap.f
 repeat' first
   | (with_reducible exact ih0 _ _ _)
   | (with_reducible exact Za9.mono _ _ _)
   | (with_reducible exact LeO.refl _)
   | (with_reducible exact LeO.none _)
   | (with_reducible refine LeO.ite ?_ ?_)
   | (with_reducible refine LeO.bind ?_ (fun _ => ?_))
   | exact ih0 _ _ _
   | exact Za9.mono _ _ _
   | exact LeO.none _
   | refine LeO.ite ?_ ?_
   | refine LeO.bind ?_ (fun _ => ?_)
set_option maxHeartbeats 8000000 in
set_option maxRecDepth 100000 in
theorem Zap.calls (k : Nat) (A0 : Option Addr) (c0 : Nat) (l0 : List (List (S41))) (A1 : Option Addr) (c1 : Nat) (l1 : List (List (S41))) (r : Bool) (w : World) (hr0 : Kd.C (Kd.slice 41 k41) w A0 l0.length l0) (hc0 : l0.length ≤ c0) (hr1 : Kd.C (Kd.slice 41 k41) w A1 l1.length l1) (hc1 : l1.length ≤ c1) (h : Zap.f k l0 l1 = some r) :
  Calls Try.prog 21 #[.slice A0 l0.length c0, .slice A1 l1.length c1] w fun e w' => e = .returned (.bool r) ∧ Zbw w w' := by
 have HR0 := Zaa.mk hr0
 have HC0 := Zaa.mk hc0
 clear hr0 hc0
 have HR1 := Zaa.mk hr1
 have HC1 := Zaa.mk hc1
 clear hr1 hc1
 have H : (if (l0.length : Int) = (l1.length : Int) then (Zap.l0 k l0 l1 0) else (some false)) = some r := h
 clear h
 by_cases c3 : (l0.length : Int) = (l1.length : Int)
 rotate_left
 ·rw [if_neg c3] at H
  have c3b0 : ((l0.length : Int) == (l1.length : Int)) = false := beq_eq_false_iff_ne.mpr c3
  have c3b1 : ((l0.length : Int) != (l1.length : Int)) = true := bne_iff_ne.mpr c3
  have c3b2 : (l0.length == l1.length) = false := by first | simpa using c3 | (simp at c3 ⊢; omega)
  obtain rfl := Option.some.inj H
  go_enter Try.func21, Try.ntmps21
  go_wp2
  repeat (go_quiet (fail); try go_wp2)
  go_ret
  exact ⟨by first | rfl | (simp; done) | (simp [*]; done), by repeat (first | exact Zbw.refl _ | apply Zbw.step)⟩
 rw [if_pos c3] at H
 have c3b0 : ((l0.length : Int) == (l1.length : Int)) = true := beq_iff_eq.mpr c3
 have c3b1 : ((l0.length : Int) != (l1.length : Int)) = false := bne_eq_false_iff_eq.mpr c3
 have c3b2 : (l0.length == l1.length) = true := by first | simpa using c3 | (simp at c3 ⊢; omega)
 clear c3
 have H' := Zaa.mk H
 clear H
 go_enter Try.func21, Try.ntmps21
 go_wp2
 repeat (go_quiet (fail); try go_wp2)
 go_loopg [5] k (fun kq v5 w' => ∃ (x5_1 : Int), v5 = .int .i64 x5_1 ∧ Zaa (Zap.l0 kq l0 l1 x5_1 = some r) ∧ Zaa (kq ≤ k) ∧ Zbw w w')
 case atStart => exact ⟨(0), (by first | rfl | (simp; done) | (simp [*]; done)), H', ⟨Nat.le_refl _⟩, by repeat (first | exact Zbw.refl _ | apply Zbw.step)⟩
 case round =>
  clear H'
  try clear c1
  try clear c2
  try clear p2
  try clear c3
  try clear c3b0
  try clear c3b1
  try clear c3b2
  obtain ⟨x5_1, rfl, HA, HK1, ⟨m1, rfl⟩⟩ := hrel
  cases gk with
  | zero => exact absurd HA.out (by simp [Zap.l0])
  | succ k1 =>
   have H := HA.out
   clear HA
   simp only [Zap.l0] at H
   by_cases c4 : x5_1 < (l0.length : Int)
   rotate_left
   ·rw [if_neg c4] at H
    have c4b0 : decide (x5_1 < (l0.length : Int)) = false := decide_eq_false c4
    clear c4
    obtain rfl := Option.some.inj H
    go_wp2
    repeat (go_quiet (fail); try go_wp2)
    go_ret
    exact ⟨by first | rfl | (simp; done) | (simp [*]; done), by repeat (first | exact Zbw.refl _ | apply Zbw.step)⟩
   rw [if_pos c4] at H
   have c4b0 : decide (x5_1 < (l0.length : Int)) = true := decide_eq_true c4
   clear c4
   by_cases c5 : 0 ≤ x5_1
   rotate_left
   ·rw [if_neg c5] at H
    exact absurd H (by simp)
   rw [if_pos c5] at H
   have c5b0 : decide (0 ≤ x5_1) = true := decide_eq_true c5
   clear c5
   by_cases c6 : x5_1 < (l1.length : Int)
   rotate_left
   ·rw [if_neg c6] at H
    exact absurd H (by simp)
   rw [if_pos c6] at H
   have c6b0 : decide (x5_1 < (l1.length : Int)) = true := decide_eq_true c6
   clear c6
   replace H := Option.bind_eq_some_iff.mp H
   obtain ⟨t350, A70, H⟩ := H
   replace H : (if t350 = true then (Zap.l0 k1 l0 l1 (wrap64 (x5_1 + 1))) else (some false)) = some r := H
   have A7 := Zaa.mk A70
   clear A70
   by_cases c8 : t350 = true
   rotate_left
   ·replace c8 := Bool.eq_false_iff.mpr c8
    subst c8
    have H1 : (some false) = some r := by rw [if_neg (show ¬ (false = true) by decide)] at H; exact H
    clear H
    have H := H1
    clear H1
    obtain rfl := Option.some.inj H
    have p348 : 0 ≤ (x5_1 : Int) := of_decide_eq_true (by first | (with_reducible assumption) | assumption)
    have q348 : x5_1 < (l0.length : Int) := of_decide_eq_true (by first | (with_reducible assumption) | assumption)
    obtain ⟨ad348, A348_0, c348_0, e348, hx348_0, hl348_0, hi348_0⟩ := Zfu HR0.out x5_1 p348 q348
    cases e348
    have HR348_0 := Zaa.mk hi348_0
    have HC348_0 := Zaa.mk hl348_0
    clear hi348_0 hl348_0
    replace p348 := eq_true p348
    replace q348 := eq_true q348
    have p349 : 0 ≤ (x5_1 : Int) := of_decide_eq_true (by first | (with_reducible assumption) | assumption)
    have q349 : x5_1 < (l1.length : Int) := of_decide_eq_true (by first | (with_reducible assumption) | assumption)
    obtain ⟨ad349, A349_0, c349_0, e349, hx349_0, hl349_0, hi349_0⟩ := Zfu HR1.out x5_1 p349 q349
    cases e349
    have HR349_0 := Zaa.mk hi349_0
    have HC349_0 := Zaa.mk hl349_0
    clear hi349_0 hl349_0
    replace p349 := eq_true p349
    replace q349 := eq_true q349
    go_wp2_with (first | (go_at_call 39; (with_reducible refine (Za9.calls k1 _ _ (Zdb l0 x5_1) _ _ (Zdb l1 x5_1) false _ ?side1 ?side2 ?side3 ?side4 A7.out).mono ?_); (case side1 => repeat (first | exact HR348_0.out | (with_reducible refine Kd.C_alloc ?_ _) | (with_reducible refine Kd.Za0 ?_ _) | (with_reducible refine Kd.C_drew ?_))); (case side2 => exact HC348_0.out); (case side3 => repeat (first | exact HR349_0.out | (with_reducible refine Kd.C_alloc ?_ _) | (with_reducible refine Kd.Za0 ?_ _) | (with_reducible refine Kd.C_drew ?_))); (case side4 => exact HC349_0.out); rintro e w' ⟨rfl, ⟨nd, rfl⟩⟩; (try first | exact ⟨rfl, _, World.drewN_drewN _ _ _⟩ | exact ⟨rfl, _, Eq.trans (World.drewN_drewN _ _ _) (congrArg (World.drewN _) (Nat.add_assoc _ _ _))⟩)))
    repeat (go_quiet (first | (go_at_call 39; (with_reducible refine (Za9.calls k1 _ _ (Zdb l0 x5_1) _ _ (Zdb l1 x5_1) false _ ?side1 ?side2 ?side3 ?side4 A7.out).mono ?_); (case side1 => repeat (first | exact HR348_0.out | (with_reducible refine Kd.C_alloc ?_ _) | (with_reducible refine Kd.Za0 ?_ _) | (with_reducible refine Kd.C_drew ?_))); (case side2 => exact HC348_0.out); (case side3 => repeat (first | exact HR349_0.out | (with_reducible refine Kd.C_alloc ?_ _) | (with_reducible refine Kd.Za0 ?_ _) | (with_reducible refine Kd.C_drew ?_))); (case side4 => exact HC349_0.out); rintro e w' ⟨rfl, ⟨nd, rfl⟩⟩; (try first | exact ⟨rfl, _, World.drewN_drewN _ _ _⟩ | exact ⟨rfl, _, Eq.trans (World.drewN_drewN _ _ _) (congrArg (World.drewN _) (Nat.add_assoc _ _ _))⟩))); try go_wp2_with (first | (go_at_call 39; (with_reducible refine (Za9.calls k1 _ _ (Zdb l0 x5_1) _ _ (Zdb l1 x5_1) false _ ?side1 ?side2 ?side3 ?side4 A7.out).mono ?_); (case side1 => repeat (first | exact HR348_0.out | (with_reducible refine Kd.C_alloc ?_ _) | (with_reducible refine Kd.Za0 ?_ _) | (with_reducible refine Kd.C_drew ?_))); (case side2 => exact HC348_0.out); (case side3 => repeat (first | exact HR349_0.out | (with_reducible refine Kd.C_alloc ?_ _) | (with_reducible refine Kd.Za0 ?_ _) | (with_reducible refine Kd.C_drew ?_))); (case side4 => exact HC349_0.out); rintro e w' ⟨rfl, ⟨nd, rfl⟩⟩; (try first | exact ⟨rfl, _, World.drewN_drewN _ _ _⟩ | exact ⟨rfl, _, Eq.trans (World.drewN_drewN _ _ _) (congrArg (World.drewN _) (Nat.add_assoc _ _ _))⟩))))
    go_ret
    exact ⟨by first | rfl | (simp; done) | (simp [*]; done), by repeat (first | exact Zbw.refl _ | apply Zbw.step)⟩
   subst c8
   have H1 : (Zap.l0 k1 l0 l1 (wrap64 (x5_1 + 1))) = some r := by rw [if_pos rfl] at H; exact H
   clear H
   have H := H1
   clear H1
   have H' := Zaa.mk H
   clear H
   have p348 : 0 ≤ (x5_1 : Int) := of_decide_eq_true (by first | (with_reducible assumption) | assumption)
   have q348 : x5_1 < (l0.length : Int) := of_decide_eq_true (by first | (with_reducible assumption) | assumption)
   obtain ⟨ad348, A348_0, c348_0, e348, hx348_0, hl348_0, hi348_0⟩ := Zfu HR0.out x5_1 p348 q348
   cases e348
   have HR348_0 := Zaa.mk hi348_0
   have HC348_0 := Zaa.mk hl348_0
   clear hi348_0 hl348_0
   replace p348 := eq_true p348
   replace q348 := eq_true q348
   have p349 : 0 ≤ (x5_1 : Int) := of_decide_eq_true (by first | (with_reducible assumption) | assumption)
   have q349 : x5_1 < (l1.length : Int) := of_decide_eq_true (by first | (with_reducible assumption) | assumption)
   obtain ⟨ad349, A349_0, c349_0, e349, hx349_0, hl349_0, hi349_0⟩ := Zfu HR1.out x5_1 p349 q349
   cases e349
   have HR349_0 := Zaa.mk hi349_0
   have HC349_0 := Zaa.mk hl349_0
   clear hi349_0 hl349_0
   replace p349 := eq_true p349
   replace q349 := eq_true q349
   go_wp2_with (first | (go_at_call 39; (with_reducible refine (Za9.calls k1 _ _ (Zdb l0 x5_1) _ _ (Zdb l1 x5_1) true _ ?side1 ?side2 ?side3 ?side4 A7.out).mono ?_); (case side1 => repeat (first | exact HR348_0.out | (with_reducible refine Kd.C_alloc ?_ _) | (with_reducible refine Kd.Za0 ?_ _) | (with_reducible refine Kd.C_drew ?_))); (case side2 => exact HC348_0.out); (case side3 => repeat (first | exact HR349_0.out | (with_reducible refine Kd.C_alloc ?_ _) | (with_reducible refine Kd.Za0 ?_ _) | (with_reducible refine Kd.C_drew ?_))); (case side4 => exact HC349_0.out); rintro e w' ⟨rfl, ⟨nd, rfl⟩⟩; (try first | exact ⟨rfl, _, World.drewN_drewN _ _ _⟩ | exact ⟨rfl, _, Eq.trans (World.drewN_drewN _ _ _) (congrArg (World.drewN _) (Nat.add_assoc _ _ _))⟩)))
   repeat (go_quiet (first | (go_at_call 39; (with_reducible refine (Za9.calls k1 _ _ (Zdb l0 x5_1) _ _ (Zdb l1 x5_1) true _ ?side1 ?side2 ?side3 ?side4 A7.out).mono ?_); (case side1 => repeat (first | exact HR348_0.out | (with_reducible refine Kd.C_alloc ?_ _) | (with_reducible refine Kd.Za0 ?_ _) | (with_reducible refine Kd.C_drew ?_))); (case side2 => exact HC348_0.out); (case side3 => repeat (first | exact HR349_0.out | (with_reducible refine Kd.C_alloc ?_ _) | (with_reducible refine Kd.Za0 ?_ _) | (with_reducible refine Kd.C_drew ?_))); (case side4 => exact HC349_0.out); rintro e w' ⟨rfl, ⟨nd, rfl⟩⟩; (try first | exact ⟨rfl, _, World.drewN_drewN _ _ _⟩ | exact ⟨rfl, _, Eq.trans (World.drewN_drewN _ _ _) (congrArg (World.drewN _) (Nat.add_assoc _ _ _))⟩))); try go_wp2_with (first | (go_at_call 39; (with_reducible refine (Za9.calls k1 _ _ (Zdb l0 x5_1) _ _ (Zdb l1 x5_1) true _ ?side1 ?side2 ?side3 ?side4 A7.out).mono ?_); (case side1 => repeat (first | exact HR348_0.out | (with_reducible refine Kd.C_alloc ?_ _) | (with_reducible refine Kd.Za0 ?_ _) | (with_reducible refine Kd.C_drew ?_))); (case side2 => exact HC348_0.out); (case side3 => repeat (first | exact HR349_0.out | (with_reducible refine Kd.C_alloc ?_ _) | (with_reducible refine Kd.Za0 ?_ _) | (with_reducible refine Kd.C_drew ?_))); (case side4 => exact HC349_0.out); rintro e w' ⟨rfl, ⟨nd, rfl⟩⟩; (try first | exact ⟨rfl, _, World.drewN_drewN _ _ _⟩ | exact ⟨rfl, _, Eq.trans (World.drewN_drewN _ _ _) (congrArg (World.drewN _) (Nat.add_assoc _ _ _))⟩))))
   go_roundg k1
   case measure => have := HK1.out; omega
   case rel => exact ⟨(wrap64 (x5_1 + 1)), (by first | rfl | (simp; done) | (simp [*]; done)), H', ⟨by have := HK1.out; omega⟩, by repeat (first | exact Zbw.refl _ | apply Zbw.step)⟩
end Go.Proofs.Ytpbcigilipdedaa.P
/- slices.DeleteFunc of whole numbers, at a predicate that may lay blocks. Turned from the library's text for slices.DeleteFunc. -/
namespace Go.Proofs.Ytpbcigilipdedaa.P
open Go.RowKit Go.Shelf Go.Lib Go.Sort Go.Proofs.YtpbcigilipdedaaW.PrintWords Go.Proofs.YtpbcigilipdedaaW.PrintLast Go.Proofs.YtpbcigilipdedaaW.PrintMore
set_option linter.unusedVariables false
set_option linter.unusedSimpArgs false
structure RowI (W : World) (g cap : Nat) (d : Array Int) : Prop where
  out : ∃ cur : Array Value, W.heap[g]? = some (.cells cur 3 (0, 0)) ∧ cur.size = cap ∧ d.size ≤ cap ∧ ∀ j, j < d.size → cur[j]? = some (.int .i64 d[j]!)
theorem RowI.lt {W : World} {g cap : Nat} {d : Array Int} (h : RowI W g cap d) : g < W.heap.size := by obtain ⟨cur, h1, _⟩ := h.out; exact Zdj h1
theorem RowI.cell {W : World} {g cap : Nat} {d : Array Int} (h : RowI W g cap d) (j : Nat) (hj : j < d.size) : W.cell? ⟨g, j, none⟩ = some (.int .i64 d[j]!) := by
  obtain ⟨cur, h1, _, _, h4⟩ := h.out
  rw [Za3 h1 j, h4 j hj]
theorem RowI.frozen {W : World} {g cap : Nat} {d : Array Int} (h : RowI W g cap d) (j : Nat) : W.frozen? ⟨g, j, none⟩ = false := by
  obtain ⟨cur, h1, _⟩ := h.out
  exact Zbz h1 j
theorem RowI.below {W W' : World} {g cap : Nat} {d : Array Int} (h : RowI W g cap d) (hb : Below W.heap.size W W') : RowI W' g cap d := by
  obtain ⟨cur, h1, h2⟩ := h.out
  exact ⟨⟨cur, Zbe h1 hb, h2⟩⟩
theorem RowI.set {W : World} {g cap : Nat} {d : Array Int} (h : RowI W g cap d) (i : Nat) (hi : i < d.size) (x : Int) : RowI (W.setCell ⟨g, i, none⟩ (.int .i64 x)) g cap (d.setIfInBounds i x) := by
  obtain ⟨cur, h1, h2, h3, h4⟩ := h.out
  refine ⟨⟨_, blk_set h1 i _, by simpa using h2, by simpa using h3, fun j hj => ?_⟩⟩
  rw [Array.size_setIfInBounds] at hj
  by_cases e : j = i
  rotate_left
  · rw [getElem!_set_other d i j x e, Array.getElem?_setIfInBounds, if_neg (fun e' => e e'.symm), h4 j hj]
  subst e
  rw [getElem!_set_same d j x hj]
  rw [Array.getElem?_setIfInBounds, if_pos rfl, if_pos (by omega)]
theorem RowI.clear {W : World} {g cap : Nat} {d : Array Int} (h : RowI W g cap d) (k : Nat) (l : List Int) (hk : k ≤ d.size) (hl : l.length = k) (hlow : ∀ j, j < k → l[j]? = some d[j]!) (vs : List Value) (hvs : k + vs.length ≤ cap) : RowI (W.setCells g k vs) g cap l.toArray := by
  obtain ⟨cur, h1, h2, h3, h4⟩ := h.out
  obtain ⟨cur', h5, h6, h7⟩ := Zey vs k W cur h1 (by omega)
  refine ⟨⟨cur', h5, by omega, by simp; omega, fun j hj => ?_⟩⟩
  rw [List.size_toArray] at hj
  have hj' : j < k := by omega
  rw [← Array.getElem?_toList, h7, List.append_assoc, List.getElem?_append_left (by rw [List.length_take, Array.length_toList]; omega), List.getElem?_take, if_pos hj', Array.getElem?_toList, h4 j (by omega)]
  have := hlow j hj'
  congr 2
  rw [getElem!_pos l.toArray j (by simpa using hj)]
  have h9 : l[j]? = some l[j] := List.getElem?_eq_getElem hj
  rw [this] at h9
  simpa using Option.some.inj h9
theorem below_cells {B : Nat} {w W : World} {g k : Nat} (h : Below B w W) (hg : B ≤ g) (vs : List Value) : Below B w (W.setCells g k vs) := by
  obtain ⟨h1, h2, h3, h4⟩ := Zel g vs k W
  exact ⟨h1.trans h.os, h2.trans h.tape, h3.trans h.output, by rw [h4]; exact h.size, fun i hi => (Zex vs k i (by omega)).trans (h.block i hi)⟩
def PredB (g : Nat) (lb : Array Value) (p : Int → Bool) (B : Nat) (w1 : World) : Prop :=
  ∀ (W : World) (x : Int), Below B w1 W → B ≤ W.heap.size → Calls Try.prog g (#[.int .i64 x] ++ lb) W fun e w' => e = .returned (.bool (p x)) ∧ Below W.heap.size W w'
def ixB (p : Int → Bool) (l : List Int) : Int := Lib.idxBy (fun _ y => p y) l default
set_option maxHeartbeats 4000000 in
set_option maxRecDepth 1000000 in
theorem indexB (p : Int → Bool) (g : Nat) (lb : Array Value) (eg : ∀ args w, (callFunc g args).run Try.prog w = .ok (.enter g args) w) (B : Nat) (w1 : World) (hp : PredB g lb p B w1) (blk cap : Nat) (d : Array Int) (w : World) (hR : RowI w blk cap d) (hB : B ≤ blk) (hb : Below B w1 w) (hsz : d.size ≤ 9223372036854775807) :
    Calls Try.prog 80 #[.slice (some ⟨blk, 0, none⟩) d.size cap, .func (.func g) #[] lb] w fun e w' => e = .returned (.int .i64 (ixB p d.toList)) ∧ Below w.heap.size w w' := by
  have hcap : d.size ≤ cap := by obtain ⟨_, _, _, h, _⟩ := hR.out; exact h
  have tl : ∀ j, j < d.size → d.toList[j]! = d[j]! := fun j hj => by rw [getElem!_pos d j hj, getElem!_pos d.toList j (by simpa using hj)]; simp
  have HE : Aside ((∀ k, k < d.size → p d[k]! = true → (∀ j, j < k → p d[j]! = false) → ixB p d.toList = (k : Int)) ∧ ((∀ j, j < d.size → p d[j]! = false) → ixB p d.toList = -1)) := by
    rcases idxByFrom_spec (fun _ y => p y) default d.toList 0 with ⟨e1, hall⟩ | ⟨k0, hk0, e1, ht, hall⟩
    · refine ⟨fun k hk h _ => ?_, fun _ => e1⟩
      have := hall k (by simpa using hk)
      rw [tl k hk, h] at this
      cases this
    have hk0' : k0 < d.size := by simpa using hk0
    have e2 : ixB p d.toList = (k0 : Int) := by unfold ixB Lib.idxBy; rw [e1]; simp
    refine ⟨fun k hk h hall' => ?_, fun h => ?_⟩
    · rw [e2]
      rcases Nat.lt_trichotomy k k0 with hlt | rfl | hgt
      · have := hall k hlt
        rw [tl k hk, h] at this
        cases this
      · rfl
      have := hall' k0 hgt
      rw [tl k0 hk0'] at ht
      rw [ht] at this
      cases this
    have := h k0 hk0'
    rw [tl k0 hk0'] at ht
    rw [ht] at this
    cases this
  have HP : Aside (PredB g lb p B w1) := hp
  have HR : Aside (RowI w blk cap d) := hR
  have HBW : Aside (B ≤ blk ∧ Below B w1 w) := ⟨hB, hb⟩
  clear hp hR hB hb tl
  generalize hix : ixB p d.toList = ix at HE ⊢
  clear hix
  obtain ⟨wo, rfl⟩ : ∃ wo : World, wo = w := ⟨_, rfl⟩
  go_enter Try.func80, Try.ntmps80
  go_wp2
  go_loopg [8] d.size (fun gg s8 wr => ∃ k : Nat, s8 = .int .i64 k ∧ k ≤ d.size ∧ d.size - k ≤ gg ∧ Aside (Below wo.heap.size wo wr) ∧ Aside (∀ j, j < k → p d[j]! = false))
  case atStart => exact ⟨0, rfl, by omega, by omega, Below.refl _ _, fun j hj => absurd hj (by omega)⟩
  case round =>
    obtain ⟨k, rfl, hk, hg, HBr, HA⟩ := hrel
    by_cases hlt : k < d.size
    rotate_left
    · obtain rfl : k = d.size := by omega
      go_wp2
      go_ret
      exact ⟨by rw [HE.out.2 HA.out]; rfl, HBr.out⟩
    have hltz : (k : Int) < (d.size : Int) := by omega
    have c1 := (HR.out.below HBr.out).cell k hlt
    have hcall := HP.out wr d[k]! (Zdt HBW.out.2 (by have := HR.out.lt; have := HBW.out.1; omega) HBr.out) (by have := HR.out.lt; have := HBr.out.size; have := HBW.out.1; omega)
    generalize hx : d[k]! = x at c1 hcall
    have C : Aside (d[k]! = x) := hx
    have hlt0 := Zaa.mk hlt
    clear hx
    cases hq : p x with
    | true =>
      have D : Aside (p x = true) := hq
      rw [hq] at hcall
      clear hq
      go_wp2_with (go_at_fn g; refine hcall.mono ?_; rintro e w' ⟨rfl, hb'⟩)
      go_ret
      exact ⟨by rw [HE.out.1 k hlt0.out (by rw [C.out]; exact D.out) HA.out]; rfl, Zam HBr.out hb'⟩
    | false =>
      have D : Aside (p x = false) := hq
      rw [hq] at hcall
      clear hq
      go_wp2_with (go_at_fn g; refine hcall.mono ?_; rintro e w' ⟨rfl, hb'⟩; have HBn : Aside (Below wo.heap.size wo w') := Zam HBr.out hb'; clear hb')
      go_roundg (d.size - (k + 1))
      case measure => omega
      case rel =>
        refine ⟨k + 1, by go_num, by omega, Nat.le_refl _, HBn, fun j hj => ?_⟩
        by_cases e : j = k
        rotate_left
        · exact HA.out j (by omega)
        subst e; rw [C.out]; exact D.out
set_option maxHeartbeats 4000000 in
set_option maxRecDepth 1000000 in
theorem deleteB (p : Int → Bool) (g : Nat) (lb : Array Value) (eg : ∀ args w, (callFunc g args).run Try.prog w = .ok (.enter g args) w) (B : Nat) (w1 : World) (hp : PredB g lb p B w1) (blk cap : Nat) (d : Array Int) (w : World) (hR : RowI w blk cap d) (hB : B ≤ blk) (hb : Below B w1 w) (hsz : d.size ≤ 9223372036854775807) :
    Calls Try.prog 53 #[.slice (some ⟨blk, 0, none⟩) d.size cap, .func (.func g) #[] lb] w fun e w' => e = .returned (.slice (some ⟨blk, 0, none⟩) (d.toList.filter fun x => !p x).length cap) ∧ RowI w' blk cap (d.toList.filter fun x => !p x).toArray ∧ Below B w1 w' := by
  have hcap : d.size ≤ cap := by obtain ⟨_, _, _, h, _⟩ := hR.out; exact h
  have tl : ∀ j, j < d.size → d.toList[j]! = d[j]! := fun j hj => by rw [getElem!_pos d j hj, getElem!_pos d.toList j (by simpa using hj)]; simp
  have hIF := indexB p g lb eg B w1 hp blk cap d w hR hB hb hsz
  obtain ⟨kp, HK⟩ : ∃ kp : Nat → Bool, Hid (kp = fun j => !p d[j]!) := ⟨_, rfl⟩
  have hfil : (d.toList.filter fun x => !p x) = keptUpTo kp d d.size := by rw [HK.out]; exact (keptUpTo_filter (fun x => !p x) d).symm
  rw [hfil]
  have HP : Aside (PredB g lb p B w1) := hp
  have HR : Aside (RowI w blk cap d) := hR
  have HBW : Aside (B ≤ blk ∧ Below B w1 w ∧ B ≤ w.heap.size) := ⟨hB, hb, by have := hR.lt; omega⟩
  obtain ⟨wo, rfl⟩ : ∃ wo : World, wo = w := ⟨_, rfl⟩
  rcases idxByFrom_spec (fun _ y => p y) default d.toList 0 with ⟨e1, hall⟩ | ⟨k0, hk0, e1, ht, hall⟩
  · have e2 : ixB p d.toList = -1 := e1
    rw [e2] at hIF
    have hkeep : ∀ j, j < d.size → kp j = true := fun j hj => by rw [HK.out]; show (!p d[j]!) = true; rw [← tl j hj, hall j (by simpa using hj)]; rfl
    have e3 : Aside (keptUpTo kp d d.size = d.toList) := by show _ = _; rw [keptUpTo_all kp d _ hkeep, range_map_get]
    clear hp hR hB hb hall e1 e2 tl hkeep hfil
    go_enter Try.func53, Try.ntmps53
    go_wp2_with (go_at_call 80; refine hIF.mono ?_; rintro e w' ⟨rfl, hb'⟩)
    go_ret
    rw [e3.out]
    exact ⟨by simp, HR.out.below hb', Zdt HBW.out.2.1 HBW.out.2.2 hb'⟩
  have hk0' : k0 < d.size := by simpa using hk0
  have e2 : ixB p d.toList = (k0 : Int) := by unfold ixB Lib.idxBy; rw [e1]; simp
  rw [e2] at hIF
  have hkeep : ∀ j, j < k0 → kp j = true := fun j hj => by rw [HK.out]; show (!p d[j]!) = true; rw [← tl j (by omega), hall j hj]; rfl
  have hdrop : kp k0 = false := by rw [HK.out]; show (!p d[k0]!) = false; rw [← tl k0 hk0']; rw [show p d.toList[k0]! = true from ht]; rfl
  have hne1 : ((k0 : Int) == -1) = false := beq_eq_false_iff_ne.2 (by omega)
  have K0 : Aside (KeptInv kp d (k0 + 1) k0 d) := KeptInv.start hkeep hdrop
  clear hp hR hB hb hall ht e1 e2 tl hkeep hdrop hfil hk0
  go_enter Try.func53, Try.ntmps53
  go_wp2_with (go_at_call 80; refine hIF.mono ?_; rintro e w' ⟨rfl, hb'⟩; have HB1 : Aside (Below B w1 w' ∧ RowI w' blk cap d) := ⟨Zdt HBW.out.2.1 HBW.out.2.2 hb', HR.out.below hb'⟩; clear hb')
  go_loopg [5, 6, 7] d.size (fun gg s5 s6 _ wr => ∃ (i j : Nat) (dk : Array Int), s5 = .int .i64 i ∧ s6 = .int .i64 j ∧ j ≤ d.size ∧ d.size - j ≤ gg ∧ Aside (Below B w1 wr ∧ RowI wr blk cap dk) ∧ Aside (KeptInv kp d j i dk))
  case atStart => exact ⟨k0, k0 + 1, d, rfl, by go_num, by omega, by omega, HB1, K0⟩
  case round =>
    obtain ⟨i, j, dk, rfl, rfl, hjd, hgg, W2, I2⟩ := hrel
    have hij := I2.out.lt
    have hds := I2.out.size
    by_cases hlt : j < d.size
    rotate_left
    · obtain rfl : j = d.size := by omega
      have hltz : ¬ (d.size : Int) < (d.size : Int) := by omega
      have hO : OneCell (Value.int .i64) := fun _ => rfl
      have hcl : ∀ ty, (Builtin.clear_ #[23] ty #[.slice (some ⟨blk, i, none⟩) (d.size - i) (cap - i)]).run Try.prog wr = .ok (.tuple #[]) (wr.setCells blk i (List.replicate (d.size - i) (.int .i64 0))) :=
        fun ty => Lib.run_clear_slice wr _ _ ty _ Try.underlying23 Try.zeroValue3 (hO.cells 0) (hO 0) blk i _ _ (by omega) (fun t ht => by rw [W2.out.2.cell (i + t) (by omega)]; rfl) (fun t ht => W2.out.2.frozen (i + t))
      have WE : Aside (Below B w1 (wr.setCells blk i (List.replicate (d.size - i) (.int .i64 0))) ∧ RowI (wr.setCells blk i (List.replicate (d.size - i) (.int .i64 0))) blk cap (keptUpTo kp d d.size).toArray) :=
        ⟨below_cells W2.out.1 HBW.out.1 _, W2.out.2.clear i _ (by omega) I2.out.len I2.out.low _ (by rw [List.length_replicate]; omega)⟩
      go_wp2
      go_ret
      exact ⟨by rw [I2.out.len]; rfl, WE.out.2, WE.out.1⟩
    have hltz : (j : Int) < (d.size : Int) := by omega
    have cj := W2.out.2.cell j (by omega)
    have ci := W2.out.2.cell i (by omega)
    have fi := W2.out.2.frozen i
    rw [I2.out.high j (by omega)] at cj
    have hcall := HP.out wr d[j]! W2.out.1 (by have := W2.out.2.lt; have := HBW.out.1; omega)
    generalize hu : d[j]! = u at cj hcall
    generalize dk[i]! = old at ci
    have C : Aside (d[j]! = u) := hu
    clear hu
    cases hq : p u with
    | false =>
      have D : Aside (p u = false) := hq
      rw [hq] at hcall
      clear hq
      go_wp2_with (go_at_fn g; refine hcall.mono ?_; rintro e w' ⟨rfl, hb'⟩; have W3 : Aside (Below B w1 w' ∧ RowI w' blk cap dk) := ⟨Zdt W2.out.1 (by have := W2.out.2.lt; have := HBW.out.1; omega) hb', W2.out.2.below hb'⟩; clear hb'; clear ci fi; have ci := W3.out.2.cell i (by omega); have fi := W3.out.2.frozen i)
      go_roundg (d.size - (j + 1))
      case measure => omega
      case rel =>
        refine ⟨i + 1, j + 1, dk.setIfInBounds i u, by go_num, by go_num, by omega, Nat.le_refl _, ⟨W3.out.1.setCell HBW.out.1 _, W3.out.2.set i (by omega) u⟩, (show Aside _ from ?_)⟩
        have := I2.out.keep hlt (by rw [HK.out]; show (!p d[j]!) = true; rw [C.out, D.out]; rfl)
        rwa [C.out] at this
    | true =>
      have D : Aside (p u = true) := hq
      rw [hq] at hcall
      clear hq
      go_wp2_with (go_at_fn g; refine hcall.mono ?_; rintro e w' ⟨rfl, hb'⟩; have W3 : Aside (Below B w1 w' ∧ RowI w' blk cap dk) := ⟨Zdt W2.out.1 (by have := W2.out.2.lt; have := HBW.out.1; omega) hb', W2.out.2.below hb'⟩; clear hb')
      go_roundg (d.size - (j + 1))
      case measure => omega
      case rel => exact ⟨i, j + 1, dk, rfl, by go_num, by omega, Nat.le_refl _, W3, I2.out.skip (by rw [HK.out]; show (!p d[j]!) = false; rw [C.out, D.out]; rfl)⟩
end Go.Proofs.Ytpbcigilipdedaa.P
/- The closure of element.Prune: is a place none? -/
namespace Go.Proofs.Ytpbcigilipdedaa.P
open Go.RowKit Go.Shelf Go.Lib Go.Sort Go.Proofs.YtpbcigilipdedaaW.PrintWords Go.Proofs.YtpbcigilipdedaaW.PrintLast Go.Proofs.YtpbcigilipdedaaW.PrintMore
set_option linter.unusedVariables false
set_option linter.unusedSimpArgs false
attribute [local go_sem ↓] Go.wp_at_zero Go.wp_at_succ
structure ElemAt (W : World) (bL bd br : Nat) (A0 : Option Addr) (c0 : Nat) (l0 : List (List S41)) (AL : Option Addr) (cL : Nat) (list : List Int) (rs : Int) : Prop where
  eL : W.cell? ⟨bL, 0, none⟩ = some (.slice AL list.length cL)
  ed : W.cell? ⟨bd, 0, none⟩ = some (.slice A0 l0.length c0)
  er : W.cell? ⟨br, 0, none⟩ = some (.int .i64 rs)
  rd : Kd.C (Kd.slice 41 k41) W A0 l0.length l0
  rL : Kd.C (Kd.int .i64) W AL list.length list
  hd : l0.length ≤ c0
  hL : list.length ≤ cL
theorem ElemAt.below {W W' : World} {bL bd br : Nat} {A0 : Option Addr} {c0 : Nat} {l0 : List (List S41)} {AL : Option Addr} {cL : Nat} {list : List Int} {rs : Int} (h : ElemAt W bL bd br A0 c0 l0 AL cL list rs) (hb : Below W.heap.size W W') : ElemAt W' bL bd br A0 c0 l0 AL cL list rs :=
  ⟨(hb.cell (World.block_lt_of_cell? W _ h.eL)).trans h.eL, (hb.cell (World.block_lt_of_cell? W _ h.ed)).trans h.ed, (hb.cell (World.block_lt_of_cell? W _ h.er)).trans h.er, Kd.Za8 h.rd hb, Kd.Za8 h.rL hb, h.hd, h.hL⟩
theorem Zgq (k : Nat) (l0 : List (List S41)) (rs : List S41) : ∀ (list : List Int) (ms : List (List S41)), Zai.meets k l0 rs list = some ms →
    ms.length = list.length ∧ ∀ i (h : i < list.length), 0 ≤ list[i] ∧ list[i] < (l0.length : Int) ∧ Zbr.f k (l0.getD list[i].toNat []) rs = some (ms.getD i [])
  | [], ms, h => by
    obtain rfl := Option.some.inj h
    exact ⟨rfl, fun i h => absurd h (Nat.not_lt_zero _)⟩
  | v :: vs, ms, h => by
    unfold Zai.meets at h
    split at h
    case isFalse => cases h
    case isTrue h1 =>
      split at h
      case isFalse => cases h
      case isTrue h2 =>
        obtain ⟨m, hm, h⟩ := Option.bind_eq_some_iff.1 h
        obtain ⟨ms', hms, h⟩ := Option.bind_eq_some_iff.1 h
        obtain rfl := Option.some.inj h
        obtain ⟨e, hg⟩ := Zgq k l0 rs vs ms' hms
        refine ⟨by simp [e], fun i hi => ?_⟩
        cases i with
        | zero => exact ⟨h1, h2, hm⟩
        | succ i => exact hg i (by simpa using hi)
theorem empty_len {α : Type} (m : List α) : m.isEmpty = ((m.length : Int) == 0) := by
  cases m with
  | nil => rfl
  | cons a l => exact (beq_eq_false_iff_ne.2 (by simp only [List.length_cons]; omega)).symm
theorem cellK {W W' : World} {a : Addr} {v : Value} (hb : Below W.heap.size W W') (hc : W.cell? a = some v) : W'.cell? a = some v := (hb.cell (World.block_lt_of_cell? W _ hc)).trans hc
section
variable (k : Nat) (l0 : List (List S41)) (list : List Int) (rs : Int) (ms : List (List S41)) (hm : Zai.meets k l0 (l0.getD rs.toNat []) list = some ms) (hr : 0 ≤ rs ∧ rs < (l0.length : Int))
  (bL bd br : Nat) (A0 : Option Addr) (c0 : Nat) (AL : Option Addr) (cL : Nat)
include hm hr
set_option maxHeartbeats 4000000 in
set_option maxRecDepth 1000000 in
theorem placed_calls (W : World) (h : ElemAt W bL bd br A0 c0 l0 AL cL list rs) (x : Int) :
    Calls Try.prog 55 #[.int .i64 x, .pointer (some ⟨bL, 0, none⟩), .pointer (some ⟨bd, 0, none⟩), .pointer (some ⟨br, 0, none⟩)] W fun e w' => e = .returned (.bool (!Zai.placed ms x)) ∧ Below W.heap.size W w' := by
  obtain ⟨hlen, hget⟩ := Zgq k l0 _ list ms hm
  have eL := h.eL
  have ed := h.ed
  have er := h.er
  by_cases h1 : x < 0
  · have d1 : decide (x < 0) = true := decide_eq_true h1
    have e : Aside (Zai.placed ms x = false) := by
      show _ = _
      unfold Zai.placed
      rw [decide_eq_false (show ¬ 0 ≤ x by omega)]
      rfl
    rw [e.out]
    clear h hget hlen hm hr
    obtain ⟨wo, rfl⟩ : ∃ wo : World, wo = W := ⟨_, rfl⟩
    go_enter Try.func55, Try.ntmps55
    go_wp2
    go_quiet (fail)
    go_wp2
    go_ret
    exact ⟨rfl, below_drewN' (Below.refl _ _) _⟩
  have d1 : decide (x < 0) = false := decide_eq_false h1
  by_cases h2 : x ≥ (list.length : Int)
  · have d2 : decide (x ≥ (list.length : Int)) = true := decide_eq_true h2
    have e : Aside (Zai.placed ms x = false) := by
      show _ = _
      unfold Zai.placed
      rw [hlen, decide_eq_false (show ¬ x < (list.length : Int) by omega)]
      simp
    rw [e.out]
    clear h hget hlen hm hr
    obtain ⟨wo, rfl⟩ : ∃ wo : World, wo = W := ⟨_, rfl⟩
    go_enter Try.func55, Try.ntmps55
    go_wp2
    go_quiet (fail)
    go_wp2
    go_ret
    exact ⟨rfl, below_drewN' (Below.refl _ _) _⟩
  have d2 : decide (x ≥ (list.length : Int)) = false := decide_eq_false h2
  have p0 : 0 ≤ x := by omega
  have p1 : x < (list.length : Int) := by omega
  obtain ⟨ad, rfl, hx⟩ := Kd.Zbx h.rL x p0 p1
  have hi : x.toNat < list.length := by omega
  have ev : Go.Proofs.YtpbcigilipdedaaW.PrintWords.rd list x = list[x.toNat] := by
    unfold Go.Proofs.YtpbcigilipdedaaW.PrintWords.rd
    rw [List.getD_eq_getElem?_getD, List.getElem?_eq_getElem hi]
    rfl
  obtain ⟨g0, g1, g2⟩ := hget x.toNat hi
  rw [← ev] at g0 g1 g2
  generalize Go.Proofs.YtpbcigilipdedaaW.PrintWords.rd list x = v at hx g0 g1 g2
  obtain ⟨ad0, Av, cv, rfl, hxv, hlv, hCv⟩ := Zfu h.rd v g0 g1
  obtain ⟨ad0', Ar, cr, e0, hxr, hlr, hCr⟩ := Zfu h.rd rs hr.1 hr.2
  obtain rfl := Option.some.inj e0
  have hcall := fun (W' : World) (hb : Below W.heap.size W W') => Zbr.calls k Av cv (Zdb l0 v) Ar cr (Zdb l0 rs) (ms.getD x.toNat []) W' (Kd.Za8 hCv hb) hlv (Kd.Za8 hCr hb) hlr g2
  have e : Aside (Zai.placed ms x = !(ms.getD x.toNat []).isEmpty) := by
    show _ = _
    unfold Zai.placed
    rw [hlen, decide_eq_true p0, decide_eq_true p1]
    rfl
  rw [e.out, Bool.not_not]
  have HC : Aside _ := hcall
  generalize ms.getD x.toNat [] = m at hcall HC ⊢
  clear hcall g2
  generalize hlv' : (Zdb l0 v).length = nv at hxv HC
  generalize hlr' : (Zdb l0 rs).length = nr at hxr HC
  obtain ⟨wo, rfl⟩ : ∃ wo : World, wo = W := ⟨_, rfl⟩
  go_enter Try.func55, Try.ntmps55
  go_wp2
  go_region_held3 (fun w' => w'.cell? ⟨bL, 0, none⟩ = some (.slice (some ad) list.length cL) ∧ w'.cell? ⟨bd, 0, none⟩ = some (.slice (some ad0) l0.length c0) ∧ w'.cell? ⟨br, 0, none⟩ = some (.int .i64 rs) ∧ w'.cell? (ad.add x.toNat) = some (.int .i64 v) ∧ w'.cell? (ad0.add v.toNat) = some (.slice Av nv cv) ∧ w'.cell? (ad0.add rs.toNat) = some (.slice Ar nr cr) ∧ Below wo.heap.size wo w')
    (first | (go_split_ands; refine ⟨?_, ?_, ?_, ?_, ?_, ?_, ?_⟩ <;> (first | go_keep | exact cellK hb (by assumption) | exact Zdt (by assumption) (by simp) hb | (repeat (first | exact Below.refl _ _ | assumption | apply Zcl | apply Za)))))
    (first | (go_at_call 56; refine (HC.out _ ?_).mono ?_; (go_split_ands; repeat (first | assumption | apply Zcl | apply Za)); rintro e w' ⟨v0, rfl, hR, hb⟩; obtain ⟨Ao, co, rfl⟩ := Kd.Zbn hR))
  all_goals go_wp2
  all_goals (go_ret; refine ⟨?_, ?_⟩)
  · rw [empty_len m]; rfl
  go_split_ands
  assumption
theorem placedB (B : Nat) (w1 : World) (hB : B = w1.heap.size) (h : ElemAt w1 bL bd br A0 c0 l0 AL cL list rs) : PredB 55 #[.pointer (some ⟨bL, 0, none⟩), .pointer (some ⟨bd, 0, none⟩), .pointer (some ⟨br, 0, none⟩)] (fun x => !Zai.placed ms x) B w1 := by
  subst hB
  intro W x hb _
  exact placed_calls k l0 list rs ms hm hr bL bd br A0 c0 AL cL W (h.below hb) x
end
end Go.Proofs.Ytpbcigilipdedaa.P
/- Reading an element that is itself a slice (or of one cell), whatever its kind. -/
namespace Go.Proofs.Ytpbcigilipdedaa.P
open Go.RowKit Go.Proofs.YtpbcigilipdedaaW.PrintWords
set_option linter.unusedVariables false
set_option linter.unusedSimpArgs false
theorem at_one {α : Type} {d : Kd α} (hd : d.sz = 1) {w : World} {A : Option Addr} {n : Nat} {xs : List α} (h : d.C w A n xs) (k : Nat) (hk : k < xs.length) : ∃ ad u, A = some ad ∧ w.cell? (ad.add k) = some u ∧ d.K w xs[k] [u] := by
  obtain ⟨hl, _, h3⟩ := h
  obtain ⟨ad, rfl, hc⟩ := h3 (by omega)
  obtain ⟨c, hcl, hK, hcell⟩ := hc k _ (List.getElem?_eq_getElem hk)
  rw [hd] at hcl hcell
  obtain ⟨u, rfl⟩ := List.length_eq_one_iff.1 hcl
  have := hcell 0 u rfl
  rw [Nat.mul_one, Nat.add_zero] at this
  exact ⟨ad, u, rfl, this, hK⟩
theorem at_slice {α : Type} {d : Kd α} {e : Nat} {w : World} {A : Option Addr} {n : Nat} {xs : List (List α)} (h : (Kd.slice e d).C w A n xs) (k : Nat) (hk : k < xs.length) :
    ∃ ad A0 c0, A = some ad ∧ w.cell? (ad.add k) = some (.slice A0 xs[k].length c0) ∧ xs[k].length ≤ c0 ∧ d.C w A0 xs[k].length xs[k] := by
  obtain ⟨ad, u, hA, hc, A0, c0, hu, hl, hC⟩ := at_one (d := Kd.slice e d) rfl h k hk
  obtain rfl : u = _ := List.singleton_inj.1 hu
  exact ⟨ad, A0, c0, hA, hc, hl, hC⟩
theorem reads_one {α : Type} {d : Kd α} (hd : d.sz = 1) {w : World} {ad : Addr} {xs : List α} (hn : xs.length ≤ 9223372036854775807) (h : ∀ k (hk : k < xs.length), ∃ u, w.cell? (ad.add k) = some u ∧ d.K w xs[k] [u]) : d.C w (some ad) xs.length xs := by
  refine ⟨rfl, hn, fun _ => ⟨ad, rfl, fun j p hj => ?_⟩⟩
  obtain ⟨hj', rfl⟩ := List.getElem?_eq_some_iff.1 hj
  obtain ⟨u, hu, hK⟩ := h j hj'
  refine ⟨[u], by rw [hd]; rfl, hK, fun i v hi => ?_⟩
  rcases i with _ | i
  · obtain rfl : u = v := by simpa using hi
    rw [hd, Nat.mul_one, Nat.add_zero]
    exact hu
  simp at hi
theorem add_zero_block (g k : Nat) : (⟨g, 0, none⟩ : Addr).add k = ⟨g, k, none⟩ := by
  by_cases h : k = 0
  · subst h; rfl
  simp [Addr.add, h]
end Go.Proofs.Ytpbcigilipdedaa.P
/- A row of whole numbers of the call's own, as it lies in its block. -/
namespace Go.Proofs.Ytpbcigilipdedaa.P
open Go.RowKit Go.Shelf Go.Lib Go.Sort Go.Proofs.YtpbcigilipdedaaW.PrintWords Go.Proofs.YtpbcigilipdedaaW.PrintLast Go.Proofs.YtpbcigilipdedaaW.PrintMore
set_option linter.unusedVariables false
set_option linter.unusedSimpArgs false
theorem rowI_of {w : World} {base : Nat} {ok : Nat → Prop} {v : Value} {l : List Int} (h : Kd.R (Kd.int .i64) 3 w base ok v l) (hne : l ≠ []) : ∃ g cap, v = .slice (some ⟨g, 0, none⟩) l.length cap ∧ base ≤ g ∧ RowI w g cap l.toArray := by
  have ho := Kd.own_of_R (enc := Value.int .i64) h
  rcases ho.2 with ⟨_, e⟩ | ⟨g, cap, cur, hv, hg, hh, hn, _, hc, ht⟩
  · exact absurd (List.length_eq_zero_iff.1 e) hne
  refine ⟨g, cap, hv, hg, ⟨⟨cur, hh, by omega, by simpa using hn, fun j hj => ?_⟩⟩⟩
  rw [List.size_toArray] at hj
  have h1 : (cur.toList.take (l.length * 1))[j]? = (encs (Value.int .i64) l)[j]? := by rw [ht]
  rw [List.getElem?_take, if_pos (by omega)] at h1
  rw [← Array.getElem?_toList, h1]
  unfold encs
  rw [List.getElem?_map, List.getElem?_eq_getElem hj, getElem!_pos l.toArray j (by simpa using hj)]
  simp
theorem RowI.kept {W W' : World} {g cap go : Nat} {d : Array Int} (h : RowI W g cap d) (hg : W.grownBy W' (some go)) (hne : g ≠ go) : RowI W' g cap d := by
  obtain ⟨cur, h1, h2⟩ := h.out
  exact ⟨⟨cur, Zcv h1 hg (fun e => hne (Option.some.inj e)), h2⟩⟩
theorem RowI.reads {w : World} {g cap : Nat} {l : List Int} (h : RowI w g cap l.toArray) (hl : l.length ≤ 9223372036854775807) : Kd.C (Kd.int .i64) w (some ⟨g, 0, none⟩) l.length l := by
  refine ⟨rfl, hl, fun _ => ⟨_, rfl, fun j p hj => ?_⟩⟩
  obtain ⟨hj', rfl⟩ := List.getElem?_eq_some_iff.1 hj
  refine ⟨[.int .i64 l[j]], rfl, rfl, fun i u hi => ?_⟩
  rcases i with _ | i
  · obtain rfl : Value.int .i64 l[j] = u := by simpa using hi
    have := h.cell j (by simpa using hj')
    rw [getElem!_pos l.toArray j (by simpa using hj')] at this
    rw [show (Kd.int .i64).sz = 1 from rfl, Nat.mul_one, Nat.add_zero]
    rw [show (⟨g, 0, none⟩ : Addr).add j = ⟨g, j, none⟩ from by by_cases e : j = 0 <;> simp [Addr.add, e]]
    simpa using this
  simp at hi
theorem deleteL (q : Int → Bool) (g : Nat) (lb : Array Value) (eg : ∀ args w, (callFunc g args).run Try.prog w = .ok (.enter g args) w) (B : Nat) (w1 : World) (hp : PredB g lb (fun x => !q x) B w1) (blk cap : Nat) (l : List Int) (w : World) (hR : RowI w blk cap l.toArray) (hB : B ≤ blk) (hb : Below B w1 w) (hsz : l.length ≤ 9223372036854775807) :
    Calls Try.prog 53 #[.slice (some ⟨blk, 0, none⟩) l.length cap, .func (.func g) #[] lb] w fun e w' => e = .returned (.slice (some ⟨blk, 0, none⟩) (l.filter q).length cap) ∧ RowI w' blk cap (l.filter q).toArray ∧ Below B w1 w' := by
  have h := deleteB (fun x => !q x) g lb eg B w1 hp blk cap l.toArray w hR hB hb (by simpa using hsz)
  have e : (l.toArray.toList.filter fun x => !(fun x => !q x) x) = l.filter q := by simp
  rw [e] at h
  exact h
end Go.Proofs.Ytpbcigilipdedaa.P
/- A row of ranges put into one slot of a list of such rows that a call has for its own. -/
namespace Go.Proofs.Ytpbcigilipdedaa.P
open Go.RowKit Go.Proofs.YtpbcigilipdedaaW.PrintWords Go.Proofs.YtpbcigilipdedaaW.PrintLast Go.Proofs.YtpbcigilipdedaaW.PrintMore
set_option linter.unusedVariables false
set_option linter.unusedSimpArgs false
def holdsOf (w : World) (a : Addr) : Value := (w.cell? a).getD .nilIface
theorem Zfy {w : World} {a : Addr} {u : Value} (h : w.cell? a = some u) : w.cell? a = some (holdsOf w a) := by
  unfold holdsOf
  rw [h]
  rfl
theorem holdsOf_set {w : World} {a b : Addr} {u v : Value} (h : w.cell? a = some u) : (w.setCell b v).cell? a = some (holdsOf (w.setCell b v) a) := by
  obtain ⟨u', hu⟩ := cell?_setCell_some (p := b) (x := v) h
  exact Zfy hu
theorem frozen_below {w w' : World} {a : Addr} {u : Value} (hb : Below w.heap.size w w') (h : w.cell? a = some u) (hf : w.frozen? a = false) : w'.frozen? a = false :=
  (World.frozen?_of_block (hb.block _ (World.block_lt_of_cell? w a h))).trans hf
theorem S_put {W : World} {base g n cap : Nat} {okS ok : Nat → Prop} {v : Value} {l : List (List S41)} {x : List S41} {i : Int} {okR : Nat → Prop}
    (hS : Kd.S (Kd.slice 41 k41) 39 W base okS (.slice (some ⟨g, 0, none⟩) n cap) l) (hR : Kd.R k41 41 W base okR v x)
    (hok : ∀ k, v.ownBlock = some k → ok k) (hsub : ∀ k, okS k → ok k ∧ some k ≠ v.ownBlock) (h0 : 0 ≤ i) (h1 : i < n) :
    Kd.S (Kd.slice 41 k41) 39 (W.setCell ⟨g, i.toNat, none⟩ v) base ok (.slice (some ⟨g, 0, none⟩) n cap) (l.set i.toNat x) ∧ W.grownBy (W.setCell ⟨g, i.toNat, none⟩ v) (some g) := by
  have HX : Kd.S (Kd.slice 41 k41) 39 W base (fun k => ok k ∧ ¬ (some k = v.ownBlock)) (.slice (some ⟨g, 0, none⟩) n cap) l := Kd.Zc5 hS hsub
  obtain ⟨oki, ce, hcl, hM, hcc, hfr, hoki, hH⟩ := Kd.S_elem HX [] i h0 h1
  obtain ⟨ve, rfl, ge⟩ := hM
  have HP := Kd.S_seg hH h0 h1 (seg := [v]) (j := 0) (show 1 ≤ 1 from by decide) (x' := x) (Kd.M_row (Kd.Zbm (Kd.Ze9 rfl hR) (fun _ h_ => Or.inr h_))) (fun _ hk => hk)
    (fun k hk => ⟨hok k hk.symm, fun e => ((Kd.Zb3 hR (Kd.Zdn hS) (by decide)).1 k hk.symm).2 (by rw [e]; rfl)⟩)
  simp only [show ((Kd.slice 41 k41)).sz = 1 from rfl, Nat.mul_one, Nat.add_zero] at HP
  exact HP
theorem S_slot {W : World} {base g n cap : Nat} {okS : Nat → Prop} {l : List (List S41)} {i : Int} (hS : Kd.S (Kd.slice 41 k41) 39 W base okS (.slice (some ⟨g, 0, none⟩) n cap) l) (h0 : 0 ≤ i) (h1 : i < n) :
    (∃ u, W.cell? ⟨g, i.toNat, none⟩ = some u) ∧ W.frozen? ⟨g, i.toNat, none⟩ = false := by
  obtain ⟨_, ce, hcl, hM, hcc, hfr, _, _⟩ := Kd.S_elem hS [] i h0 h1
  obtain ⟨ve, rfl, ge⟩ := hM
  have hx := hcc 0 _ rfl
  have hf := hfr 0
  simp only [show ((Kd.slice 41 k41)).sz = 1 from rfl, Nat.mul_one, Nat.add_zero] at hx hf
  exact ⟨⟨_, hx⟩, hf⟩
end Go.Proofs.Ytpbcigilipdedaa.P
/- element.Prune: what it computes, for whatever memory and arguments it is called with. -/
namespace Go.Proofs.Ytpbcigilipdedaa.P
open Go.RowKit Go.Shelf Go.Lib Go.Sort Go.Proofs.YtpbcigilipdedaaW.PrintWords Go.Proofs.YtpbcigilipdedaaW.PrintLast Go.Proofs.YtpbcigilipdedaaW.PrintMore
set_option linter.unusedVariables false
set_option linter.unusedSimpArgs false
attribute [local go_sem ↓] Go.wp_at_zero Go.wp_at_succ
theorem f_cases (k : Nat) (l0 : List (List S41)) (a1_0 : Int) (l1_1 : List Int) (l1_2 : List Int) (a1_3 : Int) (a1_4 : Int) (l1_5 : List (List Int)) (a1_6 : Int) (r1 : List (List S41)) (r2 : Bool) (h : Zai.f k l0 a1_0 l1_1 l1_2 a1_3 a1_4 l1_5 a1_6 = some (r1, r2)) :
    (l0.length < 5864062014805 ∧ ∀ x ∈ l0, x.length < 8796093022208) ∧ ((l0.any List.isEmpty = true ∧ r1 = [] ∧ r2 = false) ∨ (l0.any List.isEmpty = false ∧ ∃ ix rs list, l1_1 = ix :: rs :: list ∧ Zai.g k l0 ix rs list = some (r1, r2))) := by
  unfold Zai.f at h
  split at h
  case isFalse => cases h
  case isTrue hs =>
    refine ⟨hs, ?_⟩
    split at h
    case isTrue he =>
      cases h
      exact .inl ⟨he, rfl, rfl⟩
    case isFalse he =>
      refine .inr ⟨(Bool.not_eq_true _).mp he, ?_⟩
      split at h
      · exact ⟨_, _, _, rfl, h⟩
      cases h
theorem rdL3_nat (l0 : List (List S41)) (n : Nat) (h : n < l0.length) : Zdb l0 (n : Int) = l0[n] := by
  unfold Zdb
  rw [Int.toNat_natCast, List.getD_eq_getElem?_getD, List.getElem?_eq_getElem h]
  rfl
theorem C_tail2 {w : World} {adv : Addr} {ix rs : Int} {list : List Int} {c : Nat} (h : Kd.C (Kd.int .i64) w (some adv) (ix :: rs :: list).length (ix :: rs :: list)) (hc : (ix :: rs :: list).length ≤ c) : Kd.C (Kd.int .i64) w (if c = 2 then some adv else some ⟨adv.block, adv.off + 2, none⟩) list.length list := by
  have h2 := h.2.1
  simp only [List.length_cons] at h2 hc
  refine ⟨rfl, by omega, fun hn => ?_⟩
  rw [if_neg (by omega)]
  refine ⟨_, rfl, fun j p hj => ?_⟩
  have hj' : j < list.length := (List.getElem?_eq_some_iff.1 hj).1
  obtain ⟨ad, u, e, hcell, hK⟩ := at_one (d := Kd.int .i64) rfl h (j + 2) (by simp only [List.length_cons]; omega)
  obtain rfl := Option.some.inj e
  have hp : (ix :: rs :: list)[j + 2]'(by simp only [List.length_cons]; omega) = p := by
    have := (List.getElem?_eq_some_iff.1 hj).2
    simpa using this
  rw [hp] at hK
  refine ⟨[u], rfl, hK, fun i v hi => ?_⟩
  rcases i with _ | i
  · obtain rfl : u = v := by simpa using hi
    rw [show (Kd.int .i64).sz = 1 from rfl, Nat.mul_one, Nat.add_zero]
    rw [← hcell]
    congr 1
    by_cases e0 : j = 0
    · subst e0; rfl
    simp only [Addr.add, e0, if_false]
    rw [if_neg (by omega)]
    congr 1
    omega
  simp at hi
theorem Zgc (w : World) (o1 o2 : Obj) : ((w.alloc o1).alloc o2).heap[w.heap.size + 1]? = some o2 := by
  have h := Zer (w.alloc o1) o2
  rwa [show (w.alloc o1).heap.size = w.heap.size + 1 from by simp] at h
theorem elemAt_of {wo wr W : World} {b10 b11 bd : Nat} {A0 : Option Addr} {c0 : Nat} {l0 : List (List S41)} {AL : Option Addr} {cL M : Nat} {list : List Int} {rs : Int} (hB : Below wo.heap.size wo wr) (hW : Below wr.heap.size wr W)
    (h10 : W.heap[b10]? = some (.cells #[.int .i64 rs] 3 (0, 0))) (h11 : W.heap[b11]? = some (.cells #[.slice AL M cL] 23 (0, 0))) (hM : M = list.length) (hd : wr.heap[bd]? = some (.cells #[.slice A0 l0.length c0] 28 (0, 0)))
    (hr : Kd.C (Kd.slice 41 k41) wo A0 l0.length l0) (hc0 : l0.length ≤ c0) (hL : Kd.C (Kd.int .i64) wo AL list.length list) (hcL : list.length ≤ cL) : ElemAt W b11 bd b10 A0 c0 l0 AL cL list rs :=
  ⟨by subst hM; exact (Za3 h11 0).trans rfl, (Za3 (Zbe hd hW) 0).trans rfl, (Za3 h10 0).trans rfl, Kd.Za8 hr (Zam hB hW), Kd.Za8 hL (Zam hB hW), hc0, hcL⟩
theorem blk_len {W : World} {b : Nat} {A : Option Addr} {M L c t : Nat} (h : W.heap[b]? = some (.cells #[.slice A M c] t (0, 0))) (hM : M = L) : W.heap[b]? = some (.cells #[.slice A L c] t (0, 0)) := by
  subst hM
  exact h
theorem placed_in {ms : List (List S41)} {i : Int} (h : Zai.placed ms i = true) : 0 ≤ i ∧ i < (ms.length : Int) := by
  unfold Zai.placed at h
  simp only [Bool.and_eq_true, decide_eq_true_iff] at h
  exact h.1
theorem rd_at {list : List Int} {i : Int} (h : i.toNat < list.length) : Go.Proofs.YtpbcigilipdedaaW.PrintWords.rd list i = list[i.toNat] := by
  unfold Go.Proofs.YtpbcigilipdedaaW.PrintWords.rd
  rw [List.getD_eq_getElem?_getD, List.getElem?_eq_getElem h]
  rfl
set_option maxHeartbeats 8000000 in
set_option maxRecDepth 1000000 in
theorem Zai.calls (k : Nat) (A0 : Option Addr) (c0 : Nat) (l0 : List (List (S41))) (a1_0 : Int) (A1_1 : Option Addr) (c1_1 : Nat) (l1_1 : List Int) (A1_2 : Option Addr) (c1_2 : Nat) (l1_2 : List Int) (a1_3 : Int) (a1_4 : Int) (A1_5 : Option Addr) (c1_5 : Nat) (l1_5 : List (List Int)) (a1_6 : Int) (r1 : List (List (S41))) (r2 : Bool) (w : World) (hr0 : Kd.C (Kd.slice 41 k41) w A0 l0.length l0) (hc0 : l0.length ≤ c0) (hr1_1 : Kd.C (Kd.int .i64) w A1_1 l1_1.length l1_1) (hc1_1 : l1_1.length ≤ c1_1) (hr1_2 : Kd.C (Kd.int .i64) w A1_2 l1_2.length l1_2) (hc1_2 : l1_2.length ≤ c1_2) (hr1_5 : Kd.C (Kd.slice 3 (Kd.int .i64)) w A1_5 l1_5.length l1_5) (hc1_5 : l1_5.length ≤ c1_5) (h : Zai.f k l0 a1_0 l1_1 l1_2 a1_3 a1_4 l1_5 a1_6 = some (r1, r2)) :
  Calls Try.prog 35 #[.slice A0 l0.length c0, .agg #[.int .i64 a1_0, .slice A1_1 l1_1.length c1_1, .slice A1_2 l1_2.length c1_2, .int .i64 a1_3, .int .i64 a1_4, .slice A1_5 l1_5.length c1_5, .int .i64 a1_6]] w fun e w' => ∃ v0_ : Value, e = .returned (.tuple #[v0_, .bool r2]) ∧ Kd.S (Kd.slice 41 k41) 39 w' w.heap.size (fun _ => True) v0_ r1 ∧ Below w.heap.size w w' := by
  have hu25 := Try.underlying25
  have HR := Zaa.mk hr0
  have HR1 := Zaa.mk hr1_1
  obtain ⟨hsz, hg⟩ := f_cases k l0 a1_0 l1_1 l1_2 a1_3 a1_4 l1_5 a1_6 r1 r2 h
  have HS := Zaa.mk hsz
  have HG := Zaa.mk hg
  clear hsz hg
  have HC := Zaa.mk hc0
  have HC1 := Zaa.mk hc1_1
  clear hr0 hc0 hr1_1 hc1_1 hr1_2 hc1_2 hr1_5 hc1_5 h
  obtain ⟨wo, rfl⟩ : ∃ wo : World, wo = w := ⟨_, rfl⟩
  go_enter Try.func35, Try.ntmps35
  go_wp2
  go_loopg [6, 18] l0.length (fun gg s6 s18 wr => ∃ n : Nat, s18 = .int .i64 n ∧ n ≤ l0.length ∧ l0.length - n ≤ gg ∧ Zaa (Kd.S (Kd.slice 41 k41) 39 wr wo.heap.size (fun _ => True) s6 (l0.take n)) ∧ Zaa (wr.heap[wo.heap.size]? = some (.cells #[.slice A0 l0.length c0] 28 (0, 0)))
    ∧ Zaa (wr.heap[wo.heap.size + 1]? = some (.cells #[.int .i64 a1_0, .slice A1_1 l1_1.length c1_1, .slice A1_2 l1_2.length c1_2, .int .i64 a1_3, .int .i64 a1_4, .slice A1_5 l1_5.length c1_5, .int .i64 a1_6] 25 (0, 0))) ∧ Zaa (Below wo.heap.size wo wr) ∧ Zaa ((l0.take n).any List.isEmpty = false))
  case atStart => exact ⟨0, rfl, by omega, by omega, ⟨Kd.S_nil _ _ _ _ _⟩, ⟨Zad (Zer wo _) _⟩, ⟨by rw [show wo.heap.size + 1 = (wo.alloc (.cells #[.slice A0 l0.length c0] 28 (0, 0))).heap.size from by simp]; exact Zer _ _⟩, ⟨Zab (Zab (Below.refl _ _) _) _⟩, ⟨by simp⟩⟩
  case round =>
    obtain ⟨n, rfl, hn, hgg, HO, BD, BC, HB, HE⟩ := hrel
    by_cases hlt : n < l0.length
    · have hltz : (n : Int) < (l0.length : Int) := by omega
      obtain ⟨ad, Ax, cx, rfl, hx, hlx, hCx⟩ := Zfu HR.out (n : Int) (by omega) hltz
      rw [rdL3_nat l0 n hlt] at hx hlx hCx
      rw [Int.toNat_natCast] at hx
      replace hx := (HB.out.cell (World.block_lt_of_cell? wo _ hx)).trans hx
      have HX := Zaa.mk (show l0.take (n + 1) = l0.take n ++ [l0[n]] from (List.take_append_getElem hlt).symm)
      have HM := Zaa.mk (show l0[n] ∈ l0 from List.getElem_mem hlt)
      generalize l0[n] = x at hx hlx hCx HX HM
      have HCX := Zaa.mk hCx
      have HLX := Zaa.mk hlx
      clear hlx hCx
      by_cases hne : x = []
      · subst hne
        rcases HG.out with ⟨e1, e2, e3⟩ | ⟨e1, _⟩
        · subst e2 e3
          clear e1
          have hx0 : wr.cell? (ad.add n) = some (.slice Ax 0 cx) := hx
          clear hx
          have hz : ((([] : List S41).length : Int) == 0) = true := rfl
          go_wp2
          go_ret2
          exact ⟨_, rfl, Kd.S_nil _ _ _ _ _, by repeat (first | exact HB.out | apply Za | apply Zcl)⟩
        have : l0.any List.isEmpty = true := List.any_eq_true.2 ⟨[], HM.out, rfl⟩
        rw [e1] at this
        cases this
      have hz : ((x.length : Int) == 0) = false := beq_eq_false_iff_ne.2 (fun e => hne (List.length_eq_zero_iff.1 (by omega)))
      have HN := Zaa.mk hne
      have HL := Zaa.mk (show (l0.take n).length < 5864062014805 by rw [List.length_take]; have := HS.out.1; omega)
      clear hne
      go_wp2_with (first
        | (go_at_call 42; go_loud (refine (cloneR.calls _ _ x x _ ?side1 HLX.out (by unfold cloneR.f; rw [if_pos (HS.out.2 x HM.out)])).mono ?_; (case side1 => exact Kd.Za8 HCX.out HB.out); rintro e w10 ⟨v334, rfl, ho0, hb⟩; have n0_ := Zaa.mk (Kd.Zeh HO.out (Kd.Zb6 ho0) hb); have n1_ := Zaa.mk (Kd.Zbs ho0 (Zae HB.out)); have n2_ := Zaa.mk (Zbe BD.out hb); have n3_ := Zaa.mk (Zbe BC.out hb); have n4_ := Zaa.mk (Zam HB.out hb); clear HO BD BC HB hb ho0; have HO := n0_; have HO1 := n1_; have BD := n2_; have BC := n3_; have HB := n4_; clear n0_ n1_ n2_ n3_ n4_; obtain ⟨Ao, co, eo⟩ := Kd.Zbn HO1.out; subst eo))
        | ((with_reducible refine Zbk (b := .append) (xs := #[.tmp 25, .tmp 28]) rfl ?_); at_builtin; go_loud (refine Kd.S_append (Kd.slice 41 k41) (w0 := wo) wo.heap.size rfl (.tmp 25) (.tmp 28) 28 39 (.slice none 0 0) 24 rfl Try.underlying28 info39 rfl (by decide) (by omega) u6 (l0.take n) x [.slice Ao x.length co] (fun _ => True) (fun k_ => some k_ = (.slice Ao x.length co : Value).ownBlock) rfl rfl ?aP (fun k_ hk_ => ((Kd.Zbm (ok' := fun k_ => ((fun _ => True)) k_ ∧ some k_ ≠ (u6 : Value).ownBlock) (Kd.Zb3 (HO1.out) (Kd.Zdn HO.out) (by decide)) (fun k_ hk => ⟨trivial, hk.2⟩))).1 k_ hk_.symm) ?aF ?aO ?aB ?aS ?aL ?_; (case aP => exact Kd.M_row (Kd.Zbm (Kd.Ze9 rfl (Kd.Zbm (ok' := fun k_ => ((fun _ => True)) k_ ∧ some k_ ≠ (u6 : Value).ownBlock) (Kd.Zb3 (HO1.out) (Kd.Zdn HO.out) (by decide)) (fun k_ hk => ⟨trivial, hk.2⟩))) (fun _ h_ => h_))); (case aB => exact (by repeat (first | (with_reducible first | exact HB.out | apply Zab | apply Za | apply Zac) | exact HB.out))); (case aF => exact (fun _ _ => trivial)); (case aO => exact (by (with_reducible repeat (first | apply Kd.Zd | apply Kd.S_drewN | apply Kd.Zdh)); exact Kd.Zc5 HO.out (fun k_ hk => ⟨trivial, fun e_ => hk.2 e_⟩))); (case aS => exact (Zae (by repeat (first | (with_reducible first | exact HB.out | apply Zab | apply Za | apply Zac) | exact HB.out)))); (case aL => have := HL.out; omega); intro v337 w11 ho hb hg hat; rw [← HX.out] at ho; have n0_ := Zaa.mk (Zcv (by (with_reducible repeat (first | refine Zag ?_ _ | refine Zak ?_ | refine Zad ?_ _)); exact BD.out) hg (Kd.S_ne HO.out BD.out (by decide))); have n3_ := Zaa.mk (Zcv (by (with_reducible repeat (first | refine Zag ?_ _ | refine Zak ?_ | refine Zad ?_ _)); exact BC.out) hg (Kd.S_ne HO.out BC.out (by decide))); have n1_ := Zaa.mk (hb); have n2_ := Zaa.mk (ho); clear BD BC HB HO HO1; have BD := n0_; have BC := n3_; have HB := n1_; have HO := n2_; clear n0_ n1_ n2_ n3_; clear ho hb hg hat)))
      go_roundg (l0.length - (n + 1))
      case measure => omega
      case rel => exact ⟨n + 1, by rw [show wrap64 ((n : Int) + 1) = ((n + 1 : Nat) : Int) from by have := HS.out.1; unfold wrap64; omega], by omega, Nat.le_refl _, HO, BD, BC, HB, ⟨by rw [HX.out, List.any_append, HE.out]; simpa using HN.out⟩⟩
    obtain rfl : n = l0.length := by omega
    rw [List.take_length] at HO HE
    rcases HG.out with ⟨e1, _⟩ | ⟨_, ix, rs, list, rfl, hg⟩
    · rw [HE.out] at e1
      cases e1
    clear hlt hn hgg
    have HGG := Zaa.mk hg
    clear hg HG
    have hlen : ((ix :: rs :: list).length : Int) = (list.length : Int) + 2 := by simp only [List.length_cons]; omega
    have hn0 : (0 : Int) < ((ix :: rs :: list).length : Int) := by omega
    have hn1 : (1 : Int) < ((ix :: rs :: list).length : Int) := by omega
    have hn2 : (2 : Int) ≤ ((ix :: rs :: list).length : Int) := by omega
    have hn3 : ((ix :: rs :: list).length : Int) ≤ (c1_1 : Int) := by have := HC1.out; omega
    have hR1 := HR1.out
    obtain ⟨adv, rfl, hv0⟩ := Kd.Zbx hR1 0 (by omega) hn0
    obtain ⟨adv', e9, hv1⟩ := Kd.Zbx hR1 1 (by omega) hn1
    obtain rfl := Option.some.inj e9
    replace hv0 := (HB.out.cell (World.block_lt_of_cell? wo _ hv0)).trans hv0
    replace hv1 := (HB.out.cell (World.block_lt_of_cell? wo _ hv1)).trans hv1
    have hv0' : wr.cell? adv = some (.int .i64 ix) := by
      have h : wr.cell? (adv.add 0) = some (.int .i64 ix) := hv0
      rwa [show adv.add 0 = adv from rfl] at h
    have hv1' : wr.cell? ⟨adv.block, adv.off + 1, none⟩ = some (.int .i64 rs) := hv1
    clear hv0 hv1 hR1
    have hc1 : wr.cell? ⟨wo.heap.size + 1, 1, none⟩ = some (.slice (some adv) (ix :: rs :: list).length c1_1) := Za3 BC.out 1
    obtain ⟨N, hN⟩ : ∃ N, (ix :: rs :: list).length = N := ⟨_, rfl⟩
    rw [hN] at hn0 hn1 hn2 hn3 hc1 hlen
    have HNN := Zaa.mk hN
    have HLL := Zaa.mk hlen
    clear hN hlen
    have hm0 : 0 < N := by omega
    have hm1 : 1 < N := by omega
    have hm2 : 2 ≤ N := by omega
    have hm3 : N ≤ c1_1 := by omega
    have q1 := World.new_ne wr _ hc1
    have q2 := World.new_ne wr _ hv0'
    have q3 := World.new_ne wr _ hv1'
    go_wp2
    go_cut [1, 9, 10, 11] from 16 (fun _ v9 v10 v11 wc => ∃ (b10 b11 : Nat) (AL : Option Addr) (cL : Nat), v9 = .int .i64 ix ∧ v10 = .pointer (some ⟨b10, 0, none⟩) ∧ v11 = .pointer (some ⟨b11, 0, none⟩) ∧ Zaa (ElemAt wc b11 wo.heap.size b10 A0 c0 l0 AL cL list rs) ∧ Zaa (Kd.S (Kd.slice 41 k41) 39 wc wo.heap.size (fun _ => True) u6 l0) ∧ Zaa (Below wo.heap.size wo wc) ∧ Zaa (wc.heap[b10]? = some (.cells #[.int .i64 rs] 3 (0, 0))) ∧ Zaa (wc.heap[b11]? = some (.cells #[.slice AL list.length cL] 23 (0, 0))) ∧ Zaa (Kd.C (Kd.int .i64) wo AL list.length list))
    case first =>
      go_region_held3 (fun w' => w'.cell? ⟨wo.heap.size + 1, 1, none⟩ = some (.slice (some adv) N c1_1) ∧ w'.cell? adv = some (.int .i64 ix) ∧ w'.cell? ⟨adv.block, adv.off + 1, none⟩ = some (.int .i64 rs)) (go_keep) (fail)
      all_goals go_wp2
      all_goals go_meet
      all_goals (
        first
        | exact ⟨_, _, _, _, rfl, rfl, rfl, ⟨elemAt_of HB.out (Zcl (Zab (Zab (Below.refl _ wr) _) _)) (Zak (Zad (Zer wr _) _)) (Zak (Zgc wr _ _)) (by have := HLL.out; omega) BD.out HR.out HC.out (by have h9 := C_tail2 HR1.out HC1.out; simpa [*] using h9) (by have := HLL.out; omega)⟩, ⟨by (with_reducible repeat (first | apply Kd.Zd | apply Kd.S_drewN | apply Kd.Zdh)); exact HO.out⟩, ⟨Zam HB.out (Zcl (Zab (Zab (Below.refl _ wr) _) _))⟩, ⟨(Zak (Zad (Zer wr _) _))⟩, ⟨blk_len (Zak (Zgc wr _ _)) (by have := HLL.out; omega)⟩, ⟨by have h9 := C_tail2 HR1.out HC1.out; simpa [*] using h9⟩⟩
        | exact ⟨_, _, _, _, rfl, rfl, rfl, ⟨elemAt_of HB.out (Zcl (Zab (Zab (Below.refl _ wr) _) _)) (Zak (Zgc wr _ _)) (Zak (Zad (Zer wr _) _)) (by have := HLL.out; omega) BD.out HR.out HC.out (by have h9 := C_tail2 HR1.out HC1.out; simpa [*] using h9) (by have := HLL.out; omega)⟩, ⟨by (with_reducible repeat (first | apply Kd.Zd | apply Kd.S_drewN | apply Kd.Zdh)); exact HO.out⟩, ⟨Zam HB.out (Zcl (Zab (Zab (Below.refl _ wr) _) _))⟩, ⟨(Zak (Zgc wr _ _))⟩, ⟨blk_len (Zak (Zad (Zer wr _) _)) (by have := HLL.out; omega)⟩, ⟨by have h9 := C_tail2 HR1.out HC1.out; simpa [*] using h9⟩⟩)
    case rest =>
      obtain ⟨b10, b11, AL, cL, rfl, rfl, rfl, HA, HO, HBc, HK10, HK11, HCL⟩ := hcut
      have hg := HGG.out
      unfold Zai.g at hg
      split at hg
      case isFalse => cases hg
      case isTrue hin =>
        obtain ⟨ms, hms, hg⟩ := Option.bind_eq_some_iff.1 hg
        obtain ⟨vals, hvals, hg⟩ := Option.bind_eq_some_iff.1 hg
        split at hg
        case isTrue => cases hg
        case isFalse hvne =>
          obtain ⟨hi0, hi1, hr0, hr1⟩ := hin
          obtain ⟨ad, Ax, cx, rfl, hx, hlx, hCx⟩ := Zfu HR.out ix hi0 hi1
          have HPB := Zaa.mk (placedB k l0 list rs ms hms ⟨hr0, hr1⟩ b11 wo.heap.size b10 (some ad) c0 AL cL wc.heap.size wc rfl HA.out)
          have eg := Zaa.mk (enters_of Try.func55 (by kernel_rfl) rfl : ∀ args w, (callFunc 55 args).run Try.prog w = .ok (.enter 55 args) w)
          have HV := Zaa.mk (show Zdq.f (Zdb l0 ix) = some vals from hvals)
          have HVN := Zaa.mk hvne
          have HLX := Zaa.mk hlx
          have HCX := Zaa.mk (Kd.Za8 hCx HBc.out)
          replace hx := cellK HBc.out hx
          have hdd := HA.out.ed
          generalize hlen : (Zdb l0 ix).length = nx at hx
          have HNX := Zaa.mk hlen
          have HG2 := Zaa.mk hg
          have HMS := Zaa.mk (Zgq k l0 _ list ms hms)
          have HIN := Zaa.mk (And.intro hr0 hr1)
          clear hlen hvne hlx hCx hms hvals hg hr0 hr1
          by_cases hpl : vals.filter (Zai.placed ms) = []
          · have hg2 := HG2.out
            rw [if_pos hpl] at hg2
            cases hg2
            have hz : (((vals.filter (Zai.placed ms)).length : Int) == 0) = true := by rw [hpl]; rfl
            clear hpl
            go_wp2_with (first
              | (go_at_call 54; go_loud (rw [← HNX.out]; refine (Zdq.calls Ax cx _ vals _ ?side1 HLX.out HV.out).mono ?_; (case side1 => exact HCX.out); rintro e w2 ⟨v0, rfl, hR, hb⟩; obtain ⟨gv, cv, rfl, hgv, hRI⟩ := rowI_of hR HVN.out; have n0_ := Zaa.mk hRI; have n1_ := Zaa.mk hb; have n2_ := Zaa.mk hgv; have n3_ := Zaa.mk (Kd.Zaz hR).2.2.2.1; clear hRI hb hgv hR))
              | (go_at_call 53; go_loud (refine (deleteL (Zai.placed ms) 55 _ eg.out wc.heap.size wc HPB.out gv cv vals _ n0_.out n2_.out n1_.out n3_.out).mono ?_; rintro e w3 ⟨rfl, hRI, hb⟩; have m0_ := Zaa.mk hRI; have m1_ := Zaa.mk hb; clear hRI hb)))
            go_ret2
            exact ⟨_, rfl, Kd.S_nil _ _ _ _ _, Zam HBc.out m1_.out⟩
          have hg2 := HG2.out
          rw [if_neg hpl] at hg2
          have hz : (((vals.filter (Zai.placed ms)).length : Int) == 0) = false := beq_eq_false_iff_ne.2 (fun e => hpl (List.length_eq_zero_iff.1 (by omega)))
          have HPL := Zaa.mk hpl
          have HG3 := Zaa.mk hg2
          clear hpl hg2 HG2
          go_wp2_with (first
            | (go_at_call 54; go_loud (rw [← HNX.out]; refine (Zdq.calls Ax cx _ vals _ ?side1 HLX.out HV.out).mono ?_; (case side1 => exact HCX.out); rintro e w2 ⟨v0, rfl, hR, hb⟩; obtain ⟨gv, cv, rfl, hgv, hRI⟩ := rowI_of hR HVN.out; have n0_ := Zaa.mk hRI; have n1_ := Zaa.mk hb; have n2_ := Zaa.mk hgv; have n3_ := Zaa.mk (Kd.Zaz hR).2.2.2.1; clear hRI hb hgv hR))
            | (go_at_call 53; go_loud (refine (deleteL (Zai.placed ms) 55 _ eg.out wc.heap.size wc HPB.out gv cv vals _ n0_.out n2_.out n1_.out n3_.out).mono ?_; rintro e w3 ⟨rfl, hRI, hb⟩; have m0_ := Zaa.mk hRI; have m1_ := Zaa.mk hb; clear hRI hb)))
          have HSM := Zaa.mk (show (vals.filter (Zai.placed ms)).length ≤ 9223372036854775807 from Nat.le_trans (List.length_filter_le (Zai.placed ms) vals) n3_.out)
          obtain ⟨may, hmay, hg3⟩ := Option.bind_eq_some_iff.1 HG3.out
          have HMAY := Zaa.mk hmay
          have HG4 := Zaa.mk hg3
          clear hmay hg3 HG3
          have HPP := Zaa.mk (fun x (hx : x ∈ vals.filter (Zai.placed ms)) => (List.mem_filter.1 hx).2)
          have HSZ := Zaa.mk (Nat.le_trans (List.length_filter_le (Zai.placed ms) vals) n3_.out)
          generalize vals.filter (Zai.placed ms) = places at HMAY HPL HG4 m0_ HPP HSZ HSM hz ⊢
          have HOO := Zaa.mk (Kd.Zdv HO.out m1_.out)
          have HAA := Zaa.mk (HA.out.below m1_.out)
          have HBB := Zaa.mk (Zam HBc.out m1_.out)
          go_loopg [13, 54] places.length (fun gg s13 s54 wl => ∃ (n : Nat) (mm : List S41), s54 = .int .i64 n ∧ n ≤ places.length ∧ places.length - n ≤ gg ∧ Zaa (Zai.joins k ms (places.drop n) mm = some may) ∧ Zaa (Kd.R k41 41 wl wc.heap.size (fun _ => True) s13 mm) ∧ Zaa (RowI wl gv cv places.toArray) ∧ Zaa (Below wc.heap.size wc wl))
          case atStart => exact ⟨0, [], rfl, by omega, by omega, HMAY, ⟨Kd.Zgh _ _ _ _ _⟩, m0_, m1_⟩
          case round =>
            obtain ⟨n, mm, rfl, hn, hgg, HJ, HM, HRI, HBl⟩ := hrel
            have hj := HJ.out
            by_cases hlt : n < places.length
            · have hltz : (n : Int) < (places.length : Int) := by omega
              have hc := HRI.out.cell n (by simpa using hlt)
              rw [List.drop_eq_getElem_cons hlt] at hj
              have hpp := HPP.out places[n] (List.getElem_mem hlt)
              rw [getElem!_pos places.toArray n (by simpa using hlt)] at hc
              simp only [List.getElem_toArray] at hc
              generalize places[n] = i at hc hj hpp
              unfold Zai.joins at hj
              obtain ⟨m', hm', hj'⟩ := Option.bind_eq_some_iff.1 hj
              have HJ' := Zaa.mk hj'
              clear hj hj'
              obtain ⟨p0, p1⟩ := placed_in hpp
              obtain ⟨hml, hget⟩ := HMS.out
              have hE := HA.out.below HBl.out
              have p2 : i < (list.length : Int) := by omega
              obtain ⟨adL, rfl, hx9⟩ := Kd.Zbx hE.rL i p0 p2
              have hi2 : i.toNat < list.length := by omega
              obtain ⟨g0, g1, g2⟩ := hget i.toNat hi2
              rw [← rd_at hi2] at g0 g1 g2
              generalize Go.Proofs.YtpbcigilipdedaaW.PrintWords.rd list i = v at hx9 g0 g1 g2
              have r0 := HIN.out.1
              have r1 := HIN.out.2
              obtain ⟨ad0, Av, cvv, e0, hxv, hlv, hCv⟩ := Zfu hE.rd v g0 g1
              have e0 := Option.some.inj e0
              subst e0
              obtain ⟨ad1, Ar, cr, e1, hxr, hlr, hCr⟩ := Zfu hE.rd rs r0 r1
              have e1 := Option.some.inj e1
              subst e1
              obtain ⟨Am, cm, rfl⟩ := Kd.Zbn HM.out
              have HC1 := Zaa.mk (fun (W' : World) (hb : Below wr.heap.size wr W') => Zbr.calls k Av cvv (Zdb l0 v) Ar cr (Zdb l0 rs) (ms.getD i.toNat []) W' (Kd.Za8 hCv hb) hlv (Kd.Za8 hCr hb) hlr g2)
              clear g2 hpp hml hget
              generalize ms.getD i.toNat [] = m at HC1 hm'
              have HC2 := Zaa.mk (fun (W' : World) (A : Option Addr) (c : Nat) (hC : Kd.C k41 W' A m.length m) (hc : m.length ≤ c) (hb : Below wr.heap.size wr W') => Zbt.calls k Am cm mm A c m m' W' (Kd.Za8 (Kd.Zaz HM.out).2.2 hb) (Kd.Zaz HM.out).2.1 hC hc hm')
              clear hm'
              generalize hlv' : (Zdb l0 v).length = nv at hxv HC1
              generalize hlr' : (Zdb l0 rs).length = nr at hxr HC1
              have eL := hE.eL
              have ed := hE.ed
              have er := hE.er
              clear hlv hlr hCv hCr hE hlv' hlr'
              go_wp2
              go_region_held3 (fun w' => w'.cell? ⟨b11, 0, none⟩ = some (.slice (some adL) list.length cL) ∧ w'.cell? ⟨wo.heap.size, 0, none⟩ = some (.slice (some ad) l0.length c0) ∧ w'.cell? ⟨b10, 0, none⟩ = some (.int .i64 rs) ∧ w'.cell? (adL.add i.toNat) = some (.int .i64 v) ∧ w'.cell? (ad.add v.toNat) = some (.slice Av nv cvv) ∧ w'.cell? (ad.add rs.toNat) = some (.slice Ar nr cr) ∧ Below wr.heap.size wr w')
                (first | (go_split_ands; refine ⟨?_, ?_, ?_, ?_, ?_, ?_, ?_⟩ <;> (first | go_keep | exact cellK hb (by assumption) | exact Zdt (by assumption) (by simp) hb | exact Zam (by assumption) hb | (repeat (first | exact Below.refl _ _ | assumption | apply Zcl | apply Za)))))
                (first
                  | (go_at_call 56; refine (HC1.out _ ?_).mono ?_; (go_split_ands; repeat (first | assumption | apply Zcl | apply Za)); rintro e w' ⟨v0, rfl, hR, hb⟩; obtain ⟨Ao, co, rfl⟩ := Kd.Zbn hR)
                  | (go_at_call 57; refine (HC2.out _ _ _ ?_ ?_ ?_).mono ?_; (repeat (first | exact (Kd.Zaz hR).2.2 | (with_reducible refine Kd.Za0 ?_ _) | (with_reducible refine Kd.C_drew ?_))); exact (Kd.Zaz hR).2.1; (go_split_ands; repeat (first | assumption | apply Zcl | apply Za)); rintro e w'' ⟨v1, rfl, hR2, hb⟩; have hR3 := Zaa.mk (Kd.Zbs hR2 (Nat.le_trans (Zae HBl.out) (Zae (by go_split_ands; repeat (first | assumption | apply Zcl | apply Za)))))))
              all_goals go_wp2
              all_goals (go_roundg (places.length - (n + 1)))
              case measure => omega
              case rel =>
                go_split_ands
                exact ⟨n + 1, m', by rw [show wrap64 ((n : Int) + 1) = ((n + 1 : Nat) : Int) from by have := HSM.out; unfold wrap64; omega], by omega, Nat.le_refl _, HJ', ⟨by (with_reducible repeat (first | apply Kd.Za5 | apply Kd.Zbb)); exact hR3.out⟩, ⟨HRI.out.below (by repeat (first | assumption | apply Zcl | apply Za))⟩, ⟨Zam HBl.out (by repeat (first | assumption | apply Zcl | apply Za))⟩⟩
            obtain rfl : n = places.length := by omega
            rw [List.drop_length] at hj
            unfold Zai.joins at hj
            obtain rfl := Option.some.inj hj
            obtain ⟨⟨o1, o2⟩, ho, hg⟩ := Option.bind_eq_some_iff.1 HG4.out
            split at hg
            case isFalse => cases hg
            case isTrue hml =>
              have hg9 := Prod.mk.inj (Option.some.inj hg)
              have HR1' := Zaa.mk hg9.1
              obtain rfl := hg9.2
              have HML := Zaa.mk hml
              have HOF := Zaa.mk ho
              clear hg9 hg hml ho hn hgg hlt hj
              have r0 := HIN.out.1
              have r1' := HIN.out.2
              obtain ⟨Am, cm, rfl⟩ := Kd.Zbn HM.out
              have HO1 := Zaa.mk (Kd.Zeh HO.out (Kd.Zb6 HM.out) HBl.out)
              obtain ⟨go, co, eo, gb, gl, cl, HGo⟩ := Kd.S_form HO1.out (by omega)
              subst eo
              have GB := Zaa.mk gb
              have KB10 := Zaa.mk (Zbe HK10.out HBl.out)
              have KB11 := Zaa.mk (Zbe HK11.out HBl.out)
              have HBw := Zaa.mk (Zam HBc.out HBl.out)
              have HNG := Zaa.mk (show gv ≠ go from fun e => by have h1 := n2_.out; have h2 := Kd.S_lt HO.out go rfl; omega)
              have HCV := Zaa.mk (show places.length ≤ cv from by obtain ⟨_, _, _, h, _⟩ := HRI.out.out; simpa using h)
              clear gb gl HGo
              by_cases hone : places.length = 1
              rotate_left
              · have hz1 : ((places.length : Int) == 1) = false := beq_eq_false_iff_ne.2 (fun e => hone (by omega))
                have HONE := Zaa.mk hone
                clear hone
                go_wp2_with (first
                  | (go_at_call 43; go_loud (refine (Ze.calls k (some ⟨gv, 0, none⟩) cv places o1 o2 _ ?side1 ?side2 HOF.out).mono ?_; (case side1 => exact RowI.reads HRI.out HSZ.out); (case side2 => exact HCV.out); rintro e w5 ⟨v5, rfl, hR5, hb⟩; obtain ⟨A5, c5, rfl⟩ := Kd.Zbn hR5; have k0_ := Zaa.mk (Kd.Zeh HO1.out (Kd.Zb6 hR5) hb); have k1_ := Zaa.mk (Kd.Zca HM.out hb); have k2_ := Zaa.mk (Zbe KB10.out hb); have k3_ := Zaa.mk (Zbe KB11.out hb); have k4_ := Zaa.mk (Zam HBw.out hb); have k5_ := Zaa.mk (HRI.out.below hb); have k6_ := Zaa.mk hR5; obtain ⟨⟨us, hxs⟩, hfs⟩ := S_slot k0_.out hi0 hi1; clear hb hR5))
                  | ((with_reducible refine Zdu (t := 39) (p := 80) rfl ?_); refine Zdo (t := 39) (p := 80) (v := ?vo) (w1 := (w5.setCell ⟨go, ix.toNat, none⟩ (.slice A5 o1.length c5))) ?hg ?ho ?hn ?hr ?_; (case ho => rfl); (case hg => rfl); (case hn => rfl); (case hr => first | (go_simp; done) | (go_simp; rfl)); intro w6 hw; have hput := S_put k0_.out (Kd.Zbs k6_.out (Zae HBw.out)) (ok := fun k_ => True ∧ some k_ ≠ (Value.slice Am mm.length cm).ownBlock) (fun k_ hk => ⟨trivial, fun e => absurd (Kd.Zb6 k6_.out k_ hk) (Nat.not_le.2 (Kd.R_lt HM.out k_ e.symm))⟩) (fun k_ hk => hk) hi0 hi1; rw [← hw] at hput; have j0_ := Zaa.mk hput.1; have j1_ := Zaa.mk (Kd.R_over' (v := (.slice (some ⟨go, 0, none⟩) l0.length co)) k1_.out (Kd.Zdn k0_.out) (by decide) hput.2); have j2_ := Zaa.mk (Zcv k2_.out hput.2 (Kd.S_ne k0_.out k2_.out (by decide))); have j3_ := Zaa.mk (Zcv k3_.out hput.2 (Kd.S_ne k0_.out k3_.out (by decide))); have j4_ := Zaa.mk (show Below wo.heap.size wo w6 from by rw [hw]; exact Zaf k4_.out GB.out); have j5_ := Zaa.mk (RowI.kept k5_.out hput.2 HNG.out); have hc10 : w6.cell? ⟨b10, 0, none⟩ = some (.int .i64 rs) := (Za3 j2_.out 0).trans rfl; clear hw hput hxs hfs; obtain ⟨⟨us2, hxs2⟩, hfs2⟩ := S_slot j0_.out r0 r1'))
                go_ret2
                have hput := S_put j0_.out (Kd.Zbs j1_.out (Zae HBc.out)) (ok := fun k_ => True) (fun k_ hk => trivial) (fun k_ hk => ⟨trivial, hk.2⟩) r0 r1'
                refine ⟨_, rfl, ?_, Zaf j4_.out GB.out⟩
                rw [← HR1'.out]
                unfold Zai.last
                rw [if_neg HONE.out]
                exact hput.1
              have hz1 : ((places.length : Int) == 1) = true := beq_iff_eq.2 (by omega)
              have HONE := Zaa.mk hone
              obtain ⟨p, hp⟩ : ∃ p, places.getD 0 0 = p := ⟨_, rfl⟩
              have hpm : p ∈ places := by
                rw [← hp, List.getD_eq_getElem?_getD, List.getElem?_eq_getElem (by omega)]
                exact List.getElem_mem _
              obtain ⟨p0, p1⟩ := placed_in (HPP.out p hpm)
              obtain ⟨hml, hget⟩ := HMS.out
              have p2 : p < (list.length : Int) := by omega
              obtain ⟨adL, eL, hx9⟩ := Kd.Zbx HCL.out p p0 p2
              have hp2 : p.toNat < list.length := by omega
              have g0 := (hget p.toNat hp2).1
              have g1 := (hget p.toNat hp2).2.1
              rw [← rd_at hp2] at g0 g1
              have HV9 := Zaa.mk (show Go.Proofs.YtpbcigilipdedaaW.PrintWords.rd list p = list.getD p.toNat 0 from rfl)
              generalize Go.Proofs.YtpbcigilipdedaaW.PrintWords.rd list p = v at hx9 g0 g1 HV9
              have HP9 := Zaa.mk hp
              have hpl0 : (0 : Int) < (places.length : Int) := by omega
              have hpl1 : 0 < places.length := by omega
              clear hone hp hpm hml hget hp2
              go_wp2_with (first
                | (go_at_call 43; go_loud (refine (Ze.calls k (some ⟨gv, 0, none⟩) cv places o1 o2 _ ?side1 ?side2 HOF.out).mono ?_; (case side1 => exact RowI.reads HRI.out HSZ.out); (case side2 => exact HCV.out); rintro e w5 ⟨v5, rfl, hR5, hb⟩; obtain ⟨A5, c5, rfl⟩ := Kd.Zbn hR5; have k0_ := Zaa.mk (Kd.Zeh HO1.out (Kd.Zb6 hR5) hb); have k1_ := Zaa.mk (Kd.Zca HM.out hb); have k2_ := Zaa.mk (Zbe KB10.out hb); have k3_ := Zaa.mk (Zbe KB11.out hb); have k4_ := Zaa.mk (Zam HBw.out hb); have k5_ := Zaa.mk (HRI.out.below hb); have k6_ := Zaa.mk hR5; obtain ⟨⟨us, hxs⟩, hfs⟩ := S_slot k0_.out hi0 hi1; clear hb hR5))
                | ((with_reducible refine Zdu (t := 39) (p := 80) rfl ?_); refine Zdo (t := 39) (p := 80) (v := ?vo) (w1 := (w5.setCell ⟨go, ix.toNat, none⟩ (.slice A5 o1.length c5))) ?hg ?ho ?hn ?hr ?_; (case ho => rfl); (case hg => rfl); (case hn => rfl); (case hr => first | (go_simp; done) | (go_simp; rfl)); intro w6 hw; have hput := S_put k0_.out (Kd.Zbs k6_.out (Zae HBw.out)) (ok := fun k_ => True ∧ some k_ ≠ (Value.slice Am mm.length cm).ownBlock) (fun k_ hk => ⟨trivial, fun e => absurd (Kd.Zb6 k6_.out k_ hk) (Nat.not_le.2 (Kd.R_lt HM.out k_ e.symm))⟩) (fun k_ hk => hk) hi0 hi1; rw [← hw] at hput; have j0_ := Zaa.mk hput.1; have j1_ := Zaa.mk (Kd.R_over' (v := (.slice (some ⟨go, 0, none⟩) l0.length co)) k1_.out (Kd.Zdn k0_.out) (by decide) hput.2); have j2_ := Zaa.mk (Zcv k2_.out hput.2 (Kd.S_ne k0_.out k2_.out (by decide))); have j3_ := Zaa.mk (Zcv k3_.out hput.2 (Kd.S_ne k0_.out k3_.out (by decide))); have j4_ := Zaa.mk (show Below wo.heap.size wo w6 from by rw [hw]; exact Zaf k4_.out GB.out); have j5_ := Zaa.mk (RowI.kept k5_.out hput.2 HNG.out); have hc10 : w6.cell? ⟨b10, 0, none⟩ = some (.int .i64 rs) := (Za3 j2_.out 0).trans rfl; clear hw hput hxs hfs; obtain ⟨⟨us2, hxs2⟩, hfs2⟩ := S_slot j0_.out r0 r1'))
              have hput := S_put j0_.out (Kd.Zbs j1_.out (Zae HBc.out)) (ok := fun k_ => True) (fun k_ hk => trivial) (fun k_ hk => ⟨trivial, hk.2⟩) r0 r1'
              have l1_ := Zaa.mk (Kd.R_over' (v := (.slice (some ⟨go, 0, none⟩) l0.length co)) j1_.out (Kd.Zdn j0_.out) (by decide) hput.2)
              have l3_ := Zaa.mk (Zcv j3_.out hput.2 (Kd.S_ne j0_.out j3_.out (by decide)))
              have l5_ := Zaa.mk (RowI.kept j5_.out hput.2 HNG.out)
              have l4_ := Zaa.mk (show Below wo.heap.size wo (w6.setCell ⟨go, rs.toNat, none⟩ (.slice Am mm.length cm)) from Zaf j4_.out GB.out)
              have hN11 := Kd.S_ne j0_.out j3_.out (by decide)
              have l0_ := Zaa.mk hput.1
              clear hput hxs2 hfs2 hc10
              generalize w6.setCell ⟨go, rs.toNat, none⟩ (.slice Am mm.length cm) = w7 at l0_ l1_ l3_ l4_ l5_ ⊢
              have c11 : w7.cell? ⟨b11, 0, none⟩ = some (.slice (some adL) list.length cL) := by rw [← eL]; exact (Za3 l3_.out 0).trans rfl
              have cgv : w7.cell? ⟨gv, 0, none⟩ = some (.int .i64 p) := by
                have := l5_.out.cell 0 (by simpa using hpl1)
                rw [getElem!_pos places.toArray 0 (by simpa using hpl1)] at this
                rw [this, ← HP9.out]
                simp [List.getD_eq_getElem?_getD, List.getElem?_eq_getElem hpl1]
              have hx9l := World.block_lt_of_cell? wo _ hx9
              have cadL : w7.cell? (adL.add p.toNat) = some (.int .i64 v) := (l4_.out.cell hx9l).trans hx9
              obtain ⟨⟨us3, hxs3⟩, hfs3⟩ := S_slot l0_.out g0 g1
              have hn1 : (⟨go, v.toNat, none⟩ : Addr).block ≠ (⟨b11, 0, none⟩ : Addr).block := fun e => hN11 (by rw [← (show go = b11 from e)]; rfl)
              have hn2 : (⟨go, v.toNat, none⟩ : Addr).block ≠ (⟨gv, 0, none⟩ : Addr).block := fun e => HNG.out e.symm
              have hn3 : (⟨go, v.toNat, none⟩ : Addr).block ≠ (adL.add p.toNat).block := fun e => by have := GB.out; rw [show go = (adL.add p.toNat).block from e] at this; omega
              have HCC := Zaa.mk (fun (W' : World) (hb : Below w7.heap.size w7 W') => cloneR.calls Am cm mm mm W' (Kd.Za8 (Kd.Zaz l1_.out).2.2 hb) (Kd.Zaz l1_.out).2.1 (by unfold cloneR.f; rw [if_pos HML.out]))
              go_region_held3 (fun w' => w'.cell? ⟨b11, 0, none⟩ = some (.slice (some adL) list.length cL) ∧ w'.cell? ⟨gv, 0, none⟩ = some (.int .i64 p) ∧ w'.cell? (adL.add p.toNat) = some (.int .i64 v) ∧ w'.cell? ⟨go, v.toNat, none⟩ = some (holdsOf w' ⟨go, v.toNat, none⟩) ∧ w'.frozen? ⟨go, v.toNat, none⟩ = false)
                (first | (go_split_ands; refine ⟨?_, ?_, ?_, ?_, ?_⟩ <;> (first | assumption | exact Zfy (u := us3) (by first | exact hxs3 | simp [hxs3]) | (simp [*]; done) | exact cellK hb (by assumption) | exact Zfy (cellK hb (by assumption)) | exact frozen_below hb (by assumption) (by assumption) | exact (World.cell?_setCell_far _ _ _ _ hn1).trans (by assumption) | exact (World.cell?_setCell_far _ _ _ _ hn2).trans (by assumption) | exact (World.cell?_setCell_far _ _ _ _ hn3).trans (by assumption) | exact holdsOf_set (by assumption))))
                (first | (go_at_call 42; refine (HCC.out _ ?_).mono ?_; (repeat (first | exact Below.refl _ _ | apply Zcl | apply Za)); rintro e w8 ⟨v8, rfl, hR8, hb⟩; obtain ⟨A8, c8, rfl⟩ := Kd.Zbn hR8))
              all_goals go_wp2
              all_goals go_ret2
              have hbw : Below w7.heap.size w7 w8 := Zam (Zcl (Below.refl _ w7)) hb
              have hfin := S_put (Kd.Zeh l0_.out (Kd.Zb6 (show Kd.R k41 41 w8 w7.heap.size (fun _ => True) (.slice A8 mm.length c8) mm from hR8)) hbw) (Kd.Zbs (show Kd.R k41 41 w8 w7.heap.size (fun _ => True) (.slice A8 mm.length c8) mm from hR8) (Zae l4_.out)) (ok := fun k_ => True) (fun k_ hk => trivial) (fun k_ hk => ⟨trivial, hk.2⟩) g0 g1
              refine ⟨_, rfl, ?_, Zaf (Zam l4_.out hbw) GB.out⟩
              rw [← HR1'.out]
              unfold Zai.last
              rw [if_pos HONE.out, HP9.out, ← HV9.out]
              exact hfin.1
end Go.Proofs.Ytpbcigilipdedaa.P
