/- Proved: what each function of the program that the statements of this seat reach comes to, for whatever memory and arguments it is called with (on condition that its plain text tells a result). -/
import Derived.Test.YtklanjkndoikeaaZ1
import Derived.Test.YtklanjkndoikeaaZ2
import Derived.Test.YtklanjkndoikeaaZ3

-- Written by wip/tools/px.py out of the translation. Lean checks it.
namespace Go.Proofs.Ytklanjkndoikeaa.P
open Go.RowKit Go.Proofs.YtklanjkndoikeaaW.PrintWords Go.Proofs.YtklanjkndoikeaaW.PrintLast Go.Proofs.YtklanjkndoikeaaW.PrintMore
attribute [local go_sem] max2_int min2_int max_two min_two max_three min_three max_four min_four   -- for this text's walks alone
set_option linter.unusedVariables false
set_option linter.unusedSimpArgs false

/-! ### secateurref02_Ends: function 31 -/
def secateurref02_Ends.f (k : Nat) (l0 : List (S52)) : Option (Int × Int × Bool) := (secateurref02_Values.f k l0).bind fun t390 => (if (t390.length : Int) = 0 then (some (0, 0, false)) else (if 0 < (t390.length : Int) then (if 0 ≤ (wrap64 ((t390.length : Int) - 1)) then (if (wrap64 ((t390.length : Int) - 1)) < (t390.length : Int) then (some (rd t390 0, rd t390 (wrap64 ((t390.length : Int) - 1)), true)) else (none)) else (none)) else (none)))
theorem secateurref02_Ends.mono : ∀ a0 k, LeO (secateurref02_Ends.f k a0) (secateurref02_Ends.f (k + 1) a0) := by
 intro a0 k
 unfold secateurref02_Ends.f
 repeat' first
   | (with_reducible exact secateurref02_Values.mono _ _)
   | (with_reducible exact LeO.refl _)
   | (with_reducible exact LeO.none _)
   | (with_reducible refine LeO.ite ?_ ?_)
   | (with_reducible refine LeO.bind ?_ (fun _ => ?_))
   | exact secateurref02_Values.mono _ _
   | exact LeO.none _
   | refine LeO.ite ?_ ?_
   | refine LeO.bind ?_ (fun _ => ?_)
set_option maxHeartbeats 8000000 in
set_option maxRecDepth 100000 in
theorem secateurref02_Ends.calls (k : Nat) (A0 : Option Addr) (c0 : Nat) (l0 : List (S52)) (r1 : Int) (r2 : Int) (r3 : Bool) (w : World) (hr0 : Kd.C k52 w A0 l0.length l0) (hc0 : l0.length ≤ c0) (h : secateurref02_Ends.f k l0 = some (r1, r2, r3)) :
  Calls Try.prog 31 #[.slice A0 l0.length c0] w fun e w' => e = .returned (.tuple #[.int .i64 r1, .int .i64 r2, .bool r3]) ∧ Below w.heap.size w w' := by
 have HR0 := Aside0.mk hr0
 have HC0 := Aside0.mk hc0
 clear hr0 hc0
 have HB := Aside0.mk (Below.refl w.heap.size w)
 have H : ((secateurref02_Values.f k l0).bind fun t390 => (if (t390.length : Int) = 0 then (some (0, 0, false)) else (if 0 < (t390.length : Int) then (if 0 ≤ (wrap64 ((t390.length : Int) - 1)) then (if (wrap64 ((t390.length : Int) - 1)) < (t390.length : Int) then (some (rd t390 0, rd t390 (wrap64 ((t390.length : Int) - 1)), true)) else (none)) else (none)) else (none)))) = some (r1, r2, r3) := h
 clear h
 replace H := Option.bind_eq_some_iff.mp H
 obtain ⟨t390, A20, H⟩ := H
 replace H : (if (t390.length : Int) = 0 then (some (0, 0, false)) else (if 0 < (t390.length : Int) then (if 0 ≤ (wrap64 ((t390.length : Int) - 1)) then (if (wrap64 ((t390.length : Int) - 1)) < (t390.length : Int) then (some (rd t390 0, rd t390 (wrap64 ((t390.length : Int) - 1)), true)) else (none)) else (none)) else (none))) = some (r1, r2, r3) := H
 have A2 := Aside0.mk A20
 clear A20
 by_cases c3 : (t390.length : Int) = 0
 ·rw [if_pos c3] at H
  have c3b0 : ((t390.length : Int) == 0) = true := beq_iff_eq.mpr c3
  have c3b1 : ((t390.length : Int) != 0) = false := bne_eq_false_iff_eq.mpr c3
  clear c3
  simp only [Option.some.injEq, Prod.mk.injEq] at H
  obtain ⟨rfl, rfl, rfl⟩ := H
  go_enter Try.func31, Try.ntmps31
  go_wp2_with (first | (go_at_call 30; (with_reducible refine (secateurref02_Values.calls k _ _ l0 t390 _ ?side1 ?side2 A2.out).mono ?_); (case side1 => repeat (first | exact HR0.out | (with_reducible refine Kd.C_alloc ?_ _) | (with_reducible refine Kd.C_drewN ?_ _) | (with_reducible refine Kd.C_drew ?_))); (case side2 => exact HC0.out); rintro e w4 ⟨v391, rfl, ho0, hb⟩; have n0_ := Aside0.mk (Kd.R_lower ho0 (below_size (by repeat (first | (with_reducible first | exact HB.out | apply below_alloc | apply pw_below_drewN | apply below_drew1) | exact HB.out)))); have n1_ := Aside0.mk (below_step (by repeat (first | (with_reducible first | exact HB.out | apply below_alloc | apply pw_below_drewN | apply below_drew1) | exact HB.out)) hb); clear HB; have HO392 := n0_; have HB := n1_; clear n0_ n1_; (try clear hb); (try clear hb2); (try clear hk); (try clear hi); (try clear ho0); obtain ⟨Ao5, co5, eo5⟩ := Kd.R_slice HO392.out; subst eo5))
  repeat (go_quiet (first | (go_at_call 30; (with_reducible refine (secateurref02_Values.calls k _ _ l0 t390 _ ?side1 ?side2 A2.out).mono ?_); (case side1 => repeat (first | exact HR0.out | (with_reducible refine Kd.C_alloc ?_ _) | (with_reducible refine Kd.C_drewN ?_ _) | (with_reducible refine Kd.C_drew ?_))); (case side2 => exact HC0.out); rintro e w4 ⟨v391, rfl, ho0, hb⟩; have n0_ := Aside0.mk (Kd.R_lower ho0 (below_size (by repeat (first | (with_reducible first | exact HB.out | apply below_alloc | apply pw_below_drewN | apply below_drew1) | exact HB.out)))); have n1_ := Aside0.mk (below_step (by repeat (first | (with_reducible first | exact HB.out | apply below_alloc | apply pw_below_drewN | apply below_drew1) | exact HB.out)) hb); clear HB; have HO392 := n0_; have HB := n1_; clear n0_ n1_; (try clear hb); (try clear hb2); (try clear hk); (try clear hi); (try clear ho0); obtain ⟨Ao5, co5, eo5⟩ := Kd.R_slice HO392.out; subst eo5)); try go_wp2_with (first | (go_at_call 30; (with_reducible refine (secateurref02_Values.calls k _ _ l0 t390 _ ?side1 ?side2 A2.out).mono ?_); (case side1 => repeat (first | exact HR0.out | (with_reducible refine Kd.C_alloc ?_ _) | (with_reducible refine Kd.C_drewN ?_ _) | (with_reducible refine Kd.C_drew ?_))); (case side2 => exact HC0.out); rintro e w4 ⟨v391, rfl, ho0, hb⟩; have n0_ := Aside0.mk (Kd.R_lower ho0 (below_size (by repeat (first | (with_reducible first | exact HB.out | apply below_alloc | apply pw_below_drewN | apply below_drew1) | exact HB.out)))); have n1_ := Aside0.mk (below_step (by repeat (first | (with_reducible first | exact HB.out | apply below_alloc | apply pw_below_drewN | apply below_drew1) | exact HB.out)) hb); clear HB; have HO392 := n0_; have HB := n1_; clear n0_ n1_; (try clear hb); (try clear hb2); (try clear hk); (try clear hi); (try clear ho0); obtain ⟨Ao5, co5, eo5⟩ := Kd.R_slice HO392.out; subst eo5)))
  go_ret3
  exact ⟨by first | rfl | (simp [errW_none, errW_some] <;> rfl) | (simp [*, errW_none, errW_some] <;> rfl), by repeat (first | (with_reducible first | exact HB.out | apply below_alloc | apply pw_below_drewN | apply below_drew1) | exact HB.out)⟩
 ·rw [if_neg c3] at H
  have c3b0 : ((t390.length : Int) == 0) = false := beq_eq_false_iff_ne.mpr c3
  have c3b1 : ((t390.length : Int) != 0) = true := bne_iff_ne.mpr c3
  have c3b2 : ¬ (t390 = []) := fun h_ => c3 (by rw [h_]; rfl)
  by_cases c6 : 0 < (t390.length : Int)
  ·rw [if_pos c6] at H
   have c6b0 : decide (0 < (t390.length : Int)) = true := decide_eq_true c6
   have c6b1 : decide (0 < t390.length) = true := decide_eq_true (by omega)
   clear c6
   obtain ⟨ji7, hji7⟩ : ∃ j_ : Int, (wrap64 ((t390.length : Int) - 1)) = j_ := ⟨_, rfl⟩
   replace H : (if 0 ≤ (ji7) then (if (ji7) < (t390.length : Int) then (some (rd t390 0, rd t390 (ji7), true)) else (none)) else (none)) = some (r1, r2, r3) := by first | (rw [hji7] at H; exact H) | (simp only [hji7] at H ⊢; exact H)
   (try rw [hji7] at A2)
   have hji7w : (IntKind.i64.wrap ((t390.length : Int) - 1)) = ji7 := (i64_w _).trans hji7
   by_cases c8 : 0 ≤ (ji7)
   ·rw [if_pos c8] at H
    have c8b0 : decide (0 ≤ (ji7)) = true := decide_eq_true c8
    clear c8
    by_cases c9 : (ji7) < (t390.length : Int)
    ·rw [if_pos c9] at H
     have c9b0 : decide ((ji7) < (t390.length : Int)) = true := decide_eq_true c9
     clear c9
     simp only [Option.some.injEq, Prod.mk.injEq] at H
     obtain ⟨rfl, rfl, rfl⟩ := H
     go_enter Try.func31, Try.ntmps31
     go_wp2_with (first | (go_at_call 30; (with_reducible refine (secateurref02_Values.calls k _ _ l0 t390 _ ?side1 ?side2 A2.out).mono ?_); (case side1 => repeat (first | exact HR0.out | (with_reducible refine Kd.C_alloc ?_ _) | (with_reducible refine Kd.C_drewN ?_ _) | (with_reducible refine Kd.C_drew ?_))); (case side2 => exact HC0.out); rintro e w10 ⟨v391, rfl, ho0, hb⟩; have n0_ := Aside0.mk (Kd.R_lower ho0 (below_size (by repeat (first | (with_reducible first | exact HB.out | apply below_alloc | apply pw_below_drewN | apply below_drew1) | exact HB.out)))); have n1_ := Aside0.mk (below_step (by repeat (first | (with_reducible first | exact HB.out | apply below_alloc | apply pw_below_drewN | apply below_drew1) | exact HB.out)) hb); clear HB; have HO392 := n0_; have HB := n1_; clear n0_ n1_; (try clear hb); (try clear hb2); (try clear hk); (try clear hi); (try clear ho0); obtain ⟨Ao11, co11, eo11⟩ := Kd.R_slice HO392.out; subst eo11; have p393 : 0 ≤ (0 : Int) := (by omega); have q393 : 0 < (t390.length : Int) := of_decide_eq_true (by first | (with_reducible assumption) | assumption); obtain ⟨ad393, e393, hx393_0⟩ := Kd.at_int (Kd.R_reads' HO392.out).2.2 0 p393 q393; cases e393; have qi393 : (0 < t390.length) = True := eq_true (by omega); (try rw [show ((0 : Int)).toNat = 0 from rfl] at hx393_0); (try rw [Addr.add_zero'] at hx393_0); replace p393 := eq_true p393; replace q393 := eq_true q393; have p394 : 0 ≤ ((ji7) : Int) := of_decide_eq_true (by first | (with_reducible assumption) | assumption); have q394 : (ji7) < (t390.length : Int) := of_decide_eq_true (by first | (with_reducible assumption) | assumption); obtain ⟨ad394, e394, hx394_0⟩ := Kd.at_int (Kd.R_reads' HO392.out).2.2 (ji7) p394 q394; obtain rfl : ad393 = ad394 := (by injection e394); replace p394 := eq_true p394; replace q394 := eq_true q394))
     repeat (go_quiet (first | (go_at_call 30; (with_reducible refine (secateurref02_Values.calls k _ _ l0 t390 _ ?side1 ?side2 A2.out).mono ?_); (case side1 => repeat (first | exact HR0.out | (with_reducible refine Kd.C_alloc ?_ _) | (with_reducible refine Kd.C_drewN ?_ _) | (with_reducible refine Kd.C_drew ?_))); (case side2 => exact HC0.out); rintro e w10 ⟨v391, rfl, ho0, hb⟩; have n0_ := Aside0.mk (Kd.R_lower ho0 (below_size (by repeat (first | (with_reducible first | exact HB.out | apply below_alloc | apply pw_below_drewN | apply below_drew1) | exact HB.out)))); have n1_ := Aside0.mk (below_step (by repeat (first | (with_reducible first | exact HB.out | apply below_alloc | apply pw_below_drewN | apply below_drew1) | exact HB.out)) hb); clear HB; have HO392 := n0_; have HB := n1_; clear n0_ n1_; (try clear hb); (try clear hb2); (try clear hk); (try clear hi); (try clear ho0); obtain ⟨Ao11, co11, eo11⟩ := Kd.R_slice HO392.out; subst eo11; have p393 : 0 ≤ (0 : Int) := (by omega); have q393 : 0 < (t390.length : Int) := of_decide_eq_true (by first | (with_reducible assumption) | assumption); obtain ⟨ad393, e393, hx393_0⟩ := Kd.at_int (Kd.R_reads' HO392.out).2.2 0 p393 q393; cases e393; have qi393 : (0 < t390.length) = True := eq_true (by omega); (try rw [show ((0 : Int)).toNat = 0 from rfl] at hx393_0); (try rw [Addr.add_zero'] at hx393_0); replace p393 := eq_true p393; replace q393 := eq_true q393; have p394 : 0 ≤ ((ji7) : Int) := of_decide_eq_true (by first | (with_reducible assumption) | assumption); have q394 : (ji7) < (t390.length : Int) := of_decide_eq_true (by first | (with_reducible assumption) | assumption); obtain ⟨ad394, e394, hx394_0⟩ := Kd.at_int (Kd.R_reads' HO392.out).2.2 (ji7) p394 q394; obtain rfl : ad393 = ad394 := (by injection e394); replace p394 := eq_true p394; replace q394 := eq_true q394)); try go_wp2_with (first | (go_at_call 30; (with_reducible refine (secateurref02_Values.calls k _ _ l0 t390 _ ?side1 ?side2 A2.out).mono ?_); (case side1 => repeat (first | exact HR0.out | (with_reducible refine Kd.C_alloc ?_ _) | (with_reducible refine Kd.C_drewN ?_ _) | (with_reducible refine Kd.C_drew ?_))); (case side2 => exact HC0.out); rintro e w10 ⟨v391, rfl, ho0, hb⟩; have n0_ := Aside0.mk (Kd.R_lower ho0 (below_size (by repeat (first | (with_reducible first | exact HB.out | apply below_alloc | apply pw_below_drewN | apply below_drew1) | exact HB.out)))); have n1_ := Aside0.mk (below_step (by repeat (first | (with_reducible first | exact HB.out | apply below_alloc | apply pw_below_drewN | apply below_drew1) | exact HB.out)) hb); clear HB; have HO392 := n0_; have HB := n1_; clear n0_ n1_; (try clear hb); (try clear hb2); (try clear hk); (try clear hi); (try clear ho0); obtain ⟨Ao11, co11, eo11⟩ := Kd.R_slice HO392.out; subst eo11; have p393 : 0 ≤ (0 : Int) := (by omega); have q393 : 0 < (t390.length : Int) := of_decide_eq_true (by first | (with_reducible assumption) | assumption); obtain ⟨ad393, e393, hx393_0⟩ := Kd.at_int (Kd.R_reads' HO392.out).2.2 0 p393 q393; cases e393; have qi393 : (0 < t390.length) = True := eq_true (by omega); (try rw [show ((0 : Int)).toNat = 0 from rfl] at hx393_0); (try rw [Addr.add_zero'] at hx393_0); replace p393 := eq_true p393; replace q393 := eq_true q393; have p394 : 0 ≤ ((ji7) : Int) := of_decide_eq_true (by first | (with_reducible assumption) | assumption); have q394 : (ji7) < (t390.length : Int) := of_decide_eq_true (by first | (with_reducible assumption) | assumption); obtain ⟨ad394, e394, hx394_0⟩ := Kd.at_int (Kd.R_reads' HO392.out).2.2 (ji7) p394 q394; obtain rfl : ad393 = ad394 := (by injection e394); replace p394 := eq_true p394; replace q394 := eq_true q394)))
     go_ret3
     exact ⟨by first | rfl | (simp [errW_none, errW_some] <;> rfl) | (simp only [← hji7]; first | rfl | (simp [errW_none, errW_some] <;> rfl)) | (simp [*, errW_none, errW_some] <;> rfl), by repeat (first | (with_reducible first | exact HB.out | apply below_alloc | apply pw_below_drewN | apply below_drew1) | exact HB.out)⟩
    ·rw [if_neg c9] at H
     exact absurd H (by simp)
   ·rw [if_neg c8] at H
    exact absurd H (by simp)
  ·rw [if_neg c6] at H
   exact absurd H (by simp)

end Go.Proofs.Ytklanjkndoikeaa.P

/- Plain: the least value above one, the ends; what is told of a small domain. -/
namespace Go.Proofs.Ytklanjkndoikeaa.P
open Go.RowKit Go.Proofs.YtklanjkndoikeaaW.PrintWords Go.Proofs.YtklanjkndoikeaaW.PrintLast Go.Proofs.YtklanjkndoikeaaW.PrintMore
set_option linter.unusedVariables false
set_option linter.unusedSimpArgs false

/-- r is the least value of d above v, or (0, false): there is none. -/
def NextIs (d : List Rg) (v : Int) (r : Int × Bool) : Prop :=
  (r.2 = true ∧ Va d r.1 ∧ v < r.1 ∧ ∀ z, Va d z → v < z → r.1 ≤ z) ∨ (r = (0, false) ∧ ∀ z, Va d z → z ≤ v)
theorem NextIs.unique {d : List Rg} {v : Int} {r s : Int × Bool} (h : NextIs d v r) (k : NextIs d v s) : r = s := by
  rcases h with ⟨h1, h2, h3, h4⟩ | ⟨rfl, h2⟩
  · rcases k with ⟨k1, k2, k3, k4⟩ | ⟨rfl, k2⟩
    · have e : r.1 = s.1 := by have := h4 _ k2 k3; have := k4 _ h2 h3; omega
      exact Prod.ext e (h1.trans k1.symm)
    · have := k2 _ h2; omega
  · rcases k with ⟨k1, k2, k3, k4⟩ | ⟨rfl, k2⟩
    · have := h2 _ k2; omega
    · rfl
theorem Next_l0 (d : List Rg) (v : Int) (hv : -9223372036854775808 ≤ v) (hl : d.length ≤ 3000000) (hd : Gd 1048576 (-1048576) d) : ∀ (m n : Nat), n + m = d.length → (∀ z, Va (d.take n) z → z ≤ v) →
    ∃ r, Ev (fun k => dom_Next.l0 k v d (d.length : Int) (n : Int)) r ∧ NextIs d v r := by
  intro m
  induction m with
  | zero =>
    intro n h ha
    rw [List.take_of_length_le (by omega)] at ha
    exact ⟨(0, false), Ev.step (G := fun _ => some ((0 : Int), false)) (fun k => by rw [dom_Next.l0, if_neg (by omega)]) (Ev.pure _), .inr ⟨rfl, ha⟩⟩
  | succ m ih =>
    intro n h ha
    have hn : n < d.length := by omega
    have hg := hd.drop n
    have hspl : d.take n ++ d[n] :: d.drop (n + 1) = d := by rw [← List.drop_eq_getElem_cons hn, List.take_append_drop]
    have hg2 : Gd 1048576 (-1048576) (d.take n ++ d[n] :: d.drop (n + 1)) := by rw [hspl]; exact hd
    rw [List.drop_eq_getElem_cons hn] at hg
    obtain ⟨g1, g2, g3, g4⟩ := hg
    have hVa : ∀ z, Va d z ↔ Va (d.take n) z ∨ (d[n].f0 ≤ z ∧ z ≤ d[n].f1) ∨ Va (d.drop (n + 1)) z := fun z => by
      have : Va d z ↔ Va (d.take n ++ d[n] :: d.drop (n + 1)) z := by rw [hspl]
      rw [this, Va_append, Va_cons]
    by_cases hgt : d[n].f1 > v
    · refine ⟨(mx d[n].f0 (v + 1), true), Ev.step (G := fun _ => some (mx d[n].f0 (v + 1), true)) (fun k => by rw [dom_Next.l0, if_pos (by omega), if_pos (by omega), if_pos (by omega), show rd_T52 d (n : Int) = d[n] from rg_nat d n hn, if_pos hgt, w64 (n := v + 1) (by omega) (by omega)]) (Ev.pure _), .inl ⟨rfl, ?_, ?_, fun z hz hvz => ?_⟩⟩
      · refine (hVa _).2 (.inr (.inl ?_))
        unfold mx
        split <;> omega
      · show v < mx d[n].f0 (v + 1)
        unfold mx
        split <;> omega
      · show mx d[n].f0 (v + 1) ≤ z
        have : d[n].f0 ≤ z := by
          rcases (hVa z).1 hz with h | h | h
          · have := ha z h; omega
          · exact h.1
          · have := g4.ge h; omega
        unfold mx
        split <;> omega
    · obtain ⟨r, hr, hN⟩ := ih (n + 1) (by omega) (fun z hz => by
        rw [List.take_succ_eq_append_getElem hn, Va_append, Va_cons] at hz
        rcases hz with hz | hz | hz
        · exact ha z hz
        · omega
        · simp at hz)
      exact ⟨r, Ev.step (fun k => by rw [dom_Next.l0, if_pos (by omega), if_pos (by omega), if_pos (by omega), show rd_T52 d (n : Int) = d[n] from rg_nat d n hn, if_neg hgt, w1 (by omega)]) hr, hN⟩
theorem Next_ev (d : List Rg) (v : Int) (hv : -9223372036854775808 ≤ v) (hd : Gd 1048576 (-1048576) d) : ∃ r, Ev (fun k => dom_Next.f k d v) r ∧ NextIs d v r := by
  have h1 := vals_length hd
  have h2 := length_le_vals hd
  exact Next_l0 d v hv (by omega) hd d.length 0 (by omega) (fun z hz => by simp at hz)
theorem ref_Next_l0 (d : List Rg) (v : Int) (l : List Int) (hl : l.length ≤ 3000000) (hs : SS l) (hm : ∀ z, Va d z ↔ z ∈ l) : ∀ (m n : Nat), n + m = l.length → (∀ z ∈ l.take n, z ≤ v) →
    ∃ r, Ev (fun k => secateurref02_Next.l0 k v l (n : Int)) r ∧ NextIs d v r := by
  intro m
  induction m with
  | zero =>
    intro n h ha
    rw [List.take_of_length_le (by omega)] at ha
    exact ⟨(0, false), Ev.step (G := fun _ => some ((0 : Int), false)) (fun k => by rw [secateurref02_Next.l0, if_neg (by omega)]) (Ev.pure _), .inr ⟨rfl, fun z hz => ha z ((hm z).1 hz)⟩⟩
  | succ m ih =>
    intro n h ha
    have hn : n < l.length := by omega
    by_cases hgt : l[n] > v
    · refine ⟨(l[n], true), Ev.step (G := fun _ => some (l[n], true)) (fun k => by rw [secateurref02_Next.l0, if_pos (by omega), if_pos (by omega), rd_nat l n hn, if_pos hgt]) (Ev.pure _), .inl ⟨rfl, (hm _).2 (List.getElem_mem hn), hgt, fun z hz hvz => ?_⟩⟩
      obtain ⟨j, hj, rfl⟩ := List.mem_iff_getElem.1 ((hm z).1 hz)
      rcases Nat.lt_trichotomy j n with h | h | h
      · have := ha l[j] (List.mem_take_iff_getElem.2 ⟨j, by omega, rfl⟩); omega
      · subst h; exact Int.le_refl _
      · have := mem_le_of_ss hs hn hj h; show l[n] ≤ l[j]; omega
    · obtain ⟨r, hr, hN⟩ := ih (n + 1) (by omega) (fun z hz => by
        rw [List.take_succ_eq_append_getElem hn, List.mem_append, List.mem_singleton] at hz
        rcases hz with hz | rfl
        · exact ha z hz
        · omega)
      exact ⟨r, Ev.step (fun k => by rw [secateurref02_Next.l0, if_pos (by omega), if_pos (by omega), rd_nat l n hn, if_neg hgt, w1 (by omega)]) hr, hN⟩
theorem ref_Next_ev (d : List Rg) (v : Int) (hd : Gd 1048576 (-1048576) d) : ∃ r, Ev (fun k => secateurref02_Next.f k d v) r ∧ NextIs d v r := by
  have h1 := vals_length hd
  obtain ⟨r, hr, hN⟩ := ref_Next_l0 d v (vals d) (by omega) (vals_ss hd) (fun z => (mem_vals z d).symm) (vals d).length 0 (by omega) (fun z hz => by simp at hz)
  exact ⟨r, Ev.bind (ref_Values d hd (Int.le_refl _)) hr, hN⟩

/-! ### The ends -/
theorem vals_ne {V b : Int} {d : List Rg} (hd : Gd V b d) : vals d = [] ↔ d = [] := by
  have := length_le_vals hd
  constructor
  · intro h
    rw [h] at this
    exact List.length_eq_zero_iff.1 (by simpa using this)
  · rintro rfl; rfl
theorem Least_ev (d : List Rg) (hd : Gd 1048576 (-1048576) d) : dom_Least.f d = some (((vals d).head?.getD 0), !(vals d).isEmpty) := by
  cases d with
  | nil => rfl
  | cons x d =>
    obtain ⟨h1, h2, h3, h4⟩ := hd
    unfold dom_Least.f
    rw [if_neg (by simp; omega), if_pos (by simp), vals]
    have hp : 0 < (x.f1 + 1 - x.f0).toNat := by omega
    rw [upTo_yes hp h2]
    rfl
theorem Most_ev (d : List Rg) (hd : Gd 1048576 (-1048576) d) : dom_Most.f d = some (((vals d).getLast?.getD 0), !(vals d).isEmpty) := by
  have hlen := length_le_vals hd
  have hvl := vals_length hd
  rcases List.eq_nil_or_concat d with rfl | ⟨o, y, rfl⟩
  · rfl
  · rw [List.concat_eq_append] at *
    have hy := (Gd_snoc.1 hd).2
    have hm : y.f1 ∈ vals (o ++ [y]) := (mem_vals _ _).2 ((Va_append _ _ _).2 (.inr ((Va_cons _ _ _).2 (.inl ⟨hy.2.1, Int.le_refl _⟩))))
    have hne : vals (o ++ [y]) ≠ [] := fun e => by rw [e] at hm; simp at hm
    have hlast : (vals (o ++ [y])).getLast hne = y.f1 := by
      have h1 : (vals (o ++ [y])).getLast hne ∈ vals (o ++ [y]) := List.getLast_mem hne
      have h2 := hd.lt_end ((mem_vals _ _).1 h1)
      rw [endB_snoc] at h2
      obtain ⟨j, hj, e⟩ := List.mem_iff_getElem.1 hm
      rw [List.getLast_eq_getElem]
      rw [List.getLast_eq_getElem] at h2
      rcases Nat.lt_or_ge j ((vals (o ++ [y])).length - 1) with h | h
      · have := mem_le_of_ss (vals_ss hd) hj (show (vals (o ++ [y])).length - 1 < (vals (o ++ [y])).length by omega) h
        omega
      · have e2 : j = (vals (o ++ [y])).length - 1 := by omega
        subst e2
        exact e
    unfold dom_Most.f
    have hl1 : (o ++ [y]).length = o.length + 1 := by simp
    have e1 : wrap64 (((o ++ [y]).length : Int) - 1) = ((o ++ [y]).length : Int) - 1 := w64 (by omega) (by omega)
    rw [if_neg (by omega), e1, if_pos (by omega), if_pos (by omega), show rd_T52 (o ++ [y]) (((o ++ [y]).length : Int) - 1) = y from rg_last o y, List.getLast?_eq_some_getLast hne, hlast]
    have : (vals (o ++ [y])).isEmpty = false := by cases h : vals (o ++ [y]) with | nil => exact absurd h hne | cons => rfl
    rw [this]
    rfl
theorem ref_Ends_ev (d : List Rg) (hd : Gd 1048576 (-1048576) d) : Ev (fun k => secateurref02_Ends.f k d) ((vals d).head?.getD 0, (vals d).getLast?.getD 0, !(vals d).isEmpty) := by
  have hvl := vals_length hd
  refine Ev.bind (ref_Values d hd (Int.le_refl _)) (Ev.const ?_)
  cases hv : vals d with
  | nil => rfl
  | cons x l =>
    rw [hv] at hvl
    have hl : (x :: l).length = l.length + 1 := rfl
    have e1 : wrap64 (((x :: l).length : Int) - 1) = ((l.length : Nat) : Int) := by rw [hl, w64 (by omega) (by omega)]; omega
    rw [if_neg (by omega), if_pos (by omega), e1, if_pos (by omega), if_pos (by omega), rd_nat (x :: l) l.length (by omega), show rd (x :: l) 0 = x from rfl]
    have : (x :: l)[l.length] = ((x :: l).getLast?.getD 0) := by
      rw [List.getLast?_eq_some_getLast (by simp), List.getLast_eq_getElem]
      simp
    rw [this]
    rfl
end Go.Proofs.Ytklanjkndoikeaa.P

-- Written by wip/tools/px.py out of the translation. Lean checks it.
namespace Go.Proofs.Ytklanjkndoikeaa.P
open Go.RowKit Go.Proofs.YtklanjkndoikeaaW.PrintWords Go.Proofs.YtklanjkndoikeaaW.PrintLast Go.Proofs.YtklanjkndoikeaaW.PrintMore
attribute [local go_sem] max2_int min2_int max_two min_two max_three min_three max_four min_four   -- for this text's walks alone
set_option linter.unusedVariables false
set_option linter.unusedSimpArgs false

attribute [local go_sem high] eqA52
/-! ### api_Range: function 59 -/
def api_Range.l0 : Nat → List (S52) → List (S52) → Int → Int → Option (Bool)
 | 0, _, _, _, _ => none
 | k + 1, x0, x1, x12, x13 => if x13 < x12 then (if 0 ≤ x13 then (if x13 < (x0.length : Int) then (if x13 < (x1.length : Int) then (if (!(((rd_T52 x0 x13).f0) == ((rd_T52 x1 x13).f0)) || (!(((rd_T52 x0 x13).f1) == ((rd_T52 x1 x13).f1)))) = true then (some false) else (api_Range.l0 k x0 x1 x12 (wrap64 (x13 + 1)))) else (none)) else (none)) else (none)) else (some true)
def api_Range.f (k : Nat) (l0 : List (S52)) (l1 : List (S52)) : Option (Bool) := if (l0.length : Int) = (l1.length : Int) then (api_Range.l0 k l0 l1 (l0.length : Int) 0) else (some false)
theorem api_Range.mono_l : ∀ k, (∀ y0 y1 y2 y3, LeO (api_Range.l0 k y0 y1 y2 y3) (api_Range.l0 (k + 1) y0 y1 y2 y3))
 | 0 => fun _ _ _ _ r h => by simp [api_Range.l0] at h
 | k + 1 => by
  have ih0 := api_Range.mono_l k
  ·intro y0 y1 y2 y3
   unfold api_Range.l0
   repeat' first
   | (with_reducible exact ih0 _ _ _ _)
   | (with_reducible exact LeO.refl _)
   | (with_reducible exact LeO.none _)
   | (with_reducible refine LeO.ite ?_ ?_)
   | (with_reducible refine LeO.bind ?_ (fun _ => ?_))
   | exact ih0 _ _ _ _
   | exact LeO.none _
   | refine LeO.ite ?_ ?_
   | refine LeO.bind ?_ (fun _ => ?_)
theorem api_Range.mono : ∀ a0 a1 k, LeO (api_Range.f k a0 a1) (api_Range.f (k + 1) a0 a1) := by
 intro a0 a1 k
 have ih0 := api_Range.mono_l k
 unfold api_Range.f
 repeat' first
   | (with_reducible exact ih0 _ _ _ _)
   | (with_reducible exact LeO.refl _)
   | (with_reducible exact LeO.none _)
   | (with_reducible refine LeO.ite ?_ ?_)
   | (with_reducible refine LeO.bind ?_ (fun _ => ?_))
   | exact ih0 _ _ _ _
   | exact LeO.none _
   | refine LeO.ite ?_ ?_
   | refine LeO.bind ?_ (fun _ => ?_)
set_option maxHeartbeats 8000000 in
set_option maxRecDepth 100000 in
theorem api_Range.calls (k : Nat) (A0 : Option Addr) (c0 : Nat) (l0 : List (S52)) (A1 : Option Addr) (c1 : Nat) (l1 : List (S52)) (r : Bool) (w : World) (hr0 : Kd.C k52 w A0 l0.length l0) (hc0 : l0.length ≤ c0) (hr1 : Kd.C k52 w A1 l1.length l1) (hc1 : l1.length ≤ c1) (h : api_Range.f k l0 l1 = some r) :
  Calls Try.prog 59 #[.slice A0 l0.length c0, .slice A1 l1.length c1] w fun e w' => e = .returned (.bool r) ∧ Drawn0 w w' := by
 have hu52 := Try.underlying52
 have HR0 := Aside0.mk hr0
 have HC0 := Aside0.mk hc0
 clear hr0 hc0
 have HR1 := Aside0.mk hr1
 have HC1 := Aside0.mk hc1
 clear hr1 hc1
 have H : (if (l0.length : Int) = (l1.length : Int) then (api_Range.l0 k l0 l1 (l0.length : Int) 0) else (some false)) = some r := h
 clear h
 by_cases c3 : (l0.length : Int) = (l1.length : Int)
 ·rw [if_pos c3] at H
  have c3b0 : ((l0.length : Int) == (l1.length : Int)) = true := beq_iff_eq.mpr c3
  have c3b1 : ((l0.length : Int) != (l1.length : Int)) = false := bne_eq_false_iff_eq.mpr c3
  have c3b2 : (l0.length == l1.length) = true := by first | simpa using c3 | (simp at c3 ⊢; omega)
  clear c3
  have H' := Aside0.mk H
  clear H
  go_enter Try.func59, Try.ntmps59
  go_wp2
  repeat (go_quiet (fail); try go_wp2)
  go_loopg [13] k (fun kq v13 w' => ∃ (x13_1 : Int), v13 = .int .i64 x13_1 ∧ Aside0 (api_Range.l0 kq l0 l1 (l0.length : Int) x13_1 = some r) ∧ Aside0 (kq ≤ k) ∧ Drawn0 w w')
  case atStart => exact ⟨(0), (by first | rfl | (simp; done) | (simp [*]; done)), H', ⟨Nat.le_refl _⟩, by repeat (first | exact Drawn0.refl _ | apply Drawn0.step)⟩
  case round =>
   clear H'
   try clear c1
   try clear p2
   try clear c3
   try clear c3b0
   try clear c3b1
   try clear c3b2
   obtain ⟨x13_1, rfl, HA, HK1, ⟨m1, rfl⟩⟩ := hrel
   cases gk with
   | zero => exact absurd HA.out (by simp [api_Range.l0])
   | succ k1 =>
    have H := HA.out
    clear HA
    simp only [api_Range.l0] at H
    by_cases c4 : x13_1 < (l0.length : Int)
    ·rw [if_pos c4] at H
     have c4b0 : decide (x13_1 < (l0.length : Int)) = true := decide_eq_true c4
     clear c4
     by_cases c5 : 0 ≤ x13_1
     ·rw [if_pos c5] at H
      have c5b0 : decide (0 ≤ x13_1) = true := decide_eq_true c5
      clear c5
      by_cases c6 : x13_1 < (l0.length : Int)
      ·rw [if_pos c6] at H
       have c6b0 : decide (x13_1 < (l0.length : Int)) = true := decide_eq_true c6
       clear c6
       by_cases c7 : x13_1 < (l1.length : Int)
       ·rw [if_pos c7] at H
        have c7b0 : decide (x13_1 < (l1.length : Int)) = true := decide_eq_true c7
        clear c7
        by_cases c8 : (!(((rd_T52 l0 x13_1).f0) == ((rd_T52 l1 x13_1).f0)) || (!(((rd_T52 l0 x13_1).f1) == ((rd_T52 l1 x13_1).f1)))) = true
        ·rw [if_pos c8] at H
         have c8b0 : (!(((rd_T52 l0 x13_1).f0) == ((rd_T52 l1 x13_1).f0)) || (!(((rd_T52 l0 x13_1).f1) == ((rd_T52 l1 x13_1).f1)))) = true := c8
         clear c8
         obtain rfl := Option.some.inj H
         have p433 : 0 ≤ (x13_1 : Int) := of_decide_eq_true (by first | (with_reducible assumption) | assumption)
         have q433 : x13_1 < (l0.length : Int) := of_decide_eq_true (by first | (with_reducible assumption) | assumption)
         obtain ⟨ad433, e433, hx433_0, hx433_1⟩ := at_T52 HR0.out x13_1 p433 q433
         cases e433
         replace p433 := eq_true p433
         replace q433 := eq_true q433
         have p434 : 0 ≤ (x13_1 : Int) := of_decide_eq_true (by first | (with_reducible assumption) | assumption)
         have q434 : x13_1 < (l1.length : Int) := of_decide_eq_true (by first | (with_reducible assumption) | assumption)
         obtain ⟨ad434, e434, hx434_0, hx434_1⟩ := at_T52 HR1.out x13_1 p434 q434
         cases e434
         replace p434 := eq_true p434
         replace q434 := eq_true q434
         go_wp2
         repeat (go_quiet (fail); try go_wp2)
         go_ret
         exact ⟨by first | rfl | (simp; done) | (simp [*]; done), by repeat (first | exact Drawn0.refl _ | apply Drawn0.step)⟩
        ·rw [if_neg c8] at H
         have c8b0 : (!(((rd_T52 l0 x13_1).f0) == ((rd_T52 l1 x13_1).f0)) || (!(((rd_T52 l0 x13_1).f1) == ((rd_T52 l1 x13_1).f1)))) = false := by simpa using c8
         clear c8
         have H' := Aside0.mk H
         clear H
         have p433 : 0 ≤ (x13_1 : Int) := of_decide_eq_true (by first | (with_reducible assumption) | assumption)
         have q433 : x13_1 < (l0.length : Int) := of_decide_eq_true (by first | (with_reducible assumption) | assumption)
         obtain ⟨ad433, e433, hx433_0, hx433_1⟩ := at_T52 HR0.out x13_1 p433 q433
         cases e433
         replace p433 := eq_true p433
         replace q433 := eq_true q433
         have p434 : 0 ≤ (x13_1 : Int) := of_decide_eq_true (by first | (with_reducible assumption) | assumption)
         have q434 : x13_1 < (l1.length : Int) := of_decide_eq_true (by first | (with_reducible assumption) | assumption)
         obtain ⟨ad434, e434, hx434_0, hx434_1⟩ := at_T52 HR1.out x13_1 p434 q434
         cases e434
         replace p434 := eq_true p434
         replace q434 := eq_true q434
         go_wp2
         repeat (go_quiet (fail); try go_wp2)
         go_roundg k1
         case measure => have := HK1.out; omega
         case rel => exact ⟨(wrap64 (x13_1 + 1)), (by first | rfl | (simp; done) | (simp [*]; done)), H', ⟨by have := HK1.out; omega⟩, by repeat (first | exact Drawn0.refl _ | apply Drawn0.step)⟩
       ·rw [if_neg c7] at H
        exact absurd H (by simp)
      ·rw [if_neg c6] at H
       exact absurd H (by simp)
     ·rw [if_neg c5] at H
      exact absurd H (by simp)
    ·rw [if_neg c4] at H
     have c4b0 : decide (x13_1 < (l0.length : Int)) = false := decide_eq_false c4
     clear c4
     obtain rfl := Option.some.inj H
     go_wp2
     repeat (go_quiet (fail); try go_wp2)
     go_ret
     exact ⟨by first | rfl | (simp; done) | (simp [*]; done), by repeat (first | exact Drawn0.refl _ | apply Drawn0.step)⟩
 ·rw [if_neg c3] at H
  have c3b0 : ((l0.length : Int) == (l1.length : Int)) = false := beq_eq_false_iff_ne.mpr c3
  have c3b1 : ((l0.length : Int) != (l1.length : Int)) = true := bne_iff_ne.mpr c3
  have c3b2 : (l0.length == l1.length) = false := by first | simpa using c3 | (simp at c3 ⊢; omega)
  obtain rfl := Option.some.inj H
  go_enter Try.func59, Try.ntmps59
  go_wp2
  repeat (go_quiet (fail); try go_wp2)
  go_ret
  exact ⟨by first | rfl | (simp; done) | (simp [*]; done), by repeat (first | exact Drawn0.refl _ | apply Drawn0.step)⟩

end Go.Proofs.Ytklanjkndoikeaa.P

-- Written by wip/tools/px.py out of the translation. Lean checks it.
namespace Go.Proofs.Ytklanjkndoikeaa.P
open Go.RowKit Go.Proofs.YtklanjkndoikeaaW.PrintWords Go.Proofs.YtklanjkndoikeaaW.PrintLast Go.Proofs.YtklanjkndoikeaaW.PrintMore
attribute [local go_sem] max2_int min2_int max_two min_two max_three min_three max_four min_four   -- for this text's walks alone
set_option linter.unusedVariables false
set_option linter.unusedSimpArgs false

/-! ### dom_Same: function 35 -/
def dom_Same.f (k : Nat) (l0 : List (S52)) (l1 : List (S52)) : Option (Bool) := (api_Range.f k l0 l1).bind fun t435 => (some t435)
theorem dom_Same.mono : ∀ a0 a1 k, LeO (dom_Same.f k a0 a1) (dom_Same.f (k + 1) a0 a1) := by
 intro a0 a1 k
 unfold dom_Same.f
 repeat' first
   | (with_reducible exact api_Range.mono _ _ _)
   | (with_reducible exact LeO.refl _)
   | (with_reducible exact LeO.none _)
   | (with_reducible refine LeO.ite ?_ ?_)
   | (with_reducible refine LeO.bind ?_ (fun _ => ?_))
   | exact api_Range.mono _ _ _
   | exact LeO.none _
   | refine LeO.ite ?_ ?_
   | refine LeO.bind ?_ (fun _ => ?_)
set_option maxHeartbeats 8000000 in
set_option maxRecDepth 100000 in
theorem dom_Same.calls (k : Nat) (A0 : Option Addr) (c0 : Nat) (l0 : List (S52)) (A1 : Option Addr) (c1 : Nat) (l1 : List (S52)) (r : Bool) (w : World) (hr0 : Kd.C k52 w A0 l0.length l0) (hc0 : l0.length ≤ c0) (hr1 : Kd.C k52 w A1 l1.length l1) (hc1 : l1.length ≤ c1) (h : dom_Same.f k l0 l1 = some r) :
  Calls Try.prog 35 #[.slice A0 l0.length c0, .slice A1 l1.length c1] w fun e w' => e = .returned (.bool r) ∧ Drawn0 w w' := by
 have HR0 := Aside0.mk hr0
 have HC0 := Aside0.mk hc0
 clear hr0 hc0
 have HR1 := Aside0.mk hr1
 have HC1 := Aside0.mk hc1
 clear hr1 hc1
 have H : ((api_Range.f k l0 l1).bind fun t435 => (some t435)) = some r := h
 clear h
 replace H := Option.bind_eq_some_iff.mp H
 obtain ⟨t435, A30, H⟩ := H
 replace H : (some t435) = some r := H
 have A3 := Aside0.mk A30
 clear A30
 obtain rfl := Option.some.inj H
 go_enter Try.func35, Try.ntmps35
 go_wp2_with (first | ((with_reducible refine gate_callee (f := 59) rfl ?_); refine goesL_ (some 7) rfl rfl Try.func59 (by kernel_rfl) rfl #[.slice A0 l0.length c0, .slice A1 l1.length c1] rfl (by (try simp only [List.map_toArray, List.map_cons, List.map_nil]); first | done | rfl | (simp only [List.length_drop, List.length_take]; rfl)) ?_; (with_reducible refine (api_Range.calls k _ _ l0 _ _ l1 t435 _ ?side1 ?side2 ?side3 ?side4 A3.out).mono ?_); (case side1 => repeat (first | exact HR0.out | (with_reducible refine Kd.C_alloc ?_ _) | (with_reducible refine Kd.C_drewN ?_ _) | (with_reducible refine Kd.C_drew ?_))); (case side2 => exact HC0.out); (case side3 => repeat (first | exact HR1.out | (with_reducible refine Kd.C_alloc ?_ _) | (with_reducible refine Kd.C_drewN ?_ _) | (with_reducible refine Kd.C_drew ?_))); (case side4 => exact HC1.out); rintro e w' ⟨rfl, ⟨nd, rfl⟩⟩; refine ⟨_, rfl, ?_⟩))
 go_ret
 exact ⟨by first | rfl | (simp; done) | (simp [*]; done), by repeat (first | exact Drawn0.refl _ | apply Drawn0.step)⟩

end Go.Proofs.Ytklanjkndoikeaa.P

/- dom.Same of a domain and itself. -/
namespace Go.Proofs.Ytklanjkndoikeaa.P
open Go.RowKit Go.Proofs.YtklanjkndoikeaaW.PrintWords Go.Proofs.YtklanjkndoikeaaW.PrintLast Go.Proofs.YtklanjkndoikeaaW.PrintMore
set_option linter.unusedVariables false
set_option linter.unusedSimpArgs false

theorem Equal_self_l (l : List Rg) (hl : l.length < 4611686018427387904) : ∀ (r n : Nat), n + r = l.length → Ev (fun k => api_Range.l0 k l l (l.length : Int) (n : Int)) true := by
  intro r
  induction r with
  | zero =>
    intro n h
    exact Ev.step (G := fun _ => some true) (fun k => by rw [api_Range.l0, if_neg (by omega)]) (Ev.const (by simp))
  | succ r ih =>
    intro n h
    exact Ev.step (fun k => by rw [api_Range.l0, if_pos (by omega), if_pos (by omega), if_pos (by omega), if_pos (by omega), if_neg (by simp), w1 (by omega)]) (ih (n + 1) (by omega))
theorem dom_Same_self (l : List Rg) (hl : l.length < 4611686018427387904) : Ev (fun k => dom_Same.f k l l) true :=
  Ev.bind (Ev.eq (fun k => by rw [api_Range.f, if_pos rfl]; rfl) (Equal_self_l l hl l.length 0 (by omega))) (Ev.pure _)
end Go.Proofs.Ytklanjkndoikeaa.P
