/- Proved: the statement DomHoles. Conditions: none but those of the statement. -/
import Derived.Test.YtklanjkndoikeaaZ3
import Derived.Test.YtklanjkndoikeaaZ1
import Derived.Test.YtklanjkndoikeaaYDomHoles2
import Derived.Test.YtklanjkndoikeaaYDomHoles1
import Derived.Test.YtklanjkndoikeaaRows
import Derived.WalkKit
import Derived.ProofKit
import Derived.OpenShut
import Derived.ShutString
import Derived.ChangeOld
import Derived.Below
import Derived.SizedLaws
import Derived.Test.YtklanjkndoikeaaV1

/- Whether ranges are a domain: the program's answer and the document's. -/
namespace Go.Proofs.Ytklanjkndoikeaa.P
open Go.RowKit Go.Proofs.YtklanjkndoikeaaW.PrintWords Go.Proofs.YtklanjkndoikeaaW.PrintLast Go.Proofs.YtklanjkndoikeaaW.PrintMore
set_option linter.unusedVariables false
set_option linter.unusedSimpArgs false

/-- Are ranges a domain, none below b? -/
def rb : Int → List Rg → Bool
  | _, [] => true
  | b, x :: d => isVal x.f0 && isVal x.f1 && decide (x.f0 ≤ x.f1) && decide (b ≤ x.f0) && rb (x.f1 + 2) d
theorem rb_good : ∀ {b : Int} {d : List Rg}, rb b d = true → Gd 1048576 b d
  | _, [], _ => trivial
  | b, x :: d, h => by
    simp only [rb, Bool.and_eq_true, decide_eq_true_iff] at h
    obtain ⟨⟨⟨⟨h1, h2⟩, h3⟩, h4⟩, h5⟩ := h
    exact ⟨h4, h3, ((isVal_iff _).1 h2).2, rb_good h5⟩
theorem vals_append : ∀ d e : List Rg, vals (d ++ e) = vals d ++ vals e
  | [], e => rfl
  | x :: d, e => by rw [List.cons_append, vals, vals, vals_append d e, List.append_assoc]
/-- What whether ranges are a domain comes to. -/
def checkSpec (d : List Rg) : Int := if rb (-1048576) d = true then (if (vals d).length > 4096 then 2 else 0) else 20
theorem dom_value_is' (v : Int) : dom_value.f v = some (isVal v) := value_f v
theorem endB_take (d : List Rg) (n : Nat) (hn : n < d.length) : endB (-1048576) (d.take (n + 1)) = d[n].f1 + 2 := by rw [List.take_succ_eq_append_getElem hn, endB_snoc]
theorem right_l0 (d : List Rg) (hl : d.length < 4611686018427387904) : ∀ (m n : Nat), n + m = d.length → (0 < n → ∀ h : n - 1 < d.length, isVal d[n - 1].f1 = true) →
    Ev (fun k => dom_right.l0 k d d (d.length : Int) (n : Int)) (rb (endB (-1048576) (d.take n)) (d.drop n)) := by
  intro m
  induction m with
  | zero =>
    intro n h _
    rw [drop_nil' h]
    exact Ev.step (G := fun _ => some true) (fun k => by rw [dom_right.l0, if_neg (by omega)]) (Ev.pure _)
  | succ m ih =>
    intro n h hp
    have hn : n < d.length := by omega
    rw [List.drop_eq_getElem_cons hn, rb]
    have hat := show rd_T52 d (n : Int) = d[n] from rg_nat d n hn
    cases h0 : isVal d[n].f0 with
    | false => exact Ev.step (G := fun _ => some false) (fun k => by rw [dom_right.l0, if_pos (by omega), if_pos (by omega), if_pos (by omega), hat, dom_value_is', Option.bind_some, if_neg (by rw [h0]; simp)]) (Ev.const (by simp))
    | true =>
      cases h1 : isVal d[n].f1 with
      | false => exact Ev.step (G := fun _ => some false) (fun k => by rw [dom_right.l0, if_pos (by omega), if_pos (by omega), if_pos (by omega), hat, dom_value_is', Option.bind_some, if_pos h0, dom_value_is', Option.bind_some, if_neg (by rw [h1]; simp)]) (Ev.const (by simp))
      | true =>
        have b0 := (isVal_iff _).1 h0
        have b1 := (isVal_iff _).1 h1
        by_cases h2 : d[n].f0 > d[n].f1
        · have hnle : ¬ d[n].f0 ≤ d[n].f1 := by omega
          exact Ev.step (G := fun _ => some false) (fun k => by rw [dom_right.l0, if_pos (by omega), if_pos (by omega), if_pos (by omega), hat, dom_value_is', Option.bind_some, if_pos h0, dom_value_is', Option.bind_some, if_pos h1, if_pos h2]) (Ev.const (by simp [hnle]))
        · have hle : d[n].f0 ≤ d[n].f1 := by omega
          have hnext := ih (n + 1) (by omega) (fun _ _ => h1)
          rw [endB_take d n hn] at hnext
          have e : ∀ b, ((true && true && decide (d[n].f0 ≤ d[n].f1) && decide (b ≤ d[n].f0) && rb (d[n].f1 + 2) (d.drop (n + 1)))) = (decide (b ≤ d[n].f0) && rb (d[n].f1 + 2) (d.drop (n + 1))) := fun b => by simp [hle]
          rw [e]
          rcases Nat.eq_zero_or_pos n with rfl | hpos
          · have e2 : decide (endB (-1048576) (d.take 0) ≤ d[0].f0) = true := decide_eq_true (by simp [endB]; omega)
            rw [e2, Bool.true_and]
            exact Ev.step (fun k => by rw [dom_right.l0, if_pos (by omega), if_pos (by omega), if_pos (by omega), hat, dom_value_is', Option.bind_some, if_pos h0, dom_value_is', Option.bind_some, if_pos h1, if_neg h2, if_neg (by omega), w1 (by omega)]) hnext
          · have hn1 : n - 1 < d.length := by omega
            have hprev := (isVal_iff _).1 (hp hpos hn1)
            have e3 : endB (-1048576) (d.take n) = d[n - 1].f1 + 2 := by have := endB_take d (n - 1) hn1; rwa [show n - 1 + 1 = n by omega] at this
            have e4 : wrap64 ((n : Int) - 1) = ((n - 1 : Nat) : Int) := by rw [w64 (by omega) (by omega)]; omega
            have hat1 := show rd_T52 d ((n - 1 : Nat) : Int) = d[n - 1] from rg_nat d (n - 1) hn1
            rw [e3]
            by_cases h3 : d[n].f0 < d[n - 1].f1 + 2
            · rw [decide_eq_false (show ¬ d[n - 1].f1 + 2 ≤ d[n].f0 by omega), Bool.false_and]
              exact Ev.step (G := fun _ => some false) (fun k => by rw [dom_right.l0, if_pos (by omega), if_pos (by omega), if_pos (by omega), hat, dom_value_is', Option.bind_some, if_pos h0, dom_value_is', Option.bind_some, if_pos h1, if_neg h2, if_pos (by omega), e4, if_pos (by omega), if_pos (by omega), hat1, w64 (n := d[n - 1].f1 + 2) (by omega) (by omega), if_pos h3]) (Ev.pure _)
            · rw [decide_eq_true (show d[n - 1].f1 + 2 ≤ d[n].f0 by omega), Bool.true_and]
              exact Ev.step (fun k => by rw [dom_right.l0, if_pos (by omega), if_pos (by omega), if_pos (by omega), hat, dom_value_is', Option.bind_some, if_pos h0, dom_value_is', Option.bind_some, if_pos h1, if_neg h2, if_pos (by omega), e4, if_pos (by omega), if_pos (by omega), hat1, w64 (n := d[n - 1].f1 + 2) (by omega) (by omega), if_neg h3, w1 (by omega)]) hnext
theorem dom_Check_ev (d : List Rg) (hl : d.length < 4611686018427387904) : Ev (fun k => dom_Check.f k d) (checkSpec d) := by
  refine Ev.bind (a := rb (-1048576) d) (by have := right_l0 d hl d.length 0 (by omega) (fun h => by omega); exact this) ?_
  unfold checkSpec
  by_cases h : rb (-1048576) d = true
  · rw [if_pos h]
    simp only [if_pos h]
    refine Ev.bind (Size_ev d (rb_good h) (Int.le_refl _)) ?_
    by_cases h2 : (vals d).length > 4096
    · rw [if_pos h2]; exact Ev.ite_pos (by omega) (Ev.pure _)
    · rw [if_neg h2]; exact Ev.ite_neg (c := ((vals d).length : Int) > 4096) (by omega) (Ev.pure _)
  · rw [if_neg h]
    simp only [if_neg h]
    exact Ev.pure _
theorem ref_Check_l0 (d : List Rg) (hl : d.length < 4611686018427387904) : ∀ (m n : Nat) (s : Int), n + m = d.length → Gd 1048576 (-1048576) (d.take n) → s = (vals (d.take n)).length →
    Ev (fun k => secateurref02_Check.l0 k d s (n : Int)) (if rb (endB (-1048576) (d.take n)) (d.drop n) = true then (if (vals d).length > 4096 then 2 else 0) else 20) := by
  intro m
  induction m with
  | zero =>
    intro n s h hg hs
    rw [drop_nil' h, rb, if_pos rfl]
    rw [List.take_of_length_le (by omega)] at hs
    subst hs
    refine Ev.step (fun k => by rw [secateurref02_Check.l0, if_neg (by omega)]) ?_
    by_cases h2 : (vals d).length > 4096
    · rw [if_pos h2]; exact Ev.ite_pos (by omega) (Ev.pure _)
    · rw [if_neg h2]; exact Ev.ite_neg (c := ((vals d).length : Int) > 4096) (by omega) (Ev.pure _)
  | succ m ih =>
    intro n s h hg hs
    have hn : n < d.length := by omega
    rw [List.drop_eq_getElem_cons hn, rb]
    have hat := show rd_T52 d (n : Int) = d[n] from rg_nat d n hn
    have hvl := vals_length hg
    cases h0 : isVal d[n].f0 with
    | false => exact Ev.step (G := fun _ => some 20) (fun k => by rw [secateurref02_Check.l0, if_pos (by omega), if_pos (by omega), hat, refValue_f, Option.bind_some, if_neg (by rw [h0]; simp)]) (Ev.const (by simp))
    | true =>
      cases h1 : isVal d[n].f1 with
      | false => exact Ev.step (G := fun _ => some 20) (fun k => by rw [secateurref02_Check.l0, if_pos (by omega), if_pos (by omega), hat, refValue_f, Option.bind_some, if_pos h0, refValue_f, Option.bind_some, if_neg (by rw [h1]; simp)]) (Ev.const (by simp))
      | true =>
        have b0 := (isVal_iff _).1 h0
        have b1 := (isVal_iff _).1 h1
        by_cases h2 : d[n].f0 > d[n].f1
        · have hnle : ¬ d[n].f0 ≤ d[n].f1 := by omega
          exact Ev.step (G := fun _ => some 20) (fun k => by rw [secateurref02_Check.l0, if_pos (by omega), if_pos (by omega), hat, refValue_f, Option.bind_some, if_pos h0, refValue_f, Option.bind_some, if_pos h1, if_pos h2]) (Ev.const (by simp [hnle]))
        · have hle : d[n].f0 ≤ d[n].f1 := by omega
          have e : ∀ b, ((true && true && decide (d[n].f0 ≤ d[n].f1) && decide (b ≤ d[n].f0) && rb (d[n].f1 + 2) (d.drop (n + 1)))) = (decide (b ≤ d[n].f0) && rb (d[n].f1 + 2) (d.drop (n + 1))) := fun b => by simp [hle]
          rw [e]
          have hul := upTo_len (d[n].f1 + 1 - d[n].f0).toNat d[n].f0 d[n].f1
          have hv1 : ((vals (d.take (n + 1))).length : Int) = (vals (d.take n)).length + (d[n].f1 - d[n].f0 + 1) := by
            rw [List.take_succ_eq_append_getElem hn, vals_append, List.length_append]
            simp only [vals, List.append_nil]
            omega
          have w2 : wrap64 (s + wrap64 (wrap64 (d[n].f1 - d[n].f0) + 1)) = ((vals (d.take (n + 1))).length : Int) := by
            rw [w64 (n := d[n].f1 - d[n].f0) (by omega) (by omega), w64 (n := d[n].f1 - d[n].f0 + 1) (by omega) (by omega), w64 (n := s + _) (by omega) (by omega)]
            omega
          have hnext : endB (-1048576) (d.take n) ≤ d[n].f0 → _ := fun hh => ih (n + 1) ((vals (d.take (n + 1))).length : Int) (by omega) (by rw [List.take_succ_eq_append_getElem hn]; exact Gd_snoc.2 ⟨hg, hh, hle, b1.2⟩) rfl
          rw [endB_take d n hn] at hnext
          rcases Nat.eq_zero_or_pos n with rfl | hpos
          · have hh : endB (-1048576) (d.take 0) ≤ d[0].f0 := by simp [endB]; omega
            rw [decide_eq_true hh, Bool.true_and]
            exact Ev.step (fun k => by rw [secateurref02_Check.l0, if_pos (by omega), if_pos (by omega), hat, refValue_f, Option.bind_some, if_pos h0, refValue_f, Option.bind_some, if_pos h1, if_neg h2, if_neg (by omega), w2, w1 (by omega)]) (hnext hh)
          · have hn1 : n - 1 < d.length := by omega
            have e3 : endB (-1048576) (d.take n) = d[n - 1].f1 + 2 := by have := endB_take d (n - 1) hn1; rwa [show n - 1 + 1 = n by omega] at this
            have hprev : -1048576 ≤ d[n - 1].f1 ∧ d[n - 1].f1 ≤ 1048576 := by
              have : d.take n = d.take (n - 1) ++ [d[n - 1]] := by have := List.take_succ_eq_append_getElem hn1; rwa [show n - 1 + 1 = n by omega] at this
              rw [this] at hg
              obtain ⟨g1, g2, g3, g4⟩ := Gd_snoc.1 hg
              have := g1.end_ge
              omega
            have e4 : wrap64 ((n : Int) - 1) = ((n - 1 : Nat) : Int) := by rw [w64 (by omega) (by omega)]; omega
            have hat1 := show rd_T52 d ((n - 1 : Nat) : Int) = d[n - 1] from rg_nat d (n - 1) hn1
            rw [e3] at hnext ⊢
            by_cases h3 : d[n].f0 - d[n - 1].f1 < 2
            · rw [decide_eq_false (show ¬ d[n - 1].f1 + 2 ≤ d[n].f0 by omega), Bool.false_and]
              exact Ev.step (G := fun _ => some 20) (fun k => by rw [secateurref02_Check.l0, if_pos (by omega), if_pos (by omega), hat, refValue_f, Option.bind_some, if_pos h0, refValue_f, Option.bind_some, if_pos h1, if_neg h2, if_pos (by omega), e4, if_pos (by omega), if_pos (by omega), hat1, w64 (n := d[n].f0 - d[n - 1].f1) (by omega) (by omega), if_pos h3]) (Ev.const (by simp))
            · rw [decide_eq_true (show d[n - 1].f1 + 2 ≤ d[n].f0 by omega), Bool.true_and]
              exact Ev.step (fun k => by rw [secateurref02_Check.l0, if_pos (by omega), if_pos (by omega), hat, refValue_f, Option.bind_some, if_pos h0, refValue_f, Option.bind_some, if_pos h1, if_neg h2, if_pos (by omega), e4, if_pos (by omega), if_pos (by omega), hat1, w64 (n := d[n].f0 - d[n - 1].f1) (by omega) (by omega), if_neg h3, w2, w1 (by omega)]) (hnext (by omega))
theorem ref_Check_ev (d : List Rg) (hl : d.length < 4611686018427387904) : Ev (fun k => secateurref02_Check.f k d) (checkSpec d) := by
  have := ref_Check_l0 d hl d.length 0 0 (by omega) trivial rfl
  exact this
end Go.Proofs.Ytklanjkndoikeaa.P

/- Plain: sizes of parts; a good list of ranges is a domain to the document, too. -/
namespace Go.Proofs.Ytklanjkndoikeaa.P
open Go.RowKit Go.Proofs.YtklanjkndoikeaaW.PrintWords Go.Proofs.YtklanjkndoikeaaW.PrintLast Go.Proofs.YtklanjkndoikeaaW.PrintMore
set_option linter.unusedVariables false
set_option linter.unusedSimpArgs false

theorem ss_nodup {l : List Int} (h : SS l) : l.Nodup := h.imp (fun h => by omega)
/-- The size of a whole is that of its two parts. -/
theorem size_add {d r s : List Rg} {p q q' : Int → Prop} (hd : DomOf d p) (hr : DomOf r q) (hs : DomOf s q') (e : ∀ v, p v ↔ q v ∨ q' v) (no : ∀ v, q v → q' v → False) : (vals d).length = (vals r).length + (vals s).length := by
  have hn : (vals r ++ vals s).Nodup := List.nodup_append.2 ⟨ss_nodup (vals_ss hr.1), ss_nodup (vals_ss hs.1), fun x hx y hy hxy => by
    subst hxy
    exact no x ((hr.2 x).1 ((mem_vals x r).1 hx)) ((hs.2 x).1 ((mem_vals x s).1 hy))⟩
  have hp : List.Perm (vals d) (vals r ++ vals s) := (List.perm_ext_iff_of_nodup (ss_nodup (vals_ss hd.1)) hn).2 (fun x => by
    rw [List.mem_append, mem_vals, mem_vals, mem_vals, hd.2, hr.2, hs.2]
    exact e x)
  rw [hp.length_eq, List.length_append]
theorem rb_of_good : ∀ {b : Int} {d : List Rg}, Gd 1048576 b d → -1048576 ≤ b → rb b d = true
  | _, [], _, _ => rfl
  | b, x :: d, ⟨h1, h2, h3, h4⟩, hb => by
    simp only [rb, Bool.and_eq_true, decide_eq_true_iff]
    exact ⟨⟨⟨⟨(isVal_iff _).2 ⟨by omega, by omega⟩, (isVal_iff _).2 ⟨by omega, h3⟩⟩, h2⟩, h1⟩, rb_of_good h4 (by omega)⟩
theorem dsm_dom (l : List Int) : DomOf (dsm l) (fun v => Va (dsm l) v) := ⟨dsm_gd l, fun _ => Iff.rfl⟩
theorem one_dom (k : Int) (h : -1048576 ≤ k ∧ k ≤ 1048576) : DomOf [⟨k, k⟩] (fun v => v = k) :=
  ⟨⟨h.1, Int.le_refl _, h.2, trivial⟩, fun v => by simp; omega⟩
theorem none_dom : DomOf [] (fun _ => False) := ⟨trivial, fun v => by simp⟩
theorem same_ev {a b : List Rg} {q q' : Int → Prop} (ha : DomOf a q) (hb : DomOf b q') (e : ∀ v, q v ↔ q' v) : Ev (fun k => dom_Same.f k a b) true := by
  obtain rfl := ha.eq hb e
  exact dom_Same_self a (by have := ha.len; omega)
end Go.Proofs.Ytklanjkndoikeaa.P

namespace Go.Proofs.Ytklanjkndoikeaa.Pure
open Go.RowKit Go.Proofs.Ytklanjkndoikeaa.P
set_option linter.unusedVariables false

theorem DomHoles : secateurlaw02_DomHoles.Pure := by
  intro l0 a1 _ h0 _ _
  have ga := dsm_gd l0
  have hv0 := dsm_vlen l0
  have hk := tmod_small a1 300 (by omega)
  have e300 : ((300 : Nat) : Int) = 300 := rfl
  rw [e300] at hk
  refine Ev.out (F := fun k => secateurlaw02_DomHoles.f k l0 a1) ?_
  unfold secateurlaw02_DomHoles.f
  refine Ev.bind (Small_ev l0 h0) (Ev.bind (Ev.pure _) ?_)
  have dd := dsm_dom l0
  generalize dsm l0 = d at *
  generalize Int.tmod a1 300 = c at *
  have done := one_dom c (by omega)
  obtain ⟨less, e1, d1⟩ := Minus_ev d [⟨c, c⟩] ga done.1
  have hless : ∀ v, Va less v ↔ Va d v ∧ v ≠ c := fun v => by have h9 := d1.2 v; dsimp only at h9; rw [h9, done.2 v]
  have s1 := Size_ev less d1.1 (Int.le_refl _)
  have s2 := Size_ev d ga (Int.le_refl _)
  have hno : dom_Has.f less c = some false := by rw [Has_ev, decide_eq_false]; rw [hless]; exact fun h => h.2 rfl
  have hc : Ev (fun k => dom_Check.f k less) 0 := by
    have := dom_Check_ev less (by have := d1.len; omega)
    have hl : (vals less).length ≤ 4096 := by
      have h1 := size_add dd d1 (s := if Va d c then [⟨c, c⟩] else []) (q' := fun v => Va d c ∧ v = c) (by
        split
        · exact ⟨done.1, fun v => by rw [done.2]; simp [*]⟩
        · exact ⟨trivial, fun v => by simp [*]⟩) (fun v => by
        rw [done.2]
        constructor
        · intro h
          by_cases e : v = c
          · exact .inr ⟨e ▸ h, e⟩
          · exact .inl ⟨h, e⟩
        · rintro (h | ⟨h, rfl⟩)
          · exact h.1
          · exact h) (fun v h1 h2 => by rw [done.2] at h1; exact h1.2 h2.2)
      omega
    unfold checkSpec at this
    rwa [if_pos (rb_of_good d1.1 (Int.le_refl _)), if_neg (by omega)] at this
  refine Ev.bind e1 (Ev.bind (Ev.const (Has_ev d c)) ?_)
  by_cases hh : Va d c
  · obtain ⟨j, e2, d2⟩ := Join_ev less [⟨c, c⟩] d1.1 done.1
    have hsz := size_add dd d1 done (fun v => by
      rw [done.2]
      constructor
      · intro h
        by_cases e : v = c
        · exact .inr e
        · exact .inl ⟨h, e⟩
      · rintro (h | rfl)
        · exact h.1
        · exact hh) (fun v h1 h2 => by rw [done.2] at h1; exact h1.2 h2)
    have h1 : (vals [(⟨c, c⟩ : Rg)]).length = 1 := by
      have : vals [(⟨c, c⟩ : Rg)] = [c] := by
        have hcc : (c + 1 - c).toNat = 1 := by omega
        simp [vals, hcc, upTo]
      rw [this]
      rfl
    refine Ev.ite_pos (decide_eq_true hh) ?_
    refine Ev.step (fun k => by rw [secateurlaw02_DomHoles.j0]) ?_
    refine Ev.bind (Ev.const hno) (Ev.ite_neg (by simp) (Ev.bind s1 (Ev.bind s2 (Ev.ite_pos (by rw [w64 (by omega) (by omega)]; omega) (Ev.ite_neg (by omega) ?_)))))
    exact Ev.bind e2 (Ev.bind (same_ev d2 dd (fun v => by
      try dsimp only
      rw [hless, done.2]
      constructor
      · rintro (h | rfl)
        · exact h.1
        · exact hh
      · intro h
        by_cases e : v = c
        · exact .inr e
        · exact .inl ⟨h, e⟩)) (Ev.ite_pos rfl (Ev.bind hc (Ev.ite_pos rfl (Ev.bind fixed_ev (Ev.pure _))))))
  · have hsz := size_add dd d1 none_dom (fun v => by
      rw [done.2]
      constructor
      · intro h
        exact .inl ⟨h, fun e => hh (e ▸ h)⟩
      · rintro (h | h)
        · exact h.1
        · exact h.elim) (fun v _ h2 => h2)
    have h1 : (vals ([] : List Rg)).length = 0 := rfl
    refine Ev.ite_neg (by simp [hh]) ?_
    refine Ev.step (fun k => by rw [secateurlaw02_DomHoles.j0]) ?_
    exact Ev.bind (Ev.const hno) (Ev.ite_neg (by simp) (Ev.bind s1 (Ev.bind s2 (Ev.ite_pos (by rw [w64 (by omega) (by omega)]; omega) (Ev.ite_pos rfl (Ev.bind hc (Ev.ite_pos rfl (Ev.bind fixed_ev (Ev.pure _)))))))))
end Go.Proofs.Ytklanjkndoikeaa.Pure

-- Written by wip/tools/px.py out of the translation. Lean checks it.
namespace Go.Proofs.Ytklanjkndoikeaa.domHoles
open Go.ChangeShapes Go.WideShapes Go.ChangeAt Go.RowKit
open Go.ChangeMaps (open_string shut_string)
set_option linter.unusedVariables false
theorem own : ownKnob Try.prog.godebug = none := by kernel_rfl
theorem laidOut : laidOutB Try.prog = true := by kernel_rfl
def IsRow (k : IntKind) (w : World) (a : Option Addr) (len cap : Nat) (zs : List Int) : Prop :=
 (a = none ∧ len = 0 ∧ cap = 0 ∧ zs = []) ∨
 ∃ x, a = some x ∧ len ≤ cap ∧ cap ≤ maxLen ∧ zs.length = cap ∧ (∀ i, i < zs.length → w.cell? (x.add i) = some (.int k (zs.getD i 0))) ∧ ∀ n ∈ zs, (Lit.int k n).wf = true
set_option maxRecDepth 100000 in
theorem lifted (os : Os) (started : os.Started) (H : Type) (enc : TypeId × Value → H) :
  ReturnsInHanded {} Try.checked os 12 .any (Rows.domHolesSpec.pre6 enc Try.prog Try.f12 Rows.domHolesRow.domain false) (Rows.domHolesSpec.post enc Try.prog Try.f12 false true false false) := by
 refine returnsInHanded_of_change_sized (C := Try.checked) own started (by kernel_rfl) Try.func12
  (ChangeSpec.witness6 (enc := enc) (C := Try.checked) false ⟨#[], #[.slice none 0 0, .int .i64 0], []⟩ 8 (by kernel_rfl) (by kernel_rfl) (by kernel_rfl) (by kernel_rfl)) ?_
 intro W base args ds gs before hval0 hW hcnd hsz0 _
 have hsz : (DataW.weightsEach Try.prog (Try.f12.params.toList ++ Rows.domHolesSpec.plain.varTypes Try.prog) (ds ++ gs)).all (· ≤ reachBytes) = true := hsz0
 have hval : ∀ (j : Nat) t v, Try.f12.params[j]? = some t → args[j]? = some v → Value.okWide Try.prog W .any base t v := hval0
 have hW' := hW
 obtain ⟨p, q, hA0, hV, rfl, hfz, hnd⟩ := hW
 have hA : DataW.TrodAll enc Try.prog W 0 (fun _ => true) true Try.f12.params.toList args.toList ds p := hA0
 rw [Try.params12] at hA hval hsz
 obtain ⟨v0, vs0, d0, ds0, p0, q0, hargs, rfl, rfl, h0, r0⟩ := trodAll_cons hA
 obtain ⟨v1, vs1, d1, ds1, p1, q1, rfl, rfl, rfl, h1, r1⟩ := trodAll_cons r0
 obtain ⟨rfl, rfl, rfl⟩ := trodAll_nil r1
 obtain rfl : args = #[v0, v1] := by cases args; simp_all
 obtain ⟨rfl, rfl⟩ := trodVars_none hV
 obtain ⟨a0, len0, cap0, rfl⟩ := okWide_slice Try.underlying23 (hval 0 23 v0 rfl rfl)
 have k0 := h0
 have lt0 : ∀ x ∈ p0, x.block < W.heap.size := by obtain ⟨m, hm⟩ := k0; exact DataW.trod_lt m _ _ _ hm
 obtain ⟨z0, w0⟩ : ∃ zs, IsRow .i64 W a0 len0 cap0 zs := by
  obtain ⟨fuel, hf⟩ := h0
  rcases open_ints Try.underlying23 Try.underlying3 (by kernel_rfl) hf with ⟨hcs, _⟩ | ⟨x, l, c, zs, hcs, _, hl, hm, hz, _, hcell, hwz⟩
  ·simp [Value.cells] at hcs
   obtain ⟨rfl, rfl, rfl⟩ := hcs
   exact ⟨[], .inl ⟨rfl, rfl, rfl, rfl⟩⟩
  ·simp [Value.cells] at hcs
   obtain ⟨rfl, rfl, rfl⟩ := hcs
   exact ⟨zs, .inr ⟨_, rfl, hl, hm, by simpa using hz, hcell, hwz⟩⟩
 have y0 : len0 * 8 ≤ 140737488351232 := Go.Proofs.YtklanjkndoikeaaW.PrintWords.sized_ints hsz (j := 0) (t := 23) rfl rfl Try.underlying23 Try.underlying3 (by kernel_rfl) (by kernel_rfl) h0
 obtain ⟨a1, rfl, rfl, rfl, w1⟩ := open_int Try.underlying3 (hval 1 3 v1 rfl rfl) h1
 clear hA0 hval0 hsz0 hsz
 refine (P.secateurlaw02_DomHoles.walk Pure.DomHoles a0 len0 cap0 z0 a1 W w0 y0 w1).mono fun e W' ⟨he, bel⟩ => ?_
 subst he
 exact ⟨_, rfl, _, _, _, [], _, [], hW', trodAll_mk1 (shut_bool Try.underlying4 _), (trodAll_cons_mk (Below.trod laidOut (by kernel_rfl) (of_decide_eq_true (by kernel_rfl)) k0 bel lt0) (trodAll_cons_mk (shut_int Try.underlying3 w1) trodAll_mk0)), rfl, bel.frame _, fun h => by cases h⟩
theorem over : Rows.domHolesRow.holds Try.pinned (OpenSpec.ofChange Rows.domHolesSpec) :=
 OpenClaim.holds_of_wide 12 Try.f12 rfl rfl rfl rfl rfl rfl rfl ⟨rfl, rfl, rfl, rfl, rfl⟩ rfl rfl rfl rfl rfl (by kernel_rfl) Try.func12 (by kernel_rfl)
  (of_decide_eq_true (by kernel_rfl)) (by unfold Func.isWrapper; first | (rw [if_pos (by decide +kernel)]; kernel_rfl) | (rw [if_neg (by decide +kernel)]; exact ⟨rfl, rfl⟩))
  (fun os started H enc _ => lifted os started H enc)
theorem proved : Rows.DomHolesSaid := over
end Go.Proofs.Ytklanjkndoikeaa.domHoles
namespace Go.Proofs.Ytklanjkndoikeaa
/-- The row, under a short name, for the claim. -/
theorem domHoles_holds : Rows.DomHolesSaid := domHoles.proved
end Go.Proofs.Ytklanjkndoikeaa
