/- Proved: the statement GroupCloses. Conditions: none but those of the statement. -/
import Derived.Test.YteopgafbamipeaaZ2
import Derived.Test.YteopgafbamipeaaZ1
import Derived.Lib.SmallJoins
import Derived.Test.YteopgafbamipeaaU1
import Derived.Deep.Slices
import Derived.ChangeArms
import Derived.DataReads
import Derived.SizedLaws
import Derived.Test.YteopgafbamipeaaRows
import Derived.WalkKit
import Derived.ProofKit
import Derived.OpenShut
import Derived.ShutString
import Derived.ChangeOld
import Derived.Below

/- All changes that some make, put behind one another: how many there are, that group.Close tells them, and that those of some of them divide them. -/
namespace Go.Proofs.Yteopgafbamipeaa.P
open Go.RowKit Go.Proofs.YteopgafbamipeaaW.PrintWords Go.Proofs.YteopgafbamipeaaW.PrintLast Go.Proofs.YteopgafbamipeaaW.PrintMore
set_option linter.unusedVariables false
set_option linter.unusedSimpArgs false
namespace G
theorem Zdl {α : Type} [BEq α] [LawfulBEq α] : ∀ (l m : List α), l.Nodup → (∀ x ∈ l, x ∈ m) → l.length ≤ m.length
  | [], m, _, _ => Nat.zero_le _
  | x :: l, m, hd, hs => by
    obtain ⟨h1, h2⟩ := List.nodup_cons.1 hd
    have hx : x ∈ m := hs x List.mem_cons_self
    have := Zdl l (m.erase x) h2 (fun y hy => (List.mem_erase_of_ne (fun (e : y = x) => h1 (e ▸ hy))).2 (hs y (List.mem_cons_of_mem _ hy)))
    rw [List.length_erase_of_mem hx] at this
    have hp : 0 < m.length := List.length_pos_of_mem hx
    rw [List.length_cons]
    omega
def enc : List Int → Nat
  | [] => 0
  | x :: l => x.toNat + 7 * enc l
theorem enc_lt : ∀ (l : List Int), (∀ x ∈ l, 0 ≤ x ∧ x < 7) → enc l < 7 ^ l.length
  | [], _ => by simp [enc]
  | x :: l, h => by
    have ih := enc_lt l (fun y hy => h y (List.mem_cons_of_mem _ hy))
    have hx := h x List.mem_cons_self
    rw [enc, List.length_cons, Nat.pow_succ]
    omega
theorem enc_inj : ∀ (l m : List Int), l.length = m.length → (∀ x ∈ l, 0 ≤ x ∧ x < 7) → (∀ x ∈ m, 0 ≤ x ∧ x < 7) → enc l = enc m → l = m
  | [], [], _, _, _, _ => rfl
  | x :: l, y :: m, hl, h1, h2, e => by
    have hx := h1 x List.mem_cons_self
    have hy := h2 y List.mem_cons_self
    rw [enc, enc] at e
    have e1 : x = y := by omega
    have e2 : enc l = enc m := by omega
    rw [e1, enc_inj l m (by simpa using hl) (fun z hz => h1 z (List.mem_cons_of_mem _ hz)) (fun z hz => h2 z (List.mem_cons_of_mem _ hz)) e2]
  | [], y :: m, hl, _, _, _ => by simp at hl
  | x :: l, [], hl, _, _, _ => by simp at hl
/-- A change of n places. -/
def Ch (n : Nat) (x : List Int) : Prop := Rt x ∧ x.length = n
theorem Ch.dig {n : Nat} {x : List Int} (h : Ch n x) (hn : n ≤ 7) : ∀ v ∈ x, 0 ≤ v ∧ v < 7 := fun v hv => by
  have := (h.1.mem v).1 hv
  have := h.2
  omega
theorem few {n : Nat} (hn : n ≤ 7) {L : List (List Int)} (hd : L.Nodup) (hp : ∀ x ∈ L, Ch n x) : L.length ≤ 823543 := by
  have h1 : (L.map enc).Nodup := by
    refine List.pairwise_map.2 ((List.Pairwise.imp_of_mem ?_ hd))
    intro a b ha hb hne e
    exact hne (enc_inj a b ((hp a ha).2.trans (hp b hb).2.symm) ((hp a ha).dig hn) ((hp b hb).dig hn) e)
  have h2 := Zdl (L.map enc) (List.range 823543) h1 (fun y hy => by
    obtain ⟨x, hx, rfl⟩ := List.mem_map.1 hy
    have h3 := enc_lt x ((hp x hx).dig hn)
    have h4 : 7 ^ x.length ≤ 7 ^ 7 := Nat.pow_le_pow_right (by decide) (by rw [(hp x hx).2]; exact hn)
    exact List.mem_range.2 (by omega))
  rw [List.length_map, List.length_range] at h2
  exact h2
/-- What comes of the one that changes nothing, and of l. -/
inductive Gen (l : List (List Int)) (n : Nat) : List Int → Prop
  | one : Gen l n (ids n)
  | mul {x p : List Int} : Gen l n x → p ∈ l → Gen l n (comp x p)
theorem Ch.comp {n : Nat} {x p : List Int} (hx : Ch n x) (hp : Ch n p) : Ch n (G.comp x p) := ⟨Ze1 hx.1 hp.1 (hx.2.trans hp.2.symm), by rw [Zb]; exact hx.2⟩
theorem Ch.ids (n : Nat) : Ch n (G.ids n) := ⟨ids_Rt n, Zbr n⟩
section
variable {l : List (List Int)} {n : Nat} (hl : ∀ p ∈ l, Ch n p)
include hl
theorem Gen.ch {x : List Int} (h : Gen l n x) : Ch n x := by
  induction h with
  | one => exact Ch.ids n
  | mul _ hp ih => exact ih.comp (hl _ hp)
omit hl in
theorem assoc' {x y z : List Int} (hx : Ch n x) (hy : Ch n y) : comp (comp x y) z = comp x (comp y z) := comp_assoc hx.1 (hx.2.trans hy.2.symm)
theorem Gen.of {p : List Int} (hp : p ∈ l) : Gen l n p := by
  have := Gen.mul (Gen.one (l := l) (n := n)) hp
  rwa [ids_comp (hl p hp).2] at this
theorem Gen.behind {x y : List Int} (hx : Gen l n x) (hy : Gen l n y) : Gen l n (comp x y) := by
  induction hy with
  | one => rw [comp_ids (hx.ch hl).1 (hx.ch hl).2]; exact hx
  | mul hy hp ih =>
    rw [← assoc' (hx.ch hl) (hy.ch hl)]
    exact ih.mul hp
end
theorem Gen.mono {l m : List (List Int)} {n : Nat} (h : ∀ p ∈ l, p ∈ m) {x : List Int} (hx : Gen l n x) : Gen m n x := by
  induction hx with
  | one => exact Gen.one
  | mul _ hp ih => exact ih.mul (h _ hp)
theorem Zdq (x : List Int) : ∀ (l out : List (List Int)), out.Nodup → (Za7 x l out).Nodup
  | [], out, h => h
  | p :: l, out, h => by
    unfold Za7
    refine Zdq x l _ ?_
    split
    · exact h
    rename_i hn
    refine List.nodup_append.2 ⟨h, by simp, fun a ha b hb => ?_⟩
    obtain rfl := List.mem_singleton.1 hb
    exact fun e => hn (e ▸ ha)
theorem cl_loop_ev {l : List (List Int)} {n : Nat} (hn : n ≤ 7) (hl : ∀ p ∈ l, Ch n p) : ∀ (d i : Nat) (out : List (List Int)), d + i = 823544 → out.Nodup → (∀ x ∈ out, Gen l n x) → ids n ∈ out → (∀ j (hj : j < out.length), j < i → ∀ p ∈ l, comp out[j] p ∈ out) → i ≤ out.length →
    ∃ res, Ev (fun k => Zbx l k i out) res ∧ res.Nodup ∧ ∀ x, x ∈ res ↔ Gen l n x := by
  intro d
  induction d with
  | zero =>
    intro i out hd hnd hg hi hc hio
    have := few hn hnd (fun x hx => (hg x hx).ch hl)
    omega
  | succ d ih =>
    intro i out hd hnd hg hi hc hio
    by_cases hlt : i < out.length
    rotate_left
    · refine ⟨out, Ev.step (G := fun _ => some out) (fun k => by rw [Zbx, dif_neg hlt]) (Ev.const rfl), hnd, fun x => ⟨hg x, fun hx => ?_⟩⟩
      induction hx with
      | one => exact hi
      | mul _ hp ih2 =>
        obtain ⟨j, hj, rfl⟩ := List.mem_iff_getElem.1 ih2
        exact hc j hj (by omega) _ hp
    have hg' : ∀ x ∈ Za7 out[i] l out, Gen l n x := fun x hx => by
      rcases (Zbw out[i] x l out).1 hx with h | ⟨p, hp, rfl⟩
      · exact hg x h
      exact (hg _ (List.getElem_mem hlt)).mul hp
    have hnd' := Zdq out[i] l out hnd
    have hfew := few hn hnd' (fun x hx => (hg' x hx).ch hl)
    have hlen := Zcq out[i] l out
    obtain ⟨res, h1, h2⟩ := ih (i + 1) (Za7 out[i] l out) (by omega) hnd' hg' ((Zbw _ _ _ _).2 (.inl hi)) (fun j hj hji p hp => by
      have hjo : j < out.length := by omega
      have e : (Za7 out[i] l out)[j] = out[j] := by
        have := Zdc out[i] l out j hjo
        rw [List.getElem?_eq_getElem hj, List.getElem?_eq_getElem hjo] at this
        exact Option.some.inj this
      rw [e]
      by_cases hjj : j < i
      · exact (Zbw _ _ _ _).2 (.inl (hc j hjo hjj p hp))
      obtain rfl : j = i := by omega
      exact (Zbw _ _ _ _).2 (.inr ⟨p, hp, rfl⟩)) (by omega)
    exact ⟨res, Ev.step (fun k => by rw [Zbx, dif_pos hlt, if_pos (by omega)]) h1, h2⟩
/-- The list of all that l makes. -/
def IsCl (l : List (List Int)) (n : Nat) (g : List (List Int)) : Prop := SSL g ∧ ∀ x, x ∈ g ↔ Gen l n x
theorem IsCl.uniq {l m : List (List Int)} {n : Nat} {g h : List (List Int)} (hg : IsCl l n g) (hh : IsCl m n h) (hlm : ∀ p, p ∈ l ↔ p ∈ m) : g = h :=
  SSL.ext hg.1 hh.1 (fun x => (hg.2 x).trans (Iff.trans ⟨fun h => h.mono (fun p hp => (hlm p).1 hp), fun h => h.mono (fun p hp => (hlm p).2 hp)⟩ (hh.2 x).symm))
theorem Zco {g : List (List Int)} (h : SSL g) : g.Nodup := h.imp (fun {a b} hab e => by subst e; rw [Zbm] at hab; cases hab)
theorem IsCl.few {l : List (List Int)} {n : Nat} {g : List (List Int)} (hg : IsCl l n g) (hn : n ≤ 7) (hl : ∀ p ∈ l, Ch n p) : g.length ≤ 823543 := G.few hn (Zco hg.1) (fun x hx => ((hg.2 x).1 hx).ch hl)
theorem cl_ok_ch {l : List (List Int)} {n : Nat} (h : Zc5 l n = true) : ∀ p ∈ l, Ch n p := fun p hp => by
  have := List.all_eq_true.1 h p hp
  simp only [Bool.and_eq_true, decide_eq_true_iff] at this
  exact ⟨Zb9.1 this.2, by omega⟩
theorem cl_ok_of {l : List (List Int)} {n : Nat} (h : ∀ p ∈ l, Ch n p) : Zc5 l n = true := by
  unfold Zc5
  rw [List.all_eq_true]
  intro p hp
  rw [Bool.and_eq_true, decide_eq_true_iff]
  exact ⟨by have := (h p hp).2; omega, Zb9.2 (h p hp).1⟩
theorem close_ok {l : List (List Int)} {n : Nat} (hn : n ≤ 7) (hl : ∀ p ∈ l, Ch n p) : ∃ g, IsCl l n g ∧ Ev (fun k => Za4.f k l (n : Int)) (g, 0) := by
  obtain ⟨res, h1, h2, h3⟩ := cl_loop_ev hn hl 823544 0 [ids n] (by omega) (by simp) (fun x hx => by rw [List.mem_singleton.1 hx]; exact Gen.one) (by simp) (fun j _ hj => absurd hj (Nat.not_lt_zero _)) (Nat.zero_le _)
  have hf := few hn h2 (fun x hx => ((h3 x).1 hx).ch hl)
  refine ⟨sdL res, ⟨Zfj res, fun x => (Zcn x res).trans (h3 x)⟩, ?_⟩
  refine Ev.eq (G := fun k => (Zbx l k 0 [ids n]).bind fun out => (Za8.f out).map fun s => (s, 0)) (fun k => by rw [Za4.f, if_neg (by omega), if_pos (cl_ok_of hl), Int.toNat_natCast]) ?_
  refine Ev.bind h1 (Ev.const ?_)
  rw [sorted_some (by omega) (fun x hx => by have := (((h3 x).1 hx).ch hl).2; omega)]
  rfl
theorem close_no {l : List (List Int)} {n : Int} (h : n < 0 ∨ 7 < n ∨ Zc5 l n = false) : Ev (fun k => Za4.f k l n) ([], 1) := by
  refine Ev.eq (G := fun _ => some ([], 1)) (fun k => ?_) (Ev.const rfl)
  unfold Za4.f
  split
  · rfl
  rename_i hc
  rw [if_neg]
  rcases h with h | h | h
  · omega
  · omega
  rw [h]; simp
/-! ### Those of some of them divide them -/
theorem inv_in {l : List (List Int)} {n : Nat} (hn : n ≤ 7) (hl : ∀ p ∈ l, Ch n p) {g : List (List Int)} (hg : IsCl l n g) {x : List Int} (hx : x ∈ g) : ∃ y ∈ g, comp x y = ids n := by
  have hxc := ((hg.2 x).1 hx).ch hl
  have h1 : (g.map (comp x)).Nodup := by
    refine List.pairwise_map.2 ((List.Pairwise.imp_of_mem ?_ (Zco hg.1)))
    intro a b ha hb hne e
    refine hne (Zel ((((hg.2 a).1 ha).ch hl).2.trans (((hg.2 b).1 hb).ch hl).2.symm) fun i hi => ?_)
    have hac := ((hg.2 a).1 ha).ch hl
    obtain ⟨j, hj, hji⟩ := Zf0 (hxc.1 i (by have := hxc.2; have := hac.2; omega))
    have : rd (comp x a) (j : Int) = rd (comp x b) (j : Int) := congrArg (fun q => rd q (j : Int)) e
    rw [Zb0 hj, Zb0 hj, hji] at this
    exact this
  have h2 : ∀ y ∈ g.map (comp x), y ∈ g := fun y hy => by
    obtain ⟨z, hz, rfl⟩ := List.mem_map.1 hy
    exact (hg.2 _).2 (((hg.2 x).1 hx).behind hl ((hg.2 z).1 hz))
  have h3 : ids n ∈ g.map (comp x) := by
    refine Decidable.byContradiction fun hno => ?_
    have h4 := Zdl (ids n :: g.map (comp x)) g (List.nodup_cons.2 ⟨hno, h1⟩) (fun y hy => by
      rcases List.mem_cons.1 hy with rfl | hy
      · exact (hg.2 _).2 Gen.one
      exact h2 y hy)
    rw [List.length_cons, List.length_map] at h4
    omega
  obtain ⟨y, hy, e⟩ := List.mem_map.1 h3
  exact ⟨y, hy, e⟩
theorem split_len {α : Type} (p : α → Bool) : ∀ l : List α, (l.filter p).length + (l.filter fun x => !p x).length = l.length
  | [] => rfl
  | x :: l => by
    have ih := split_len p l
    cases h : p x <;> simp [List.filter_cons, h] <;> omega
theorem filter_out {α : Type} [BEq α] [LawfulBEq α] : ∀ (R C : List α), R.Nodup → C.Nodup → (∀ x ∈ C, x ∈ R) → (R.filter fun x => !C.contains x).length + C.length = R.length := by
  intro R C hR hC hs
  have h1 : (R.filter fun x => C.contains x).length = C.length := by
    refine Nat.le_antisymm (Zdl _ _ (hR.filter _) (fun x hx => by simpa using (List.mem_filter.1 hx).2)) (Zdl _ _ hC (fun x hx => List.mem_filter.2 ⟨hs x hx, by simpa using hx⟩))
  have h2 := split_len (fun x => C.contains x) R
  omega
theorem cosets {l : List (List Int)} {n : Nat} (hn : n ≤ 7) (hl : ∀ p ∈ l, Ch n p) {H : List (List Int)} (hH : IsCl l n H) : ∀ (d : Nat) (R : List (List Int)), R.length ≤ d → R.Nodup → (∀ x ∈ R, Ch n x) → (∀ x ∈ R, ∀ h ∈ H, comp x h ∈ R) → R.length % H.length = 0
  | 0, R, hd, _, _, _ => by
    have : R.length = 0 := by omega
    rw [this, Nat.zero_mod]
  | d + 1, [], _, _, _, _ => Nat.zero_mod _
  | d + 1, x :: R0, hd, hnd, hch, hcl => by
    have hmx : x ∈ x :: R0 := List.mem_cons_self
    generalize x :: R0 = R at *
    have hxc := hch x hmx
    have hcd : (H.map (comp x)).Nodup := by
      refine List.pairwise_map.2 ((List.Pairwise.imp_of_mem ?_ (Zco hH.1)))
      intro a b ha hb hne e
      refine hne (Zel ((((hH.2 a).1 ha).ch hl).2.trans (((hH.2 b).1 hb).ch hl).2.symm) fun i hi => ?_)
      have hac := ((hH.2 a).1 ha).ch hl
      obtain ⟨j, hj, hji⟩ := Zf0 (hxc.1 i (by have := hxc.2; have := hac.2; omega))
      have : rd (comp x a) (j : Int) = rd (comp x b) (j : Int) := congrArg (fun q => rd q (j : Int)) e
      rw [Zb0 hj, Zb0 hj, hji] at this
      exact this
    have hcs : ∀ y ∈ H.map (comp x), y ∈ R := fun y hy => by
      obtain ⟨h, hh, rfl⟩ := List.mem_map.1 hy
      exact hcl x hmx h hh
    have hlen := filter_out R (H.map (comp x)) hnd hcd hcs
    rw [List.length_map] at hlen
    have hpos : 0 < H.length := List.length_pos_of_mem ((hH.2 _).2 Gen.one)
    have ih := cosets hn hl hH d (R.filter fun y => !(H.map (comp x)).contains y) (by omega) (hnd.filter _) (fun y hy => hch y (List.mem_filter.1 hy).1) (fun y hy h hh => by
      obtain ⟨hyR, hyC⟩ := List.mem_filter.1 hy
      refine List.mem_filter.2 ⟨hcl y hyR h hh, ?_⟩
      rw [Bool.not_eq_true'] at hyC ⊢
      cases hc : (H.map (comp x)).contains (comp y h)
      · rfl
      exfalso
      rw [List.contains_iff_mem] at hc
      obtain ⟨h', hh', e⟩ := List.mem_map.1 hc
      obtain ⟨z, hz, hhz⟩ := inv_in hn hl hH hh
      have hyc := hch y hyR
      have hhc := ((hH.2 h).1 hh).ch hl
      have hh'c := ((hH.2 h').1 hh').ch hl
      have e2 : comp x (comp h' z) = y := by
        rw [← assoc' hxc hh'c, e, assoc' hyc hhc, hhz, comp_ids hyc.1 hyc.2]
      have hm : y ∈ H.map (comp x) := List.mem_map.2 ⟨comp h' z, (hH.2 _).2 (((hH.2 h').1 hh').behind hl ((hH.2 z).1 hz)), e2⟩
      rw [← List.contains_iff_mem, hyC] at hm
      cases hm)
    rw [← hlen, Nat.add_mod_right]
    exact ih
theorem divides {l m : List (List Int)} {n : Nat} (hn : n ≤ 7) (hl : ∀ p ∈ l, Ch n p) (hm : ∀ p ∈ m, p ∈ l) {g h : List (List Int)} (hg : IsCl l n g) (hh : IsCl m n h) : g.length % h.length = 0 :=
  cosets hn (fun p hp => hl p (hm p hp)) hh g.length g (Nat.le_refl _) (Zco hg.1) (fun x hx => ((hg.2 x).1 hx).ch hl) (fun x hx y hy => (hg.2 _).2 (((hg.2 x).1 hx).behind hl (((hh.2 y).1 hy).mono hm)))
end G
end Go.Proofs.Yteopgafbamipeaa.P
namespace Go.Proofs.Yteopgafbamipeaa.P
open Go.RowKit Go.Proofs.YteopgafbamipeaaW.PrintWords Go.Proofs.YteopgafbamipeaaW.PrintLast Go.Proofs.YteopgafbamipeaaW.PrintMore
attribute [local go_sem] Zb4 Zb6 Zcg Zch Zbs Zbt Zb5 Zb7
set_option linter.unusedVariables false
set_option linter.unusedSimpArgs false
/-! ### Zaj: function 38 -/
mutual
def Zaj.l0 : Nat → List Int → List Int → Int → Option (Int)
 | 0, _, _, _ => none
 | k + 1, x0, x1, x5 => if x5 < (x0.length : Int) then (Zaj.j1 k x0 x1 x5 (decide (x5 < (x1.length : Int)))) else (Zaj.j1 k x0 x1 x5 false)
def Zaj.j1 : Nat → List Int → List Int → Int → Bool → Option (Int)
 | 0, _, _, _, _ => none
 | k + 1, x0, x1, x5, x15 => if x15 = true then (if 0 ≤ x5 then (if x5 < (x0.length : Int) then (if x5 < (x1.length : Int) then (if (rd x0 x5) < (rd x1 x5) then (some (-1)) else (if (rd x0 x5) > (rd x1 x5) then (some 1) else (Zaj.l0 k x0 x1 (wrap64 (x5 + 1))))) else (none)) else (none)) else (none)) else (if (x0.length : Int) < (x1.length : Int) then (some (-1)) else (if (x0.length : Int) > (x1.length : Int) then (some 1) else (some 0)))
end
def Zaj.f (k : Nat) (l0 : List Int) (l1 : List Int) : Option (Int) := Zaj.l0 k l0 l1 0
theorem Zaj.Za6 : ∀ k, (∀ y0 y1 y2, LeO (Zaj.l0 k y0 y1 y2) (Zaj.l0 (k + 1) y0 y1 y2)) ∧ (∀ y0 y1 y2 y3, LeO (Zaj.j1 k y0 y1 y2 y3) (Zaj.j1 (k + 1) y0 y1 y2 y3))
 | 0 => ⟨fun _ _ _ r h => by simp [Zaj.l0] at h, fun _ _ _ _ r h => by simp [Zaj.j1] at h⟩
 | k + 1 => by
  obtain ⟨ih0, ih1⟩ := Zaj.Za6 k
  refine ⟨?_, ?_⟩
  ·intro y0 y1 y2
   unfold Zaj.l0
   repeat' first
   | (with_reducible exact ih0 _ _ _)
   | (with_reducible exact ih1 _ _ _ _)
   | (with_reducible exact LeO.refl _)
   | (with_reducible exact LeO.none _)
   | (with_reducible refine LeO.ite ?_ ?_)
   | (with_reducible refine LeO.bind ?_ (fun _ => ?_))
   | exact ih0 _ _ _
   | exact ih1 _ _ _ _
   | exact LeO.none _
   | refine LeO.ite ?_ ?_
   | refine LeO.bind ?_ (fun _ => ?_)
  intro y0 y1 y2 y3
  unfold Zaj.j1
  repeat' first
  | (with_reducible exact ih0 _ _ _)
  | (with_reducible exact ih1 _ _ _ _)
  | (with_reducible exact LeO.refl _)
  | (with_reducible exact LeO.none _)
  | (with_reducible refine LeO.ite ?_ ?_)
  | (with_reducible refine LeO.bind ?_ (fun _ => ?_))
  | exact ih0 _ _ _
  | exact ih1 _ _ _ _
  | exact LeO.none _
  | refine LeO.ite ?_ ?_
  | refine LeO.bind ?_ (fun _ => ?_)
theorem Zaj.mono : ∀ a0 a1 k, LeO (Zaj.f k a0 a1) (Zaj.f (k + 1) a0 a1) := by
 intro a0 a1 k
 obtain ⟨ih0, ih1⟩ := Zaj.Za6 k
 unfold Zaj.f
 repeat' first
   | (with_reducible exact ih0 _ _ _)
   | (with_reducible exact ih1 _ _ _ _)
   | (with_reducible exact LeO.refl _)
   | (with_reducible exact LeO.none _)
   | (with_reducible refine LeO.ite ?_ ?_)
   | (with_reducible refine LeO.bind ?_ (fun _ => ?_))
   | exact ih0 _ _ _
   | exact ih1 _ _ _ _
   | exact LeO.none _
   | refine LeO.ite ?_ ?_
   | refine LeO.bind ?_ (fun _ => ?_)
set_option maxHeartbeats 8000000 in
set_option maxRecDepth 100000 in
theorem Zaj.calls (k : Nat) (A0 : Option Addr) (c0 : Nat) (l0 : List Int) (A1 : Option Addr) (c1 : Nat) (l1 : List Int) (r : Int) (w : World) (hr0 : Kd.C (Kd.int .i64) w A0 l0.length l0) (hc0 : l0.length ≤ c0) (hr1 : Kd.C (Kd.int .i64) w A1 l1.length l1) (hc1 : l1.length ≤ c1) (h : Zaj.f k l0 l1 = some r) :
  Calls Try.prog 38 #[.slice A0 l0.length c0, .slice A1 l1.length c1] w fun e w' => e = .returned (.int .i64 r) ∧ Zat w w' := by
 have HR0 := Zaa.mk hr0
 have HC0 := Zaa.mk hc0
 clear hr0 hc0
 have HR1 := Zaa.mk hr1
 have HC1 := Zaa.mk hc1
 clear hr1 hc1
 have H : (Zaj.l0 k l0 l1 0) = some r := h
 clear h
 have H' := Zaa.mk H
 clear H
 go_enter Try.func38, Try.ntmps38
 go_wp2
 repeat (go_quiet (fail); try go_wp2)
 go_loopg [5] k (fun kq v5 w' => ∃ (x5_1 : Int), v5 = .int .i64 x5_1 ∧ Zaa (Zaj.l0 kq l0 l1 x5_1 = some r) ∧ Zaa (kq ≤ k) ∧ Zat w w')
 case atStart => exact ⟨(0), (by first | rfl | (simp; done) | (simp [*]; done)), H', ⟨Nat.le_refl _⟩, by repeat (first | exact Zat.refl _ | apply Zat.step)⟩
 case round =>
  clear H'
  try clear c1
  try clear p2
  obtain ⟨x5_1, rfl, HA, HK1, ⟨m1, rfl⟩⟩ := hrel
  cases gk with
  | zero => exact absurd HA.out (by simp [Zaj.l0])
  | succ k1 =>
   have H := HA.out
   clear HA
   simp only [Zaj.l0] at H
   have HC3 := Zaa.mk H
   clear H
   go_upto_region 2 with (fail)
   repeat (go_quiet (fail); go_upto_region 2 with (fail))
   go_cut [15] (fun v15 wc => ∃ (kq : Nat) (x15_2 : Bool), v15 = .bool x15_2 ∧ Zaa (Zaj.j1 kq l0 l1 x5_1 x15_2 = some r) ∧ Zaa (kq ≤ k1) ∧ Zat w wc)
   case first =>
    have H := HC3.out
    clear HC3
    by_cases c4 : x5_1 < (l0.length : Int)
    rotate_left
    ·rw [if_neg c4] at H
     have c4b0 : decide (x5_1 < (l0.length : Int)) = false := decide_eq_false c4
     clear c4
     (first | rw [c4b0] | (simp only [Zbe, Zbg]; rw [c4b0]) | skip)
     have H' := Zaa.mk H
     clear H
     go_wp2
     repeat (go_quiet (fail); try go_wp2)
     go_meet
     case rel => exact ⟨_, (false), (by first | rfl | (simp; done) | (simp [*]; done)), H', ⟨by have := HK1.out; first | omega | exact Nat.le_refl _⟩, by repeat (first | exact Zat.refl _ | apply Zat.step)⟩
    rw [if_pos c4] at H
    have c4b0 : decide (x5_1 < (l0.length : Int)) = true := decide_eq_true c4
    clear c4
    (first | rw [c4b0] | (simp only [Zbe, Zbg]; rw [c4b0]) | skip)
    have H' := Zaa.mk H
    clear H
    go_wp2
    repeat (go_quiet (fail); try go_wp2)
    go_meet
    case rel => exact ⟨_, (decide (x5_1 < (l1.length : Int))), (by first | rfl | (simp; done) | (simp [*]; done)), H', ⟨by have := HK1.out; first | omega | exact Nat.le_refl _⟩, by repeat (first | exact Zat.refl _ | apply Zat.step)⟩
   case rest =>
    clear HC3
    try clear c1
    try clear p2
    try clear c3
    try clear c4
    try clear c4b0
    try clear p2
    obtain ⟨kq, x15_2, rfl, HA, HJ2, ⟨mc2, rfl⟩⟩ := hcut
    cases kq with
    | zero => exact absurd HA.out (by simp [Zaj.j1])
    | succ kj2 =>
     have H := HA.out
     clear HA
     simp only [Zaj.j1] at H
     by_cases c5 : x15_2 = true
     rotate_left
     ·replace c5 := Bool.eq_false_iff.mpr c5
      subst c5
      have H1 : (if (l0.length : Int) < (l1.length : Int) then (some (-1)) else (if (l0.length : Int) > (l1.length : Int) then (some 1) else (some 0))) = some r := by rw [if_neg (show ¬ (false = true) by decide)] at H; exact H
      clear H
      have H := H1
      clear H1
      by_cases c11 : (l0.length : Int) < (l1.length : Int)
      ·rw [if_pos c11] at H
       have c11b0 : decide ((l0.length : Int) < (l1.length : Int)) = true := decide_eq_true c11
       have c11b1 : decide (l0.length < l1.length) = true := decide_eq_true (Int.ofNat_lt.mp c11)
       clear c11
       obtain rfl := Option.some.inj H
       go_wp2
       repeat (go_quiet (fail); try go_wp2)
       go_ret
       exact ⟨by first | rfl | (simp; done) | (simp [*]; done), by repeat (first | exact Zat.refl _ | apply Zat.step)⟩
      rw [if_neg c11] at H
      have c11b0 : decide ((l0.length : Int) < (l1.length : Int)) = false := decide_eq_false c11
      have c11b1 : decide (l0.length < l1.length) = false := decide_eq_false (fun h => c11 (Int.ofNat_lt.mpr h))
      clear c11
      by_cases c12 : (l0.length : Int) > (l1.length : Int)
      ·rw [if_pos c12] at H
       have c12b0 : decide ((l1.length : Int) < (l0.length : Int)) = true := decide_eq_true c12
       have c12b1 : decide (l1.length < l0.length) = true := decide_eq_true (Int.ofNat_lt.mp c12)
       clear c12
       obtain rfl := Option.some.inj H
       go_wp2
       repeat (go_quiet (fail); try go_wp2)
       go_ret
       exact ⟨by first | rfl | (simp; done) | (simp [*]; done), by repeat (first | exact Zat.refl _ | apply Zat.step)⟩
      rw [if_neg c12] at H
      have c12b0 : decide ((l1.length : Int) < (l0.length : Int)) = false := decide_eq_false c12
      have c12b1 : decide (l1.length < l0.length) = false := decide_eq_false (fun h => c12 (Int.ofNat_lt.mpr h))
      clear c12
      obtain rfl := Option.some.inj H
      go_wp2
      repeat (go_quiet (fail); try go_wp2)
      go_ret
      exact ⟨by first | rfl | (simp; done) | (simp [*]; done), by repeat (first | exact Zat.refl _ | apply Zat.step)⟩

     subst c5
     have H1 : (if 0 ≤ x5_1 then (if x5_1 < (l0.length : Int) then (if x5_1 < (l1.length : Int) then (if (rd l0 x5_1) < (rd l1 x5_1) then (some (-1)) else (if (rd l0 x5_1) > (rd l1 x5_1) then (some 1) else (Zaj.l0 kj2 l0 l1 (wrap64 (x5_1 + 1))))) else (none)) else (none)) else (none)) = some r := by rw [if_pos rfl] at H; exact H
     clear H
     have H := H1
     clear H1
     by_cases c6 : 0 ≤ x5_1
     rotate_left
     ·rw [if_neg c6] at H
      exact absurd H (by simp)
     rw [if_pos c6] at H
     have c6b0 : decide (0 ≤ x5_1) = true := decide_eq_true c6
     clear c6
     by_cases c7 : x5_1 < (l0.length : Int)
     rotate_left
     ·rw [if_neg c7] at H
      exact absurd H (by simp)
     rw [if_pos c7] at H
     have c7b0 : decide (x5_1 < (l0.length : Int)) = true := decide_eq_true c7
     clear c7
     by_cases c8 : x5_1 < (l1.length : Int)
     rotate_left
     ·rw [if_neg c8] at H
      exact absurd H (by simp)
     rw [if_pos c8] at H
     have c8b0 : decide (x5_1 < (l1.length : Int)) = true := decide_eq_true c8
     clear c8
     by_cases c9 : (rd l0 x5_1) < (rd l1 x5_1)
     ·rw [if_pos c9] at H
      have c9b0 : decide ((rd l0 x5_1) < (rd l1 x5_1)) = true := decide_eq_true c9
      clear c9
      obtain rfl := Option.some.inj H
      have p241 : 0 ≤ (x5_1 : Int) := of_decide_eq_true (by first | (with_reducible assumption) | assumption)
      have q241 : x5_1 < (l0.length : Int) := of_decide_eq_true (by first | (with_reducible assumption) | assumption)
      obtain ⟨ad241, e241, hx241_0⟩ := Kd.Zbi HR0.out x5_1 p241 q241
      cases e241
      replace p241 := eq_true p241
      replace q241 := eq_true q241
      have p242 : 0 ≤ (x5_1 : Int) := of_decide_eq_true (by first | (with_reducible assumption) | assumption)
      have q242 : x5_1 < (l1.length : Int) := of_decide_eq_true (by first | (with_reducible assumption) | assumption)
      obtain ⟨ad242, e242, hx242_0⟩ := Kd.Zbi HR1.out x5_1 p242 q242
      cases e242
      replace p242 := eq_true p242
      replace q242 := eq_true q242
      go_wp2
      repeat (go_quiet (fail); try go_wp2)
      go_ret
      exact ⟨by first | rfl | (simp; done) | (simp [*]; done), by repeat (first | exact Zat.refl _ | apply Zat.step)⟩
     rw [if_neg c9] at H
     have c9b0 : decide ((rd l0 x5_1) < (rd l1 x5_1)) = false := decide_eq_false c9
     clear c9
     by_cases c10 : (rd l0 x5_1) > (rd l1 x5_1)
     ·rw [if_pos c10] at H
      have c10b0 : decide ((rd l1 x5_1) < (rd l0 x5_1)) = true := decide_eq_true c10
      clear c10
      obtain rfl := Option.some.inj H
      have p241 : 0 ≤ (x5_1 : Int) := of_decide_eq_true (by first | (with_reducible assumption) | assumption)
      have q241 : x5_1 < (l0.length : Int) := of_decide_eq_true (by first | (with_reducible assumption) | assumption)
      obtain ⟨ad241, e241, hx241_0⟩ := Kd.Zbi HR0.out x5_1 p241 q241
      cases e241
      replace p241 := eq_true p241
      replace q241 := eq_true q241
      have p242 : 0 ≤ (x5_1 : Int) := of_decide_eq_true (by first | (with_reducible assumption) | assumption)
      have q242 : x5_1 < (l1.length : Int) := of_decide_eq_true (by first | (with_reducible assumption) | assumption)
      obtain ⟨ad242, e242, hx242_0⟩ := Kd.Zbi HR1.out x5_1 p242 q242
      cases e242
      replace p242 := eq_true p242
      replace q242 := eq_true q242
      have p243 : 0 ≤ (x5_1 : Int) := of_decide_eq_true (by first | (with_reducible assumption) | assumption)
      have q243 : x5_1 < (l0.length : Int) := of_decide_eq_true (by first | (with_reducible assumption) | assumption)
      obtain ⟨ad243, e243, hx243_0⟩ := Kd.Zbi HR0.out x5_1 p243 q243
      obtain rfl : ad241 = ad243 := (by injection e243)
      replace p243 := eq_true p243
      replace q243 := eq_true q243
      have p244 : 0 ≤ (x5_1 : Int) := of_decide_eq_true (by first | (with_reducible assumption) | assumption)
      have q244 : x5_1 < (l1.length : Int) := of_decide_eq_true (by first | (with_reducible assumption) | assumption)
      obtain ⟨ad244, e244, hx244_0⟩ := Kd.Zbi HR1.out x5_1 p244 q244
      obtain rfl : ad242 = ad244 := (by injection e244)
      replace p244 := eq_true p244
      replace q244 := eq_true q244
      go_wp2
      repeat (go_quiet (fail); try go_wp2)
      go_ret
      exact ⟨by first | rfl | (simp; done) | (simp [*]; done), by repeat (first | exact Zat.refl _ | apply Zat.step)⟩
     rw [if_neg c10] at H
     have c10b0 : decide ((rd l1 x5_1) < (rd l0 x5_1)) = false := decide_eq_false c10
     clear c10
     have H' := Zaa.mk H
     clear H
     have p241 : 0 ≤ (x5_1 : Int) := of_decide_eq_true (by first | (with_reducible assumption) | assumption)
     have q241 : x5_1 < (l0.length : Int) := of_decide_eq_true (by first | (with_reducible assumption) | assumption)
     obtain ⟨ad241, e241, hx241_0⟩ := Kd.Zbi HR0.out x5_1 p241 q241
     cases e241
     replace p241 := eq_true p241
     replace q241 := eq_true q241
     have p242 : 0 ≤ (x5_1 : Int) := of_decide_eq_true (by first | (with_reducible assumption) | assumption)
     have q242 : x5_1 < (l1.length : Int) := of_decide_eq_true (by first | (with_reducible assumption) | assumption)
     obtain ⟨ad242, e242, hx242_0⟩ := Kd.Zbi HR1.out x5_1 p242 q242
     cases e242
     replace p242 := eq_true p242
     replace q242 := eq_true q242
     have p243 : 0 ≤ (x5_1 : Int) := of_decide_eq_true (by first | (with_reducible assumption) | assumption)
     have q243 : x5_1 < (l0.length : Int) := of_decide_eq_true (by first | (with_reducible assumption) | assumption)
     obtain ⟨ad243, e243, hx243_0⟩ := Kd.Zbi HR0.out x5_1 p243 q243
     obtain rfl : ad241 = ad243 := (by injection e243)
     replace p243 := eq_true p243
     replace q243 := eq_true q243
     have p244 : 0 ≤ (x5_1 : Int) := of_decide_eq_true (by first | (with_reducible assumption) | assumption)
     have q244 : x5_1 < (l1.length : Int) := of_decide_eq_true (by first | (with_reducible assumption) | assumption)
     obtain ⟨ad244, e244, hx244_0⟩ := Kd.Zbi HR1.out x5_1 p244 q244
     obtain rfl : ad242 = ad244 := (by injection e244)
     replace p244 := eq_true p244
     replace q244 := eq_true q244
     go_wp2
     repeat (go_quiet (fail); try go_wp2)
     go_roundg kj2
     case measure => have := HK1.out; have := HJ2.out; omega
     case rel => exact ⟨(wrap64 (x5_1 + 1)), (by first | rfl | (simp; done) | (simp [*]; done)), H', ⟨by have := HK1.out; have := HJ2.out; omega⟩, by repeat (first | exact Zat.refl _ | apply Zat.step)⟩
end Go.Proofs.Yteopgafbamipeaa.P
/- secateurref09.Sorted: lists in order, each once, by putting one in after another; the rows are those that came in. -/
namespace Go.Proofs.Yteopgafbamipeaa.P
open Go.RowKit Go.Proofs.YteopgafbamipeaaW.PrintWords Go.Proofs.YteopgafbamipeaaW.PrintLast Go.Proofs.YteopgafbamipeaaW.PrintMore
set_option linter.unusedVariables false
set_option linter.unusedSimpArgs false

theorem at_fixed {w0 w : World} {A : Option Addr} {n : Nat} {xs : List (List Int)} (h : (Kd.fixed kInts w0).C w A n xs) (k : Nat) (hk : k < xs.length) :
    ∃ ad A0 c0, A = some ad ∧ w.cell? (ad.add k) = some (.slice A0 xs[k].length c0) ∧ xs[k].length ≤ c0 ∧ Kd.C (Kd.int .i64) w0 A0 xs[k].length xs[k] := by
  obtain ⟨ad, u, hA, hc, A0, c0, hu, hl, hC⟩ := at_one (d := Kd.fixed kInts w0) rfl h k hk
  obtain rfl : u = _ := List.singleton_inj.1 hu
  exact ⟨ad, A0, c0, hA, hc, hl, hC⟩
theorem fixed_K {w0 : World} {A0 : Option Addr} {c0 : Nat} {x : List Int} (hl : x.length ≤ c0) (hC : Kd.C (Kd.int .i64) w0 A0 x.length x) : kInts.K w0 x [.slice A0 x.length c0] := ⟨A0, c0, rfl, hl, hC⟩
/-- What stood fixed is read now. -/
theorem C_of_fixed {w0 w : World} {A : Option Addr} {n : Nat} {xs : List (List Int)} (hB : Below w0.heap.size w0 w) (h : (Kd.fixed kInts w0).C w A n xs) : kInts.C w A n xs :=
  ReadsRow.imp_ h (Below.refl _ w) (fun _ _ hp => kInts.K_below hB hp)

/-- What an element leads to lies in P, as it stood in w0. -/
def fixF (w0 : World) (P : Nat → Prop) : Kd (List Int) where
  sz := kInts.sz
  E := []
  K := fun _ x cs => Kd.FK kInts w0 P x cs
  M := fun _ _ _ x cs => Kd.FK kInts w0 P x cs
  K_len := fun h => kInts.K_len (Kd.Zcp h)
  K_one := fun h => kInts.K_one (Kd.Zcp h)
  K_below := fun _ h => h
  K_of_M := fun h => h
  M_mono := fun _ h => h
  M_bound := fun h => h
  M_move := fun _ h => h
  M_lower := fun _ h => h
theorem at_fixF {w0 w : World} {P : Nat → Prop} {A : Option Addr} {n : Nat} {xs : List (List Int)} (h : (fixF w0 P).C w A n xs) (k : Nat) (hk : k < xs.length) :
    ∃ ad A0 c0, A = some ad ∧ w.cell? (ad.add k) = some (.slice A0 xs[k].length c0) ∧ xs[k].length ≤ c0 ∧ Kd.C (Kd.int .i64) w0 A0 xs[k].length xs[k] ∧ Kd.FK kInts w0 P xs[k] [.slice A0 xs[k].length c0] := by
  obtain ⟨ad, u, hA, hc, hF⟩ := at_one (d := fixF w0 P) rfl h k hk
  obtain ⟨A0, c0, hu, hl, hC⟩ := Kd.Zcp hF
  obtain rfl : u = _ := List.singleton_inj.1 hu
  exact ⟨ad, A0, c0, hA, hc, hl, hC, hF⟩
theorem kInts_K_moved {W W' : World} {x : List Int} {cs : List Value} (hW : ∀ k, True → k < W.heap.size → W'.heap[k]? = W.heap[k]?) (h : kInts.K W x cs) : kInts.K W' x cs := by
  obtain ⟨A0, c0, rfl, hl, hC⟩ := h
  refine ⟨A0, c0, rfl, hl, hC.1, hC.2.1, fun hp => ?_⟩
  obtain ⟨ad, hA, hr⟩ := hC.2.2 hp
  refine ⟨ad, hA, fun j p hj => ?_⟩
  obtain ⟨c, hcl, hK, hcell⟩ := hr j p hj
  refine ⟨c, hcl, hK, fun i u hi => ?_⟩
  have h1 := hcell i u hi
  have h2 := World.block_lt_of_cell? W _ h1
  rw [← h1]
  exact World.cell?_of_block (hW _ trivial h2)

/-! ### Order -/
theorem order_l0 (a b : List Int) (ha : a.length ≤ 9223372036854775807) (hb : b.length ≤ 9223372036854775807) : ∀ (m n : Nat), n + m = a.length → n ≤ b.length → Ev (fun k => Zaj.l0 k a b (n : Int)) (lexCmp (a.drop n) (b.drop n)) := by
  have hend : ∀ n, (n = a.length ∨ n = b.length) → n ≤ a.length → n ≤ b.length → (if (a.length : Int) < (b.length : Int) then some (-1 : Int) else if (a.length : Int) > (b.length : Int) then some 1 else some 0) = some (lexCmp (a.drop n) (b.drop n)) := by
    intro n h h1 h2
    rcases h with rfl | rfl
    · rw [List.drop_of_length_le (Nat.le_refl _), Zfz]
      by_cases hlt : a.length < b.length
      rotate_left
      · rw [if_neg (by omega), if_neg (by omega), List.drop_of_length_le (by omega), if_pos rfl]
      rw [if_pos (by omega), if_neg (by intro e; have := congrArg List.length e; simp at this; omega)]
    rw [List.drop_of_length_le (Nat.le_refl b.length), Zf]
    by_cases hlt : b.length < a.length
    rotate_left
    · rw [if_neg (by omega), if_neg (by omega), List.drop_of_length_le (by omega), if_pos rfl]
    rw [if_neg (by omega), if_pos (by omega), if_neg (by intro e; have := congrArg List.length e; simp at this; omega)]
  intro m
  induction m with
  | zero =>
    intro n h hn
    refine Ev.step (fun k => by rw [Zaj.l0, if_neg (by omega)]) ?_
    exact Ev.step (fun k => by rw [Zaj.j1, if_neg (by simp), hend n (.inl (by omega)) (by omega) hn]) (Ev.pure _)
  | succ m ih =>
    intro n h hn
    have hna : n < a.length := by omega
    by_cases hnb : n < b.length
    rotate_left
    · refine Ev.step (fun k => by rw [Zaj.l0, if_pos (by omega)]) ?_
      exact Ev.step (fun k => by rw [Zaj.j1, if_neg (by simp; omega), hend n (.inr (by omega)) (by omega) hn]) (Ev.pure _)
    refine Ev.step (fun k => by rw [Zaj.l0, if_pos (by omega)]) ?_
    rw [List.drop_eq_getElem_cons hna, List.drop_eq_getElem_cons hnb, Ze9]
    have h1 : wrap64 ((n : Int) + 1) = ((n + 1 : Nat) : Int) := by rw [w64 (by omega) (by omega)]; omega
    refine Ev.step (fun k => by rw [Zaj.j1, if_pos (by simp; omega), if_pos (by omega), if_pos (by omega), if_pos (by omega), Zds a n hna, Zds b n hnb, h1]) ?_
    by_cases c1 : a[n] < b[n]
    · simp only [if_pos c1]
      exact Ev.pure _
    by_cases c2 : b[n] < a[n]
    · simp only [if_neg c1, if_pos c2, gt_iff_lt]
      exact Ev.pure _
    simp only [if_neg c1, if_neg c2, gt_iff_lt]
    exact ih (n + 1) (by omega) (by omega)
theorem order_ev (a b : List Int) (ha : a.length ≤ 9223372036854775807) (hb : b.length ≤ 9223372036854775807) : Ev (fun k => Zaj.f k a b) (lexCmp a b) := order_l0 a b ha hb a.length 0 (by omega) (by omega)
theorem orderL (A0 : Option Addr) (c0 : Nat) (l0 : List Int) (A1 : Option Addr) (c1 : Nat) (l1 : List Int) (w : World) (hr0 : Kd.C (Kd.int .i64) w A0 l0.length l0) (hc0 : l0.length ≤ c0) (hr1 : Kd.C (Kd.int .i64) w A1 l1.length l1) (hc1 : l1.length ≤ c1) :
    Calls Try.prog 38 #[.slice A0 l0.length c0, .slice A1 l1.length c1] w fun e w' => e = .returned (.int .i64 (lexCmp l0 l1)) ∧ ∃ q, w' = w.drewN q := by
  obtain ⟨k, hk⟩ := (order_ev l0 l1 hr0.2.1 hr1.2.1).out
  refine (Zaj.calls k A0 c0 l0 A1 c1 l1 _ w hr0 hc0 hr1 hc1 hk).mono ?_
  rintro e w' ⟨rfl, ⟨nd, rfl⟩⟩
  exact ⟨rfl, nd, rfl⟩

/-! ### The insertion, as it goes -/
/-- x is not put: so far all of 'out' was ahead of it; or it is put (or was there). -/
def InsAt (x : List Int) (out : List (List Int)) (k : Nat) (put : Bool) (next : List (List Int)) : Prop :=
  if put then insL x out = next ++ out.drop k else next = out.take k ∧ insL x out = out.take k ++ insL x (out.drop k)
theorem InsAt.start (x : List Int) (out : List (List Int)) : InsAt x out 0 false [] := by simp [InsAt]
theorem InsAt.put {x : List Int} {out : List (List Int)} {k : Nat} {next : List (List Int)} (hk : k < out.length) (h : InsAt x out k true next) : InsAt x out (k + 1) true (next ++ [out[k]]) := by
  simp only [InsAt, if_true] at h ⊢
  rw [h, List.drop_eq_getElem_cons hk]
  simp
theorem InsAt.same {x : List Int} {out : List (List Int)} {k : Nat} {next : List (List Int)} (hk : k < out.length) (h : InsAt x out k false next) (hc : lexCmp x out[k] = 0) : InsAt x out (k + 1) true (next ++ [out[k]]) := by
  simp only [InsAt, Bool.false_eq_true, if_false, if_true] at h ⊢
  obtain ⟨rfl, h⟩ := h
  have e := Zdw.1 hc
  rw [h, List.drop_eq_getElem_cons hk, ← e]
  simp [insL, Zbm]
theorem InsAt.less {x : List Int} {out : List (List Int)} {k : Nat} {next : List (List Int)} (hk : k < out.length) (h : InsAt x out k false next) (hc : lexCmp x out[k] < 0) : InsAt x out (k + 1) true (next ++ [x] ++ [out[k]]) := by
  simp only [InsAt, Bool.false_eq_true, if_false, if_true] at h ⊢
  obtain ⟨rfl, h⟩ := h
  rw [h, List.drop_eq_getElem_cons hk]
  simp [insL, Zef.1 hc]
theorem InsAt.more {x : List Int} {out : List (List Int)} {k : Nat} {next : List (List Int)} (hk : k < out.length) (h : InsAt x out k false next) (hc : 0 < lexCmp x out[k]) : InsAt x out (k + 1) false (next ++ [out[k]]) := by
  simp only [InsAt, Bool.false_eq_true, if_false] at h ⊢
  obtain ⟨rfl, h⟩ := h
  have h1 : ¬ lexLt x out[k] = true := fun e => by have := Zef.2 e; omega
  have h2 : ¬ x = out[k] := fun e => by have := Zdw.2 e; omega
  refine ⟨(List.take_succ_eq_append_getElem hk).symm, ?_⟩
  rw [h, List.drop_eq_getElem_cons hk]
  have e : insL x (out[k] :: out.drop (k + 1)) = out[k] :: insL x (out.drop (k + 1)) := by rw [insL, if_neg h1, if_neg h2]
  rw [e, List.take_succ_eq_append_getElem hk, List.append_assoc]
  rfl
theorem InsAt.end1 {x : List Int} {out : List (List Int)} {next : List (List Int)} (h : InsAt x out out.length true next) : next = insL x out := by
  simp [InsAt] at h
  exact h.symm
theorem InsAt.end0 {x : List Int} {out : List (List Int)} {next : List (List Int)} (h : InsAt x out out.length false next) : next ++ [x] = insL x out := by
  simp [InsAt] at h
  rw [h.1, h.2]
  simp [insL]
/-- All put in, one after another. -/
def insAll (l : List (List Int)) : List (List Int) := l.foldl (fun acc x => insL x acc) []
theorem insAll_snoc (l : List (List Int)) (x : List Int) : insAll (l ++ [x]) = insL x (insAll l) := by simp [insAll]
theorem insAll_eq (l : List (List Int)) : insAll l = sdL l := by
  have h : ∀ (l acc : List (List Int)), SSL acc → SSL (l.foldl (fun acc x => insL x acc) acc) ∧ ∀ z, z ∈ l.foldl (fun acc x => insL x acc) acc ↔ z ∈ l ∨ z ∈ acc := by
    intro l
    induction l with
    | nil => intro acc h; exact ⟨h, fun z => by simp⟩
    | cons x l ih =>
      intro acc h
      obtain ⟨h1, h2⟩ := ih (insL x acc) (insL_ss x acc h)
      refine ⟨h1, fun z => (h2 z).trans ?_⟩
      rw [Zet, List.mem_cons]
      constructor
      · rintro (h | h | h)
        · exact .inl (.inr h)
        · exact .inl (.inl h)
        exact .inr h
      rintro ((h | h) | h)
      · exact .inr (.inl h)
      · exact .inl h
      exact .inr (.inr h)
  obtain ⟨h1, h2⟩ := h l [] List.Pairwise.nil
  exact (sdL_eq h1 (fun z => by rw [h2 z]; simp)).symm
theorem insAll_length (l : List (List Int)) : (insAll l).length ≤ l.length := by rw [insAll_eq]; exact Zdm l

/-! ### The walk -/
set_option maxRecDepth 100000 in
set_option maxHeartbeats 8000000 in
theorem refSortedF (P : Nat → Prop) (A0 : Option Addr) (c0 : Nat) (l0 : List (List Int)) (w : World) (hr0 : (fixF w P).C w A0 l0.length l0) (hc0 : l0.length ≤ c0) (hl : l0.length < 1000000000) :
    Calls Try.prog 31 #[.slice A0 l0.length c0] w fun e w' => ∃ v0_ : Value, e = .returned (v0_) ∧ Kd.R (fixF w P) 22 w' w.heap.size (fun _ => True) v0_ (sdL l0) ∧ Below w.heap.size w w' := by
  have HR := Zaa.mk hr0
  have HB0 := Zaa.mk (Below.refl w.heap.size w)
  clear hr0
  go_enter Try.func31, Try.ntmps31
  go_wp2_with (first | ((with_reducible refine Zbn (N := 9) rfl ?_); refine Kd.Zex (fixF w P) _ 22 ?hg (N := 9) ?hd (xs := ([] : List (List Int))) (inner := []) (ok := fun _ => True) (okp := fun _ => True) ?hr ?hp (fun _ hk => hk) trivial (Below.refl w.heap.size w) (Nat.le_refl _) (by simp) ?_; (case hd => rfl); (case hg => rfl); (case hr => first | (go_simp; done) | (go_simp; rfl)); (case hp => exact (Reps.none _ _)); intro v1 w1 ho hb hg_ hnew_; have HO := Zaa.mk ho; have HB := Zaa.mk hb; clear ho hb hg_ hnew_))
  go_loopg [3, 4] l0.length (fun gg v3 s4 wr => ∃ i : Nat, i ≤ l0.length ∧ l0.length - i ≤ gg ∧ s4 = .int .i64 i ∧ Zaa (Kd.R (fixF w P) 22 wr w.heap.size (fun _ => True) v3 (insAll (l0.take i))) ∧ Zaa (Below w.heap.size w wr))
  case atStart => exact ⟨0, Nat.zero_le _, by omega, rfl, HO, HB⟩
  case round =>
    clear HO HB
    obtain ⟨i, hi, hg, rfl, HO, HB⟩ := hrel
    obtain ⟨wo, rfl⟩ : ∃ wo : World, wo = wr := ⟨_, rfl⟩
    by_cases hlt : i < l0.length
    rotate_left
    · obtain rfl : i = l0.length := by omega
      go_wp2
      go_ret
      have := HO.out
      rw [List.take_length, insAll_eq] at this
      exact ⟨_, rfl, this, HB.out⟩
    obtain ⟨ad, Ax, cx, rfl, hx, hcx, hCx, hFx⟩ := at_fixF HR.out i hlt
    have hx0 := Zaa.mk hx
    have HX := Zaa.mk hFx
    have HCX := Zaa.mk hCx
    have hins : Zaa (insAll (l0.take (i + 1)) = insL l0[i] (insAll (l0.take i))) := ⟨by rw [List.take_succ_eq_append_getElem hlt, insAll_snoc]⟩
    have hol : Zaa ((insAll (l0.take i)).length ≤ 1000000000) := ⟨by have := insAll_length (l0.take i); rw [List.length_take] at this; omega⟩
    clear hx hCx hFx
    generalize l0[i] = x at *
    generalize insAll (l0.take i) = out at *
    obtain ⟨Ao, co, rfl, hco, hCo⟩ := Kd.Zc3 HO.out
    have HCO := Zaa.mk hCo
    clear hCo
    have hol' : out.length ≤ 9223372036854775807 := by have := hol.out; omega
    have hxb : ∀ W, Below w.heap.size w W → W.cell? (ad.add i) = some (.slice Ax x.length cx) := fun W h => (h.cell (World.block_lt_of_cell? w _ hx0.out)).trans hx0.out
    have HXB := Zaa.mk hxb
    clear hxb
    go_wp2_with (first | ((with_reducible refine Zbn (N := 16) rfl ?_); refine Kd.Zex (fixF w P) _ 22 ?hg (N := 16) ?hd (xs := ([] : List (List Int))) (inner := []) (ok := fun _ => True) (okp := fun _ => True) ?hr ?hp (fun _ hk => hk) trivial (Below.refl wo.heap.size wo) (Nat.le_refl _) (by simp) ?_; (case hd => rfl); (case hg => rfl); (case hr => first | (go_simp; done) | (go_simp; rfl)); (case hp => exact (Reps.none _ _)); intro v5 w5 ho hb hg_ hnew_; have HN := Zaa.mk ho; have HBI := Zaa.mk hb; clear ho hb hg_ hnew_))
    go_loopg [5, 6, 7] out.length (fun g2 n5 s6 s7 wr => ∃ (k : Nat) (put : Bool) (next : List (List Int)), k ≤ out.length ∧ out.length - k ≤ g2 ∧ s7 = .int .i64 k ∧ s6 = .bool put ∧ Zaa (InsAt x out k put next) ∧ Zaa (next.length ≤ k + 1) ∧ Zaa (Kd.R (fixF w P) 22 wr wo.heap.size (fun _ => True) n5 next) ∧ Zaa (Below wo.heap.size wo wr))
    case atStart => exact ⟨0, false, [], Nat.zero_le _, by omega, rfl, rfl, ⟨InsAt.start x out⟩, ⟨by simp⟩, HN, HBI⟩
    case round =>
      clear HN HBI
      obtain ⟨k, put, next, hk, hg2, rfl, rfl, HI, HLN, HN, HBI⟩ := hrel
      have hBw : Below w.heap.size w wr := HB.out.trans (HBI.out.mono HB.out.size)
      have hx2 := HXB.out wr hBw
      by_cases hlk : k < out.length
      rotate_left
      · obtain rfl : k = out.length := by omega
        clear hBw
        cases put with
        | true =>
          go_wp2
          go_roundg (l0.length - (i + 1))
          case measure => omega
          case rel => exact ⟨i + 1, by omega, by omega, by go_num, ⟨by rw [hins.out, ← HI.out.end1]; exact Kd.Zbu HN.out HB.out.size⟩, ⟨HB.out.trans (HBI.out.mono HB.out.size)⟩⟩
        | false =>
          go_wp2_with (first | ((with_reducible refine Za1 (b := .append) (xs := #[.tmp 59, .tmp 64]) rfl ?_); at_builtin; go_loud (refine Kd.Zca (fixF w P) (w0 := wo) wo.heap.size rfl (.tmp 59) (.tmp 64) 32 22 (.slice none 0 0) 24 rfl Try.underlying32 Zcm rfl (Nat.lt_succ_self 0) (by omega) _ next x [.slice Ax x.length cx] (fun _ => True) (fun _ => False) rfl rfl ?aP (fun _ h => h.elim) ?aF ?aO ?aB ?aS ?aL ?_; (case aP => exact HX.out); (case aB => first | exact HBI.out | exact Zab HBI.out _); (case aF => exact (fun _ _ => trivial)); (case aO => first | exact HN.out | exact Kd.R_drewN HN.out _); (case aS => first | exact HBI.out.size | exact (Zab HBI.out _).size); (case aL => have := HLN.out; have := hol.out; (try simp only [List.length_append, List.length_cons, List.length_nil]); omega); intro v7 w7 ho2 hb2 hg2 hat2; have HN2 := Zaa.mk ho2; have HBI2 := Zaa.mk hb2; clear ho2 hb2 hg2 hat2)))
          go_roundg (l0.length - (i + 1))
          case measure => omega
          case rel => exact ⟨i + 1, by omega, by omega, by go_num, ⟨by rw [hins.out, ← HI.out.end0]; exact Kd.Zbu HN2.out HB.out.size⟩, ⟨HB.out.trans (HBI2.out.mono HB.out.size)⟩⟩
      obtain ⟨ado, Ay, cy, rfl, hyo, hcy, hCy, hFy⟩ := at_fixF HCO.out k hlk
      have HYB : Zaa (∀ W, Below wo.heap.size wo W → W.cell? (ado.add k) = some (.slice Ay out[k].length cy)) := ⟨fun W h => (h.cell (World.block_lt_of_cell? wo _ hyo)).trans hyo⟩
      clear hyo
      have hy := HYB.out wr HBI.out
      have HY := Zaa.mk hFy
      clear hFy
      have HCC : Zaa (∀ n, Calls Try.prog 38 #[.slice Ax x.length cx, .slice Ay out[k].length cy] (wr.drewN n) fun e w' => e = .returned (.int .i64 (lexCmp x out[k])) ∧ ∃ q, w' = wr.drewN q) := ⟨fun n => by
        refine (orderL Ax cx x Ay cy out[k] (wr.drewN n) (Kd.Zaq (Kd.Zaq HCX.out hBw) (Zab (Below.refl _ _) n)) hcx (Kd.Zaq (Kd.Zaq hCy hBw) (Zab (Below.refl _ _) n)) hcy).mono ?_
        rintro e w' ⟨rfl, q, rfl⟩
        exact ⟨rfl, n + q, by rw [World.drewN_drewN]⟩⟩
      have HIp : Zaa (InsAt x out k true next → InsAt x out (k + 1) true (next ++ [out[k]])) := ⟨fun h => h.put hlk⟩
      have HIs : Zaa (lexCmp x out[k] = 0 → InsAt x out k false next → InsAt x out (k + 1) true (next ++ [out[k]])) := ⟨fun e h => h.same hlk e⟩
      have HIl : Zaa (lexCmp x out[k] < 0 → InsAt x out k false next → InsAt x out (k + 1) true (next ++ [x] ++ [out[k]])) := ⟨fun e h => h.less hlk e⟩
      have HIm : Zaa (0 < lexCmp x out[k] → InsAt x out k false next → InsAt x out (k + 1) false (next ++ [out[k]])) := ⟨fun e h => h.more hlk e⟩
      have hs3 : lexCmp x out[k] = -1 ∨ lexCmp x out[k] = 0 ∨ lexCmp x out[k] = 1 := by
        unfold lexCmp
        split
        · exact .inl rfl
        split
        · exact .inr (.inr rfl)
        exact .inr (.inl rfl)
      clear hCy hBw
      generalize out[k] = y at *
      generalize lexCmp x y = s at *
      cases put with
      | true =>
        clear hs3
        go_wp2_with (fail)
        go_quiet (first | exact HCC.out _)
        go_wp2_with (first | ((with_reducible refine Za1 (b := .append) (xs := #[.tmp 50, .tmp 55]) rfl ?_); at_builtin; go_loud (refine Kd.Zca (fixF w P) (w0 := wo) wo.heap.size rfl (.tmp 50) (.tmp 55) 32 22 (.slice none 0 0) 24 rfl Try.underlying32 Zcm rfl (Nat.lt_succ_self 0) (by omega) _ next y [.slice Ay y.length cy] (fun _ => True) (fun _ => False) rfl rfl ?aP (fun _ h => h.elim) ?aF ?aO ?aB ?aS ?aL ?_; (case aP => exact HY.out); (case aB => first | exact HBI.out | exact Zab HBI.out _); (case aF => exact (fun _ _ => trivial)); (case aO => first | exact HN.out | exact Kd.R_drewN HN.out _); (case aS => first | exact HBI.out.size | exact (Zab HBI.out _).size); (case aL => have := HLN.out; have := hol.out; (try simp only [List.length_append, List.length_cons, List.length_nil]); omega); intro v7 w7 ho2 hb2 hg2 hat2; have HN2 := Zaa.mk ho2; have HBI2 := Zaa.mk hb2; clear ho2 hb2 hg2 hat2)))
        go_roundg (out.length - (k + 1))
        case measure => omega
        case rel => exact ⟨k + 1, true, next ++ [y], by omega, by omega, by go_num, rfl, ⟨HIp.out HI.out⟩, ⟨by have := HLN.out; simp; omega⟩, HN2, HBI2⟩
      | false =>
        rcases hs3 with rfl | rfl | rfl
        rotate_left
        · skip
          go_wp2_with (fail)
          go_quiet (first | exact HCC.out _)
          go_wp2_with (first | ((with_reducible refine Za1 (b := .append) (xs := #[.tmp 50, .tmp 55]) rfl ?_); at_builtin; go_loud (refine Kd.Zca (fixF w P) (w0 := wo) wo.heap.size rfl (.tmp 50) (.tmp 55) 32 22 (.slice none 0 0) 24 rfl Try.underlying32 Zcm rfl (Nat.lt_succ_self 0) (by omega) _ next y [.slice Ay y.length cy] (fun _ => True) (fun _ => False) rfl rfl ?aP (fun _ h => h.elim) ?aF ?aO ?aB ?aS ?aL ?_; (case aP => exact HY.out); (case aB => first | exact HBI.out | exact Zab HBI.out _); (case aF => exact (fun _ _ => trivial)); (case aO => first | exact HN.out | exact Kd.R_drewN HN.out _); (case aS => first | exact HBI.out.size | exact (Zab HBI.out _).size); (case aL => have := HLN.out; have := hol.out; (try simp only [List.length_append, List.length_cons, List.length_nil]); omega); intro v7 w7 ho2 hb2 hg2 hat2; have HN2 := Zaa.mk ho2; have HBI2 := Zaa.mk hb2; clear ho2 hb2 hg2 hat2)))
          go_roundg (out.length - (k + 1))
          case measure => omega
          case rel => exact ⟨k + 1, true, next ++ [y], by omega, by omega, by go_num, rfl, ⟨by first | exact HIs.out rfl HI.out | exact HIs.out trivial HI.out⟩, ⟨by have := HLN.out; simp; omega⟩, HN2, HBI2⟩
        rotate_left
        · skip
          go_wp2_with (fail)
          go_quiet (first | exact HCC.out _)
          go_wp2_with (first | ((with_reducible refine Za1 (b := .append) (xs := #[.tmp 43, .tmp 48]) rfl ?_); at_builtin; go_loud (refine Kd.Zca (fixF w P) (w0 := wo) wo.heap.size rfl (.tmp 43) (.tmp 48) 32 22 (.slice none 0 0) 24 rfl Try.underlying32 Zcm rfl (Nat.lt_succ_self 0) (by omega) _ next x [.slice Ax x.length cx] (fun _ => True) (fun _ => False) rfl rfl ?aP (fun _ h => h.elim) ?aF ?aO ?aB ?aS ?aL ?_; (case aP => exact HX.out); (case aB => first | exact HBI.out | exact Zab HBI.out _); (case aF => exact (fun _ _ => trivial)); (case aO => first | exact HN.out | exact Kd.R_drewN HN.out _); (case aS => first | exact HBI.out.size | exact (Zab HBI.out _).size); (case aL => have := HLN.out; have := hol.out; (try simp only [List.length_append, List.length_cons, List.length_nil]); omega); intro v6 w6 ho2 hb2 hg2 hat2; have hy6 := HYB.out w6 hb2; have HN1 := Zaa.mk ho2; have HBI1 := Zaa.mk hb2; clear ho2 hb2 hg2 hat2)) | ((with_reducible refine Za1 (b := .append) (xs := #[.tmp 50, .tmp 55]) rfl ?_); at_builtin; go_loud (refine Kd.Zca (fixF w P) (w0 := wo) wo.heap.size rfl (.tmp 50) (.tmp 55) 32 22 (.slice none 0 0) 24 rfl Try.underlying32 Zcm rfl (Nat.lt_succ_self 0) (by omega) _ (next ++ [x]) y [.slice Ay y.length cy] (fun _ => True) (fun _ => False) rfl rfl ?aP (fun _ h => h.elim) ?aF ?aO ?aB ?aS ?aL ?_; (case aP => exact HY.out); (case aB => first | exact HBI1.out | exact Zab HBI1.out _); (case aF => exact (fun _ _ => trivial)); (case aO => first | exact HN1.out | exact Kd.R_drewN HN1.out _); (case aS => first | exact HBI1.out.size | exact (Zab HBI1.out _).size); (case aL => have := HLN.out; have := hol.out; (try simp only [List.length_append, List.length_cons, List.length_nil]); omega); intro v7 w7 ho2 hb2 hg2 hat2; have HN2 := Zaa.mk ho2; have HBI2 := Zaa.mk hb2; clear ho2 hb2 hg2 hat2)))
          go_roundg (out.length - (k + 1))
          case measure => omega
          case rel => exact ⟨k + 1, true, next ++ [x] ++ [y], by omega, by omega, by go_num, rfl, ⟨by first | exact HIl.out (by omega) HI.out | exact HIl.out trivial HI.out⟩, ⟨by have h_ := HI.out; simp only [InsAt, Bool.false_eq_true, if_false] at h_; have h2_ := congrArg List.length h_.1; rw [List.length_take] at h2_; simp; omega⟩, HN2, HBI2⟩
        skip
        go_wp2_with (fail)
        go_quiet (first | exact HCC.out _)
        go_wp2_with (first | ((with_reducible refine Za1 (b := .append) (xs := #[.tmp 50, .tmp 55]) rfl ?_); at_builtin; go_loud (refine Kd.Zca (fixF w P) (w0 := wo) wo.heap.size rfl (.tmp 50) (.tmp 55) 32 22 (.slice none 0 0) 24 rfl Try.underlying32 Zcm rfl (Nat.lt_succ_self 0) (by omega) _ next y [.slice Ay y.length cy] (fun _ => True) (fun _ => False) rfl rfl ?aP (fun _ h => h.elim) ?aF ?aO ?aB ?aS ?aL ?_; (case aP => exact HY.out); (case aB => first | exact HBI.out | exact Zab HBI.out _); (case aF => exact (fun _ _ => trivial)); (case aO => first | exact HN.out | exact Kd.R_drewN HN.out _); (case aS => first | exact HBI.out.size | exact (Zab HBI.out _).size); (case aL => have := HLN.out; have := hol.out; (try simp only [List.length_append, List.length_cons, List.length_nil]); omega); intro v7 w7 ho2 hb2 hg2 hat2; have HN2 := Zaa.mk ho2; have HBI2 := Zaa.mk hb2; clear ho2 hb2 hg2 hat2)))
        go_roundg (out.length - (k + 1))
        case measure => omega
        case rel => exact ⟨k + 1, false, next ++ [y], by omega, by omega, by go_num, rfl, ⟨by first | exact HIm.out (by omega) HI.out | exact HIm.out trivial HI.out⟩, ⟨by have := HLN.out; simp; omega⟩, HN2, HBI2⟩
theorem refSortedL (A0 : Option Addr) (c0 : Nat) (l0 : List (List Int)) (w : World) (hr0 : Kd.C kInts w A0 l0.length l0) (hc0 : l0.length ≤ c0) (hl : l0.length < 1000000000) :
    Calls Try.prog 31 #[.slice A0 l0.length c0] w fun e w' => ∃ v0_ : Value, e = .returned (v0_) ∧ Kd.R (Kd.fixed kInts w) 22 w' w.heap.size (fun _ => True) v0_ (sdL l0) ∧ Below w.heap.size w w' := by
  refine (refSortedF (fun _ => True) A0 c0 l0 w (ReadsRow.imp_ hr0 (Below.refl _ w) (fun x cs h W' hW => kInts_K_moved hW h)) hc0 hl).mono ?_
  rintro e w' ⟨v, rfl, hR, hb⟩
  exact ⟨v, rfl, ⟨hR.1, hR.2.imp_ (fun x cs h => Kd.Zcp h)⟩, hb⟩
def Za5.f (l0 : List (List Int)) : Option (List (List Int)) := if l0.length < 1000000000 then some (sdL l0) else none
end Go.Proofs.Yteopgafbamipeaa.P
/- secateurref09.Sorted: its contract, in the form that printed callers ask: the rows are those that came in. -/
namespace Go.Proofs.Yteopgafbamipeaa.P
open Go.RowKit Go.Proofs.YteopgafbamipeaaW.PrintWords Go.Proofs.YteopgafbamipeaaW.PrintLast Go.Proofs.YteopgafbamipeaaW.PrintMore
set_option linter.unusedVariables false
set_option linter.unusedSimpArgs false
theorem N_of_fixF {w w' : World} {P : Nat → Prop} {e : Nat} {v : Value} {xs : List (List Int)} (h : Kd.R (fixF w P) e w' w.heap.size (fun _ => True) v xs) (hb : Below w.heap.size w w') : Kd.N kInts e w' w.heap.size (fun k => P k ∨ w.heap.size ≤ k) v xs := by
  have hbase := Kd.Zcb h
  obtain ⟨h0, inner, ho, hr⟩ := h
  refine ⟨fun k hk => .inr (hbase k hk), Kd.chunks kInts.sz xs.length inner, Kd.Za9 _ _ _, ⟨fun k hk => hk.symm, inner, by rw [Kd.Za9]; exact ho, Kd.reps_raw hr (fun x c hp => ⟨kInts.K_len (Kd.Zcp hp), kInts.K_one (Kd.Zcp hp)⟩)⟩, fun j x c hx hc => ?_⟩
  rw [Kd.Zck hc]
  have hF : Kd.FK kInts w P x ((inner.drop (j * kInts.sz)).take kInts.sz) := hr.2 j x hx
  exact Kd.Zdt (Kd.FK_step (Kd.Zer hF) (fun k hk _ => hb.block k hk.2)) (fun k hk => ⟨.inl hk.1, fun e_ => by have := hbase k e_.symm; omega⟩)
theorem Za5.calls (P0_ : Nat → Prop) (A0 : Option Addr) (c0 : Nat) (l0 : List (List Int)) (r : List (List Int)) (w : World) (hs0 : Kd.V (Kd.slice 3 (Kd.int .i64)) 22 w w.heap.size (fun k_ => P0_ k_) (.slice A0 l0.length c0) l0) (h : Za5.f l0 = some r) :
    Calls Try.prog 31 #[.slice A0 l0.length c0] w fun e w' => ∃ v0_ : Value, e = .returned (v0_) ∧ Kd.N (Kd.slice 3 (Kd.int .i64)) 22 w' w.heap.size (fun k_ => (P0_ k_ ∨ w.heap.size ≤ k_)) v0_ r ∧ Below w.heap.size w w' := by
  unfold Za5.f at h
  split at h
  case isFalse => cases h
  case isTrue hl =>
    obtain rfl := Option.some.inj h
    obtain ⟨_, hc, hF⟩ := Kd.V_at hs0
    refine (refSortedF P0_ A0 c0 l0 w (Kd.F_rows hF) hc hl).mono ?_
    rintro e w' ⟨v, rfl, hR, hb⟩
    exact ⟨v, rfl, N_of_fixF hR hb, hb⟩
theorem Zfp {l : List (List Int)} (hl : l.length < 1000000000) : Za5.f l = some (sdL l) := if_pos hl
end Go.Proofs.Yteopgafbamipeaa.P
namespace Go.Proofs.Yteopgafbamipeaa.P
open Go.RowKit Go.Proofs.YteopgafbamipeaaW.PrintWords Go.Proofs.YteopgafbamipeaaW.PrintLast Go.Proofs.YteopgafbamipeaaW.PrintMore
attribute [local go_sem] Zb4 Zb6 Zcg Zch Zbs Zbt Zb5 Zb7
set_option linter.unusedVariables false
set_option linter.unusedSimpArgs false
/-! ### Zae: function 10 -/
mutual
def Zae.j0 : Nat → List Int → List Int → Bool → Option (List Int × Int)
 | 0, _, _, _ => none
 | k + 1, x0, x1, x22 => if x22 = true then (some (([] : List Int), 1)) else (Zae.l0 k x0 x1 (([] : List Int)) 0)
def Zae.l0 : Nat → List Int → List Int → List Int → Int → Option (List Int × Int)
 | 0, _, _, _, _ => none
 | k + 1, x0, x1, x6, x7 => if x7 < (x0.length : Int) then (if 0 ≤ x7 then (if 0 ≤ (rd x0 x7) then (if (rd x0 x7) < (x1.length : Int) then (if x6.length < 17592186044416 then (Zae.l0 k x0 x1 (x6 ++ [rd x1 (rd x0 x7)]) (wrap64 (x7 + 1))) else (none)) else (none)) else (none)) else (none)) else (some (x6, 0))
end
def Zae.f (k : Nat) (l0 : List Int) (l1 : List Int) : Option (List Int × Int) := if (l0.length : Int) = (l1.length : Int) then ((Zaf.f k l0).bind fun t110 => (if t110 = true then ((Zaf.f k l1).bind fun t111 => (Zae.j0 k l0 l1 (!t111))) else (Zae.j0 k l0 l1 true))) else (Zae.j0 k l0 l1 true)
theorem Zae.Za6 : ∀ k, (∀ y0 y1 y2, LeO (Zae.j0 k y0 y1 y2) (Zae.j0 (k + 1) y0 y1 y2)) ∧ (∀ y0 y1 y2 y3, LeO (Zae.l0 k y0 y1 y2 y3) (Zae.l0 (k + 1) y0 y1 y2 y3))
 | 0 => ⟨fun _ _ _ r h => by simp [Zae.j0] at h, fun _ _ _ _ r h => by simp [Zae.l0] at h⟩
 | k + 1 => by
  obtain ⟨ih0, ih1⟩ := Zae.Za6 k
  refine ⟨?_, ?_⟩
  ·intro y0 y1 y2
   unfold Zae.j0
   repeat' first
   | (with_reducible exact ih0 _ _ _)
   | (with_reducible exact ih1 _ _ _ _)
   | (with_reducible exact Zaf.mono _ _)
   | (with_reducible exact LeO.refl _)
   | (with_reducible exact LeO.none _)
   | (with_reducible refine LeO.ite ?_ ?_)
   | (with_reducible refine LeO.bind ?_ (fun _ => ?_))
   | exact ih0 _ _ _
   | exact ih1 _ _ _ _
   | exact Zaf.mono _ _
   | exact LeO.none _
   | refine LeO.ite ?_ ?_
   | refine LeO.bind ?_ (fun _ => ?_)
  intro y0 y1 y2 y3
  unfold Zae.l0
  repeat' first
  | (with_reducible exact ih0 _ _ _)
  | (with_reducible exact ih1 _ _ _ _)
  | (with_reducible exact Zaf.mono _ _)
  | (with_reducible exact LeO.refl _)
  | (with_reducible exact LeO.none _)
  | (with_reducible refine LeO.ite ?_ ?_)
  | (with_reducible refine LeO.bind ?_ (fun _ => ?_))
  | exact ih0 _ _ _
  | exact ih1 _ _ _ _
  | exact Zaf.mono _ _
  | exact LeO.none _
  | refine LeO.ite ?_ ?_
  | refine LeO.bind ?_ (fun _ => ?_)
theorem Zae.mono : ∀ a0 a1 k, LeO (Zae.f k a0 a1) (Zae.f (k + 1) a0 a1) := by
 intro a0 a1 k
 obtain ⟨ih0, ih1⟩ := Zae.Za6 k
 unfold Zae.f
 repeat' first
   | (with_reducible exact ih0 _ _ _)
   | (with_reducible exact ih1 _ _ _ _)
   | (with_reducible exact Zaf.mono _ _)
   | (with_reducible exact LeO.refl _)
   | (with_reducible exact LeO.none _)
   | (with_reducible refine LeO.ite ?_ ?_)
   | (with_reducible refine LeO.bind ?_ (fun _ => ?_))
   | exact ih0 _ _ _
   | exact ih1 _ _ _ _
   | exact Zaf.mono _ _
   | exact LeO.none _
   | refine LeO.ite ?_ ?_
   | refine LeO.bind ?_ (fun _ => ?_)
set_option maxHeartbeats 8000000 in
set_option maxRecDepth 100000 in
theorem Zae.calls (k : Nat) (A0 : Option Addr) (c0 : Nat) (l0 : List Int) (A1 : Option Addr) (c1 : Nat) (l1 : List Int) (r1 : List Int) (r2 : Int) (w : World) (hr0 : Kd.C (Kd.int .i64) w A0 l0.length l0) (hc0 : l0.length ≤ c0) (hr1 : Kd.C (Kd.int .i64) w A1 l1.length l1) (hc1 : l1.length ≤ c1) (h : Zae.f k l0 l1 = some (r1, r2)) :
  Calls Try.prog 10 #[.slice A0 l0.length c0, .slice A1 l1.length c1] w fun e w' => ∃ v0_ : Value, e = .returned (.tuple #[v0_, .int .i64 r2]) ∧ Kd.R (Kd.int .i64) 3 w' w.heap.size (fun _ => True) v0_ r1 ∧ Below w.heap.size w w' := by
 have HR0 := Zaa.mk hr0
 have HC0 := Zaa.mk hc0
 clear hr0 hc0
 have HR1 := Zaa.mk hr1
 have HC1 := Zaa.mk hc1
 clear hr1 hc1
 have HB := Zaa.mk (Below.refl w.heap.size w)
 have H : (if (l0.length : Int) = (l1.length : Int) then ((Zaf.f k l0).bind fun t110 => (if t110 = true then ((Zaf.f k l1).bind fun t111 => (Zae.j0 k l0 l1 (!t111))) else (Zae.j0 k l0 l1 true))) else (Zae.j0 k l0 l1 true)) = some (r1, r2) := h
 clear h
 have HC3 := Zaa.mk H
 clear H
 go_enter Try.func10, Try.ntmps10
 go_upto_region 1 with (fail)
 go_cut [22] (fun v22 wc => ∃ (kq : Nat) (x22_2 : Bool), v22 = .bool x22_2 ∧ Zaa (Zae.j0 kq l0 l1 x22_2 = some (r1, r2)) ∧ Zaa (kq ≤ k) ∧ Zaa (Below w.heap.size w wc))
 case first =>
  have H := HC3.out
  clear HC3
  by_cases c4 : (l0.length : Int) = (l1.length : Int)
  rotate_left
  ·rw [if_neg c4] at H
   have c4b0 : ((l0.length : Int) == (l1.length : Int)) = false := beq_eq_false_iff_ne.mpr c4
   have c4b1 : ((l0.length : Int) != (l1.length : Int)) = true := bne_iff_ne.mpr c4
   have c4b2 : (l0.length == l1.length) = false := by first | simpa using c4 | (simp at c4 ⊢; omega)
   (first | rw [c4b0] | (simp only [Zbe, Zbg]; rw [c4b0]) | skip)
   have H' := Zaa.mk H
   clear H
   go_wp2
   go_meet
   case rel => exact ⟨_, (true), (by first | rfl | (simp; done) | (simp [*]; done)), H', ⟨by first | omega | exact Nat.le_refl _⟩, ⟨by repeat (first | (with_reducible first | exact HB.out | apply Zac | apply Zab | apply Zad) | exact HB.out)⟩⟩
  rw [if_pos c4] at H
  have c4b0 : ((l0.length : Int) == (l1.length : Int)) = true := beq_iff_eq.mpr c4
  have c4b1 : ((l0.length : Int) != (l1.length : Int)) = false := bne_eq_false_iff_eq.mpr c4
  have c4b2 : (l0.length == l1.length) = true := by first | simpa using c4 | (simp at c4 ⊢; omega)
  clear c4
  (first | rw [c4b0] | (simp only [Zbe, Zbg]; rw [c4b0]) | skip)
  replace H := Option.bind_eq_some_iff.mp H
  obtain ⟨t110, A50, H⟩ := H
  replace H : (if t110 = true then ((Zaf.f k l1).bind fun t111 => (Zae.j0 k l0 l1 (!t111))) else (Zae.j0 k l0 l1 true)) = some (r1, r2) := H
  have A5 := Zaa.mk A50
  clear A50
  by_cases c6 : t110 = true
  rotate_left
  ·replace c6 := Bool.eq_false_iff.mpr c6
   subst c6
   have H1 : (Zae.j0 k l0 l1 true) = some (r1, r2) := by rw [if_neg (show ¬ (false = true) by decide)] at H; exact H
   clear H
   have H := H1
   clear H1
   have H' := Zaa.mk H
   clear H
   go_wp2_with (first | (go_at_call 15; (with_reducible refine (Zaf.calls k _ _ l0 false _ ?side1 ?side2 A5.out).mono ?_); (case side1 => repeat (first | exact (Kd.Zaq HR0.out HB.out) | (with_reducible refine Kd.Za0 ?_ _) | (with_reducible refine Kd.C_drewN ?_ _) | (with_reducible refine Kd.C_drew ?_))); (case side2 => exact HC0.out); rintro e w' ⟨rfl, ⟨nd, rfl⟩⟩))
   go_meet
   case rel => exact ⟨_, (true), (by first | rfl | (simp; done) | (simp [*]; done)), H', ⟨by first | omega | exact Nat.le_refl _⟩, ⟨by repeat (first | (with_reducible first | exact HB.out | apply Zac | apply Zab | apply Zad) | exact HB.out)⟩⟩
  subst c6
  have H1 : ((Zaf.f k l1).bind fun t111 => (Zae.j0 k l0 l1 (!t111))) = some (r1, r2) := by rw [if_pos rfl] at H; exact H
  clear H
  have H := H1
  clear H1
  replace H := Option.bind_eq_some_iff.mp H
  obtain ⟨t111, A70, H⟩ := H
  replace H : (Zae.j0 k l0 l1 (!t111)) = some (r1, r2) := H
  have A7 := Zaa.mk A70
  clear A70
  have H' := Zaa.mk H
  clear H
  go_wp2_with (first | (go_at_call 15; (with_reducible refine (Zaf.calls k _ _ l0 true _ ?side1 ?side2 A5.out).mono ?_); (case side1 => repeat (first | exact (Kd.Zaq HR0.out HB.out) | (with_reducible refine Kd.Za0 ?_ _) | (with_reducible refine Kd.C_drewN ?_ _) | (with_reducible refine Kd.C_drew ?_))); (case side2 => exact HC0.out); rintro e w' ⟨rfl, ⟨nd, rfl⟩⟩) | (go_at_call 15; (with_reducible refine (Zaf.calls k _ _ l1 t111 _ ?side1 ?side2 A7.out).mono ?_); (case side1 => repeat (first | exact (Kd.Zaq HR1.out (by repeat (first | (with_reducible first | exact HB.out | apply Zac | apply Zab | apply Zad) | exact HB.out))) | (with_reducible refine Kd.Za0 ?_ _) | (with_reducible refine Kd.C_drewN ?_ _) | (with_reducible refine Kd.C_drew ?_))); (case side2 => exact HC1.out); rintro e w' ⟨rfl, ⟨nd, rfl⟩⟩))
  go_meet
  case rel => exact ⟨_, (!t111), (by first | rfl | (simp; done) | (simp [*]; done)), H', ⟨by first | omega | exact Nat.le_refl _⟩, ⟨by repeat (first | (with_reducible first | exact HB.out | apply Zac | apply Zab | apply Zad) | exact HB.out)⟩⟩
 case rest =>
  clear HC3
  try clear c1
  try clear p2
  try clear c4
  try clear c4b0
  try clear c4b1
  try clear c4b2
  try clear c6
  obtain ⟨kq, x22_2, rfl, HA, HJ2, HB⟩ := hcut
  cases kq with
  | zero => exact absurd HA.out (by simp [Zae.j0])
  | succ kj2 =>
   have H := HA.out
   clear HA
   simp only [Zae.j0] at H
   by_cases c8 : x22_2 = true
   ·subst c8
    have H1 : (some (([] : List Int), 1)) = some (r1, r2) := by rw [if_pos rfl] at H; exact H
    clear H
    have H := H1
    clear H1
    simp only [Option.some.injEq, Prod.mk.injEq] at H
    obtain ⟨rfl, rfl⟩ := H
    go_wp2
    go_ret2
    exact ⟨_, by first | rfl | (simp [Zau, Zav] <;> rfl) | (simp [*, Zau, Zav] <;> rfl), by first | exact Kd.Zdo _ _ _ _ _ | exact Kd.Zeq _ _ _ _ _ | exact Kd.V_nil _ _ _ _ _ | exact Kd.Q_nil _ _ _ _ _ | exact Kd.Zd _ _ _ _ _, by repeat (first | (with_reducible first | exact HB.out | apply Zac | apply Zab | apply Zad) | exact HB.out)⟩
   replace c8 := Bool.eq_false_iff.mpr c8
   subst c8
   have H1 : (Zae.l0 kj2 l0 l1 (([] : List Int)) 0) = some (r1, r2) := by rw [if_neg (show ¬ (false = true) by decide)] at H; exact H
   clear H
   have H := H1
   clear H1
   obtain ⟨y112, hy112⟩ : ∃ y_ : List Int, y_ = (([] : List Int)) := ⟨_, rfl⟩
   replace H : (Zae.l0 kj2 l0 l1 y112 0) = some (r1, r2) := by first | (rw [hy112]; with_reducible exact H) | (have H2_ := (Option.bind_some _ _).symm.trans H; rw [hy112]; with_reducible exact H2_) | (have H2_ := (Option.bind_some _ _).symm.trans H; with_reducible exact H2_) | with_reducible exact H | (rw [hy112]; exact H) | exact H
   have Ny112 := Zaa.mk hy112
   clear hy112
   have H' := Zaa.mk H
   clear H
   go_wp2_with (first | ((with_reducible refine Zbn (N := 23) rfl ?_); refine Kd.Zex (Kd.int .i64) _ 3 ?hg (N := 23) ?hd (xs := ([] : List Int)) (inner := []) (ok := fun _ => True) (okp := fun _ => True) ?hr ?hp (fun _ hk => hk) trivial (Below.refl _ _) (Nat.le_refl _) (by simp) ?_; (case hd => rfl); (case hg => rfl); (case hr => first | (go_simp; done) | (go_simp; rfl)); (case hp => exact (Reps.none _ _)); intro v113 w9 ho10 hb hg_ hnew_; clear hg_ hnew_; (first | rw [← Ny112.out] at ho10 | (simp only [Int.reduceToNat] at ho10; rw [← Ny112.out] at ho10)); have n0_ := Zaa.mk (Kd.Zbu ho10 (Zas (by repeat (first | (with_reducible first | exact HB.out | apply Zac | apply Zab | apply Zad) | exact HB.out)))); have n1_ := Zaa.mk (Zan (by repeat (first | (with_reducible first | exact HB.out | apply Zac | apply Zab | apply Zad) | exact HB.out)) hb); clear HB; have HO114 := n0_; have HB := n1_; clear n0_ n1_; clear hb ho10))
   go_loopg [6, 7] kj2 (fun kq v6 v7 w' => ∃ (x6_2 : List Int) (x7_2 : Int), v7 = .int .i64 x7_2 ∧ Zaa (Zae.l0 kq l0 l1 x6_2 x7_2 = some (r1, r2)) ∧ Zaa (kq ≤ kj2) ∧ Zaa (Kd.R (Kd.int .i64) 3 w' w.heap.size (fun _ => True) v6 x6_2) ∧ Zaa (Below w.heap.size w w'))
   case atStart => exact ⟨(y112), (0), (by first | rfl | (simp; done) | (simp [*]; done)), H', ⟨Nat.le_refl _⟩, ⟨by (with_reducible repeat (first | apply Kd.Zbk | apply Kd.R_drewN | apply Kd.Zbz)); exact HO114.out⟩, ⟨by repeat (first | (with_reducible first | exact HB.out | apply Zac | apply Zab | apply Zad) | exact HB.out)⟩⟩
   case round =>
    clear H'
    try clear c1
    try clear p2
    try clear c4
    try clear c4b0
    try clear c4b1
    try clear c4b2
    try clear c6
    try clear c8
    try clear c10
    try clear p2
    obtain ⟨x6_2, x7_2, rfl, HA, HK2, HO_6, HB⟩ := hrel
    cases gk with
    | zero => exact absurd HA.out (by simp [Zae.l0])
    | succ k2 =>
     have H := HA.out
     clear HA
     simp only [Zae.l0] at H
     by_cases c11 : x7_2 < (l0.length : Int)
     rotate_left
     ·rw [if_neg c11] at H
      have c11b0 : decide (x7_2 < (l0.length : Int)) = false := decide_eq_false c11
      clear c11
      simp only [Option.some.injEq, Prod.mk.injEq] at H
      obtain ⟨rfl, rfl⟩ := H
      go_wp2
      go_ret2
      exact ⟨_, by first | rfl | (simp [Zau, Zav] <;> rfl) | (simp [*, Zau, Zav] <;> rfl), by (with_reducible repeat (first | apply Kd.Zbk | apply Kd.R_drewN | apply Kd.Zbz)); exact HO_6.out, by repeat (first | (with_reducible first | exact HB.out | apply Zac | apply Zab | apply Zad) | exact HB.out)⟩

     rw [if_pos c11] at H
     have c11b0 : decide (x7_2 < (l0.length : Int)) = true := decide_eq_true c11
     clear c11
     by_cases c12 : 0 ≤ x7_2
     rotate_left
     ·rw [if_neg c12] at H
      exact absurd H (by simp)
     rw [if_pos c12] at H
     have c12b0 : decide (0 ≤ x7_2) = true := decide_eq_true c12
     clear c12
     by_cases c13 : 0 ≤ (rd l0 x7_2)
     rotate_left
     ·rw [if_neg c13] at H
      exact absurd H (by simp)
     rw [if_pos c13] at H
     have c13b0 : decide (0 ≤ (rd l0 x7_2)) = true := decide_eq_true c13
     clear c13
     by_cases c14 : (rd l0 x7_2) < (l1.length : Int)
     rotate_left
     ·rw [if_neg c14] at H
      exact absurd H (by simp)
     rw [if_pos c14] at H
     have c14b0 : decide ((rd l0 x7_2) < (l1.length : Int)) = true := decide_eq_true c14
     clear c14
     by_cases c15 : x6_2.length < 17592186044416
     rotate_left
     ·rw [if_neg c15] at H
      exact absurd H (by simp)
     rw [if_pos c15] at H
     have LMc15 := Zaa.mk c15
     clear c15
     obtain ⟨y117, hy117⟩ : ∃ y_ : List Int, y_ = (x6_2 ++ [rd l1 (rd l0 x7_2)]) := ⟨_, rfl⟩
     replace H : (Zae.l0 k2 l0 l1 y117 (wrap64 (x7_2 + 1))) = some (r1, r2) := by first | (rw [hy117]; with_reducible exact H) | (have H2_ := (Option.bind_some _ _).symm.trans H; rw [hy117]; with_reducible exact H2_) | (have H2_ := (Option.bind_some _ _).symm.trans H; with_reducible exact H2_) | with_reducible exact H | (rw [hy117]; exact H) | exact H
     have Ny117 := Zaa.mk hy117
     clear hy117
     have H' := Zaa.mk H
     clear H
     have p115 : 0 ≤ (x7_2 : Int) := of_decide_eq_true (by first | (with_reducible assumption) | assumption)
     have q115 : x7_2 < (l0.length : Int) := of_decide_eq_true (by first | (with_reducible assumption) | assumption)
     obtain ⟨ad115, e115, hx115_0⟩ := Kd.Zbi HR0.out x7_2 p115 q115
     cases e115
     replace hx115_0 := (HB.out.cell (World.block_lt_of_cell? w _ hx115_0)).trans hx115_0
     replace p115 := eq_true p115
     replace q115 := eq_true q115
     have p116 : 0 ≤ ((rd l0 x7_2) : Int) := of_decide_eq_true (by first | (with_reducible assumption) | assumption)
     have q116 : (rd l0 x7_2) < (l1.length : Int) := of_decide_eq_true (by first | (with_reducible assumption) | assumption)
     obtain ⟨ad116, e116, hx116_0⟩ := Kd.Zbi HR1.out (rd l0 x7_2) p116 q116
     cases e116
     replace hx116_0 := (HB.out.cell (World.block_lt_of_cell? w _ hx116_0)).trans hx116_0
     replace p116 := eq_true p116
     replace q116 := eq_true q116
     go_wp2_with (first | ((with_reducible refine Za1 (b := .append) (xs := #[.tmp 30, .tmp 38]) rfl ?_); at_builtin; refine Kd.Zca (Kd.int .i64) (w0 := w) w.heap.size rfl (.tmp 30) (.tmp 38) 22 3 (.int .i64 0) 8 rfl Try.underlying22 info3 rfl (by decide) (by omega) u6 x6_2 (rd l1 (rd l0 x7_2)) [.int .i64 (rd l1 (rd l0 x7_2))] (fun _ => True) (fun _ => False) rfl rfl ?aP (fun _ hk => hk.elim) ?aF ?aO ?aB ?aS ?aL ?_; (case aP => exact rfl); (case aB => exact (by repeat (first | (with_reducible first | exact HB.out | apply Zac | apply Zab | apply Zad) | exact HB.out))); (case aF => exact (fun _ _ => trivial)); (case aO => exact (by (with_reducible repeat (first | apply Kd.Zbk | apply Kd.R_drewN | apply Kd.Zbz)); exact HO_6.out)); (case aS => exact (Zas (by repeat (first | (with_reducible first | exact HB.out | apply Zac | apply Zab | apply Zad) | exact HB.out)))); (case aL => have := LMc15.out; omega); intro v118 w16 ho hb hg hat; rw [← Ny117.out] at ho; have n0_ := Zaa.mk (hb); have n1_ := Zaa.mk (ho); clear HB; clear HO_6; have HB := n0_; have HO119 := n1_; clear n0_ n1_; clear ho hb hg hat))
     go_roundg k2
     case measure => have := HJ2.out; have := HK2.out; omega
     case rel => exact ⟨(y117), (wrap64 (x7_2 + 1)), (by first | rfl | (simp; done) | (simp [*]; done)), H', ⟨by have := HJ2.out; have := HK2.out; omega⟩, ⟨by (with_reducible repeat (first | apply Kd.Zbk | apply Kd.R_drewN | apply Kd.Zbz)); exact HO119.out⟩, ⟨by repeat (first | (with_reducible first | exact HB.out | apply Zac | apply Zab | apply Zad) | exact HB.out)⟩⟩
end Go.Proofs.Yteopgafbamipeaa.P
/- The document's one change behind another one. -/
namespace Go.Proofs.Yteopgafbamipeaa.P
open Go.RowKit G Go.Proofs.YteopgafbamipeaaW.PrintWords Go.Proofs.YteopgafbamipeaaW.PrintLast
set_option linter.unusedVariables false
namespace G
theorem Zdg (p q : List Int) (hp : Rt p) (hl : p.length = q.length) (hb : p.length ≤ 1000000) : ∀ (d j : Nat), j + d = p.length → Ev (fun k => Zae.l0 k p q (comp (p.take j) q) (j : Int)) (comp p q, 0)
  | 0, j, h => by
    obtain rfl : j = p.length := by omega
    exact Ev.step (G := fun _ => some (comp (p.take p.length) q, 0)) (fun k => by rw [Zae.l0, if_neg (by omega)]) (Ev.const (by rw [List.take_length]))
  | d + 1, j, h => by
    have hj : j < p.length := by omega
    obtain ⟨h0, h1⟩ := hp.rng hj
    have e : comp (p.take j) q ++ [rd q (rd p j)] = comp (p.take (j + 1)) q := by
      unfold comp
      rw [List.take_succ_eq_append_getElem hj, List.map_append, Zfd hj]
      rfl
    refine Ev.step (fun k => by rw [Zae.l0, if_pos (by omega), if_pos (by omega), if_pos h0, if_pos (by omega), if_pos (by rw [Zb, List.length_take]; omega), w1 (by omega), e]) (Zdg p q hp hl hb d (j + 1) (by omega))
theorem ref_behind_ev {p q : List Int} (hp : p.length ≤ 1000000) (hq : q.length ≤ 1000000) : Ev (fun k => Zae.f k p q) (bh p q) := by
  have hno : ∀ b : Bool, b = true → bh p q = ([], 1) → Ev (fun k => Zae.j0 k p q b) (bh p q) := fun b hb h => by
    subst hb
    rw [h]
    exact Ev.step (G := fun _ => some ([], 1)) (fun k => by rw [Zae.j0, if_pos rfl]) (Ev.const rfl)
  unfold Zae.f
  by_cases hl : p.length = q.length
  rotate_left
  · exact Ev.Zcf (by omega) (hno _ rfl (if_neg (fun h => hl h.1)))
  refine Ev.Zby (by omega) (Ev.bind (Zcu hp) ?_)
  cases h1 : rtB p
  · exact Ev.Zcf (by simp) (hno _ rfl (if_neg (by simp [h1])))
  refine Ev.Zby rfl (Ev.bind (Zcu hq) ?_)
  cases h2 : rtB q
  · exact hno _ rfl (if_neg (by simp [h2]))
  have e : bh p q = (comp p q, 0) := if_pos ⟨hl, h1, h2⟩
  rw [e]
  refine Ev.step (G := fun k => Zae.l0 k p q [] 0) (fun k => by rw [Zae.j0, if_neg (by simp)]) ?_
  exact Zdg p q (Zb9.1 h1) hl hp p.length 0 (by omega)
end G
end Go.Proofs.Yteopgafbamipeaa.P
namespace Go.Proofs.Yteopgafbamipeaa.P
open Go.RowKit Go.Proofs.YteopgafbamipeaaW.PrintWords Go.Proofs.YteopgafbamipeaaW.PrintLast Go.Proofs.YteopgafbamipeaaW.PrintMore
attribute [local go_sem] Zb4 Zb6 Zcg Zch Zbs Zbt Zb5 Zb7
set_option linter.unusedVariables false
set_option linter.unusedSimpArgs false
/-! ### Za: function 21 -/
mutual
def Za.j0 : Nat → List (List Int) → Int → Bool → Option ((List (List Int)) × Int)
 | 0, _, _, _ => none
 | k + 1, x0, x1, x20 => if x20 = true then (some (([] : List (List Int)), 1)) else (Za.l0 k x0 x1 0)
def Za.l0 : Nat → List (List Int) → Int → Int → Option ((List (List Int)) × Int)
 | 0, _, _, _ => none
 | k + 1, x0, x1, x6 => if x6 < (x0.length : Int) then (if 0 ≤ x6 then (if ((Za3 x0 x6).length : Int) = x1 then ((Zaf.f k (Za3 x0 x6)).bind fun t247 => (if t247 = true then (Za.l0 k x0 x1 (wrap64 (x6 + 1))) else (some (([] : List (List Int)), 1)))) else (some (([] : List (List Int)), 1))) else (none)) else (Za.l1 k x0 x1 (([] : List Int)) 0)
def Za.l1 : Nat → List (List Int) → Int → List Int → Int → Option ((List (List Int)) × Int)
 | 0, _, _, _, _ => none
 | k + 1, x0, x1, x7, x8 => if x8 < x1 then (if x7.length < 17592186044416 then (Za.l1 k x0 x1 (x7 ++ [x8]) (wrap64 (x8 + 1))) else (none)) else (Za.l2 k x0 (([x7] : List (List Int))))
def Za.l2 : Nat → List (List Int) → List (List Int) → Option ((List (List Int)) × Int)
 | 0, _, _ => none
 | k + 1, x0, x9 => (some (([] : List (List Int)) : List (List Int))).bind fun y257 => (if y257.length + x9.length < 5864062014805 then (Za.l3 k x0 x9 (y257 ++ x9) 0) else (none))
def Za.l3 : Nat → List (List Int) → List (List Int) → List (List Int) → Int → Option ((List (List Int)) × Int)
 | 0, _, _, _, _ => none
 | k + 1, x0, x9, x10, x11 => if x11 < (x9.length : Int) then (Za.l4 k x0 x9 x10 x11 0) else ((Za5.f x10).bind fun t272 => ((Zag.f k t272 x9).bind fun t275 => (if t275 = true then (some (x9, 0)) else (Za.l2 k x0 t272))))
def Za.l4 : Nat → List (List Int) → List (List Int) → List (List Int) → Int → Int → Option ((List (List Int)) × Int)
 | 0, _, _, _, _, _ => none
 | k + 1, x0, x9, x10, x11, x12 => if x12 < (x0.length : Int) then (if 0 ≤ x12 then (if 0 ≤ x11 then (if x11 < (x9.length : Int) then ((Zae.f k (Za3 x0 x12) (Za3 x9 x11)).bind fun bt265 => (if x10.length < 5864062014805 then (Za.l4 k x0 x9 (x10 ++ [bt265.1]) x11 (wrap64 (x12 + 1))) else (none))) else (none)) else (none)) else (none)) else (Za.l3 k x0 x9 x10 (wrap64 (x11 + 1)))
end
def Za.f (k : Nat) (l0 : List (List Int)) (a1 : Int) : Option ((List (List Int)) × Int) := if a1 < 0 then (Za.j0 k l0 a1 true) else (Za.j0 k l0 a1 (decide (a1 > 7)))
theorem Za.Za6 : ∀ k, (∀ y0 y1 y2, LeO (Za.j0 k y0 y1 y2) (Za.j0 (k + 1) y0 y1 y2)) ∧ (∀ y0 y1 y2, LeO (Za.l0 k y0 y1 y2) (Za.l0 (k + 1) y0 y1 y2)) ∧ (∀ y0 y1 y2 y3, LeO (Za.l1 k y0 y1 y2 y3) (Za.l1 (k + 1) y0 y1 y2 y3)) ∧ (∀ y0 y1, LeO (Za.l2 k y0 y1) (Za.l2 (k + 1) y0 y1)) ∧ (∀ y0 y1 y2 y3, LeO (Za.l3 k y0 y1 y2 y3) (Za.l3 (k + 1) y0 y1 y2 y3)) ∧ (∀ y0 y1 y2 y3 y4, LeO (Za.l4 k y0 y1 y2 y3 y4) (Za.l4 (k + 1) y0 y1 y2 y3 y4))
 | 0 => ⟨fun _ _ _ r h => by simp [Za.j0] at h, fun _ _ _ r h => by simp [Za.l0] at h, fun _ _ _ _ r h => by simp [Za.l1] at h, fun _ _ r h => by simp [Za.l2] at h, fun _ _ _ _ r h => by simp [Za.l3] at h, fun _ _ _ _ _ r h => by simp [Za.l4] at h⟩
 | k + 1 => by
  obtain ⟨ih0, ih1, ih2, ih3, ih4, ih5⟩ := Za.Za6 k
  refine ⟨?_, ?_, ?_, ?_, ?_, ?_⟩
  ·intro y0 y1 y2
   unfold Za.j0
   repeat' first
   | (with_reducible exact ih0 _ _ _)
   | (with_reducible exact ih1 _ _ _)
   | (with_reducible exact ih2 _ _ _ _)
   | (with_reducible exact ih3 _ _)
   | (with_reducible exact ih4 _ _ _ _)
   | (with_reducible exact ih5 _ _ _ _ _)
   | (with_reducible exact Zag.mono _ _ _)
   | (with_reducible exact Zaf.mono _ _)
   | (with_reducible exact Zae.mono _ _ _)
   | (with_reducible exact LeO.refl _)
   | (with_reducible exact LeO.none _)
   | (with_reducible refine LeO.ite ?_ ?_)
   | (with_reducible refine LeO.bind ?_ (fun _ => ?_))
   | exact ih0 _ _ _
   | exact ih1 _ _ _
   | exact ih2 _ _ _ _
   | exact ih3 _ _
   | exact ih4 _ _ _ _
   | exact ih5 _ _ _ _ _
   | exact Zag.mono _ _ _
   | exact Zaf.mono _ _
   | exact Zae.mono _ _ _
   | exact LeO.none _
   | refine LeO.ite ?_ ?_
   | refine LeO.bind ?_ (fun _ => ?_)
  ·intro y0 y1 y2
   unfold Za.l0
   repeat' first
   | (with_reducible exact ih0 _ _ _)
   | (with_reducible exact ih1 _ _ _)
   | (with_reducible exact ih2 _ _ _ _)
   | (with_reducible exact ih3 _ _)
   | (with_reducible exact ih4 _ _ _ _)
   | (with_reducible exact ih5 _ _ _ _ _)
   | (with_reducible exact Zag.mono _ _ _)
   | (with_reducible exact Zaf.mono _ _)
   | (with_reducible exact Zae.mono _ _ _)
   | (with_reducible exact LeO.refl _)
   | (with_reducible exact LeO.none _)
   | (with_reducible refine LeO.ite ?_ ?_)
   | (with_reducible refine LeO.bind ?_ (fun _ => ?_))
   | exact ih0 _ _ _
   | exact ih1 _ _ _
   | exact ih2 _ _ _ _
   | exact ih3 _ _
   | exact ih4 _ _ _ _
   | exact ih5 _ _ _ _ _
   | exact Zag.mono _ _ _
   | exact Zaf.mono _ _
   | exact Zae.mono _ _ _
   | exact LeO.none _
   | refine LeO.ite ?_ ?_
   | refine LeO.bind ?_ (fun _ => ?_)
  ·intro y0 y1 y2 y3
   unfold Za.l1
   repeat' first
   | (with_reducible exact ih0 _ _ _)
   | (with_reducible exact ih1 _ _ _)
   | (with_reducible exact ih2 _ _ _ _)
   | (with_reducible exact ih3 _ _)
   | (with_reducible exact ih4 _ _ _ _)
   | (with_reducible exact ih5 _ _ _ _ _)
   | (with_reducible exact Zag.mono _ _ _)
   | (with_reducible exact Zaf.mono _ _)
   | (with_reducible exact Zae.mono _ _ _)
   | (with_reducible exact LeO.refl _)
   | (with_reducible exact LeO.none _)
   | (with_reducible refine LeO.ite ?_ ?_)
   | (with_reducible refine LeO.bind ?_ (fun _ => ?_))
   | exact ih0 _ _ _
   | exact ih1 _ _ _
   | exact ih2 _ _ _ _
   | exact ih3 _ _
   | exact ih4 _ _ _ _
   | exact ih5 _ _ _ _ _
   | exact Zag.mono _ _ _
   | exact Zaf.mono _ _
   | exact Zae.mono _ _ _
   | exact LeO.none _
   | refine LeO.ite ?_ ?_
   | refine LeO.bind ?_ (fun _ => ?_)
  ·intro y0 y1
   unfold Za.l2
   repeat' first
   | (with_reducible exact ih0 _ _ _)
   | (with_reducible exact ih1 _ _ _)
   | (with_reducible exact ih2 _ _ _ _)
   | (with_reducible exact ih3 _ _)
   | (with_reducible exact ih4 _ _ _ _)
   | (with_reducible exact ih5 _ _ _ _ _)
   | (with_reducible exact Zag.mono _ _ _)
   | (with_reducible exact Zaf.mono _ _)
   | (with_reducible exact Zae.mono _ _ _)
   | (with_reducible exact LeO.refl _)
   | (with_reducible exact LeO.none _)
   | (with_reducible refine LeO.ite ?_ ?_)
   | (with_reducible refine LeO.bind ?_ (fun _ => ?_))
   | exact ih0 _ _ _
   | exact ih1 _ _ _
   | exact ih2 _ _ _ _
   | exact ih3 _ _
   | exact ih4 _ _ _ _
   | exact ih5 _ _ _ _ _
   | exact Zag.mono _ _ _
   | exact Zaf.mono _ _
   | exact Zae.mono _ _ _
   | exact LeO.none _
   | refine LeO.ite ?_ ?_
   | refine LeO.bind ?_ (fun _ => ?_)
  ·intro y0 y1 y2 y3
   unfold Za.l3
   repeat' first
   | (with_reducible exact ih0 _ _ _)
   | (with_reducible exact ih1 _ _ _)
   | (with_reducible exact ih2 _ _ _ _)
   | (with_reducible exact ih3 _ _)
   | (with_reducible exact ih4 _ _ _ _)
   | (with_reducible exact ih5 _ _ _ _ _)
   | (with_reducible exact Zag.mono _ _ _)
   | (with_reducible exact Zaf.mono _ _)
   | (with_reducible exact Zae.mono _ _ _)
   | (with_reducible exact LeO.refl _)
   | (with_reducible exact LeO.none _)
   | (with_reducible refine LeO.ite ?_ ?_)
   | (with_reducible refine LeO.bind ?_ (fun _ => ?_))
   | exact ih0 _ _ _
   | exact ih1 _ _ _
   | exact ih2 _ _ _ _
   | exact ih3 _ _
   | exact ih4 _ _ _ _
   | exact ih5 _ _ _ _ _
   | exact Zag.mono _ _ _
   | exact Zaf.mono _ _
   | exact Zae.mono _ _ _
   | exact LeO.none _
   | refine LeO.ite ?_ ?_
   | refine LeO.bind ?_ (fun _ => ?_)
  intro y0 y1 y2 y3 y4
  unfold Za.l4
  repeat' first
  | (with_reducible exact ih0 _ _ _)
  | (with_reducible exact ih1 _ _ _)
  | (with_reducible exact ih2 _ _ _ _)
  | (with_reducible exact ih3 _ _)
  | (with_reducible exact ih4 _ _ _ _)
  | (with_reducible exact ih5 _ _ _ _ _)
  | (with_reducible exact Zag.mono _ _ _)
  | (with_reducible exact Zaf.mono _ _)
  | (with_reducible exact Zae.mono _ _ _)
  | (with_reducible exact LeO.refl _)
  | (with_reducible exact LeO.none _)
  | (with_reducible refine LeO.ite ?_ ?_)
  | (with_reducible refine LeO.bind ?_ (fun _ => ?_))
  | exact ih0 _ _ _
  | exact ih1 _ _ _
  | exact ih2 _ _ _ _
  | exact ih3 _ _
  | exact ih4 _ _ _ _
  | exact ih5 _ _ _ _ _
  | exact Zag.mono _ _ _
  | exact Zaf.mono _ _
  | exact Zae.mono _ _ _
  | exact LeO.none _
  | refine LeO.ite ?_ ?_
  | refine LeO.bind ?_ (fun _ => ?_)
theorem Za.mono : ∀ a0 a1 k, LeO (Za.f k a0 a1) (Za.f (k + 1) a0 a1) := by
 intro a0 a1 k
 obtain ⟨ih0, ih1, ih2, ih3, ih4, ih5⟩ := Za.Za6 k
 unfold Za.f
 repeat' first
   | (with_reducible exact ih0 _ _ _)
   | (with_reducible exact ih1 _ _ _)
   | (with_reducible exact ih2 _ _ _ _)
   | (with_reducible exact ih3 _ _)
   | (with_reducible exact ih4 _ _ _ _)
   | (with_reducible exact ih5 _ _ _ _ _)
   | (with_reducible exact Zag.mono _ _ _)
   | (with_reducible exact Zaf.mono _ _)
   | (with_reducible exact Zae.mono _ _ _)
   | (with_reducible exact LeO.refl _)
   | (with_reducible exact LeO.none _)
   | (with_reducible refine LeO.ite ?_ ?_)
   | (with_reducible refine LeO.bind ?_ (fun _ => ?_))
   | exact ih0 _ _ _
   | exact ih1 _ _ _
   | exact ih2 _ _ _ _
   | exact ih3 _ _
   | exact ih4 _ _ _ _
   | exact ih5 _ _ _ _ _
   | exact Zag.mono _ _ _
   | exact Zaf.mono _ _
   | exact Zae.mono _ _ _
   | exact LeO.none _
   | refine LeO.ite ?_ ?_
   | refine LeO.bind ?_ (fun _ => ?_)
def Za.T21 : Bool × List (List Nat × List Nat) := (true, [([], []), ([], []), ([0, 1], [0, 1]), ([2], [2]), ([], []), ([], []), ([4, 5], [4, 5]), ([6], [6]), ([3, 7], [3, 7]), ([8], [8]), ([9], [9]), ([9], [9]), ([10, 8, 0, 1, 2, 3, 4, 5, 6, 7, 8, 9, 10], [10]), ([11, 12, 0, 1, 2, 3, 4, 5, 6, 7, 8, 9, 10, 11, 12], [11])])
def Za.B21 : List Nat := [0, 0, 3, 7, 0, 0, 48, 112, 255, 511, 1023, 1023, 2047, 8191]
theorem Za.tab21 : rtab .any (opsOf Try.f21 21) = Za.T21 := by kernel_rfl
theorem Za.bits21 : waitsOk Za.T21.2 Za.B21 = true := by kernel_rfl
set_option maxHeartbeats 8000000 in
set_option maxRecDepth 100000 in
theorem Za.calls (k : Nat) (A0 : Option Addr) (c0 : Nat) (l0 : List (List Int)) (a1 : Int) (r1 : List (List Int)) (r2 : Int) (w : World) (hr0 : Kd.C (Kd.slice 3 (Kd.int .i64)) w A0 l0.length l0) (hc0 : l0.length ≤ c0) (h : Za.f k l0 a1 = some (r1, r2)) :
  Calls Try.prog 21 #[.slice A0 l0.length c0, .int .i64 a1] w fun e w' => ∃ v0_ : Value, e = .returned (.tuple #[v0_, .int .i64 r2]) ∧ Kd.N (Kd.slice 3 (Kd.int .i64)) 22 w' w.heap.size (fun k_ => (w.heap.size ≤ k_)) v0_ r1 ∧ Below w.heap.size w w' := by
 have HR0 := Zaa.mk hr0
 have HC0 := Zaa.mk hc0
 clear hr0 hc0
 have HB := Zaa.mk (Below.refl w.heap.size w)
 have H : (if a1 < 0 then (Za.j0 k l0 a1 true) else (Za.j0 k l0 a1 (decide (a1 > 7)))) = some (r1, r2) := h
 clear h
 have HC3 := Zaa.mk H
 clear H
 go_enter Try.func21, Try.ntmps21
 go_upto_region 1 with (fail)
 go_cut [20] (fun v20 wc => ∃ (kq : Nat) (x20_2 : Bool), v20 = .bool x20_2 ∧ Zaa (Za.j0 kq l0 a1 x20_2 = some (r1, r2)) ∧ Zaa (kq ≤ k) ∧ Zaa (Below w.heap.size w wc))
 case first =>
  have H := HC3.out
  clear HC3
  by_cases c4 : a1 < 0
  ·rw [if_pos c4] at H
   have c4b0 : decide (a1 < 0) = true := decide_eq_true c4
   clear c4
   (first | rw [c4b0] | (simp only [Zbe, Zbg]; rw [c4b0]) | skip)
   have H' := Zaa.mk H
   clear H
   go_wp2
   go_meet
   case rel => exact ⟨_, (true), (by first | rfl | (simp; done) | (simp [*]; done)), H', ⟨by first | omega | exact Nat.le_refl _⟩, ⟨by repeat (first | (with_reducible first | exact HB.out | apply Zac | apply Zab | apply Zad) | exact HB.out)⟩⟩
  rw [if_neg c4] at H
  have c4b0 : decide (a1 < 0) = false := decide_eq_false c4
  clear c4
  (first | rw [c4b0] | (simp only [Zbe, Zbg]; rw [c4b0]) | skip)
  have H' := Zaa.mk H
  clear H
  go_wp2
  go_meet
  case rel => exact ⟨_, (decide (a1 > 7)), (by first | rfl | (simp; done) | (simp [*]; done)), H', ⟨by first | omega | exact Nat.le_refl _⟩, ⟨by repeat (first | (with_reducible first | exact HB.out | apply Zac | apply Zab | apply Zad) | exact HB.out)⟩⟩
 case rest =>
  clear HC3
  try clear c2
  try clear p2
  try clear c4
  try clear c4b0
  obtain ⟨kq, x20_2, rfl, HA, HJ2, HB⟩ := hcut
  cases kq with
  | zero => exact absurd HA.out (by simp [Za.j0])
  | succ kj2 =>
   have H := HA.out
   clear HA
   simp only [Za.j0] at H
   by_cases c5 : x20_2 = true
   ·subst c5
    have H1 : (some (([] : List (List Int)), 1)) = some (r1, r2) := by rw [if_pos rfl] at H; exact H
    clear H
    have H := H1
    clear H1
    simp only [Option.some.injEq, Prod.mk.injEq] at H
    obtain ⟨rfl, rfl⟩ := H
    go_wp2
    go_ret2
    exact ⟨_, by first | rfl | (simp [Zau, Zav] <;> rfl) | (simp [*, Zau, Zav] <;> rfl), by first | exact Kd.Zd _ _ _ _ _ | exact Kd.Zeq _ _ _ _ _ | exact Kd.V_nil _ _ _ _ _ | exact Kd.Q_nil _ _ _ _ _ | exact Kd.Zdo _ _ _ _ _, by repeat (first | (with_reducible first | exact HB.out | apply Zac | apply Zab | apply Zad) | exact HB.out)⟩
   replace c5 := Bool.eq_false_iff.mpr c5
   subst c5
   have H1 : (Za.l0 kj2 l0 a1 0) = some (r1, r2) := by rw [if_neg (show ¬ (false = true) by decide)] at H; exact H
   clear H
   have H := H1
   clear H1
   have H' := Zaa.mk H
   clear H
   go_wp2
   go_loopg [6] kj2 (fun kq v6 w' => ∃ (x6_2 : Int), v6 = .int .i64 x6_2 ∧ Zaa (Za.l0 kq l0 a1 x6_2 = some (r1, r2)) ∧ Zaa (kq ≤ kj2) ∧ Zaa (Below w.heap.size w w'))
   case atStart => exact ⟨(0), (by first | rfl | (simp; done) | (simp [*]; done)), H', ⟨Nat.le_refl _⟩, ⟨by repeat (first | (with_reducible first | exact HB.out | apply Zac | apply Zab | apply Zad) | exact HB.out)⟩⟩
   case round =>
    clear H'
    try clear c2
    try clear p2
    try clear c4
    try clear c4b0
    try clear c5
    try clear p2
    obtain ⟨x6_2, rfl, HA, HK2, HB⟩ := hrel
    cases gk with
    | zero => exact absurd HA.out (by simp [Za.l0])
    | succ k2 =>
     have H := HA.out
     clear HA
     simp only [Za.l0] at H
     by_cases c6 : x6_2 < (l0.length : Int)
     ·rw [if_pos c6] at H
      have c6b0 : decide (x6_2 < (l0.length : Int)) = true := decide_eq_true c6
      clear c6
      by_cases c7 : 0 ≤ x6_2
      rotate_left
      ·rw [if_neg c7] at H
       exact absurd H (by simp)
      rw [if_pos c7] at H
      have c7b0 : decide (0 ≤ x6_2) = true := decide_eq_true c7
      clear c7
      by_cases c8 : ((Za3 l0 x6_2).length : Int) = a1
      rotate_left
      ·rw [if_neg c8] at H
       have c8b0 : (((Za3 l0 x6_2).length : Int) == a1) = false := beq_eq_false_iff_ne.mpr c8
       have c8b1 : (((Za3 l0 x6_2).length : Int) != a1) = true := bne_iff_ne.mpr c8
       simp only [Option.some.injEq, Prod.mk.injEq] at H
       obtain ⟨rfl, rfl⟩ := H
       have p245 : 0 ≤ (x6_2 : Int) := of_decide_eq_true (by first | (with_reducible assumption) | assumption)
       have q245 : x6_2 < (l0.length : Int) := of_decide_eq_true (by first | (with_reducible assumption) | assumption)
       obtain ⟨ad245, A245_0, c245_0, e245, hx245_0, hl245_0, hi245_0⟩ := Zc8 HR0.out x6_2 p245 q245
       cases e245
       replace hx245_0 := (HB.out.cell (World.block_lt_of_cell? w _ hx245_0)).trans hx245_0
       have HR245_0 := Zaa.mk hi245_0
       have HC245_0 := Zaa.mk hl245_0
       clear hi245_0 hl245_0
       replace p245 := eq_true p245
       replace q245 := eq_true q245
       go_wp2
       go_ret2
       exact ⟨_, by first | rfl | (simp [Zau, Zav] <;> rfl) | (simp [*, Zau, Zav] <;> rfl), by first | exact Kd.Zd _ _ _ _ _ | exact Kd.Zeq _ _ _ _ _ | exact Kd.V_nil _ _ _ _ _ | exact Kd.Q_nil _ _ _ _ _ | exact Kd.Zdo _ _ _ _ _, by repeat (first | (with_reducible first | exact HB.out | apply Zac | apply Zab | apply Zad) | exact HB.out)⟩
      rw [if_pos c8] at H
      have c8b0 : (((Za3 l0 x6_2).length : Int) == a1) = true := beq_iff_eq.mpr c8
      have c8b1 : (((Za3 l0 x6_2).length : Int) != a1) = false := bne_eq_false_iff_eq.mpr c8
      clear c8
      replace H := Option.bind_eq_some_iff.mp H
      obtain ⟨t247, A90, H⟩ := H
      replace H : (if t247 = true then (Za.l0 k2 l0 a1 (wrap64 (x6_2 + 1))) else (some (([] : List (List Int)), 1))) = some (r1, r2) := H
      have A9 := Zaa.mk A90
      clear A90
      by_cases c10 : t247 = true
      ·subst c10
       have H1 : (Za.l0 k2 l0 a1 (wrap64 (x6_2 + 1))) = some (r1, r2) := by rw [if_pos rfl] at H; exact H
       clear H
       have H := H1
       clear H1
       have H' := Zaa.mk H
       clear H
       have p245 : 0 ≤ (x6_2 : Int) := of_decide_eq_true (by first | (with_reducible assumption) | assumption)
       have q245 : x6_2 < (l0.length : Int) := of_decide_eq_true (by first | (with_reducible assumption) | assumption)
       obtain ⟨ad245, A245_0, c245_0, e245, hx245_0, hl245_0, hi245_0⟩ := Zc8 HR0.out x6_2 p245 q245
       cases e245
       replace hx245_0 := (HB.out.cell (World.block_lt_of_cell? w _ hx245_0)).trans hx245_0
       have HR245_0 := Zaa.mk hi245_0
       have HC245_0 := Zaa.mk hl245_0
       clear hi245_0 hl245_0
       replace p245 := eq_true p245
       replace q245 := eq_true q245
       have p246 : 0 ≤ (x6_2 : Int) := of_decide_eq_true (by first | (with_reducible assumption) | assumption)
       have q246 : x6_2 < (l0.length : Int) := of_decide_eq_true (by first | (with_reducible assumption) | assumption)
       obtain ⟨ad246, A246_0, c246_0, e246, hx246_0, hl246_0, hi246_0⟩ := Zc8 HR0.out x6_2 p246 q246
       obtain rfl : ad245 = ad246 := (by injection e246)
       replace hx246_0 := (HB.out.cell (World.block_lt_of_cell? w _ hx246_0)).trans hx246_0
       have HR246_0 := Zaa.mk hi246_0
       have HC246_0 := Zaa.mk hl246_0
       clear hi246_0 hl246_0
       replace p246 := eq_true p246
       replace q246 := eq_true q246
       have ea_ := Option.some.inj (hx245_0.symm.trans hx246_0)
       injection ea_ with ea_ en_ ec_
       subst ea_
       subst ec_
       clear en_
       go_wp2_with (first | (go_at_call 15; (with_reducible refine (Zaf.calls k2 _ _ (Za3 l0 x6_2) true _ ?side1 ?side2 A9.out).mono ?_); (case side1 => repeat (first | exact (Kd.Zaq HR246_0.out HB.out) | (with_reducible refine Kd.Za0 ?_ _) | (with_reducible refine Kd.C_drewN ?_ _) | (with_reducible refine Kd.C_drew ?_))); (case side2 => exact HC246_0.out); rintro e w' ⟨rfl, ⟨nd, rfl⟩⟩))
       go_roundg k2
       case measure => have := HJ2.out; have := HK2.out; omega
       case rel => exact ⟨(wrap64 (x6_2 + 1)), (by first | rfl | (simp; done) | (simp [*]; done)), H', ⟨by have := HJ2.out; have := HK2.out; omega⟩, ⟨by repeat (first | (with_reducible first | exact HB.out | apply Zac | apply Zab | apply Zad) | exact HB.out)⟩⟩
      replace c10 := Bool.eq_false_iff.mpr c10
      subst c10
      have H1 : (some (([] : List (List Int)), 1)) = some (r1, r2) := by rw [if_neg (show ¬ (false = true) by decide)] at H; exact H
      clear H
      have H := H1
      clear H1
      simp only [Option.some.injEq, Prod.mk.injEq] at H
      obtain ⟨rfl, rfl⟩ := H
      have p245 : 0 ≤ (x6_2 : Int) := of_decide_eq_true (by first | (with_reducible assumption) | assumption)
      have q245 : x6_2 < (l0.length : Int) := of_decide_eq_true (by first | (with_reducible assumption) | assumption)
      obtain ⟨ad245, A245_0, c245_0, e245, hx245_0, hl245_0, hi245_0⟩ := Zc8 HR0.out x6_2 p245 q245
      cases e245
      replace hx245_0 := (HB.out.cell (World.block_lt_of_cell? w _ hx245_0)).trans hx245_0
      have HR245_0 := Zaa.mk hi245_0
      have HC245_0 := Zaa.mk hl245_0
      clear hi245_0 hl245_0
      replace p245 := eq_true p245
      replace q245 := eq_true q245
      have p246 : 0 ≤ (x6_2 : Int) := of_decide_eq_true (by first | (with_reducible assumption) | assumption)
      have q246 : x6_2 < (l0.length : Int) := of_decide_eq_true (by first | (with_reducible assumption) | assumption)
      obtain ⟨ad246, A246_0, c246_0, e246, hx246_0, hl246_0, hi246_0⟩ := Zc8 HR0.out x6_2 p246 q246
      obtain rfl : ad245 = ad246 := (by injection e246)
      replace hx246_0 := (HB.out.cell (World.block_lt_of_cell? w _ hx246_0)).trans hx246_0
      have HR246_0 := Zaa.mk hi246_0
      have HC246_0 := Zaa.mk hl246_0
      clear hi246_0 hl246_0
      replace p246 := eq_true p246
      replace q246 := eq_true q246
      have ea_ := Option.some.inj (hx245_0.symm.trans hx246_0)
      injection ea_ with ea_ en_ ec_
      subst ea_
      subst ec_
      clear en_
      go_wp2_with (first | (go_at_call 15; (with_reducible refine (Zaf.calls k2 _ _ (Za3 l0 x6_2) false _ ?side1 ?side2 A9.out).mono ?_); (case side1 => repeat (first | exact (Kd.Zaq HR246_0.out HB.out) | (with_reducible refine Kd.Za0 ?_ _) | (with_reducible refine Kd.C_drewN ?_ _) | (with_reducible refine Kd.C_drew ?_))); (case side2 => exact HC246_0.out); rintro e w' ⟨rfl, ⟨nd, rfl⟩⟩))
      go_ret2
      exact ⟨_, by first | rfl | (simp [Zau, Zav] <;> rfl) | (simp [*, Zau, Zav] <;> rfl), by first | exact Kd.Zd _ _ _ _ _ | exact Kd.Zeq _ _ _ _ _ | exact Kd.V_nil _ _ _ _ _ | exact Kd.Q_nil _ _ _ _ _ | exact Kd.Zdo _ _ _ _ _, by repeat (first | (with_reducible first | exact HB.out | apply Zac | apply Zab | apply Zad) | exact HB.out)⟩
     rw [if_neg c6] at H
     have c6b0 : decide (x6_2 < (l0.length : Int)) = false := decide_eq_false c6
     clear c6
     obtain ⟨y248, hy248⟩ : ∃ y_ : List Int, y_ = (([] : List Int)) := ⟨_, rfl⟩
     replace H : (Za.l1 k2 l0 a1 y248 0) = some (r1, r2) := by first | (rw [hy248]; with_reducible exact H) | (have H2_ := (Option.bind_some _ _).symm.trans H; rw [hy248]; with_reducible exact H2_) | (have H2_ := (Option.bind_some _ _).symm.trans H; with_reducible exact H2_) | with_reducible exact H | (rw [hy248]; exact H) | exact H
     have Ny248 := Zaa.mk hy248
     clear hy248
     have H' := Zaa.mk H
     clear H
     go_wp2_with (first | ((with_reducible refine Zbn (N := 42) rfl ?_); refine Kd.Zex (Kd.int .i64) _ 3 ?hg (N := 42) ?hd (xs := ([] : List Int)) (inner := []) (ok := fun _ => True) (okp := fun _ => True) ?hr ?hp (fun _ hk => hk) trivial (Below.refl _ _) (Nat.le_refl _) (by simp) ?_; (case hd => rfl); (case hg => rfl); (case hr => first | (go_simp; done) | (go_simp; rfl)); (case hp => exact (Reps.none _ _)); intro v249 w11 ho12 hb hg_ hnew_; clear hg_ hnew_; (first | rw [← Ny248.out] at ho12 | (simp only [Int.reduceToNat] at ho12; rw [← Ny248.out] at ho12)); have n0_ := Zaa.mk (Kd.Zbu (Kd.R_newM (M := fun k_ => (w.heap.size ≤ k_)) ho12 (Zas (by repeat (first | (with_reducible first | exact HB.out | apply Zac | apply Zab | apply Zad) | exact HB.out))) (fun k_ h_ => h_)) (Zas (by repeat (first | (with_reducible first | exact HB.out | apply Zac | apply Zab | apply Zad) | exact HB.out)))); have n1_ := Zaa.mk (Zan (by repeat (first | (with_reducible first | exact HB.out | apply Zac | apply Zab | apply Zad) | exact HB.out)) hb); clear HB; have HO250 := n0_; have HB := n1_; clear n0_ n1_; clear hb ho12))
     go_loopg [7, 8] k2 (fun kq v7 v8 w' => ∃ (x7_3 : List Int) (x8_3 : Int), v8 = .int .i64 x8_3 ∧ Zaa (Za.l1 kq l0 a1 x7_3 x8_3 = some (r1, r2)) ∧ Zaa (kq ≤ k2) ∧ Zaa (Kd.R (Kd.int .i64) 3 w' w.heap.size (fun k_ => (w.heap.size ≤ k_)) v7 x7_3) ∧ Zaa (Below w.heap.size w w'))
     case atStart => exact ⟨(y248), (0), (by first | rfl | (simp; done) | (simp [*]; done)), H', ⟨Nat.le_refl _⟩, ⟨by (with_reducible repeat (first | apply Kd.Zbk | apply Kd.R_drewN | apply Kd.Zbz)); exact Kd.Zbf HO250.out (fun _ hk => hk.1)⟩, ⟨by repeat (first | (with_reducible first | exact HB.out | apply Zac | apply Zab | apply Zad) | exact HB.out)⟩⟩
     case round =>
      clear H'
      try clear c1
      try clear c2
      try clear p2
      try clear q2
      try clear hx2
      try clear c4
      try clear c4b0
      try clear c5
      try clear c6
      try clear c6b0
      try clear p6
      try clear c7
      try clear c7b0
      try clear c8
      try clear c8b0
      try clear c8b1
      try clear c10
      try clear hx245_0
      try clear hx246_0
      try clear p2
      try clear p245
      try clear p246
      try clear q245
      try clear q246
      obtain ⟨x7_3, x8_3, rfl, HA, HK3, HO_7, HB⟩ := hrel
      cases gk with
      | zero => exact absurd HA.out (by simp [Za.l1])
      | succ k3 =>
       have H := HA.out
       clear HA
       simp only [Za.l1] at H
       by_cases c13 : x8_3 < a1
       ·rw [if_pos c13] at H
        have c13b0 : decide (x8_3 < a1) = true := decide_eq_true c13
        clear c13
        by_cases c14 : x7_3.length < 17592186044416
        rotate_left
        ·rw [if_neg c14] at H
         exact absurd H (by simp)
        rw [if_pos c14] at H
        have LMc14 := Zaa.mk c14
        clear c14
        obtain ⟨y251, hy251⟩ : ∃ y_ : List Int, y_ = (x7_3 ++ [x8_3]) := ⟨_, rfl⟩
        replace H : (Za.l1 k3 l0 a1 y251 (wrap64 (x8_3 + 1))) = some (r1, r2) := by first | (rw [hy251]; with_reducible exact H) | (have H2_ := (Option.bind_some _ _).symm.trans H; rw [hy251]; with_reducible exact H2_) | (have H2_ := (Option.bind_some _ _).symm.trans H; with_reducible exact H2_) | with_reducible exact H | (rw [hy251]; exact H) | exact H
        have Ny251 := Zaa.mk hy251
        clear hy251
        have H' := Zaa.mk H
        clear H
        go_wp2_with (first | ((with_reducible refine Za1 (b := .append) (xs := #[.tmp 48, .tmp 50]) rfl ?_); at_builtin; refine Kd.Zca (Kd.int .i64) (w0 := w) w.heap.size rfl (.tmp 48) (.tmp 50) 22 3 (.int .i64 0) 8 rfl Try.underlying22 info3 rfl (by decide) (by omega) u7 x7_3 x8_3 [.int .i64 x8_3] (fun k_ => (w.heap.size ≤ k_)) (fun _ => False) rfl rfl ?aP (fun _ hk => hk.elim) ?aF ?aO ?aB ?aS ?aL ?_; (case aP => exact rfl); (case aB => exact (by repeat (first | (with_reducible first | exact HB.out | apply Zac | apply Zab | apply Zad) | exact HB.out))); (case aF => exact (fun k_ hk => (Nat.le_trans (Zas (by repeat (first | (with_reducible first | exact HB.out | apply Zac | apply Zab | apply Zad) | exact HB.out))) hk))); (case aO => exact (by (with_reducible repeat (first | apply Kd.Zbk | apply Kd.R_drewN | apply Kd.Zbz)); exact HO_7.out)); (case aS => exact (Zas (by repeat (first | (with_reducible first | exact HB.out | apply Zac | apply Zab | apply Zad) | exact HB.out)))); (case aL => have := LMc14.out; omega); intro v252 w15 ho hb hg hat; rw [← Ny251.out] at ho; have n0_ := Zaa.mk (hb); have n1_ := Zaa.mk (ho); clear HB; clear HO_7; have HB := n0_; have HO253 := n1_; clear n0_ n1_; clear ho hb hg hat))
        go_roundg k3
        case measure => have := HJ2.out; have := HK2.out; have := HK3.out; omega
        case rel => exact ⟨(y251), (wrap64 (x8_3 + 1)), (by first | rfl | (simp; done) | (simp [*]; done)), H', ⟨by have := HJ2.out; have := HK2.out; have := HK3.out; omega⟩, ⟨by (with_reducible repeat (first | apply Kd.Zbk | apply Kd.R_drewN | apply Kd.Zbz)); exact HO253.out⟩, ⟨by repeat (first | (with_reducible first | exact HB.out | apply Zac | apply Zab | apply Zad) | exact HB.out)⟩⟩
       rw [if_neg c13] at H
       have c13b0 : decide (x8_3 < a1) = false := decide_eq_false c13
       clear c13
       obtain ⟨y254, hy254⟩ : ∃ y_ : List (List Int), y_ = (([x7_3] : List (List Int))) := ⟨_, rfl⟩
       replace H : (Za.l2 k3 l0 y254) = some (r1, r2) := by first | (rw [hy254]; with_reducible exact H) | (have H2_ := (Option.bind_some _ _).symm.trans H; rw [hy254]; with_reducible exact H2_) | (have H2_ := (Option.bind_some _ _).symm.trans H; with_reducible exact H2_) | with_reducible exact H | (rw [hy254]; exact H) | exact H
       have Ny254 := Zaa.mk hy254
       clear hy254
       have H' := Zaa.mk H
       clear H
       obtain ⟨Ao16, co16, eo16⟩ := Kd.Zcc HO_7.out
       subst eo16
       go_wp2_with (first | ((with_reducible refine Zbn (N := 53) rfl ?_); refine Kd.N_lit (Kd.slice 3 (Kd.int .i64)) _ 22 ?hg (N' := 53) ?hd (xs := ([x7_3] : List (List Int))) (inner := [.slice Ao16 x7_3.length co16]) (ok := (fun k_ => (w.heap.size ≤ k_))) (okp := (fun k_ => (w.heap.size ≤ k_))) ?hr ?hp (fun _ hk => hk) ((show ∀ k_, wr.heap.size ≤ k_ → (fun k_ => (w.heap.size ≤ k_)) k_ from fun k_ hk => (Nat.le_trans (Zas (by repeat (first | (with_reducible first | exact HB.out | apply Zac | apply Zab | apply Zad) | exact HB.out))) hk)) _ (Nat.le_refl _)) (Below.refl _ _) (Nat.le_refl _) (by simp) ?_; (case hd => rfl); (case hg => rfl); (case hr => first | (go_simp; done) | (go_simp; rfl)); (case hp => exact (Reps.one (show Kd.FK (Kd.slice 3 (Kd.int .i64)) _ _ x7_3 [.slice Ao16 x7_3.length co16] from (by obtain ⟨Aq_, cq_, eq_⟩ := Kd.Zcc HO_7.out; (try subst eq_); exact Kd.Zew (Kd.Zbh (Kd.Zbf (ok' := (fun k_ => (w.heap.size ≤ k_))) (HO_7.out) (fun k_ hk => hk))).2.1 (Kd.R_F (Kd.Zbf (ok' := (fun k_ => (w.heap.size ≤ k_))) (HO_7.out) (fun k_ hk => hk))))) (Reps.none _ _))); intro v255 w17 ho18 hb hg_ hnew_; clear hg_ hnew_; (first | rw [← Ny254.out] at ho18 | (simp only [Int.reduceToNat] at ho18; rw [← Ny254.out] at ho18)); have n0_ := Zaa.mk (Kd.Zdu ho18 (Zas (by repeat (first | (with_reducible first | exact HB.out | apply Zac | apply Zab | apply Zad) | exact HB.out)))); have n1_ := Zaa.mk (Zan (by repeat (first | (with_reducible first | exact HB.out | apply Zac | apply Zab | apply Zad) | exact HB.out)) hb); clear HB; clear HO_7; have HO256 := n0_; have HB := n1_; clear n0_ n1_; clear hb ho18))
       go_loopg [9] k3 (fun kq v9 w' => ∃ (x9_4 : List (List Int)), Zaa (Za.l2 kq l0 x9_4 = some (r1, r2)) ∧ Zaa (kq ≤ k3) ∧ Zaa (Kd.N (Kd.slice 3 (Kd.int .i64)) 22 w' w.heap.size (fun k_ => (w.heap.size ≤ k_)) v9 x9_4) ∧ Zaa (Below w.heap.size w w'))
       case atStart => exact ⟨(y254), H', ⟨Nat.le_refl _⟩, ⟨by (with_reducible repeat (first | apply Kd.N_alloc | apply Kd.Zba | apply Kd.Zbd)); exact HO256.out⟩, ⟨by repeat (first | (with_reducible first | exact HB.out | apply Zac | apply Zab | apply Zad) | exact HB.out)⟩⟩
       case round =>
        clear H'
        try clear c1
        try clear c2
        try clear p2
        try clear q2
        try clear hx2
        try clear c4
        try clear c4b0
        try clear c5
        try clear c6
        try clear c6b0
        try clear p6
        try clear c7
        try clear c7b0
        try clear c8
        try clear c8b0
        try clear c8b1
        try clear c10
        try clear c13
        try clear c13b0
        try clear c14
        try clear hx245_0
        try clear hx246_0
        try clear p2
        try clear p245
        try clear p246
        try clear p6
        try clear q2
        try clear q245
        try clear q246
        obtain ⟨x9_4, HA, HK4, HO_9, HB⟩ := hrel
        cases gk with
        | zero => exact absurd HA.out (by simp [Za.l2])
        | succ k4 =>
         have H := HA.out
         clear HA
         simp only [Za.l2] at H
         obtain ⟨y257, hy257⟩ : ∃ y_ : List (List Int), y_ = (([] : List (List Int))) := ⟨_, rfl⟩
         replace H : (if y257.length + x9_4.length < 5864062014805 then (Za.l3 k4 l0 x9_4 (y257 ++ x9_4) 0) else (none)) = some (r1, r2) := by first | (rw [hy257]; with_reducible exact H) | (have H2_ := (Option.bind_some _ _).symm.trans H; rw [hy257]; with_reducible exact H2_) | (have H2_ := (Option.bind_some _ _).symm.trans H; with_reducible exact H2_) | with_reducible exact H | (rw [hy257]; exact H) | exact H
         have Ny257 := Zaa.mk hy257
         clear hy257
         by_cases c19 : y257.length + x9_4.length < 5864062014805
         rotate_left
         ·rw [if_neg c19] at H
          exact absurd H (by simp)

         rw [if_pos c19] at H
         have LMc19 := Zaa.mk c19
         clear c19
         obtain ⟨y260, hy260⟩ : ∃ y_ : List (List Int), y_ = (y257 ++ x9_4) := ⟨_, rfl⟩
         replace H : (Za.l3 k4 l0 x9_4 y260 0) = some (r1, r2) := by first | (rw [hy260]; with_reducible exact H) | (have H2_ := (Option.bind_some _ _).symm.trans H; rw [hy260]; with_reducible exact H2_) | (have H2_ := (Option.bind_some _ _).symm.trans H; with_reducible exact H2_) | with_reducible exact H | (rw [hy260]; exact H) | exact H
         have Ny260 := Zaa.mk hy260
         clear hy260
         have H' := Zaa.mk H
         clear H
         go_wp2_with (first | ((with_reducible refine Zbn (N := 54) rfl ?_); refine Kd.N_lit (Kd.slice 3 (Kd.int .i64)) _ 22 ?hg (N' := 54) ?hd (xs := ([] : List (List Int))) (inner := []) (ok := (fun k_ => (w.heap.size ≤ k_) ∧ some k_ ≠ (u9 : Value).ownBlock)) (okp := (fun k_ => (w.heap.size ≤ k_) ∧ some k_ ≠ (u9 : Value).ownBlock)) ?hr ?hp (fun _ hk => hk) ((show ∀ k_, wr.heap.size ≤ k_ → (fun k_ => (w.heap.size ≤ k_) ∧ some k_ ≠ (u9 : Value).ownBlock) k_ from fun k_ hk => ⟨(Nat.le_trans (Zas (by repeat (first | (with_reducible first | exact HB.out | apply Zac | apply Zab | apply Zad) | exact HB.out))) hk), Kd.fresh' (Kd.N_lt (by (with_reducible repeat (first | apply Kd.N_alloc | apply Kd.Zba | apply Kd.Zbd)); exact HO_9.out)) k_ hk⟩) _ (Nat.le_refl _)) (Below.refl _ _) (Nat.le_refl _) (by simp) ?_; (case hd => rfl); (case hg => rfl); (case hr => first | (go_simp; done) | (go_simp; rfl)); (case hp => exact (Reps.none _ _)); intro v258 w20 ho21 hb hg_ hnew_; clear hg_ hnew_; (first | rw [← Ny257.out] at ho21 | (simp only [Int.reduceToNat] at ho21; rw [← Ny257.out] at ho21)); have n0_ := Zaa.mk (Kd.Zcd (by (with_reducible repeat (first | apply Kd.N_alloc | apply Kd.Zba | apply Kd.Zbd)); exact HO_9.out) (Kd.Zei ho21) hb); have n1_ := Zaa.mk (Kd.Zdu ho21 (Zas (by repeat (first | (with_reducible first | exact HB.out | apply Zac | apply Zab | apply Zad) | exact HB.out)))); have n2_ := Zaa.mk (Zan (by repeat (first | (with_reducible first | exact HB.out | apply Zac | apply Zab | apply Zad) | exact HB.out)) hb); clear HO_9; clear HB; have HO_9 := n0_; have HO259 := n1_; have HB := n2_; clear n0_ n1_ n2_; clear hb ho21; obtain ⟨Ao23, co23, eo23⟩ := Kd.Zc2 HO_9.out; subst eo23) | ((with_reducible refine Za1 (b := .append) (xs := #[.tmp 54, .tmp 55]) rfl ?_); at_builtin; refine Kd.Zdz (Kd.slice 3 (Kd.int .i64)) (w0 := w) w.heap.size rfl (.tmp 54) (.tmp 55) 32 22 (.slice none 0 0) 24 rfl Try.underlying32 Zcm rfl (by decide) (by omega) v258 y257 x9_4 _ _ _ (fun k_ => (w.heap.size ≤ k_)) (fun k_ => ((fun k_ => (w.heap.size ≤ k_))) k_ ∧ some k_ ≠ (v258 : Value).ownBlock) rfl rfl ?aO ?aR (fun _ hk => hk) ?aF ?aB ?aS ?aL ?_; (case aR => exact (by skip; exact Kd.N_F (Kd.Zci (ok' := (fun k_ => ((fun k_ => (w.heap.size ≤ k_))) k_ ∧ some k_ ≠ (v258 : Value).ownBlock)) (HO_9.out) (fun k_ hk => ⟨hk.1, hk.2⟩)))); (case aB => exact (by repeat (first | (with_reducible first | exact HB.out | apply Zac | apply Zab | apply Zad) | exact HB.out))); (case aF => exact (fun k_ hk => (Nat.le_trans (Zas (by repeat (first | (with_reducible first | exact HB.out | apply Zac | apply Zab | apply Zad) | exact HB.out))) hk))); (case aO => exact (by (with_reducible repeat (first | apply Kd.N_alloc | apply Kd.Zba | apply Kd.Zbd)); exact Kd.Zci HO259.out (fun _ hk => hk.1))); (case aS => exact (Zas (by repeat (first | (with_reducible first | exact HB.out | apply Zac | apply Zab | apply Zad) | exact HB.out)))); (case aL => have := LMc19.out; omega); intro v261 w22 ho hb hg hat; rw [← Ny260.out] at ho; have n0_ := Zaa.mk (Kd.N_afterv (ok := (fun k_ => (w.heap.size ≤ k_))) (by (with_reducible repeat (first | apply Kd.N_alloc | apply Kd.Zba | apply Kd.Zbd)); exact HO_9.out) hg hat); have n1_ := Zaa.mk (hb); have n2_ := Zaa.mk (ho); clear HO_9; clear HB; clear HO259; have HO_9 := n0_; have HB := n1_; have HO262 := n2_; clear n0_ n1_ n2_; clear ho hb hg hat))
         go_loopg [10, 11] k4 (fun kq v10 v11 w' => ∃ (x10_5 : List (List Int)) (x11_5 : Int), v11 = .int .i64 x11_5 ∧ Zaa (Za.l3 kq l0 x9_4 x10_5 x11_5 = some (r1, r2)) ∧ Zaa (kq ≤ k4) ∧ Zaa (Kd.N (Kd.slice 3 (Kd.int .i64)) 22 w' w.heap.size (fun k_ => (w.heap.size ≤ k_) ∧ some k_ ≠ (v10 : Value).ownBlock) (.slice Ao23 x9_4.length co23) x9_4) ∧ Zaa (Kd.N (Kd.slice 3 (Kd.int .i64)) 22 w' w.heap.size (fun k_ => (w.heap.size ≤ k_)) v10 x10_5) ∧ Zaa (Below w.heap.size w w'))
         case atStart => exact ⟨(y260), (0), (by first | rfl | (simp; done) | (simp [*]; done)), H', ⟨Nat.le_refl _⟩, ⟨by (with_reducible repeat (first | apply Kd.N_alloc | apply Kd.Zba | apply Kd.Zbd)); exact HO_9.out⟩, ⟨by (with_reducible repeat (first | apply Kd.N_alloc | apply Kd.Zba | apply Kd.Zbd)); exact HO262.out⟩, ⟨by repeat (first | (with_reducible first | exact HB.out | apply Zac | apply Zab | apply Zad) | exact HB.out)⟩⟩
         case round =>
          clear H'
          try clear c1
          try clear c2
          try clear p2
          try clear q2
          try clear hx2
          try clear c4
          try clear c4b0
          try clear c5
          try clear c6
          try clear c6b0
          try clear p6
          try clear c7
          try clear c7b0
          try clear c8
          try clear c8b0
          try clear c8b1
          try clear c10
          try clear c13
          try clear c13b0
          try clear c14
          try clear c19
          try clear c21
          try clear hx245_0
          try clear hx246_0
          try clear p2
          try clear p245
          try clear p246
          try clear p6
          try clear q2
          try clear q245
          try clear q246
          obtain ⟨x10_5, x11_5, rfl, HA, HK5, HO_9, HO_10, HB⟩ := hrel
          cases gk with
          | zero => exact absurd HA.out (by simp [Za.l3])
          | succ k5 =>
           have H := HA.out
           clear HA
           simp only [Za.l3] at H
           by_cases c24 : x11_5 < (x9_4.length : Int)
           rotate_left
           ·rw [if_neg c24] at H
            have c24b0 : decide (x11_5 < (x9_4.length : Int)) = false := decide_eq_false c24
            clear c24
            replace H := Option.bind_eq_some_iff.mp H
            obtain ⟨t272, A350, H⟩ := H
            replace H : ((Zag.f k5 t272 x9_4).bind fun t275 => (if t275 = true then (some (x9_4, 0)) else (Za.l2 k5 l0 t272))) = some (r1, r2) := H
            have A35 := Zaa.mk A350
            clear A350
            replace H := Option.bind_eq_some_iff.mp H
            obtain ⟨t275, A360, H⟩ := H
            replace H : (if t275 = true then (some (x9_4, 0)) else (Za.l2 k5 l0 t272)) = some (r1, r2) := H
            have A36 := Zaa.mk A360
            clear A360
            by_cases c37 : t275 = true
            ·subst c37
             have H1 : (some (x9_4, 0)) = some (r1, r2) := by rw [if_pos rfl] at H; exact H
             clear H
             have H := H1
             clear H1
             simp only [Option.some.injEq, Prod.mk.injEq] at H
             obtain ⟨rfl, rfl⟩ := H
             obtain ⟨Ao38, co38, eo38⟩ := Kd.Zc2 HO_10.out
             subst eo38
             go_wp2_with (first | ((with_reducible refine Zaw (f := 31) rfl ?_); refine Zbl (some 86) rfl rfl Try.func31 (by kernel_rfl) rfl #[.slice Ao38 x10_5.length co38] rfl (by (try simp only [List.map_toArray, List.map_cons, List.map_nil]); first | done | rfl | (simp only [List.length_drop, List.length_take]; rfl)) ?_; (with_reducible refine (Za5.calls (fun k_ => (w.heap.size ≤ k_)) _ _ x10_5 t272 _ ?side1 A35.out).mono ?_); (case side1 => exact Kd.N_V (HO_10.out)); rintro e w39 ⟨v273, rfl, ho0, hb⟩; refine ⟨_, rfl, ?_⟩; have n0_ := Zaa.mk (Kd.Zcd (by (with_reducible repeat (first | apply Kd.N_alloc | apply Kd.Zba | apply Kd.Zbd)); exact HO_9.out) (by first | exact Kd.Zei ho0 | exact Kd.Zej ho0 | exact Kd.Zcb ho0) hb); have n1_ := Zaa.mk (Kd.Zcd (by (with_reducible repeat (first | apply Kd.N_alloc | apply Kd.Zba | apply Kd.Zbd)); exact HO_10.out) (by first | exact Kd.Zei ho0 | exact Kd.Zej ho0 | exact Kd.Zcb ho0) hb); have n2_ := Zaa.mk (Kd.Zdu (Kd.Zci (ok' := fun k_ => (w.heap.size ≤ k_)) ho0 (fun k_ hk_ => Or.elim hk_ (fun hs_ => hs_) (fun hn_ => (Nat.le_trans (Zas (by repeat (first | (with_reducible first | exact HB.out | apply Zac | apply Zab | apply Zad) | exact HB.out))) hn_)))) (Zas (by repeat (first | (with_reducible first | exact HB.out | apply Zac | apply Zab | apply Zad) | exact HB.out)))); have n3_ := Zaa.mk (Zan (by repeat (first | (with_reducible first | exact HB.out | apply Zac | apply Zab | apply Zad) | exact HB.out)) hb); clear HO_9; clear HO_10; clear HB; have HO_9 := n0_; have HO_10 := n1_; have HO274 := n2_; have HB := n3_; clear n0_ n1_ n2_ n3_; (try clear hb); (try clear hb2); (try clear hk); (try clear hi); (try clear ho0); obtain ⟨Ao40, co40, eo40⟩ := Kd.Zc2 HO274.out; subst eo40) | ((with_reducible refine Zaw (f := 22) rfl ?_); refine Zbl (some 89) rfl rfl Try.func22 (by kernel_rfl) rfl #[.slice Ao40 t272.length co40, .slice Ao23 x9_4.length co23] rfl (by (try simp only [List.map_toArray, List.map_cons, List.map_nil]); first | done | rfl | (simp only [List.length_drop, List.length_take]; rfl)) ?_; (with_reducible refine (Zag.calls k5 _ _ t272 _ _ x9_4 true _ ?side1 ?side2 ?side3 ?side4 A36.out).mono ?_); (case side1 => repeat (first | exact (Kd.Zbp HO274.out).2.2 | (with_reducible refine Kd.Za0 ?_ _) | (with_reducible refine Kd.C_drewN ?_ _) | (with_reducible refine Kd.C_drew ?_))); (case side2 => exact (Kd.Zbp HO274.out).2.1); (case side3 => repeat (first | exact (Kd.Zbp HO_9.out).2.2 | (with_reducible refine Kd.Za0 ?_ _) | (with_reducible refine Kd.C_drewN ?_ _) | (with_reducible refine Kd.C_drew ?_))); (case side4 => exact (Kd.Zbp HO_9.out).2.1); rintro e w' ⟨rfl, ⟨nd, rfl⟩⟩; refine ⟨_, rfl, ?_⟩))
             go_ret2
             exact ⟨_, by first | rfl | (simp [Zau, Zav] <;> rfl) | (simp [*, Zau, Zav] <;> rfl), by (with_reducible repeat (first | apply Kd.N_alloc | apply Kd.Zba | apply Kd.Zbd)); exact Kd.Zci HO_9.out (fun _ hk => hk.1.1), by repeat (first | (with_reducible first | exact HB.out | apply Zac | apply Zab | apply Zad) | exact HB.out)⟩
            replace c37 := Bool.eq_false_iff.mpr c37
            subst c37
            have H1 : (Za.l2 k5 l0 t272) = some (r1, r2) := by rw [if_neg (show ¬ (false = true) by decide)] at H; exact H
            clear H
            have H := H1
            clear H1
            have H' := Zaa.mk H
            clear H
            obtain ⟨Ao41, co41, eo41⟩ := Kd.Zc2 HO_10.out
            subst eo41
            go_wp2_with (first | ((with_reducible refine Zaw (f := 31) rfl ?_); refine Zbl (some 86) rfl rfl Try.func31 (by kernel_rfl) rfl #[.slice Ao41 x10_5.length co41] rfl (by (try simp only [List.map_toArray, List.map_cons, List.map_nil]); first | done | rfl | (simp only [List.length_drop, List.length_take]; rfl)) ?_; (with_reducible refine (Za5.calls (fun k_ => (w.heap.size ≤ k_)) _ _ x10_5 t272 _ ?side1 A35.out).mono ?_); (case side1 => exact Kd.N_V (HO_10.out)); rintro e w42 ⟨v273, rfl, ho0, hb⟩; refine ⟨_, rfl, ?_⟩; have n0_ := Zaa.mk (Kd.Zcd (by (with_reducible repeat (first | apply Kd.N_alloc | apply Kd.Zba | apply Kd.Zbd)); exact HO_9.out) (by first | exact Kd.Zei ho0 | exact Kd.Zej ho0 | exact Kd.Zcb ho0) hb); have n1_ := Zaa.mk (Kd.Zcd (by (with_reducible repeat (first | apply Kd.N_alloc | apply Kd.Zba | apply Kd.Zbd)); exact HO_10.out) (by first | exact Kd.Zei ho0 | exact Kd.Zej ho0 | exact Kd.Zcb ho0) hb); have n2_ := Zaa.mk (Kd.Zdu (Kd.Zci (ok' := fun k_ => (w.heap.size ≤ k_)) ho0 (fun k_ hk_ => Or.elim hk_ (fun hs_ => hs_) (fun hn_ => (Nat.le_trans (Zas (by repeat (first | (with_reducible first | exact HB.out | apply Zac | apply Zab | apply Zad) | exact HB.out))) hn_)))) (Zas (by repeat (first | (with_reducible first | exact HB.out | apply Zac | apply Zab | apply Zad) | exact HB.out)))); have n3_ := Zaa.mk (Zan (by repeat (first | (with_reducible first | exact HB.out | apply Zac | apply Zab | apply Zad) | exact HB.out)) hb); clear HO_9; clear HO_10; clear HB; have HO_9 := n0_; have HO_10 := n1_; have HO274 := n2_; have HB := n3_; clear n0_ n1_ n2_ n3_; (try clear hb); (try clear hb2); (try clear hk); (try clear hi); (try clear ho0); obtain ⟨Ao43, co43, eo43⟩ := Kd.Zc2 HO274.out; subst eo43) | ((with_reducible refine Zaw (f := 22) rfl ?_); refine Zbl (some 89) rfl rfl Try.func22 (by kernel_rfl) rfl #[.slice Ao43 t272.length co43, .slice Ao23 x9_4.length co23] rfl (by (try simp only [List.map_toArray, List.map_cons, List.map_nil]); first | done | rfl | (simp only [List.length_drop, List.length_take]; rfl)) ?_; (with_reducible refine (Zag.calls k5 _ _ t272 _ _ x9_4 false _ ?side1 ?side2 ?side3 ?side4 A36.out).mono ?_); (case side1 => repeat (first | exact (Kd.Zbp HO274.out).2.2 | (with_reducible refine Kd.Za0 ?_ _) | (with_reducible refine Kd.C_drewN ?_ _) | (with_reducible refine Kd.C_drew ?_))); (case side2 => exact (Kd.Zbp HO274.out).2.1); (case side3 => repeat (first | exact (Kd.Zbp HO_9.out).2.2 | (with_reducible refine Kd.Za0 ?_ _) | (with_reducible refine Kd.C_drewN ?_ _) | (with_reducible refine Kd.C_drew ?_))); (case side4 => exact (Kd.Zbp HO_9.out).2.1); rintro e w' ⟨rfl, ⟨nd, rfl⟩⟩; refine ⟨_, rfl, ?_⟩))
            go_roundg k5
            case measure => have := HJ2.out; have := HK2.out; have := HK3.out; have := HK4.out; have := HK5.out; omega
            case rel => exact ⟨(t272), H', ⟨by have := HJ2.out; have := HK2.out; have := HK3.out; have := HK4.out; have := HK5.out; omega⟩, ⟨by (with_reducible repeat (first | apply Kd.N_alloc | apply Kd.Zba | apply Kd.Zbd)); exact HO274.out⟩, ⟨by repeat (first | (with_reducible first | exact HB.out | apply Zac | apply Zab | apply Zad) | exact HB.out)⟩⟩
           rw [if_pos c24] at H
           have c24b0 : decide (x11_5 < (x9_4.length : Int)) = true := decide_eq_true c24
           clear c24
           have H' := Zaa.mk H
           clear H
           go_wp2
           go_loopg [10, 12] k5 (fun kq v10 v12 w' => ∃ (x10_6 : List (List Int)) (x12_6 : Int), v12 = .int .i64 x12_6 ∧ Zaa (Za.l4 kq l0 x9_4 x10_6 x11_5 x12_6 = some (r1, r2)) ∧ Zaa (kq ≤ k5) ∧ Zaa (Kd.N (Kd.slice 3 (Kd.int .i64)) 22 w' w.heap.size (fun k_ => (w.heap.size ≤ k_) ∧ some k_ ≠ (v10 : Value).ownBlock) (.slice Ao23 x9_4.length co23) x9_4) ∧ Zaa (Kd.N (Kd.slice 3 (Kd.int .i64)) 22 w' w.heap.size (fun k_ => (w.heap.size ≤ k_)) v10 x10_6) ∧ Zaa (Below w.heap.size w w'))
           case atStart => exact ⟨(x10_5), (0), (by first | rfl | (simp; done) | (simp [*]; done)), H', ⟨Nat.le_refl _⟩, ⟨by (with_reducible repeat (first | apply Kd.N_alloc | apply Kd.Zba | apply Kd.Zbd)); exact HO_9.out⟩, ⟨by (with_reducible repeat (first | apply Kd.N_alloc | apply Kd.Zba | apply Kd.Zbd)); exact HO_10.out⟩, ⟨by repeat (first | (with_reducible first | exact HB.out | apply Zac | apply Zab | apply Zad) | exact HB.out)⟩⟩
           case round =>
            clear H'
            try clear c1
            try clear c2
            try clear p2
            try clear q2
            try clear hx2
            try clear c4
            try clear c4b0
            try clear c5
            try clear c6
            try clear c6b0
            try clear p6
            try clear c7
            try clear c7b0
            try clear c8
            try clear c8b0
            try clear c8b1
            try clear c10
            try clear c13
            try clear c13b0
            try clear c14
            try clear c19
            try clear c21
            try clear c24
            try clear c24b0
            try clear p24
            try clear q24
            try clear hx24
            try clear hx245_0
            try clear hx246_0
            try clear p2
            try clear p245
            try clear p246
            try clear p6
            try clear q2
            try clear q245
            try clear q246
            obtain ⟨x10_6, x12_6, rfl, HA, HK6, HO_9, HO_10, HB⟩ := hrel
            cases gk with
            | zero => exact absurd HA.out (by simp [Za.l4])
            | succ k6 =>
             have H := HA.out
             clear HA
             simp only [Za.l4] at H
             by_cases c25 : x12_6 < (l0.length : Int)
             rotate_left
             ·rw [if_neg c25] at H
              have c25b0 : decide (x12_6 < (l0.length : Int)) = false := decide_eq_false c25
              clear c25
              have H' := Zaa.mk H
              clear H
              go_wp2
              go_roundg k6
              case measure => have := HJ2.out; have := HK2.out; have := HK3.out; have := HK4.out; have := HK5.out; have := HK6.out; omega
              case rel => exact ⟨(x10_6), (wrap64 (x11_5 + 1)), (by first | rfl | (simp; done) | (simp [*]; done)), H', ⟨by have := HJ2.out; have := HK2.out; have := HK3.out; have := HK4.out; have := HK5.out; have := HK6.out; omega⟩, ⟨by (with_reducible repeat (first | apply Kd.N_alloc | apply Kd.Zba | apply Kd.Zbd)); exact HO_9.out⟩, ⟨by (with_reducible repeat (first | apply Kd.N_alloc | apply Kd.Zba | apply Kd.Zbd)); exact HO_10.out⟩, ⟨by repeat (first | (with_reducible first | exact HB.out | apply Zac | apply Zab | apply Zad) | exact HB.out)⟩⟩
             rw [if_pos c25] at H
             have c25b0 : decide (x12_6 < (l0.length : Int)) = true := decide_eq_true c25
             clear c25
             by_cases c26 : 0 ≤ x12_6
             rotate_left
             ·rw [if_neg c26] at H
              exact absurd H (by simp)
             rw [if_pos c26] at H
             have c26b0 : decide (0 ≤ x12_6) = true := decide_eq_true c26
             clear c26
             by_cases c27 : 0 ≤ x11_5
             rotate_left
             ·rw [if_neg c27] at H
              exact absurd H (by simp)
             rw [if_pos c27] at H
             have c27b0 : decide (0 ≤ x11_5) = true := decide_eq_true c27
             clear c27
             by_cases c28 : x11_5 < (x9_4.length : Int)
             rotate_left
             ·rw [if_neg c28] at H
              exact absurd H (by simp)
             rw [if_pos c28] at H
             have c28b0 : decide (x11_5 < (x9_4.length : Int)) = true := decide_eq_true c28
             clear c28
             replace H := Option.bind_eq_some_iff.mp H
             obtain ⟨⟨t265, t266⟩, A290, H⟩ := H
             replace H : (if x10_6.length < 5864062014805 then (Za.l4 k6 l0 x9_4 (x10_6 ++ [t265]) x11_5 (wrap64 (x12_6 + 1))) else (none)) = some (r1, r2) := H
             have A29 := Zaa.mk A290
             clear A290
             by_cases c30 : x10_6.length < 5864062014805
             rotate_left
             ·rw [if_neg c30] at H
              exact absurd H (by simp)
             rw [if_pos c30] at H
             have LMc30 := Zaa.mk c30
             clear c30
             obtain ⟨y269, hy269⟩ : ∃ y_ : List (List Int), y_ = (x10_6 ++ [t265]) := ⟨_, rfl⟩
             replace H : (Za.l4 k6 l0 x9_4 y269 x11_5 (wrap64 (x12_6 + 1))) = some (r1, r2) := by first | (rw [hy269]; with_reducible exact H) | (have H2_ := (Option.bind_some _ _).symm.trans H; rw [hy269]; with_reducible exact H2_) | (have H2_ := (Option.bind_some _ _).symm.trans H; with_reducible exact H2_) | with_reducible exact H | (rw [hy269]; exact H) | exact H
             have Ny269 := Zaa.mk hy269
             clear hy269
             have H' := Zaa.mk H
             clear H
             try go_wp2
             have n0_ := Zaa.mk (Kd.Zbd HO_9.out)
             have n1_ := Zaa.mk (Kd.Zbd HO_10.out)
             have n2_ := Zaa.mk (Zad HB.out)
             clear HO_9
             clear HO_10
             clear HB
             have HO_9 := n0_
             have HO_10 := n1_
             have HB := n2_
             clear n0_ n1_ n2_
             have p263 : 0 ≤ (x12_6 : Int) := of_decide_eq_true (by first | (with_reducible assumption) | assumption)
             have q263 : x12_6 < (l0.length : Int) := of_decide_eq_true (by first | (with_reducible assumption) | assumption)
             obtain ⟨ad263, A263_0, c263_0, e263, hx263_0, hl263_0, hi263_0⟩ := Zc8 HR0.out x12_6 p263 q263
             have hw263_0 := hx263_0
             cases e263
             replace hx263_0 := (HB.out.cell (World.block_lt_of_cell? w _ hx263_0)).trans hx263_0
             have HR263_0 := Zaa.mk hi263_0
             have HC263_0 := Zaa.mk hl263_0
             clear hi263_0 hl263_0
             replace p263 := eq_true p263
             replace q263 := eq_true q263
             have p264 : 0 ≤ (x11_5 : Int) := of_decide_eq_true (by first | (with_reducible assumption) | assumption)
             have q264 : x11_5 < (x9_4.length : Int) := of_decide_eq_true (by first | (with_reducible assumption) | assumption)
             obtain ⟨ad264, A264_0, c264_0, e264, hx264_0, hl264_0, hi264_0⟩ := Zc8 (Kd.Zbp HO_9.out).2.2 x11_5 p264 q264
             cases e264
             obtain ⟨ce264, hce264, hMe264, hcc264⟩ := Kd.N_get HO_9.out [] x11_5 p264 (by first | exact q264 | exact of_decide_eq_true (by first | (with_reducible assumption) | assumption) | (have e_ := (Kd.Zbp HO_9.out).1; omega))
             obtain ⟨ua264_0, uc264_0, rfl, ul264_0, ge264_0⟩ := Kd.FK_slice_open hMe264
             have hv264_0 := hcc264 0 _ rfl
             rw [Nat.add_zero, show ((Kd.slice 3 (Kd.int .i64))).sz = 1 from rfl, Nat.mul_one] at hv264_0
             replace hv264_0 := Option.some.inj (hv264_0.symm.trans hx264_0)
             injection hv264_0 with hva_ hvn_ hvc_
             rw [hva_] at ge264_0
             rw [hvc_] at ul264_0
             have HL264_0 := Zaa.mk (show Kd.V (Kd.int .i64) 3 _ w.heap.size _ _ (Za3 x9_4 x11_5) from Kd.V_mk ul264_0 ge264_0)
             clear hva_ hvn_ hvc_ ge264_0 ul264_0
             clear hcc264 hce264
             have HR264_0 := Zaa.mk hi264_0
             have HC264_0 := Zaa.mk hl264_0
             clear hi264_0 hl264_0
             replace p264 := eq_true p264
             replace q264 := eq_true q264
             refine start_ (n := 14) (S := fun w' => w'.cell? (ad263.add (x12_6).toNat) = some (.slice A263_0 (Za3 l0 x12_6).length c263_0) ∧ w'.cell? (ad264.add (x11_5).toNat) = some (.slice A264_0 (Za3 x9_4 x11_5).length c264_0)) (ds := []) #[false, false, false, false, false, false, false, false, false, false, false, false, false, false] (by kernel_rfl) rfl rfl ⟨((HB.out.cell (World.block_lt_of_cell? w _ hw263_0)).trans hw263_0), hx264_0⟩ (fun hHeld => ?_); refine Zfm Za.tab21 Za.bits21 (fun HT_ HW_ => ?_)
             generalize wr.drew = w31 at HO_9 HO_10 HB HL264_0 HR263_0 HR264_0 hx263_0 hx264_0 hHeld ⊢
             refine Zc (i := 0) (N := some 70) (v := ?_) (a' := ?_) #[true, false, false, false, false, false, false, false, false, false, false, false, false, false] rfl rfl (Zbj HT_.out (by kernel_rfl)) (fun _ _ _ h => h) (Or.inl ⟨by rfl, ?_⟩) ?_ ?_
             rotate_left
             ·intro w'
              go_simp
              with_reducible rfl
             rotate_left
             ·simp only [Act.put, List.setIfInBounds_toArray, List.set_cons_zero, List.set_cons_succ, Zbe, Zbg]
              rfl
             refine Zc (i := 1) (N := some 71) (v := ?_) (a' := ?_) #[true, true, false, false, false, false, false, false, false, false, false, false, false, false] rfl rfl (Zbj HT_.out (by kernel_rfl)) (fun _ _ _ h => h) (Or.inl ⟨by rfl, ?_⟩) ?_ ?_
             rotate_left
             ·intro w'
              go_simp
              with_reducible rfl
             rotate_left
             ·simp only [Act.put, List.setIfInBounds_toArray, List.set_cons_zero, List.set_cons_succ, Zbe, Zbg]
              rfl
             refine Zc (i := 2) (N := some 72) (v := ?_) (a' := ?_) #[true, true, true, false, false, false, false, false, false, false, false, false, false, false] rfl rfl (Zbj HT_.out (by kernel_rfl)) (fun _ _ _ h => h) (Or.inl ⟨by rfl, ?_⟩) ?_ ?_
             rotate_left
             ·intro w'
              go_simp
              with_reducible rfl
             rotate_left
             ·simp only [Act.put, List.setIfInBounds_toArray, List.set_cons_zero, List.set_cons_succ, Zbe, Zbg]
              rfl
             refine Zc (i := 4) (N := some 74) (v := ?_) (a' := ?_) #[true, true, true, false, true, false, false, false, false, false, false, false, false, false] rfl rfl (Zbj HT_.out (by kernel_rfl)) (fun _ _ _ h => h) (Or.inl ⟨by rfl, ?_⟩) ?_ ?_
             rotate_left
             ·intro w'
              go_simp
              with_reducible rfl
             rotate_left
             ·simp only [Act.put, List.setIfInBounds_toArray, List.set_cons_zero, List.set_cons_succ, Zbe, Zbg]
              rfl
             refine Zc (i := 5) (N := some 75) (v := ?_) (a' := ?_) #[true, true, true, false, true, true, false, false, false, false, false, false, false, false] rfl rfl (Zbj HT_.out (by kernel_rfl)) (fun _ _ _ h => h) (Or.inl ⟨by rfl, ?_⟩) ?_ ?_
             rotate_left
             ·intro w'
              go_simp
              with_reducible rfl
             rotate_left
             ·simp only [Act.put, List.setIfInBounds_toArray, List.set_cons_zero, List.set_cons_succ, Zbe, Zbg]
              rfl
             refine Zc (i := 6) (N := some 76) (v := ?_) (a' := ?_) #[true, true, true, false, true, true, true, false, false, false, false, false, false, false] rfl rfl (Zbj HT_.out (by kernel_rfl)) (fun _ _ _ h => h) (Or.inl ⟨by rfl, ?_⟩) ?_ ?_
             rotate_left
             ·intro w'
              go_simp
              with_reducible rfl
             rotate_left
             ·simp only [Act.put, List.setIfInBounds_toArray, List.set_cons_zero, List.set_cons_succ, Zbe, Zbg]
              rfl
             refine take_ (i := 3) (N := some 73) (v := ?_) (a' := ?_) #[true, true, true, true, true, true, true, false, false, false, false, false, false, false] rfl rfl (Zdn HT_.out HW_.out (by kernel_rfl)) (fun _ _ _ h => h) (Or.inl ⟨by rfl, ?_⟩) hHeld ?_ ?_
             rotate_left
             ·rintro w' ⟨s0, s1⟩
              go_simp
              with_reducible rfl
             rotate_left
             ·simp only [Act.put, List.setIfInBounds_toArray, List.set_cons_zero, List.set_cons_succ, Zbe, Zbg]
              rfl
             refine take_ (i := 7) (N := some 77) (v := ?_) (a' := ?_) #[true, true, true, true, true, true, true, true, false, false, false, false, false, false] rfl rfl (Zdn HT_.out HW_.out (by kernel_rfl)) (fun _ _ _ h => h) (Or.inl ⟨by rfl, ?_⟩) hHeld ?_ ?_
             rotate_left
             ·rintro w' ⟨s0, s1⟩
              go_simp
              with_reducible rfl
             rotate_left
             ·simp only [Act.put, List.setIfInBounds_toArray, List.set_cons_zero, List.set_cons_succ, Zbe, Zbg]
              rfl
             refine one_ (i := 8) (N := some 78) #[true, true, true, true, true, true, true, true, true, false, false, false, false, false] rfl rfl (Zf1 HT_.out (by kernel_rfl)) (by decide) (fun K hK => ?_)
             refine goes_ Try.func10 (by kernel_rfl) rfl #[.slice A263_0 (Za3 l0 x12_6).length c263_0, .slice A264_0 (Za3 x9_4 x11_5).length c264_0] (by rfl) rfl rfl (by (try simp only [List.map_toArray, List.map_cons, List.map_nil]); first | done | rfl | (simp only [List.length_drop, List.length_take]; rfl)) ?_
             with_reducible refine (Zae.calls k6 _ _ (Za3 l0 x12_6) _ _ (Za3 x9_4 x11_5) t265 t266 _ ?side1 ?side2 ?side3 ?side4 A29.out).mono ?_
             (case side1 => repeat (first | exact (Kd.Zaq HR263_0.out HB.out) | (with_reducible refine Kd.Za0 ?_ _) | (with_reducible refine Kd.C_drewN ?_ _) | (with_reducible refine Kd.C_drew ?_)))
             (case side2 => exact HC263_0.out)
             (case side3 => repeat (first | exact (by repeat (first | (with_reducible exact HR264_0.out) | (with_reducible refine Kd.Za0 ?_ _) | (with_reducible refine Kd.C_drewN ?_ _) | (with_reducible refine Kd.C_drew ?_) | exact HR264_0.out)) | (with_reducible refine Kd.Za0 ?_ _) | (with_reducible refine Kd.C_drewN ?_ _) | (with_reducible refine Kd.C_drew ?_)))
             (case side4 => exact HC264_0.out)
             rintro e w32 ⟨v267, rfl, ho0, hb⟩
             have HS1_ := (hb.cell (World.block_lt_of_cell? _ _ (hHeld.2))).trans (hHeld.2)
             refine ⟨_, rfl, ?_⟩
             have n0_ := Zaa.mk (Kd.Zcd (by (with_reducible repeat (first | apply Kd.N_alloc | apply Kd.Zba | apply Kd.Zbd)); exact HO_9.out) (Kd.Zcb ho0) hb)
             have n1_ := Zaa.mk (Kd.Zcd (by (with_reducible repeat (first | apply Kd.N_alloc | apply Kd.Zba | apply Kd.Zbd)); exact HO_10.out) (Kd.Zcb ho0) hb)
             have n2_ := Zaa.mk (Kd.V_elder' (by (with_reducible repeat (first | apply Kd.V_alloc | apply Kd.V_drewN | apply Kd.V_drew)); exact HL264_0.out) (Kd.Zcb ho0) hb)
             have n3_ := Zaa.mk (Kd.Zbu (Kd.R_newM (M := fun k_ => (w.heap.size ≤ k_)) ho0 (Zas (by repeat (first | (with_reducible first | exact HB.out | apply Zac | apply Zab | apply Zad) | exact HB.out))) (fun k_ h_ => h_)) (Zas (by repeat (first | (with_reducible first | exact HB.out | apply Zac | apply Zab | apply Zad) | exact HB.out))))
             have n4_ := Zaa.mk (Kd.Zaq (by repeat (first | (with_reducible exact HR264_0.out) | (with_reducible refine Kd.Za0 ?_ _) | (with_reducible refine Kd.C_drewN ?_ _) | (with_reducible refine Kd.C_drew ?_) | exact HR264_0.out)) hb)
             have n5_ := Zaa.mk (Zan (by repeat (first | (with_reducible first | exact HB.out | apply Zac | apply Zab | apply Zad) | exact HB.out)) hb)
             clear HO_9
             clear HO_10
             clear HL264_0
             clear HR264_0
             clear HB
             have HO_9 := n0_
             have HO_10 := n1_
             have HL264_0 := n2_
             have HO268 := n3_
             have HR264_0 := n4_
             have HB := n5_
             clear n0_ n1_ n2_ n3_ n4_ n5_
             (try clear hb)
             (try clear hb2)
             (try clear hk)
             (try clear hi)
             (try clear ho0)
             refine hK.out _ _ ⟨((HB.out.cell (World.block_lt_of_cell? w _ hw263_0)).trans hw263_0), HS1_⟩ (fun hHeld => ?_)
             clear hK K
             refine norm_ (a' := ?_) ?_ ?_
             rotate_left
             ·show Act.put _ (some 78) _ = _
              simp only [Act.put, List.setIfInBounds_toArray, List.set_cons_zero, List.set_cons_succ, Zbe, Zbg]
              rfl
             refine Zc (i := 9) (N := some 69) (v := ?_) (a' := ?_) #[true, true, true, true, true, true, true, true, true, true, false, false, false, false] rfl rfl (Zbj HT_.out (by kernel_rfl)) (fun _ _ _ h => h) (Or.inl ⟨by rfl, ?_⟩) ?_ ?_
             rotate_left
             ·intro w'
              go_simp
              with_reducible rfl
             rotate_left
             ·simp only [Act.put, List.setIfInBounds_toArray, List.set_cons_zero, List.set_cons_succ, Zbe, Zbg]
              rfl
             refine Zc (i := 10) (N := some 79) (v := ?_) (a' := ?_) #[true, true, true, true, true, true, true, true, true, true, true, false, false, false] rfl rfl (Zbj HT_.out (by kernel_rfl)) (fun _ _ _ h => h) (Or.inl ⟨by rfl, ?_⟩) ?_ ?_
             rotate_left
             ·intro w'
              go_simp
              with_reducible rfl
             rotate_left
             ·simp only [Act.put, List.setIfInBounds_toArray, List.set_cons_zero, List.set_cons_succ, Zbe, Zbg]
              rfl
             refine Zc (i := 11) (N := some 80) (v := ?_) (a' := ?_) #[true, true, true, true, true, true, true, true, true, true, true, true, false, false] rfl rfl (Zbj HT_.out (by kernel_rfl)) (fun _ _ _ h => h) (Or.inl ⟨by rfl, ?_⟩) ?_ ?_
             rotate_left
             ·intro w'
              go_simp
              with_reducible rfl
             rotate_left
             ·simp only [Act.put, List.setIfInBounds_toArray, List.set_cons_zero, List.set_cons_succ, Zbe, Zbg]
              rfl
             refine Zc (i := 12) (N := some 13) (v := ?_) (a' := ?_) #[true, true, true, true, true, true, true, true, true, true, true, true, true, false] rfl rfl (Zbj HT_.out (by kernel_rfl)) (fun _ _ _ h => h) (Or.inl ⟨by rfl, ?_⟩) ?_ ?_
             rotate_left
             ·intro w'
              go_simp
              with_reducible rfl
             rotate_left
             ·simp only [Act.put, List.setIfInBounds_toArray, List.set_cons_zero, List.set_cons_succ, Zbe, Zbg]
              rfl
             refine Zc (i := 13) (N := some 14) (v := ?_) (a' := ?_) #[true, true, true, true, true, true, true, true, true, true, true, true, true, true] rfl rfl (Zbj HT_.out (by kernel_rfl)) (fun _ _ _ h => h) (Or.inl ⟨by rfl, ?_⟩) ?_ ?_
             rotate_left
             ·intro w'
              go_simp
              with_reducible rfl
             rotate_left
             ·simp only [Act.put, List.setIfInBounds_toArray, List.set_cons_zero, List.set_cons_succ, Zbe, Zbg]
              rfl
             refine done_ (done_of HT_.out (by kernel_rfl)) ?_
             obtain ⟨Ao34, co34, eo34⟩ := Kd.Zcc HO268.out
             subst eo34
             try go_wp2_with (first | ((with_reducible refine Za1 (b := .append) (xs := #[.tmp 81, .tmp 83]) rfl ?_); at_builtin; refine Kd.N_append (Kd.slice 3 (Kd.int .i64)) (w0 := w) w.heap.size rfl (.tmp 81) (.tmp 83) 32 22 (.slice none 0 0) 24 rfl Try.underlying32 Zcm rfl (by decide) (by omega) u10 x10_6 t265 [.slice Ao34 t265.length co34] (fun k_ => (w.heap.size ≤ k_)) (fun k_ => ((fun k_ => (w.heap.size ≤ k_))) k_ ∧ some k_ ≠ (u10 : Value).ownBlock) rfl rfl ?aP (fun _ hk => hk) ?aF ?aO ?aB ?aS ?aL ?_; (case aP => exact (by obtain ⟨Aq_, cq_, eq_⟩ := Kd.Zcc HO268.out; (try subst eq_); exact Kd.Zew (Kd.Zbh (Kd.Zbf (ok' := (fun k_ => ((fun k_ => (w.heap.size ≤ k_))) k_ ∧ some k_ ≠ (u10 : Value).ownBlock)) (Kd.Zb3 (HO268.out) (Kd.N_typed HO_10.out) (by decide)) (fun k_ hk => ⟨hk.1.1, hk.2⟩))).2.1 (Kd.R_F (Kd.Zbf (ok' := (fun k_ => ((fun k_ => (w.heap.size ≤ k_))) k_ ∧ some k_ ≠ (u10 : Value).ownBlock)) (Kd.Zb3 (HO268.out) (Kd.N_typed HO_10.out) (by decide)) (fun k_ hk => ⟨hk.1.1, hk.2⟩))))); (case aB => exact (by repeat (first | (with_reducible first | exact HB.out | apply Zac | apply Zab | apply Zad) | exact HB.out))); (case aF => exact (fun k_ hk => (Nat.le_trans (Zas (by repeat (first | (with_reducible first | exact HB.out | apply Zac | apply Zab | apply Zad) | exact HB.out))) hk))); (case aO => exact (by (with_reducible repeat (first | apply Kd.N_alloc | apply Kd.Zba | apply Kd.Zbd)); exact Kd.Zci HO_10.out (fun _ hk => hk.1))); (case aS => exact (Zas (by repeat (first | (with_reducible first | exact HB.out | apply Zac | apply Zab | apply Zad) | exact HB.out)))); (case aL => have := LMc30.out; omega); intro v270 w33 ho hb hg hat; rw [← Ny269.out] at ho; have n0_ := Zaa.mk (Kd.N_afterv (ok := (fun k_ => (w.heap.size ≤ k_) ∧ some k_ ≠ (.slice Ao34 t265.length co34 : Value).ownBlock)) (by (with_reducible repeat (first | apply Kd.N_alloc | apply Kd.Zba | apply Kd.Zbd)); exact Kd.Zci HO_9.out (fun _ hk => ⟨⟨hk.1.1, hk.2⟩, hk.1.2⟩)) hg hat); have n1_ := Zaa.mk (Kd.V_afterv (ok := (fun k_ => (w.heap.size ≤ k_) ∧ some k_ ≠ (.slice (some ad264) x9_4.length co23 : Value).ownBlock ∧ some k_ ≠ (.slice Ao34 t265.length co34 : Value).ownBlock)) (by (with_reducible repeat (first | apply Kd.V_alloc | apply Kd.V_drewN | apply Kd.V_drew)); exact Kd.V_mono HL264_0.out (fun _ hk => ⟨⟨hk.1.1.1, ⟨hk.1.2, hk.2⟩⟩, hk.1.1.2⟩)) hg hat); have n2_ := Zaa.mk (hb); have n3_ := Zaa.mk (ho); clear HO_9; clear HL264_0; clear HB; clear HO_10; clear HO268; have HO_9 := n0_; have HL264_0 := n1_; have HB := n2_; have HO271 := n3_; clear n0_ n1_ n2_ n3_; clear ho hb hg hat))
             go_roundg k6
             case measure => have := HJ2.out; have := HK2.out; have := HK3.out; have := HK4.out; have := HK5.out; have := HK6.out; omega
             case rel => exact ⟨(y269), (wrap64 (x12_6 + 1)), (by first | rfl | (simp; done) | (simp [*]; done)), H', ⟨by have := HJ2.out; have := HK2.out; have := HK3.out; have := HK4.out; have := HK5.out; have := HK6.out; omega⟩, ⟨by (with_reducible repeat (first | apply Kd.N_alloc | apply Kd.Zba | apply Kd.Zbd)); exact Kd.Zci HO_9.out (fun _ hk => ⟨hk.1.1, hk.2⟩)⟩, ⟨by (with_reducible repeat (first | apply Kd.N_alloc | apply Kd.Zba | apply Kd.Zbd)); exact HO271.out⟩, ⟨by repeat (first | (with_reducible first | exact HB.out | apply Zac | apply Zab | apply Zad) | exact HB.out)⟩⟩
end Go.Proofs.Yteopgafbamipeaa.P
/- The document's closure of changes: it comes to the same. -/
namespace Go.Proofs.Yteopgafbamipeaa.P
open Go.RowKit Go.Proofs.YteopgafbamipeaaW.PrintWords Go.Proofs.YteopgafbamipeaaW.PrintLast Go.Proofs.YteopgafbamipeaaW.PrintMore
set_option linter.unusedVariables false
set_option linter.unusedSimpArgs false
namespace G
theorem ref_behind_ok {p q : List Int} {n : Nat} (hp : Ch n p) (hq : Ch n q) (hn : n ≤ 7) : Ev (fun k => Zae.f k p q) (comp p q, 0) := by
  have h := ref_behind_ev (p := p) (q := q) (by have := hp.2; omega) (by have := hq.2; omega)
  rwa [show bh p q = (comp p q, 0) from if_pos ⟨hp.2.trans hq.2.symm, Zb9.2 hp.1, Zb9.2 hq.1⟩] at h
/-- Each of l ahead of each of out. -/
def heads (l : List (List Int)) (x : List Int) : List (List Int) := l.map fun p => comp p x
def nxt (l out : List (List Int)) : List (List Int) := out ++ out.flatMap (heads l)
theorem heads_len (l : List (List Int)) (x : List Int) : (heads l x).length = l.length := by simp [heads]
theorem flat_len (l : List (List Int)) : ∀ out : List (List Int), (out.flatMap (heads l)).length = out.length * l.length
  | [] => by simp
  | x :: out => by
    rw [List.flatMap_cons, List.length_append, heads_len, flat_len l out, List.length_cons, Nat.add_mul, Nat.one_mul, Nat.add_comm]
theorem mem_nxt {l out : List (List Int)} {y : List Int} : y ∈ nxt l out ↔ y ∈ out ∨ ∃ x ∈ out, ∃ p ∈ l, comp p x = y := by simp [nxt, heads, List.mem_flatMap]
theorem ids_succ (n : Nat) : ids (n + 1) = ids n ++ [(n : Int)] := by
  unfold ids
  rw [List.range_succ, List.map_append]
  rfl
section
variable {l : List (List Int)} {n : Nat} (hn : n ≤ 7) (hl : ∀ p ∈ l, Ch n p) (hlen : l.length ≤ 100)
include hn hl hlen
theorem Zeo (out acc : List (List Int)) (i : Nat) (hi : i < out.length) (ho : out.length ≤ 823543) (hch : ∀ x ∈ out, Ch n x) (hacc : acc.length ≤ 900000000) (R : List (List Int) × Int)
    (hnext : Ev (fun k => Za.l3 k l out (acc ++ heads l out[i]) ((i + 1 : Nat) : Int)) R) : ∀ (d m : Nat), m + d = l.length → Ev (fun k => Za.l4 k l out (acc ++ heads (l.take m) out[i]) (i : Int) (m : Int)) R
  | 0, m, h => by
    obtain rfl : m = l.length := by omega
    rw [List.take_length]
    exact Ev.step (fun k => by rw [Za.l4, if_neg (by omega), w1 (by omega)]) hnext
  | d + 1, m, h => by
    have hm : m < l.length := by omega
    have hb : (acc ++ heads (l.take m) out[i]).length < 5864062014805 := by
      unfold heads
      rw [List.length_append, List.length_map, List.length_take]
      omega
    have ih := Zeo out acc i hi ho hch hacc R hnext d (m + 1) (by omega)
    have e : acc ++ heads (l.take (m + 1)) out[i] = (acc ++ heads (l.take m) out[i]) ++ [comp l[m] out[i]] := by
      unfold heads
      rw [List.take_succ_eq_append_getElem hm, List.map_append, List.append_assoc]
      rfl
    rw [e] at ih
    refine Ev.step (fun k => by rw [Za.l4, if_pos (by omega), if_pos (by omega), if_pos (by omega), if_pos (by omega), Zcy l m hm, Zcy out i hi, w1 (by omega)]) (Ev.bind (ref_behind_ok (hl _ (List.getElem_mem hm)) (hch _ (List.getElem_mem hi)) hn) (Ev.Zby hb ih))
omit hn hl in
theorem nxt_len {out : List (List Int)} (ho : out.length ≤ 823543) : (nxt l out).length ≤ 83177843 := by
  unfold nxt
  rw [List.length_append, flat_len]
  have : out.length * l.length ≤ 823543 * 100 := Nat.mul_le_mul ho hlen
  omega
theorem Zd8 (out : List (List Int)) (ho : out.length ≤ 823543) (hch : ∀ x ∈ out, Ch n x) (R : List (List Int) × Int)
    (hnext : Ev (fun k => (Za5.f (nxt l out)).bind fun t272 => ((Zag.f k t272 out).bind fun t275 => (if t275 = true then (some (out, 0)) else (Za.l2 k l t272)))) R) : ∀ (d i : Nat), i + d = out.length → Ev (fun k => Za.l3 k l out (out ++ (out.take i).flatMap (heads l)) (i : Int)) R
  | 0, i, h => by
    obtain rfl : i = out.length := by omega
    rw [List.take_length]
    exact Ev.step (fun k => by rw [Za.l3, if_neg (by omega)]; rfl) hnext
  | d + 1, i, h => by
    have hi : i < out.length := by omega
    have ih := Zd8 out ho hch R hnext d (i + 1) (by omega)
    rw [List.take_succ_eq_append_getElem hi, List.flatMap_append, ← List.append_assoc, List.flatMap_singleton] at ih
    have hb : (out ++ (out.take i).flatMap (heads l)).length ≤ 900000000 := by
      rw [List.length_append, flat_len, List.length_take]
      have : min i out.length * l.length ≤ 823543 * 100 := Nat.mul_le_mul (by omega) hlen
      omega
    have hh := Zeo hn hl hlen out _ i hi ho hch hb R ih l.length 0 (by omega)
    refine Ev.step (G := fun k => Za.l4 k l out (out ++ (out.take i).flatMap (heads l)) (i : Int) 0) (fun k => by rw [Za.l3, if_pos (by omega)]) ?_
    simpa [heads] using hh
theorem Zfq : ∀ (d : Nat) (out : List (List Int)), 823544 ≤ d + out.length → SSL out → (∀ x ∈ out, Gen l n x) → ids n ∈ out → ∃ g, IsCl l n g ∧ Ev (fun k => Za.l2 k l out) (g, 0) := by
  intro d
  induction d with
  | zero =>
    intro out hd hs hg _
    have := few hn (Zco hs) (fun x hx => (hg x hx).ch hl)
    omega
  | succ d ih =>
    intro out hd hs hg hi
    have hnd := Zco hs
    have hch : ∀ x ∈ out, Ch n x := fun x hx => (hg x hx).ch hl
    have ho := few hn hnd hch
    have hgen : ∀ y ∈ nxt l out, Gen l n y := fun y hy => by
      rcases mem_nxt.1 hy with h | ⟨x, hx, p, hp, rfl⟩
      · exact hg y h
      exact (Gen.of hl hp).behind hl (hg x hx)
    have hnl := nxt_len hlen ho
    have hin : ∀ x ∈ sdL (nxt l out), x.length < 4611686018427387904 := fun x hx => by
      have := ((hgen x ((Zcn x _).1 hx)).ch hl).2
      omega
    have hL := ref_Lists (sdL (nxt l out)) out (by have := Zdm (nxt l out); omega) hin
    have hS : Ev (fun _ => Za5.f (nxt l out)) (sdL (nxt l out)) := Ev.const (Zfp (by omega))
    have hrow := fun (R : List (List Int) × Int) h => Zd8 hn hl hlen out ho hch R h out.length 0 (by omega)
    have hstep : ∀ R, Ev (fun k => Za.l3 k l out (out ++ (out.take 0).flatMap (heads l)) ((0 : Nat) : Int)) R → Ev (fun k => Za.l2 k l out) R := fun R h => by
      refine Ev.step (G := fun k => Za.l3 k l out out 0) (fun k => by rw [Za.l2, Option.bind_some, if_pos (by simp; omega), List.nil_append]) ?_
      simpa using h
    by_cases e : sdL (nxt l out) = out
    · rw [decide_eq_true e] at hL
      refine ⟨out, ⟨hs, fun x => ⟨hg x, fun hx => ?_⟩⟩, hstep _ (hrow _ (Ev.bind hS (Ev.bind hL (Ev.Zby rfl (Ev.const rfl)))))⟩
      have hcl : ∀ y ∈ out, ∀ p ∈ l, comp p y ∈ out := fun y hy p hp => by
        have : comp p y ∈ sdL (nxt l out) := (Zcn _ _).2 (mem_nxt.2 (.inr ⟨y, hy, p, hp, rfl⟩))
        rwa [e] at this
      have hall : ∀ z, Gen l n z → ∀ y ∈ out, comp z y ∈ out := fun z hz => by
        induction hz with
        | one => intro y hy; rw [ids_comp (hch y hy).2]; exact hy
        | mul hz hp ih2 =>
          intro y hy
          rw [assoc' (hz.ch hl) (hl _ hp)]
          exact ih2 _ (hcl y hy _ hp)
      have := hall x hx (ids n) hi
      rwa [comp_ids (hx.ch hl).1 (hx.ch hl).2] at this
    rw [decide_eq_false e] at hL
    have hsub : ∀ x ∈ out, x ∈ sdL (nxt l out) := fun x hx => (Zcn _ _).2 (mem_nxt.2 (.inl hx))
    have hgrow : out.length < (sdL (nxt l out)).length := by
      refine Decidable.byContradiction fun hle => e (SSL.ext (Zfj _) hs (fun x => ⟨fun hx => ?_, hsub x⟩))
      refine Decidable.byContradiction fun hno => ?_
      have := Zdl (x :: out) (sdL (nxt l out)) (List.nodup_cons.2 ⟨hno, hnd⟩) (fun y hy => by
        rcases List.mem_cons.1 hy with rfl | hy
        · exact hx
        exact hsub y hy)
      rw [List.length_cons] at this
      omega
    have hfew := few hn (Zco (Zfj (nxt l out))) (fun x hx => (hgen x ((Zcn x _).1 hx)).ch hl)
    obtain ⟨g, h1, h2⟩ := ih (sdL (nxt l out)) (by omega) (Zfj _) (fun x hx => hgen x ((Zcn x _).1 hx)) (hsub _ hi)
    exact ⟨g, h1, hstep _ (hrow _ (Ev.bind hS (Ev.bind hL (Ev.Zcf (by simp) h2))))⟩
omit hl hlen in
theorem Zd7 (R : List (List Int) × Int) (h : Ev (fun k => Za.l2 k l [ids n]) R) : ∀ (d j : Nat), j + d = n → Ev (fun k => Za.l1 k l (n : Int) (ids j) (j : Int)) R
  | 0, j, hj => by
    obtain rfl : j = n := by omega
    exact Ev.step (fun k => by rw [Za.l1, if_neg (by omega)]) h
  | d + 1, j, hj => by
    have ih := Zd7 R h d (j + 1) (by omega)
    rw [ids_succ] at ih
    exact Ev.step (fun k => by rw [Za.l1, if_pos (by omega), if_pos (by rw [Zbr]; omega), w1 (by omega)]) ih
theorem ref_close_ok : ∃ g, IsCl l n g ∧ Ev (fun k => Za.f k l (n : Int)) (g, 0) := by
  obtain ⟨g, h1, h2⟩ := Zfq hn hl hlen 823544 [ids n] (by simp) (by simp) (fun x hx => by rw [List.mem_singleton.1 hx]; exact Gen.one) (by simp)
  have h3 := Zd7 hn (g, 0) h2 n 0 (by omega)
  have h4 : ∀ (d i : Nat), i + d = l.length → Ev (fun k => Za.l0 k l (n : Int) (i : Int)) (g, 0) := by
    intro d
    induction d with
    | zero =>
      intro i hi
      exact Ev.step (G := fun k => Za.l1 k l (n : Int) [] 0) (fun k => by rw [Za.l0, if_neg (by omega)]) h3
    | succ d ih =>
      intro i hi
      have hil : i < l.length := by omega
      have hc := hl _ (List.getElem_mem hil)
      have hr := Zcu (p := l[i]) (by have := hc.2; omega)
      rw [Zb9.2 hc.1] at hr
      exact Ev.step (fun k => by rw [Za.l0, if_pos (by omega), if_pos (by omega), Zcy l i hil, if_pos (by have := hc.2; omega), w1 (by omega)]) (Ev.bind hr (Ev.Zby rfl (ih (i + 1) (by omega))))
  refine ⟨g, h1, ?_⟩
  unfold Za.f
  refine Ev.Zcf (by omega) ?_
  have h0 := h4 l.length 0 (by omega)
  rw [show decide ((n : Int) > 7) = false from decide_eq_false (by omega)]
  exact Ev.step (G := fun k => Za.l0 k l (n : Int) 0) (fun k => by rw [Za.j0, if_neg (by simp)]) h0
end
theorem ref_close_no {l : List (List Int)} {n : Int} (hlen : l.length ≤ 1000000) (hin : ∀ p ∈ l, p.length ≤ 1000000) (h : n < 0 ∨ 7 < n ∨ Zc5 l n = false) : Ev (fun k => Za.f k l n) ([], 1) := by
  have hbad : Ev (fun k => Za.j0 k l n true) ([], 1) := Ev.step (G := fun _ => some ([], 1)) (fun k => by rw [Za.j0, if_pos rfl]) (Ev.const rfl)
  unfold Za.f
  by_cases h0 : n < 0
  · exact Ev.Zby h0 hbad
  refine Ev.Zcf h0 ?_
  by_cases h7 : n > 7
  · rw [decide_eq_true h7]
    exact hbad
  rw [decide_eq_false h7]
  have hok : Zc5 l n = false := by
    rcases h with h | h | h
    · exact absurd h h0
    · exact absurd h h7
    exact h
  have hl0 : ∀ (d i : Nat), i + d = l.length → (∀ j (hj : j < l.length), j < i → (l[j].length : Int) = n ∧ rtB l[j] = true) → Ev (fun k => Za.l0 k l n (i : Int)) ([], 1) := by
    intro d
    induction d with
    | zero =>
      intro i hi hall
      have : Zc5 l n = true := by
        unfold Zc5
        rw [List.all_eq_true]
        intro p hp
        obtain ⟨j, hj, rfl⟩ := List.mem_iff_getElem.1 hp
        obtain ⟨h1, h2⟩ := hall j hj (by omega)
        rw [Bool.and_eq_true, decide_eq_true_iff]
        exact ⟨h1, h2⟩
      rw [hok] at this
      cases this
    | succ d ih =>
      intro i hi hall
      have hil : i < l.length := by omega
      by_cases h1 : (l[i].length : Int) = n
      rotate_left
      · exact Ev.step (G := fun _ => some ([], 1)) (fun k => by rw [Za.l0, if_pos (by omega), if_pos (by omega), Zcy l i hil, if_neg h1]) (Ev.const rfl)
      have hr := Zcu (p := l[i]) (hin _ (List.getElem_mem hil))
      cases h2 : rtB l[i]
      · rw [h2] at hr
        refine Ev.step (fun k => by rw [Za.l0, if_pos (by omega), if_pos (by omega), Zcy l i hil, if_pos h1]) (Ev.bind hr ?_)
        exact Ev.Zcf (by simp) (Ev.const rfl)
      rw [h2] at hr
      refine Ev.step (fun k => by rw [Za.l0, if_pos (by omega), if_pos (by omega), Zcy l i hil, if_pos h1, w1 (by omega)]) (Ev.bind hr (Ev.Zby rfl (ih (i + 1) (by omega) (fun j hj hji => ?_))))
      by_cases e : j = i
      · subst e; exact ⟨h1, h2⟩
      exact hall j hj (by omega)
  exact Ev.step (G := fun k => Za.l0 k l n 0) (fun k => by rw [Za.j0, if_neg (by simp)]) (hl0 l.length 0 (by omega) (fun j _ hj => absurd hj (Nat.not_lt_zero _)))
end G
end Go.Proofs.Yteopgafbamipeaa.P
/- Whole numbers written into rows that a call has made: rows of the same lengths they stay. -/
namespace Go.Proofs.Yteopgafbamipeaa.P
open Go.RowKit Go.Proofs.YteopgafbamipeaaW.PrintWords Go.Proofs.YteopgafbamipeaaW.PrintLast Go.Proofs.YteopgafbamipeaaW.PrintMore
set_option linter.unusedVariables false
set_option linter.unusedSimpArgs false

def AllInt (cs : List Value) : Prop := ∀ u ∈ cs, ∃ z, u = Value.int .i64 z
/-- Elements that are whole numbers, whatever numbers. -/
structure Free {α : Type} (d : Kd α) : Prop where
  one : 0 < d.sz
  ints : ∀ {w base ok x cs}, d.M w base ok x cs → AllInt cs
  still : ∀ {w base ok x cs}, d.M w base ok x cs → ∀ w' base' ok', d.M w' base' ok' x cs
  any : ∀ cs : List Value, cs.length = d.sz → AllInt cs → ∃ x, ∀ w base ok, d.M w base ok x cs
theorem free_int : Free (Kd.int .i64) := by
  refine ⟨Nat.one_pos, ?_, fun h _ _ _ => h, ?_⟩
  · intro w base ok x cs h u hu
    rw [show cs = [Value.int .i64 x] from h] at hu
    exact ⟨x, by simpa using hu⟩
  intro cs hl hA
  obtain ⟨u, rfl⟩ := List.length_eq_one_iff.1 (show cs.length = 1 from hl)
  obtain ⟨z, rfl⟩ := hA u (by simp)
  exact ⟨z, fun _ _ _ => rfl⟩
/-- Any numbers are a row. -/
theorem Free.reps {α : Type} {d : Kd α} (hF : Free d) : ∀ (n : Nat) (cs : List Value), cs.length = n * d.sz → AllInt cs → ∃ xs : List α, xs.length = n ∧ ∀ w base ok, Reps (d.M w base ok) d.sz xs cs
  | 0, cs, hl, _ => ⟨[], rfl, fun w base ok => by
      rw [Nat.zero_mul] at hl
      rw [List.length_eq_zero_iff.1 hl]
      exact Reps.none _ _⟩
  | n + 1, cs, hl, hA => by
    rw [Nat.add_mul, Nat.one_mul] at hl
    obtain ⟨x, hx⟩ := hF.any (cs.take d.sz) (by rw [List.length_take]; omega) (fun u hu => hA u (List.mem_of_mem_take hu))
    obtain ⟨xs, hxl, hxs⟩ := Free.reps hF n (cs.drop d.sz) (by rw [List.length_drop]; omega) (fun u hu => hA u (List.mem_of_mem_drop hu))
    refine ⟨x :: xs, by simp [hxl], fun w base ok => ?_⟩
    have := Reps.cons_ (hx w base ok) (by rw [List.length_take]; omega) (hxs w base ok)
    rwa [List.take_append_drop] at this
theorem Free.all {α : Type} {d : Kd α} (hF : Free d) {w : World} {base : Nat} {ok : Nat → Prop} {xs : List α} {cs : List Value} (h : Reps (d.M w base ok) d.sz xs cs) : AllInt cs := by
  intro u hu
  obtain ⟨j, hj, rfl⟩ := List.mem_iff_getElem.1 hu
  have hl := h.1
  have hq : j / d.sz < xs.length := Nat.div_lt_of_lt_mul (by rw [Nat.mul_comm, ← hl]; exact hj)
  refine hF.ints (h.2 (j / d.sz) _ (List.getElem?_eq_getElem hq)) _ ?_
  refine List.mem_iff_getElem.2 ⟨j % d.sz, ?_, ?_⟩
  · have h1 := Nat.mod_lt j hF.one
    have h2 := Nat.div_add_mod j d.sz
    rw [Nat.mul_comm] at h2
    rw [List.length_take, List.length_drop]
    omega
  have h2 := Nat.div_add_mod j d.sz
  rw [Nat.mul_comm] at h2
  simp only [List.getElem_take, List.getElem_drop, h2]
theorem heap_setCell_same {w : World} {h k : Nat} {cells : Array Value} {e : TypeId} {fr : Nat × Nat} (v : Value) (hb : w.heap[h]? = some (.cells cells e fr)) : (w.setCell ⟨h, k, none⟩ v).heap[h]? = some (.cells (cells.setIfInBounds k v) e fr) :=
  Go.Joins.block_setCell hb v
theorem R_spoil {α : Type} {d : Kd α} (hF : Free d) {e : Nat} {w : World} {base : Nat} {ok : Nat → Prop} {v : Value} {xs : List α} (H : d.R e w base ok v xs) (h k : Nat) (z : Int) :
    ∃ xs' : List α, xs'.length = xs.length ∧ d.R e (w.setCell ⟨h, k, none⟩ (.int .i64 z)) base ok v xs' := by
  obtain ⟨hP, inner, hown, hreps⟩ := H
  by_cases hv : v.ownBlock = some h
  rotate_left
  · refine ⟨xs, rfl, hP, inner, own_move hown (fun q hq => Below.heap_setCell w ⟨h, k, none⟩ _ q (fun e => hv (by rw [hq, e]))), hreps.imp_ (fun _ _ hp => hF.still hp _ _ _)⟩
  rcases hown.2 with ⟨rfl, h0⟩ | ⟨g, cap, cur, rfl, hg, hb, hn, hcap, hcs, htk⟩
  · simp [Value.ownBlock] at hv
  obtain rfl : g = h := by simpa [Value.ownBlock] using hv
  have hlen := hreps.1
  have hA : AllInt (inner.set k (.int .i64 z)) := fun u hu => by
    rcases List.mem_or_eq_of_mem_set hu with hu | rfl
    · exact hF.all hreps u hu
    exact ⟨z, rfl⟩
  obtain ⟨xs', hl', hr'⟩ := hF.reps xs.length (inner.set k (.int .i64 z)) (by rw [List.length_set]; exact hlen) hA
  refine ⟨xs', hl', hP, inner.set k (.int .i64 z), ⟨by rw [List.length_set, hl']; exact hown.1, .inr ⟨g, cap, cur.setIfInBounds k (.int .i64 z), by rw [hl'], hg, heap_setCell_same _ hb, by rw [hl']; exact hn, hcap, by rw [Array.size_setIfInBounds]; exact hcs, ?_⟩⟩, hr' _ _ _⟩
  rw [hl', Array.toList_setIfInBounds, List.take_set, htk]
/-- Rows in a row: a number written into one of them. -/
theorem RR_spoil {α : Type} {d : Kd α} (hF : Free d) {e E : Nat} {w : World} {base : Nat} {ok : Nat → Prop} {v : Value} {xs : List (List α)} (H : (Kd.slice e d).R E w base ok v xs) (h k : Nat) (z : Int) (hne : v.ownBlock ≠ some h) :
    ∃ xs' : List (List α), xs'.map List.length = xs.map List.length ∧ (Kd.slice e d).R E (w.setCell ⟨h, k, none⟩ (.int .i64 z)) base ok v xs' := by
  obtain ⟨hP, inner, hown, hreps⟩ := H
  have each : ∀ (xs : List (List α)) (inner : List Value), Reps ((Kd.slice e d).M w base (fun k => ok k ∧ some k ≠ v.ownBlock)) 1 xs inner → ∃ xs' : List (List α), xs'.map List.length = xs.map List.length ∧ Reps ((Kd.slice e d).M (w.setCell ⟨h, k, none⟩ (.int .i64 z)) base (fun k => ok k ∧ some k ≠ v.ownBlock)) 1 xs' inner := by
    intro xs
    induction xs with
    | nil =>
      intro inner hr
      have : inner = [] := List.length_eq_zero_iff.1 (by rw [hr.1]; simp)
      subst this
      exact ⟨[], rfl, Reps.none _ _⟩
    | cons x xs ih =>
      intro inner hr
      obtain ⟨u, inner, rfl⟩ : ∃ u t, inner = u :: t := by
        cases inner with
        | nil => have := hr.1; simp at this
        | cons u t => exact ⟨u, t, rfl⟩
      obtain ⟨u', hu, hx⟩ : (Kd.slice e d).M w base (fun k => ok k ∧ some k ≠ v.ownBlock) x [u] := by
        have := hr.2 0 x rfl
        simpa using this
      obtain rfl : u = u' := List.singleton_inj.1 hu
      have hrest : Reps ((Kd.slice e d).M w base (fun k => ok k ∧ some k ≠ v.ownBlock)) 1 xs inner := by
        refine ⟨by have := hr.1; simp at this ⊢; omega, fun j p hj => ?_⟩
        have := hr.2 (j + 1) p (by simpa using hj)
        simpa [Nat.add_mul] using this
      obtain ⟨x', hxl, hx'⟩ := R_spoil hF hx h k z
      obtain ⟨xs', hl', hr'⟩ := ih inner hrest
      exact ⟨x' :: xs', by simp [hxl, hl'], Reps.cons_ (c := [u]) ⟨u, rfl, hx'⟩ rfl hr'⟩
  obtain ⟨xs', hl', hr'⟩ := each xs inner hreps
  have hlen : xs'.length = xs.length := by have := congrArg List.length hl'; simpa using this
  refine ⟨xs', hl', hP, inner, ?_, hr'⟩
  rw [hlen]
  exact own_move hown (fun q hq => Below.heap_setCell w ⟨h, k, none⟩ _ q (fun e => hne (by rw [hq]; exact congrArg some e)))
/-- What a walk wants to know of it at one element (cell k of it, of d.sz a piece). -/
theorem RR_at {α : Type} {d : Kd α} (hF : Free d) {e E : Nat} {w : World} {base : Nat} {ok : Nat → Prop} {v : Value} {xs : List (List α)} (H : (Kd.slice e d).R E w base ok v xs) (i : Nat) (hi : i < xs.length) (k : Nat) (hk : k < xs[i].length * d.sz) :
    ∃ g c h ci, v = .slice (some ⟨g, 0, none⟩) xs.length c ∧ w.cell? ⟨g, i, none⟩ = some (.slice (some ⟨h, 0, none⟩) xs[i].length ci) ∧ xs[i].length ≤ ci ∧ base ≤ g ∧ base ≤ h ∧ (∃ u, w.cell? ⟨h, k, none⟩ = some (.int .i64 u)) ∧ w.frozen? ⟨h, k, none⟩ = false ∧ v.ownBlock ≠ some h ∧ h < w.heap.size := by
  obtain ⟨hP, inner, hown, hreps⟩ := H
  rcases hown.2 with ⟨rfl, h0⟩ | ⟨g, cap, cur, rfl, hg, hb, hn, hcap, hcs, htk⟩
  · omega
  obtain ⟨u, hu, hP2, inner2, hown2, hreps2⟩ := hreps.2 i _ (List.getElem?_eq_getElem hi)
  rcases hown2.2 with ⟨rfl, h1⟩ | ⟨h, cap2, cur2, rfl, hg2, hb2, hn2, hcap2, hcs2, htk2⟩
  · rw [h1] at hk; omega
  have hl1 := hreps.1
  have hl2 := hreps2.1
  have hcell : cur[i]? = some (.slice (some ⟨h, 0, none⟩) xs[i].length cap2) := by
    have h3 : (List.take ((Kd.slice e d).sz) (List.drop (i * (Kd.slice e d).sz) inner))[0]? = some (.slice (some ⟨h, 0, none⟩) xs[i].length cap2) := by rw [hu]; rfl
    rw [show (Kd.slice e d).sz = 1 from rfl, List.getElem?_take_of_lt (by omega), List.getElem?_drop, Nat.mul_one, Nat.add_zero, ← htk] at h3
    rw [List.getElem?_take_of_lt (by show i < xs.length * 1; omega), Array.getElem?_toList] at h3
    exact h3
  have hAI := hF.all hreps2
  have hk2 : k < inner2.length := by rw [hl2]; exact hk
  obtain ⟨z, hz⟩ := hAI inner2[k] (List.getElem_mem hk2)
  have hcell2 : cur2[k]? = some (.int .i64 z) := by
    have h3 : inner2[k]? = some (.int .i64 z) := by rw [List.getElem?_eq_getElem hk2, hz]
    rw [← htk2, List.getElem?_take_of_lt hk, Array.getElem?_toList] at h3
    exact h3
  refine ⟨g, cap, h, cap2, rfl, (blk_cell hb i).trans hcell, hn2, hg, hg2, ⟨z, (blk_cell hb2 k).trans hcell2⟩, by simp [World.frozen?, hb2], ?_, (Array.getElem?_eq_some_iff.1 hb2).1⟩
  intro e2
  have := (hP2 h rfl).2
  exact this e2.symm
theorem RR_head {α : Type} {d : Kd α} {e E : Nat} {w : World} {base : Nat} {ok : Nat → Prop} {v : Value} {xs : List (List α)} (H : (Kd.slice e d).R E w base ok v xs) (i : Nat) (hi : i < xs.length) :
    ∃ g c Ah ci, v = .slice (some ⟨g, 0, none⟩) xs.length c ∧ w.cell? ⟨g, i, none⟩ = some (.slice Ah xs[i].length ci) ∧ base ≤ g := by
  obtain ⟨hP, inner, hown, hreps⟩ := H
  rcases hown.2 with ⟨rfl, h0⟩ | ⟨g, cap, cur, rfl, hg, hb, hn, hcap, hcs, htk⟩
  · omega
  have hC := (Kd.Zbh (d := Kd.slice e d) (e := E) (base := base) (ok := ok) ⟨hP, inner, hown, hreps⟩).2.2
  obtain ⟨ad, A0, c0, hA, hc, _, _⟩ := Zdk hC i hi
  obtain rfl := Option.some.inj hA
  rw [Zcw] at hc
  exact ⟨g, cap, A0, c0, rfl, hc, hg⟩
end Go.Proofs.Yteopgafbamipeaa.P
/- All changes that some make, put behind one another, or that one is none, are as the document says; what is handed in stays: for any lists. -/
namespace Go.Proofs.Yteopgafbamipeaa.P
open Go.RowKit G Go.Proofs.YteopgafbamipeaaW.PrintWords Go.Proofs.YteopgafbamipeaaW.PrintLast Go.Proofs.YteopgafbamipeaaW.PrintMore
set_option linter.unusedVariables false
set_option linter.unusedSimpArgs false
/-- What both tell. -/
theorem closes_both {l : List (List Int)} {n : Int} (hlen : l.length ≤ 100) (hin : ∀ p ∈ l, p.length ≤ 1000000) : ∃ (g : List (List Int)) (e : Int), Ev (fun k => Za4.f k l n) (g, e) ∧ Ev (fun k => Za.f k l n) (g, e) ∧ g.length ≤ 1000000 ∧ ∀ x ∈ g, x.length ≤ 1000000 := by
  by_cases h : n < 0 ∨ 7 < n ∨ Zc5 l n = false
  · exact ⟨[], 1, close_no h, ref_close_no (by omega) hin h, by simp, by simp⟩
  obtain ⟨m, rfl⟩ : ∃ m : Nat, n = m := ⟨n.toNat, by omega⟩
  have hok : Zc5 l m = true := by
    cases hc : Zc5 l m
    · exact absurd (.inr (.inr hc)) h
    rfl
  have hl := cl_ok_ch hok
  obtain ⟨g, h1, h2⟩ := close_ok (n := m) (by omega) hl
  obtain ⟨g', h3, h4⟩ := ref_close_ok (n := m) (by omega) hl hlen
  have e := h1.uniq h3 (fun _ => Iff.rfl)
  subst e
  have hfew := h1.few (by omega) hl
  exact ⟨g, 0, h2, h4, by omega, fun x hx => by have := (((h1.2 x).1 hx).ch hl).2; omega⟩
set_option maxHeartbeats 8000000 in
set_option maxRecDepth 1000000 in
theorem closes_walk (K : Nat) (A0 : Option Addr) (c0 : Nat) (x0 l : List (List Int)) (x1 kk : Int) (g : List (List Int)) (e : Int) (w : World) (hr0 : Kd.C (Kd.slice 3 (Kd.int .i64)) w A0 x0.length x0) (hc0 : x0.length ≤ c0)
    (hsm : Zai.f K x0 = some l) (hcp : Zao.f K l = some l) (hkk : (5 < x1 ∧ x1 < 8 ∧ kk = 5) ∨ (5 < x1 ∧ ¬ x1 < 8 ∧ kk = x1) ∨ (¬ 5 < x1 ∧ kk = x1)) (hC : Za4.f K l kk = some (g, e)) (hR : Za.f K l kk = some (g, e)) (hLg : Zag.f K g g = some true) (hLl : Zag.f K l l = some true) :
    Calls Try.prog 4 #[.slice A0 x0.length c0, .int .i64 x1] w fun e w' => e = .returned (.bool true) ∧ Below w.heap.size w w' := by
  have HR0 := Zaa.mk hr0
  have HC0 := Zaa.mk hc0
  clear hr0 hc0
  obtain ⟨ww, rfl⟩ : ∃ ww : World, ww = w := ⟨_, rfl⟩
  have hez : (e != e) = false := by simp
  have hgl : g.length ≤ 9223372036854775807 ∨ True := .inr trivial
  clear hgl
  have HE := Zaa.mk hez
  clear hez
  have go : ∀ (b1 b2 : Bool), True := fun _ _ => trivial
  clear go
  rcases hkk with ⟨h5, h8, rfl⟩ | ⟨h5, h8, rfl⟩ | ⟨h5, rfl⟩
  all_goals
    go_enter Try.func4, Try.ntmps4
    try simp only [List.append]
    go_upto_region 6 with (first
      | (go_at_call 18; go_loud (refine (Zai.calls K _ _ x0 l _ HR0.out HC0.out hsm).mono ?_; rintro e W1 ⟨v1, rfl, hS1, hb1⟩; obtain ⟨A1, c1, rfl, hcl1, hC1⟩ := Kd.Zda hS1; have HL1 := Zaa.mk hC1; have HB1 := Zaa.mk hb1; clear hS1 hC1 hb1))
      | (go_at_call 19; go_loud (refine (Zao.calls K _ _ l l _ HL1.out hcl1 hcp).mono ?_; rintro e W2 ⟨v2, rfl, hS2, hb2⟩; obtain ⟨A2, c2, rfl, hcl2, hC2⟩ := Kd.Zda hS2; have HW2 := Zaa.mk hC2; have HL2 := Zaa.mk (Kd.Zaq HL1.out hb2); have HB2 := Zaa.mk (Zan HB1.out hb2); clear hS2 hC2 hb2)))
    go_wp2_with (first
      | (go_at_call 20; go_loud (refine (Za4.calls K _ _ l _ g e _ HL2.out hcl1 hC).mono ?_; rintro e3 W3 ⟨v3, rfl, hS3, hb3⟩; obtain ⟨A3, c3, rfl, hcl3, hC3⟩ := Kd.Zda hS3; have HR3 := Zaa.mk (Kd.S_R hS3); have HG3 := Zaa.mk hC3; have HX3 := Zaa.mk hb3; clear hS3 hC3 hb3))
      | (go_at_call 21; go_loud (refine (Za.calls K _ _ l _ g e _ (Kd.Zaq HL2.out HX3.out) hcl1 hR).mono ?_; rintro e4 W4 ⟨v4, rfl, hN4, hb4⟩; obtain ⟨A4, c4, rfl, hcl4, hC4⟩ := Kd.N_reads hN4; have HR4 := Zaa.mk (Kd.Zec HR3.out hb4); have HG4 := Zaa.mk (Kd.Zaq HG3.out hb4); have HX4 := Zaa.mk (Zan HX3.out hb4); have HQ4 := Zaa.mk hC4; clear hN4 hC4 hb4))
      | (go_at_call 22; go_loud (refine (Zag.calls K _ _ g _ _ g true _ HG4.out hcl3 HQ4.out hcl4 hLg).mono ?_; rintro e5 W5 ⟨rfl, hdr⟩; have HR5 := Zaa.mk (Kd.Zec HR4.out hdr.below); have HX5 := Zaa.mk (Zan HX4.out hdr.below); clear hdr)))
    have HWF := Zaa.mk (Kd.Zaq HW2.out (Below.refl _ _))
    clear HR0 HL1 HB1 HR3 HG3 HX3 HR4 HG4 HX4 HQ4 HE
    obtain ⟨ls, hls⟩ : ∃ ls, ls = g.map List.length := ⟨_, rfl⟩
    have hn : ls.length = g.length := by rw [hls]; simp
    have HLS := Zaa.mk hls.symm
    clear hls
    have hnm : g.length ≤ 9223372036854775807 := (Kd.Zbh HR5.out).2.2.2.1
    generalize hNN : g.length = n at HR5 hn hnm ⊢
    clear hNN
    go_loopg [11] n (fun gg s7 wr => ∃ (i : Nat) (xs : List (List Int)), i ≤ n ∧ n - i ≤ gg ∧ s7 = .int .i64 i ∧ Zaa (xs.map List.length = ls) ∧ Zaa (Kd.R (Kd.slice 3 (Kd.int .i64)) 22 wr W2.heap.size (fun _ => True) (.slice A3 n c3) xs) ∧ Zaa (Below W2.heap.size W2 wr))
    case atStart => exact ⟨0, g, Nat.zero_le _, by omega, rfl, HLS, HR5, HX5⟩
    case round =>
      clear HR5 HX5 HLS
      obtain ⟨i, xs, hi, hg, rfl, HL, HR, HBW⟩ := hrel
      obtain ⟨wo, rfl⟩ : ∃ wo : World, wo = wr := ⟨_, rfl⟩
      have hxl : xs.length = n := by have h_ := congrArg List.length HL.out; simp at h_; omega
      by_cases hlt : i < n
      rotate_left
      · obtain rfl : i = n := by omega
        have hm2 := Zaa.mk (Kd.Zaq HL2.out HBW.out)
        have hC1 := Zaa.mk (Kd.Zaq HWF.out HBW.out)
        have hBend := Zaa.mk (Zan HB2.out HBW.out)
        go_wp2_with (first
          | (go_at_call 22; go_loud (refine (Zag.calls K _ _ l _ _ l true _ hm2.out hcl1 hC1.out hcl2 hLl).mono ?_; rintro e6 W6 ⟨rfl, hdr⟩; have HB6 := Zaa.mk (Zan hBend.out hdr.below); clear hdr))
          | (go_at_call 16; go_loud (refine (Zbc.calls K true _ rfl).mono ?_; rintro e7 W7 ⟨rfl, hb7⟩)))
        go_ret
        exact ⟨rfl, Zan HB6.out hb7⟩
      obtain ⟨gb, cg, Ah, ci, hv, hx, hbg⟩ := RR_head HR.out i (by omega)
      injection hv with hA2 hlq hcg
      clear hlq
      subst hA2
      subst hcg
      have hli : i < ls.length := by omega
      clear hx
      go_wp2
      go_loopg [12] ls[i] (fun g2 s8 wr => ∃ (k : Nat) (xs2 : List (List Int)), k ≤ ls[i] ∧ ls[i] - k ≤ g2 ∧ s8 = .int .i64 k ∧ Zaa (xs2.map List.length = ls) ∧ Zaa (Kd.R (Kd.slice 3 (Kd.int .i64)) 22 wr W2.heap.size (fun _ => True) (.slice (some ⟨gb, 0, none⟩) n c3) xs2) ∧ Zaa (Below W2.heap.size W2 wr))
      case atStart => exact ⟨0, xs, Nat.zero_le _, by omega, rfl, HL, HR, HBW⟩
      case round =>
        clear HL HR HBW
        obtain ⟨k, xs2, hk, hg2, rfl, HL, HR, HBW⟩ := hrel
        have hxl2 : xs2.length = n := by have h_ := congrArg List.length HL.out; simp at h_; omega
        have hxi : i < xs2.length := by omega
        have hlen2 : xs2[i].length = ls[i] := by simp only [← HL.out]; simp
        have hcap : ls[i] ≤ 9223372036854775807 := by
          have h_ := Zdk (Kd.Zbh HR.out).2.2 i hxi
          obtain ⟨_, _, _, _, _, _, hC_⟩ := h_
          have := hC_.2.1
          omega
        by_cases hlk : k < ls[i]
        rotate_left
        · obtain rfl : k = ls[i] := by omega
          obtain ⟨g', c', Ah', ci', hv', hx', _⟩ := RR_head HR.out i hxi
          injection hv' with hg' hlq hcq
          clear hlq hcq
          obtain rfl : gb = g' := by injection hg' with hg'; injection hg'
          clear hg'
          rw [hlen2] at hx'
          go_wp2
          go_roundg (n - (i + 1))
          case measure => omega
          case rel => exact ⟨i + 1, xs2, by omega, by omega, by go_num, HL, HR, HBW⟩
        obtain ⟨g', c', h', ci', hv', hx', hci', _, hbh, ⟨u, hcu⟩, hfr, hne, hlt'⟩ := RR_at free_int HR.out i hxi k (by rw [hlen2]; show k < ls[i] * 1; omega)
        injection hv' with hg' hlq hcq
        clear hlq hcq
        obtain rfl : gb = g' := by injection hg' with hg'; injection hg'
        clear hg'
        rw [hlen2] at hx' hci'
        have HSP := Zaa.mk (RR_spoil free_int HR.out h' k 77 hne)
        have HBS := Zaa.mk (Zdb (j := k) (v := .int .i64 77) HBW.out hbh)
        clear hne
        generalize ls[i] = li at *
        go_wp2
        go_roundg (li - (k + 1))
        case measure => omega
        case rel => obtain ⟨xs3, hl3, hr3⟩ := HSP.out; exact ⟨k + 1, xs3, by omega, by omega, by go_num, ⟨hl3.trans HL.out⟩, ⟨hr3⟩, HBS⟩
theorem Ze8 (A0 : Option Addr) (c0 : Nat) (x0 : List (List Int)) (x1 : Int) (W : World)
    (hC0 : (Kd.slice 3 (Kd.int .i64)).C W A0 x0.length x0) (hc0 : x0.length ≤ c0) (ok0 : x0.length * 24 ≤ 140737488351232 ∧ ∀ x ∈ x0, x.length * 8 ≤ 140737488351232 ∧ ∀ y ∈ x, (Lit.int .i64 y).wf = true) (ok1 : (Lit.int .i64 x1).wf = true) :
    Calls Try.prog 4 #[.slice A0 x0.length c0, .int .i64 x1] W fun e W' => e = .returned (.bool true) ∧ Below W.heap.size W W' := by
  have c4 := Ze2 4 6 x0
  have hin : ∀ p ∈ cutL 4 6 x0, p.length ≤ 1000000 := fun p hp => by have := cutL_in hp; omega
  obtain ⟨k1, h1⟩ := small_ev (l := x0) (by omega) (fun x hx => by have := (ok0.2 x hx).1; omega)
  generalize cutL 4 6 x0 = l at *
  obtain ⟨k2, h2⟩ := ref_Copy l (by omega) (fun x hx => by have := hin x hx; omega)
  obtain ⟨k6, h6⟩ := Zen (a := l) rfl (by omega) (fun x hx => by have := hin x hx; omega)
  have fin : ∀ kk : Int, ((5 < x1 ∧ x1 < 8 ∧ kk = 5) ∨ (5 < x1 ∧ ¬ x1 < 8 ∧ kk = x1) ∨ (¬ 5 < x1 ∧ kk = x1)) → Calls Try.prog 4 #[.slice A0 x0.length c0, .int .i64 x1] W fun e W' => e = .returned (.bool true) ∧ Below W.heap.size W W' := fun kk hkk => by
    obtain ⟨g, e, ⟨k3, h3⟩, ⟨k4, h4⟩, hg, hgi⟩ := closes_both (l := l) (n := kk) (by omega) hin
    obtain ⟨k5, h5⟩ := Zen (a := g) rfl (by omega) (fun x hx => by have := hgi x hx; omega)
    exact closes_walk (k1 + k2 + k3 + k4 + k5 + k6) A0 c0 x0 l x1 kk g e W hC0 hc0 (h1 _ (by omega)) (h2 _ (by omega)) hkk (h3 _ (by omega)) (h4 _ (by omega)) (h5 _ (by omega)) (h6 _ (by omega))
  by_cases h5 : 5 < x1
  rotate_left
  · exact fin x1 (.inr (.inr ⟨h5, rfl⟩))
  by_cases h8 : x1 < 8
  · exact fin 5 (.inl ⟨h5, h8, rfl⟩)
  exact fin x1 (.inr (.inl ⟨h5, h8, rfl⟩))
end Go.Proofs.Yteopgafbamipeaa.P
/- What a datum of a statement's arguments holds: a number, a text, a row, a struct, whatever is nested: its cells read as a value of the kind; and how long its rows are at most (by the weight of the whole). -/
namespace Go.Proofs.Yteopgafbamipeaa.P
open Go.RowKit Go.ChangeShapes Go.WideShapes Go.Proofs.YteopgafbamipeaaW.PrintWords
set_option linter.unusedVariables false

/-- Whatever reads as a datum of type t is a value of kind d, of which ok is true. -/
structure OpensZ {α : Type} (P : Program) (d : Kd α) (ok : α → Prop) (t : TypeId) : Prop where
  out : ∀ {H : Type} (enc : TypeId × Value → H) (w : World) (base : Nat) (sp : Nat → Bool) (held : Bool) (fuel : Nat) (cs : List Value) (x : DataW H × List MemPlace),
    DataW.trod enc P w base sp held fuel t cs = some x → (∀ n ∈ x.1.weights P t, n ≤ reachBytes) → ∃ v : α, d.K w v cs ∧ ok v
theorem OpensZ.int {P : Program} {t : TypeId} {k : IntKind} (ht : P.underlying t = some (.int k)) : OpensZ P (Kd.int k) (fun n => (Lit.int k n).wf = true) t := by
  refine ⟨?_⟩
  intro H enc w base sp held fuel cs x h hz
  obtain ⟨n, rfl, rfl, hw⟩ := DataW.trod_int ht h
  exact ⟨n, rfl, hw⟩
theorem OpensZ.bool {P : Program} {t : TypeId} (ht : P.underlying t = some .bool) : OpensZ P Kd.bool (fun _ => True) t := by
  refine ⟨?_⟩
  intro H enc w base sp held fuel cs x h hz
  obtain ⟨b, rfl, rfl⟩ := DataW.trod_bool ht h
  exact ⟨b, rfl, trivial⟩
theorem OpensZ.string {P : Program} {t : TypeId} (ht : P.underlying t = some .string) : OpensZ P Kd.string (fun s => s.size ≤ maxLen) t := by
  refine ⟨?_⟩
  intro H enc w base sp held fuel cs x h hz
  obtain ⟨s, rfl, rfl, hs⟩ := DataW.trod_string ht h
  exact ⟨s, rfl, hs⟩
theorem OpensZ.iso {α β : Type} {P : Program} {d : Kd α} {ok : α → Prop} {t : TypeId} (h : OpensZ P d ok t) (f : β → α) (g : α → β) (hfg : ∀ a, f (g a) = a) : OpensZ P (Kd.iso d f) (fun b => ok (f b)) t := by
  refine ⟨?_⟩
  intro H enc w base sp held fuel cs x hx hz
  obtain ⟨v, hK, hok⟩ := h.out enc w base sp held fuel cs x hx hz
  exact ⟨g v, by show d.K w (f (g v)) cs; rw [hfg]; exact hK, by show ok (f (g v)); rw [hfg]; exact hok⟩
theorem Zea {H : Type} {P : Program} {t e : TypeId} (ht : P.underlying t = some (.slice e)) {el sp : List (DataW H)} : (DataW.slice el sp : DataW H).weights P t = (el.length + sp.length) * P.bytesOf e :: (DataW.weightsAll P e el ++ DataW.weightsAll P e sp) := by simp [DataW.weights, ht]
theorem weights_agg {H : Type} {P : Program} {t : TypeId} {fs : Array Field} (ht : P.underlying t = some (.struct fs)) {ps : List (DataW H)} : (DataW.agg ps : DataW H).weights P t = DataW.weightsEach P (fs.toList.map (·.type)) ps := by simp [DataW.weights, ht]
theorem Zdr {H : Type} {P : Program} {e : TypeId} {d : DataW H} : ∀ {l : List (DataW H)}, d ∈ l → ∀ {n : Nat}, n ∈ d.weights P e → n ∈ DataW.weightsAll P e l
  | x :: l, hd, n, hn => by
    simp only [DataW.weightsAll, List.mem_append]
    rcases List.mem_cons.1 hd with rfl | hd
    · exact .inl hn
    exact .inr (Zdr hd hn)
theorem choose_list {α : Type} {n : Nat} {R : Nat → α → Prop} (h : ∀ i, i < n → ∃ a, R i a) : ∃ l : List α, l.length = n ∧ ∀ i (hi : i < l.length), R i l[i] := by
  induction n with
  | zero => exact ⟨[], rfl, fun i hi => absurd hi (by simp)⟩
  | succ n ih =>
    obtain ⟨l, hl, hR⟩ := ih (fun i hi => h i (by omega))
    obtain ⟨a, ha⟩ := h n (by omega)
    refine ⟨l ++ [a], by simp [hl], fun i hi => ?_⟩
    rcases Nat.lt_or_ge i l.length with hlt | hge
    · rw [List.getElem_append_left hlt]
      exact hR i hlt
    have : i = l.length := by simp at hi; omega
    subst this
    rw [List.getElem_append_right (by omega)]
    simpa [hl] using ha
theorem addr_add (a : Addr) (i j : Nat) : (a.add i).add j = a.add (i + j) := by
  by_cases h : i = 0
  · subst h; simp [Addr.add]
  by_cases h2 : j = 0
  · subst h2; simp [Addr.add]
  simp [Addr.add, h, h2, Nat.add_assoc]
theorem OpensZ.row {α : Type} {P : Program} {d : Kd α} {ok : α → Prop} {t e : TypeId} {B : Nat} (ht : P.underlying t = some (.slice e)) (hc : P.cellsOf e = d.sz) (hB : P.bytesOf e = B) (h : OpensZ P d ok e) :
    OpensZ P (Kd.slice e d) (fun l => l.length * B ≤ 140737488351232 ∧ ∀ x ∈ l, ok x) t := by
  refine ⟨?_⟩
  intro H enc w base sp held fuel cs x hx hz
  rcases Go.Deep.open_slice ht hx with ⟨rfl, rfl⟩ | ⟨a, len, cap, m, n, D, Pl, rfl, hb, hl, hm, hmm, rfl, he⟩
  · exact ⟨[], ⟨none, 0, rfl, Nat.le_refl _, rfl, by simp, fun h => absurd h (by simp)⟩, by simp, fun x hx => by simp at hx⟩
  have hlm : len ≤ m := by rw [hmm]; split <;> omega
  have each : ∀ i, i < len → ∃ v : α, ok v ∧ ∃ c, c.length = d.sz ∧ d.K w v c ∧ ∀ j u, c[j]? = some u → w.cell? (a.add (i * d.sz + j)) = some u := fun i hi => by
    obtain ⟨cs', h1, h2⟩ := he i (by omega)
    obtain ⟨v, hK, hok⟩ := h.out enc w base sp held n cs' _ h2 (fun q hq => hz q (by
      rw [Zea ht]
      refine List.mem_cons_of_mem _ (List.mem_append_left _ (Zdr (d := D i) (List.mem_map.2 ⟨i, List.mem_range.2 hi, rfl⟩) hq))))
    obtain ⟨_, hlen, hcell⟩ := World.cells?_some h1
    rw [hc] at hlen hcell
    refine ⟨v, hok, cs', hlen, hK, fun j u hu => ?_⟩
    have hj : j < d.sz := by rw [← hlen]; exact (List.getElem?_eq_some_iff.1 hu).1
    have := hcell j hj
    rw [hu] at this
    rw [← this, addr_add]
  obtain ⟨l, hll, hR⟩ := choose_list each
  have hmax : cap ≤ 9223372036854775807 := by unfold maxLen at hm; exact hm
  refine ⟨l, ⟨some a, cap, by rw [hll], by omega, rfl, by omega, fun _ => ⟨a, rfl, fun j p hp => ?_⟩⟩, ?_, fun x hx => ?_⟩
  · obtain ⟨hj, rfl⟩ := List.getElem?_eq_some_iff.1 hp
    obtain ⟨_, c, h1, h2, h3⟩ := hR j hj
    exact ⟨c, h1, h2, h3⟩
  · have h3 := hz ((len + (m - len)) * P.bytesOf e) (by rw [Zea ht]; simp)
    rw [hB] at h3
    rw [hll]
    exact Nat.le_trans (Nat.mul_le_mul_right _ (by omega)) h3
  obtain ⟨i, hi, rfl⟩ := List.mem_iff_getElem.1 hx
  exact (hR i hi).1
/-- The fields from an offset on. -/
structure OpensZF {α : Type} (P : Program) (d : Kd α) (ok : α → Prop) (fs : List Field) (off : Nat) : Prop where
  out : ∀ {H : Type} (enc : TypeId × Value → H) (w : World) (base : Nat) (sp : Nat → Bool) (held : Bool) (fuel : Nat) (cs : List Value), cs.length = off + d.sz →
    (∀ f ∈ fs, ∃ x, DataW.trod enc P w base sp held fuel f.type ((cs.drop f.offset).take (P.cellsOf f.type)) = some x ∧ ∀ n ∈ x.1.weights P f.type, n ≤ reachBytes) → ∃ v : α, d.K w v (cs.drop off) ∧ ok v
theorem OpensZF.last {α : Type} {P : Program} {d : Kd α} {ok : α → Prop} {f : Field} {off : Nat} (ho : f.offset = off) (hc : P.cellsOf f.type = d.sz) (h : OpensZ P d ok f.type) : OpensZF P d ok [f] off := by
  refine ⟨?_⟩
  intro H enc w base sp held fuel cs hl hf
  obtain ⟨x, hx, hz⟩ := hf f (by simp)
  rw [ho, hc, List.take_of_length_le (by simp; omega)] at hx
  exact h.out enc w base sp held fuel _ x hx hz
theorem OpensZF.cons {α β : Type} {P : Program} {d : Kd α} {ok : α → Prop} {d' : Kd β} {ok' : β → Prop} {f : Field} {fs : List Field} {off : Nat} (ho : f.offset = off) (hc : P.cellsOf f.type = d.sz) (h : OpensZ P d ok f.type) (h' : OpensZF P d' ok' fs (off + d.sz)) :
    OpensZF P (Kd.pair d d') (fun z => ok z.1 ∧ ok' z.2) (f :: fs) off := by
  refine ⟨?_⟩
  intro H enc w base sp held fuel cs hl hf
  have hl' : cs.length = off + (d.sz + d'.sz) := hl
  obtain ⟨x, hx, hz⟩ := hf f (by simp)
  obtain ⟨v, hK, hok⟩ := h.out enc w base sp held fuel _ x hx hz
  obtain ⟨v', hK', hok'⟩ := h'.out enc w base sp held fuel cs (by omega) (fun g hg => hf g (List.mem_cons_of_mem _ hg))
  rw [ho, hc] at hK
  refine ⟨(v, v'), ⟨(cs.drop off).take d.sz, cs.drop (off + d.sz), ?_, hK, hK'⟩, hok, hok'⟩
  rw [← List.drop_drop, List.take_append_drop]
theorem OpensZ.struct {α : Type} {P : Program} {d : Kd α} {ok : α → Prop} {t : TypeId} {fs : List Field} (ht : P.underlying t = some (.struct fs.toArray)) (hc : P.cellsOf t = d.sz) (h : OpensZF P d ok fs 0) : OpensZ P d ok t := by
  refine ⟨?_⟩
  intro H enc w base sp held fuel cs x hx hz
  obtain ⟨xs, n, rfl, rfl, hl, hxl, hf⟩ := DataW.trod_struct ht hx
  have := h.out enc w base sp held n cs (by omega) (fun f hf' => by
    obtain ⟨i, hi, rfl⟩ := List.mem_iff_getElem.1 hf'
    have := hf i fs[i] (by simp [hi])
    have hix : i < xs.length := by simp at hxl; omega
    rw [List.getElem?_eq_getElem hix] at this
    refine ⟨xs[i], by simpa using this, fun q hq => hz q ?_⟩
    rw [weights_agg ht]
    exact DataW.weights_mem_each (j := i) (t := fs[i].type) (d := xs[i].1) (by simp [hi]) (by simp [hix]) q hq)
  simpa using this
/-- A slice that is an argument. -/
theorem OpensZ.arg {α H : Type} {P : Program} {d : Kd α} {ok : List α → Prop} {e t : TypeId} (h : OpensZ P (Kd.slice e d) ok t) {enc : TypeId × Value → H} {w : World} {base : Nat} {sp : Nat → Bool} {held : Bool} {A : Option Addr} {len cap : Nat} {dt : DataW H} {ps : List MemPlace}
    (hT : DataW.Trod enc P w base sp held t (.slice A len cap) dt ps) (hz : ∀ n ∈ dt.weights P t, n ≤ reachBytes) : ∃ l : List α, l.length = len ∧ l.length ≤ cap ∧ d.C w A l.length l ∧ ok l := by
  obtain ⟨fuel, hf⟩ := hT
  obtain ⟨l, ⟨A', c, hcs, hl, hC⟩, hok⟩ := h.out enc w base sp held fuel _ _ hf hz
  simp [Value.cells] at hcs
  obtain ⟨rfl, rfl, rfl⟩ := hcs
  exact ⟨l, rfl, hl, hC, hok⟩
theorem each_weights {H : Type} {P : Program} {ts : List TypeId} {ds : List (DataW H)} (h : (DataW.weightsEach P ts ds).all (· ≤ reachBytes) = true) {j : Nat} {t : TypeId} {d : DataW H} (ht : ts[j]? = some t) (hd : ds[j]? = some d) : ∀ n ∈ d.weights P t, n ≤ reachBytes := fun n hn => by
  have := List.all_eq_true.1 h n (DataW.weights_mem_each ht hd n hn)
  simpa using this
end Go.Proofs.Yteopgafbamipeaa.P
namespace Go.Proofs.Yteopgafbamipeaa.groupCloses
open Go.ChangeShapes Go.WideShapes Go.ChangeAt Go.RowKit
open Go.ChangeMaps (open_string shut_string)
open Go.Proofs.Yteopgafbamipeaa.P
open Go.Proofs.YteopgafbamipeaaW.PrintWords
set_option linter.unusedVariables false
theorem own : ownKnob Try.prog.godebug = none := by kernel_rfl
theorem laidOut : laidOutB Try.prog = true := by kernel_rfl
theorem o_int : OpensZ Try.prog (Kd.int .i64) (fun n => (Lit.int .i64 n).wf = true) 3 := OpensZ.int Try.underlying3
theorem o_Lint : OpensZ Try.prog (Kd.slice 3 (Kd.int .i64)) (fun l => (List.length l * 8 ≤ 140737488351232 ∧ ∀ y1_ ∈ l, (Lit.int .i64 y1_).wf = true)) 22 := OpensZ.row Try.underlying22 (by kernel_rfl) (by kernel_rfl) o_int
theorem o_LLint : OpensZ Try.prog (Kd.slice 22 (Kd.slice 3 (Kd.int .i64))) (fun l => (List.length l * 24 ≤ 140737488351232 ∧ ∀ y1_ ∈ l, (List.length y1_ * 8 ≤ 140737488351232 ∧ ∀ y2_ ∈ y1_, (Lit.int .i64 y2_).wf = true))) 32 := OpensZ.row Try.underlying32 (by kernel_rfl) (by kernel_rfl) o_Lint
set_option maxRecDepth 100000 in
theorem lifted (os : Os) (started : os.Started) (H : Type) (enc : TypeId × Value → H) :
  ReturnsInHanded {} Try.checked os 4 .any (Rows.groupClosesSpec.pre6 enc Try.prog Try.f4 Rows.groupClosesRow.domain false) (Rows.groupClosesSpec.post enc Try.prog Try.f4 false true false false) := by
 refine returnsInHanded_of_change_sized (C := Try.checked) own started (by kernel_rfl) Try.func4
  (ChangeSpec.witness6 (enc := enc) (C := Try.checked) false ⟨#[], #[.slice none 0 0, .int .i64 0], []⟩ 8 (by kernel_rfl) (by kernel_rfl) (by kernel_rfl) (by kernel_rfl)) ?_
 intro W base args ds gs before hval0 hW hcnd hsz0 _
 have hsz : (DataW.weightsEach Try.prog (Try.f4.params.toList ++ Rows.groupClosesSpec.plain.varTypes Try.prog) (ds ++ gs)).all (· ≤ reachBytes) = true := hsz0
 have hval : ∀ (j : Nat) t v, Try.f4.params[j]? = some t → args[j]? = some v → Value.okWide Try.prog W .any base t v := hval0
 have hW' := hW
 obtain ⟨p, q, hA0, hV, rfl, hfz, hnd⟩ := hW
 have hA : DataW.TrodAll enc Try.prog W 0 (fun _ => true) true Try.f4.params.toList args.toList ds p := hA0
 rw [Try.params4] at hA hval hsz
 obtain ⟨v0, vs0, d0, ds0, p0, q0, hargs, rfl, rfl, h0, r0⟩ := trodAll_cons hA
 obtain ⟨v1, vs1, d1, ds1, p1, q1, rfl, rfl, rfl, h1, r1⟩ := trodAll_cons r0
 obtain ⟨rfl, rfl, rfl⟩ := trodAll_nil r1
 obtain rfl : args = #[v0, v1] := by cases args; simp_all
 obtain ⟨rfl, rfl⟩ := trodVars_none hV
 have k0 := h0
 have lt0 : ∀ x ∈ p0, x.block < W.heap.size := by obtain ⟨m, hm⟩ := k0; exact DataW.trod_lt m _ _ _ hm
 obtain ⟨A0, len0, c0, rfl⟩ := okWide_slice Try.underlying32 (hval 0 32 v0 rfl rfl)
 obtain ⟨x0, rfl, hc0, hC0, ok0⟩ := OpensZ.arg o_LLint h0 (each_weights hsz (j := 0) (t := 32) rfl rfl)
 have k1 := h1
 have lt1 : ∀ x ∈ p1, x.block < W.heap.size := by obtain ⟨m, hm⟩ := k1; exact DataW.trod_lt m _ _ _ hm
 obtain ⟨x1, rfl, rfl, rfl, ok1⟩ := open_int Try.underlying3 (hval 1 3 v1 rfl rfl) h1
 clear hA0 hval0 hsz0 hsz
 refine (P.Ze8 A0 c0 x0 x1 W hC0 hc0 ok0 ok1).mono fun e W' ⟨he, bel⟩ => ?_
 subst he
 exact ⟨_, rfl, _, _, _, [], _, [], hW', trodAll_mk1 (shut_bool Try.underlying4 _), (trodAll_cons_mk (Below.trod laidOut (by kernel_rfl) (of_decide_eq_true (by kernel_rfl)) k0 bel lt0) (trodAll_cons_mk (Below.trod laidOut (by kernel_rfl) (of_decide_eq_true (by kernel_rfl)) k1 bel lt1) trodAll_mk0)), rfl, bel.frame _, fun h => by cases h⟩
theorem over : Rows.groupClosesRow.holds Try.pinned (OpenSpec.ofChange Rows.groupClosesSpec) :=
 OpenClaim.holds_of_wide 4 Try.f4 rfl rfl rfl rfl rfl rfl rfl ⟨rfl, rfl, rfl, rfl, rfl⟩ rfl rfl rfl rfl rfl (by kernel_rfl) Try.func4 (by kernel_rfl)
  (of_decide_eq_true (by kernel_rfl)) (by unfold Func.isWrapper; first | (rw [if_pos (by decide +kernel)]; kernel_rfl) | (rw [if_neg (by decide +kernel)]; exact ⟨rfl, rfl⟩))
  (fun os started H enc _ => lifted os started H enc)
theorem proved : Rows.GroupClosesSaid := over
end Go.Proofs.Yteopgafbamipeaa.groupCloses
namespace Go.Proofs.Yteopgafbamipeaa
/-- The row, under a short name, for the claim. -/
theorem groupCloses_holds : Rows.GroupClosesSaid := groupCloses.proved
end Go.Proofs.Yteopgafbamipeaa
