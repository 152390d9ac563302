/- Proved: the statement TableStill. Conditions: none but those of the statement. -/
import Derived.Test.YtpbcigilipdedaaZ1
import Derived.Test.YtpbcigilipdedaaZ2

/- Plain: the values of ranges, at most so many of them (what dom.all goes over). -/
namespace Go.Proofs.Ytpbcigilipdedaa.P
open Go.RowKit Go.Proofs.YtpbcigilipdedaaW.PrintWords Go.Proofs.YtpbcigilipdedaaW.PrintLast Go.Proofs.YtpbcigilipdedaaW.PrintMore
set_option linter.unusedVariables false
set_option linter.unusedSimpArgs false

/-! ### dom.all: the values, range by range, at most r of them -/
def upTo : Nat → Int → Int → List Int
  | 0, _, _ => []
  | r + 1, v, hi => if v ≤ hi then v :: upTo r (v + 1) hi else []
def allV : Nat → List S41 → List Int
  | _, [] => []
  | r, x :: ds => upTo r x.f0 x.f1 ++ allV (r - (upTo r x.f0 x.f1).length) ds
theorem upTo_length (r : Nat) : ∀ v hi, (upTo r v hi).length ≤ r := by
  induction r with
  | zero => intro v hi; simp [upTo]
  | succ r ih =>
    intro v hi
    unfold upTo
    split
    · have := ih (v + 1) hi
      simp
      omega
    · simp
theorem upTo_yes {r : Nat} {v hi : Int} (hr : 0 < r) (h : v ≤ hi) : upTo r v hi = v :: upTo (r - 1) (v + 1) hi := by
  obtain ⟨r, rfl⟩ : ∃ m, r = m + 1 := ⟨r - 1, by omega⟩
  simp [upTo, h]
theorem upTo_no {r : Nat} {v hi : Int} (h : r = 0 ∨ ¬ v ≤ hi) : upTo r v hi = [] := by
  rcases h with rfl | h
  · rfl
  · cases r with
    | zero => rfl
    | succ r => simp [upTo, h]
theorem allV_length (ds : List S41) : ∀ r, (allV r ds).length ≤ r := by
  induction ds with
  | nil => intro r; simp [allV]
  | cons x ds ih =>
    intro r
    have h1 := upTo_length r x.f0 x.f1
    have h2 := ih (r - (upTo r x.f0 x.f1).length)
    simp [allV]
    omega
/-- No number is out of the way. -/
def niceD (d : List S41) : Bool := d.all fun x => decide (-1048576 ≤ x.f0 ∧ x.f0 ≤ 1048576 ∧ -1048576 ≤ x.f1 ∧ x.f1 ≤ 1048576)
theorem niceD_at {d : List S41} (h : niceD d = true) {k : Nat} (hk : k < d.length) : -1048576 ≤ (rd_T41 d k).f0 ∧ (rd_T41 d k).f0 ≤ 1048576 ∧ -1048576 ≤ (rd_T41 d k).f1 ∧ (rd_T41 d k).f1 ≤ 1048576 := by
  have := (List.all_eq_true.1 h) (d[k]) (List.getElem_mem hk)
  simp [rd_T41, List.getD_eq_getElem?_getD, List.getElem?_eq_getElem hk]
  simpa using this
theorem drop_at {d : List S41} {k : Nat} (hk : k < d.length) : d.drop k = rd_T41 d k :: d.drop (k + 1) := by
  rw [List.drop_eq_getElem_cons hk]
  simp [rd_T41, List.getD_eq_getElem?_getD, List.getElem?_eq_getElem hk]
end Go.Proofs.Ytpbcigilipdedaa.P

/- Plain: domains as lists of ranges. A domain is told by its values: two good lists of ranges with the same values are one. -/
namespace Go.Proofs.Ytpbcigilipdedaa.P
open Go.RowKit Go.Proofs.YtpbcigilipdedaaW.PrintWords Go.Proofs.YtpbcigilipdedaaW.PrintLast Go.Proofs.YtpbcigilipdedaaW.PrintMore
set_option linter.unusedVariables false
set_option linter.unusedSimpArgs false

abbrev Rg := S41
abbrev rg (d : List Rg) (i : Int) : Rg := rd_T41 d i
theorem Rg.ext' {x y : Rg} (h0 : x.f0 = y.f0) (h1 : x.f1 = y.f1) : x = y := by cases x; cases y; simp at *; exact ⟨h0, h1⟩
theorem rg_nat (d : List Rg) (n : Nat) (h : n < d.length) : rg d (n : Int) = d[n] := by simp [rg, rd_T41, List.getD_eq_getElem?_getD, List.getElem?_eq_getElem h]

/-- Ranges in order with a gap between any two, none below b; values no greater than V. -/
def Gd (V : Int) : Int → List Rg → Prop
  | _, [] => True
  | b, x :: d => b ≤ x.f0 ∧ x.f0 ≤ x.f1 ∧ x.f1 ≤ V ∧ Gd V (x.f1 + 2) d
/-- v is a value of d. -/
def Va (d : List Rg) (v : Int) : Prop := ∃ x ∈ d, x.f0 ≤ v ∧ v ≤ x.f1
@[simp] theorem Va_nil (v : Int) : Va [] v ↔ False := by simp [Va]
@[simp] theorem Va_cons (x : Rg) (d : List Rg) (v : Int) : Va (x :: d) v ↔ (x.f0 ≤ v ∧ v ≤ x.f1) ∨ Va d v := by simp [Va]
theorem Va_append (d e : List Rg) (v : Int) : Va (d ++ e) v ↔ Va d v ∨ Va e v := by
  induction d with
  | nil => simp
  | cons x d ih => simp [ih, or_assoc]
theorem Gd.mono {V b c : Int} {d : List Rg} (h : Gd V b d) (hc : c ≤ b) : Gd V c d := by
  cases d with
  | nil => trivial
  | cons x d => obtain ⟨h1, h2, h3, h4⟩ := h; exact ⟨by omega, h2, h3, h4⟩
theorem Gd.ge {V : Int} : ∀ {b : Int} {d : List Rg} {v : Int}, Gd V b d → Va d v → b ≤ v
  | _, [], _, _, h => absurd h (by simp)
  | b, x :: d, v, ⟨h1, h2, h3, h4⟩, h => by
    rcases (Va_cons x d v).1 h with h | h
    · omega
    · have := Gd.ge h4 h; omega
theorem Gd.le {V : Int} : ∀ {b : Int} {d : List Rg} {v : Int}, Gd V b d → Va d v → v ≤ V
  | _, [], _, _, h => absurd h (by simp)
  | b, x :: d, v, ⟨h1, h2, h3, h4⟩, h => by
    rcases (Va_cons x d v).1 h with h | h
    · omega
    · exact Gd.le h4 h
/-- **Two good lists of ranges with the same values are one.** -/
theorem Gd.ext {V : Int} : ∀ {b c : Int} {d e : List Rg}, Gd V b d → Gd V c e → (∀ v, Va d v ↔ Va e v) → d = e
  | _, _, [], [], _, _, _ => rfl
  | _, _, [], y :: e, _, ⟨_, h2, _, _⟩, h => absurd ((h y.f0).2 ((Va_cons _ _ _).2 (.inl ⟨Int.le_refl _, h2⟩))) (by simp)
  | _, _, x :: d, [], ⟨_, h2, _, _⟩, _, h => absurd ((h x.f0).1 ((Va_cons _ _ _).2 (.inl ⟨Int.le_refl _, h2⟩))) (by simp)
  | b, c, x :: d, y :: e, ⟨h1, h2, h3, h4⟩, ⟨k1, k2, k3, k4⟩, h => by
    have gx : ∀ v, Va (x :: d) v → x.f0 ≤ v := fun v hv => Gd.ge (V := V) (b := x.f0) (d := x :: d) ⟨Int.le_refl _, h2, h3, h4⟩ hv
    have gy : ∀ v, Va (y :: e) v → y.f0 ≤ v := fun v hv => Gd.ge (V := V) (b := y.f0) (d := y :: e) ⟨Int.le_refl _, k2, k3, k4⟩ hv
    have a1 := gy _ ((h x.f0).1 ((Va_cons _ _ _).2 (.inl ⟨Int.le_refl _, h2⟩)))
    have a2 := gx _ ((h y.f0).2 ((Va_cons _ _ _).2 (.inl ⟨Int.le_refl _, k2⟩)))
    have e0 : x.f0 = y.f0 := by omega
    have no1 : ¬ x.f1 < y.f1 := fun hlt => by
      have := (h (x.f1 + 1)).2 ((Va_cons _ _ _).2 (.inl ⟨by omega, by omega⟩))
      rcases (Va_cons _ _ _).1 this with h | h
      · omega
      · have := Gd.ge h4 h; omega
    have no2 : ¬ y.f1 < x.f1 := fun hlt => by
      have := (h (y.f1 + 1)).1 ((Va_cons _ _ _).2 (.inl ⟨by omega, by omega⟩))
      rcases (Va_cons _ _ _).1 this with h | h
      · omega
      · have := Gd.ge k4 h; omega
    have e1 : x.f1 = y.f1 := by omega
    obtain rfl := Rg.ext' e0 e1
    congr 1
    refine Gd.ext h4 k4 (fun v => ⟨fun hv => ?_, fun hv => ?_⟩)
    · have hg := Gd.ge h4 hv
      rcases (Va_cons _ _ _).1 ((h v).1 ((Va_cons _ _ _).2 (.inr hv))) with h | h
      · omega
      · exact h
    · have hg := Gd.ge k4 hv
      rcases (Va_cons _ _ _).1 ((h v).2 ((Va_cons _ _ _).2 (.inr hv))) with h | h
      · omega
      · exact h
/-- Where the next range may begin. -/
def endB (b : Int) (d : List Rg) : Int := (d.getLast?.map fun x => x.f1 + 2).getD b
theorem endB_snoc (b : Int) (d : List Rg) (x : Rg) : endB b (d ++ [x]) = x.f1 + 2 := by simp [endB]
theorem endB_cons (b : Int) (x : Rg) (d : List Rg) : endB b (x :: d) = endB (x.f1 + 2) d := by
  cases d with
  | nil => simp [endB]
  | cons y d => simp [endB, List.getLast?_cons]
theorem Gd_append (V : Int) : ∀ (b : Int) (d e : List Rg), Gd V b (d ++ e) ↔ Gd V b d ∧ Gd V (endB b d) e
  | b, [], e => by simp [Gd, endB]
  | b, x :: d, e => by
    rw [List.cons_append, Gd, Gd, Gd_append V (x.f1 + 2) d e, endB_cons]
    simp [and_assoc]
theorem Gd_snoc {V b : Int} {d : List Rg} {x : Rg} : Gd V b (d ++ [x]) ↔ Gd V b d ∧ endB b d ≤ x.f0 ∧ x.f0 ≤ x.f1 ∧ x.f1 ≤ V := by
  rw [Gd_append]
  simp [Gd]
theorem Gd.lt_end {V : Int} : ∀ {b : Int} {d : List Rg} {v : Int}, Gd V b d → Va d v → v + 2 ≤ endB b d
  | _, [], _, _, h => absurd h (by simp)
  | b, x :: d, v, ⟨h1, h2, h3, h4⟩, h => by
    rw [endB_cons]
    have h5 : x.f1 + 2 ≤ endB (x.f1 + 2) d := by
      cases d with
      | nil => simp [endB]
      | cons y d =>
        obtain ⟨k1, k2, k3, k4⟩ := h4
        have := Gd.lt_end (V := V) (b := x.f1 + 2) (d := y :: d) (v := y.f1) ⟨k1, k2, k3, k4⟩ ((Va_cons _ _ _).2 (.inl ⟨k2, Int.le_refl _⟩))
        omega
    rcases (Va_cons _ _ _).1 h with h | h
    · omega
    · exact Gd.lt_end h4 h
theorem Gd.end_ge {V b : Int} {d : List Rg} (h : Gd V b d) : b ≤ endB b d := by
  cases d with
  | nil => simp [endB]
  | cons y d =>
    obtain ⟨k1, k2, k3, k4⟩ := h
    have := Gd.lt_end (V := V) (b := b) (d := y :: d) (v := y.f1) ⟨k1, k2, k3, k4⟩ ((Va_cons _ _ _).2 (.inl ⟨k2, Int.le_refl _⟩))
    omega

/-! ### The values as a list -/
def vals : List Rg → List Int
  | [] => []
  | x :: d => upTo (x.f1 + 1 - x.f0).toNat x.f0 x.f1 ++ vals d
theorem mem_upTo : ∀ (r : Nat) (v hi z : Int), z ∈ upTo r v hi ↔ v ≤ z ∧ z ≤ hi ∧ z < v + r
  | 0, v, hi, z => by simp [upTo]; omega
  | r + 1, v, hi, z => by
    unfold upTo
    split
    · rw [List.mem_cons, mem_upTo r (v + 1) hi z]
      omega
    · simp
      omega
theorem upTo_ss : ∀ (r : Nat) (v hi : Int), SS (upTo r v hi)
  | 0, v, hi => by simp [upTo]
  | r + 1, v, hi => by
    unfold upTo
    split
    · refine List.pairwise_cons.2 ⟨fun z hz => ?_, upTo_ss r (v + 1) hi⟩
      have := (mem_upTo r (v + 1) hi z).1 hz
      omega
    · exact List.Pairwise.nil
theorem upTo_len : ∀ (r : Nat) (v hi : Int), ((upTo r v hi).length : Int) = min (r : Int) (max 0 (hi + 1 - v))
  | 0, v, hi => by simp [upTo]; omega
  | r + 1, v, hi => by
    unfold upTo
    split
    · have := upTo_len r (v + 1) hi
      simp
      omega
    · simp
      omega
theorem mem_vals (z : Int) : ∀ d, z ∈ vals d ↔ Va d z
  | [] => by simp [vals]
  | x :: d => by
    rw [vals, List.mem_append, mem_vals z d, Va_cons, mem_upTo]
    have : (x.f0 ≤ z ∧ z ≤ x.f1 ∧ z < x.f0 + ((x.f1 + 1 - x.f0).toNat : Int)) ↔ (x.f0 ≤ z ∧ z ≤ x.f1) := by omega
    rw [this]
theorem vals_ss {V : Int} : ∀ {b : Int} {d : List Rg}, Gd V b d → SS (vals d)
  | _, [], _ => List.Pairwise.nil
  | b, x :: d, ⟨h1, h2, h3, h4⟩ => by
    rw [vals]
    refine List.pairwise_append.2 ⟨upTo_ss _ _ _, vals_ss h4, fun y hy z hz => ?_⟩
    have := (mem_upTo _ _ _ _).1 hy
    have := Gd.ge h4 ((mem_vals z d).1 hz)
    omega
theorem vals_length {V b : Int} {d : List Rg} (h : Gd V b d) : ((vals d).length : Int) ≤ max 0 (V + 1 - b) :=
  ss_length (vals_ss h) (fun x hx => ⟨Gd.ge h ((mem_vals x d).1 hx), Gd.le h ((mem_vals x d).1 hx)⟩)
theorem length_le_vals {V : Int} : ∀ {b : Int} {d : List Rg}, Gd V b d → d.length ≤ (vals d).length
  | _, [], _ => by simp
  | b, x :: d, ⟨h1, h2, h3, h4⟩ => by
    have h5 := length_le_vals h4
    have h6 := upTo_len (x.f1 + 1 - x.f0).toNat x.f0 x.f1
    rw [vals]
    simp
    omega
/-- The domain of numbers in order. -/
def pack : List Int → List Rg
  | [] => []
  | x :: l => match pack l with
    | [] => [⟨x, x⟩]
    | r :: rs => if r.f0 = x + 1 then ⟨x, r.f1⟩ :: rs else ⟨x, x⟩ :: r :: rs
theorem pack_good {V : Int} : ∀ {b : Int} {l : List Int}, SS l → (∀ x ∈ l, b ≤ x ∧ x ≤ V) → Gd V b (pack l) ∧ ∀ v, Va (pack l) v ↔ v ∈ l
  | b, [], _, _ => ⟨trivial, fun v => by simp [pack]⟩
  | b, x :: l, h, hb => by
    obtain ⟨hx, hl⟩ := List.pairwise_cons.1 h
    obtain ⟨g, m⟩ := pack_good (V := V) (b := x + 1) hl (fun y hy => ⟨by have := hx y hy; omega, (hb y (List.mem_cons_of_mem _ hy)).2⟩)
    obtain ⟨b1, b2⟩ := hb x List.mem_cons_self
    unfold pack
    cases hp : pack l with
    | nil =>
      rw [hp] at m
      refine ⟨⟨b1, Int.le_refl _, b2, trivial⟩, fun v => ?_⟩
      have := m v
      simp at this
      simp [this]
      omega
    | cons r rs =>
      rw [hp] at g m
      obtain ⟨g1, g2, g3, g4⟩ := g
      dsimp only
      split
      · rename_i e
        refine ⟨⟨b1, by show x ≤ r.f1; omega, g3, g4⟩, fun v => ?_⟩
        have := m v
        rw [List.mem_cons, ← this, Va_cons, Va_cons]
        dsimp only
        constructor
        · rintro (h | h)
          · by_cases e2 : v = x
            · exact .inl e2
            · exact .inr (.inl ⟨by omega, h.2⟩)
          · exact .inr (.inr h)
        · rintro (h | h | h)
          · exact .inl ⟨by omega, by omega⟩
          · exact .inl ⟨by omega, h.2⟩
          · exact .inr h
      · rename_i e
        refine ⟨⟨b1, Int.le_refl _, b2, by show x + 2 ≤ r.f0; omega, g2, g3, g4⟩, fun v => ?_⟩
        have := m v
        rw [List.mem_cons, ← this, Va_cons]
        dsimp only
        constructor
        · rintro (h | h)
          · exact .inl (by omega)
          · exact .inr h
        · rintro (h | h)
          · exact .inl ⟨by omega, by omega⟩
          · exact .inr h
/-- A good list of ranges is the domain of the numbers that are its values. -/
theorem pack_eq {V b : Int} {d : List Rg} {l : List Int} (hd : Gd V b d) (hl : SS l) (h : ∀ v, Va d v ↔ v ∈ l) : d = pack l := by
  obtain ⟨g, m⟩ := pack_good (V := V) (b := b) hl (fun x hx => ⟨Gd.ge hd ((h x).2 hx), Gd.le hd ((h x).2 hx)⟩)
  exact Gd.ext hd g (fun v => (h v).trans (m v).symm)
theorem vals_pack {l : List Int} (hl : SS l) : vals (pack l) = l := by
  have hb : ∃ b V : Int, ∀ x ∈ l, b ≤ x ∧ x ≤ V := by
    clear hl
    induction l with
    | nil => exact ⟨0, 0, fun x hx => by simp at hx⟩
    | cons y l ih =>
      obtain ⟨b, V, ih⟩ := ih
      refine ⟨min b y, max V y, fun x hx => ?_⟩
      rcases List.mem_cons.1 hx with rfl | hx
      · omega
      · have := ih x hx; omega
  obtain ⟨b, V, hb⟩ := hb
  obtain ⟨g, m⟩ := pack_good (V := V) (b := b) hl hb
  exact SS.ext (vals_ss g) hl (fun x => (mem_vals x _).trans (m x))
theorem pack_vals {V b : Int} {d : List Rg} (hd : Gd V b d) : pack (vals d) = d := (pack_eq hd (vals_ss hd) (fun v => (mem_vals v d).symm)).symm
theorem pack_length_le (l : List Int) : (pack l).length ≤ l.length := by
  induction l with
  | nil => simp [pack]
  | cons x l ih =>
    unfold pack
    cases hp : pack l with
    | nil => simp
    | cons r rs =>
      rw [hp] at ih
      dsimp only
      split
      · simp at *; omega
      · simp at *; omega
/-- dom.all's values are all, where there are not too many. -/
theorem upTo_enough {r : Nat} {v hi : Int} (h : hi + 1 - v ≤ r) : upTo r v hi = upTo (hi + 1 - v).toNat v hi :=
  SS.ext (upTo_ss _ _ _) (upTo_ss _ _ _) (fun z => by rw [mem_upTo, mem_upTo]; omega)
theorem allV_vals : ∀ (d : List Rg) (r : Nat), (vals d).length ≤ r → allV r d = vals d
  | [], r, _ => by simp [allV, vals]
  | x :: d, r, h => by
    rw [vals, List.length_append] at h
    have h1 := upTo_len (x.f1 + 1 - x.f0).toNat x.f0 x.f1
    have e : upTo r x.f0 x.f1 = upTo (x.f1 + 1 - x.f0).toNat x.f0 x.f1 := upTo_enough (by omega)
    rw [allV, vals, e, allV_vals d _ (by omega)]
theorem niceD_good {b : Int} {d : List Rg} (h : Gd 1048576 b d) (hb : -1048576 ≤ b) : niceD d = true := by
  induction d generalizing b with
  | nil => rfl
  | cons x d ih =>
    obtain ⟨h1, h2, h3, h4⟩ := h
    have := ih h4 (by omega)
    unfold niceD at *
    rw [List.all_cons, this]
    simp
    omega
end Go.Proofs.Ytpbcigilipdedaa.P

-- Written by wip/tools/px.py out of the translation. Lean checks it.
namespace Go.Proofs.Ytpbcigilipdedaa.P
open Go.RowKit Go.Proofs.YtpbcigilipdedaaW.PrintWords Go.Proofs.YtpbcigilipdedaaW.PrintLast Go.Proofs.YtpbcigilipdedaaW.PrintMore
attribute [local go_sem] max2_int min2_int max_two min_two max_three min_three max_four min_four   -- for this text's walks alone
set_option linter.unusedVariables false
set_option linter.unusedSimpArgs false

/-! ### secateurref02_Values: function 29 -/
mutual
def secateurref02_Values.l0 : Nat → List (S41) → List Int → Int → Option (List Int)
 | 0, _, _, _ => none
 | k + 1, x0, x3, x4 => if x4 < (x0.length : Int) then (if 0 ≤ x4 then (secateurref02_Values.l1 k x0 x3 x4 ((rd_T41 x0 x4).f0)) else (none)) else (some x3)
def secateurref02_Values.l1 : Nat → List (S41) → List Int → Int → Int → Option (List Int)
 | 0, _, _, _, _ => none
 | k + 1, x0, x3, x4, x5 => if 0 ≤ x4 then (if x4 < (x0.length : Int) then (if x5 ≤ ((rd_T41 x0 x4).f1) then (if x3.length < 17592186044416 then (secateurref02_Values.l1 k x0 (x3 ++ [x5]) x4 (wrap64 (x5 + 1))) else (none)) else (secateurref02_Values.l0 k x0 x3 (wrap64 (x4 + 1)))) else (none)) else (none)
end
def secateurref02_Values.f (k : Nat) (l0 : List (S41)) : Option (List Int) := secateurref02_Values.l0 k l0 (([] : List Int)) 0
theorem secateurref02_Values.mono_l : ∀ k, (∀ y0 y1 y2, LeO (secateurref02_Values.l0 k y0 y1 y2) (secateurref02_Values.l0 (k + 1) y0 y1 y2)) ∧ (∀ y0 y1 y2 y3, LeO (secateurref02_Values.l1 k y0 y1 y2 y3) (secateurref02_Values.l1 (k + 1) y0 y1 y2 y3))
 | 0 => ⟨fun _ _ _ r h => by simp [secateurref02_Values.l0] at h, fun _ _ _ _ r h => by simp [secateurref02_Values.l1] at h⟩
 | k + 1 => by
  obtain ⟨ih0, ih1⟩ := secateurref02_Values.mono_l k
  refine ⟨?_, ?_⟩
  ·intro y0 y1 y2
   unfold secateurref02_Values.l0
   repeat' first
   | (with_reducible exact ih0 _ _ _)
   | (with_reducible exact ih1 _ _ _ _)
   | (with_reducible exact LeO.refl _)
   | (with_reducible exact LeO.none _)
   | (with_reducible refine LeO.ite ?_ ?_)
   | (with_reducible refine LeO.bind ?_ (fun _ => ?_))
   | exact ih0 _ _ _
   | exact ih1 _ _ _ _
   | exact LeO.none _
   | refine LeO.ite ?_ ?_
   | refine LeO.bind ?_ (fun _ => ?_)
  ·intro y0 y1 y2 y3
   unfold secateurref02_Values.l1
   repeat' first
   | (with_reducible exact ih0 _ _ _)
   | (with_reducible exact ih1 _ _ _ _)
   | (with_reducible exact LeO.refl _)
   | (with_reducible exact LeO.none _)
   | (with_reducible refine LeO.ite ?_ ?_)
   | (with_reducible refine LeO.bind ?_ (fun _ => ?_))
   | exact ih0 _ _ _
   | exact ih1 _ _ _ _
   | exact LeO.none _
   | refine LeO.ite ?_ ?_
   | refine LeO.bind ?_ (fun _ => ?_)
theorem secateurref02_Values.mono : ∀ a0 k, LeO (secateurref02_Values.f k a0) (secateurref02_Values.f (k + 1) a0) := by
 intro a0 k
 obtain ⟨ih0, ih1⟩ := secateurref02_Values.mono_l k
 unfold secateurref02_Values.f
 repeat' first
   | (with_reducible exact ih0 _ _ _)
   | (with_reducible exact ih1 _ _ _ _)
   | (with_reducible exact LeO.refl _)
   | (with_reducible exact LeO.none _)
   | (with_reducible refine LeO.ite ?_ ?_)
   | (with_reducible refine LeO.bind ?_ (fun _ => ?_))
   | exact ih0 _ _ _
   | exact ih1 _ _ _ _
   | exact LeO.none _
   | refine LeO.ite ?_ ?_
   | refine LeO.bind ?_ (fun _ => ?_)
set_option maxHeartbeats 8000000 in
set_option maxRecDepth 100000 in
theorem secateurref02_Values.calls (k : Nat) (A0 : Option Addr) (c0 : Nat) (l0 : List (S41)) (r : List Int) (w : World) (hr0 : Kd.C k41 w A0 l0.length l0) (hc0 : l0.length ≤ c0) (h : secateurref02_Values.f k l0 = some r) :
  Calls Try.prog 29 #[.slice A0 l0.length c0] w fun e w' => ∃ v0_ : Value, e = .returned (v0_) ∧ Kd.R (Kd.int .i64) 3 w' w.heap.size (fun _ => True) v0_ r ∧ Below w.heap.size w w' := by
 have HR0 := Aside0.mk hr0
 have HC0 := Aside0.mk hc0
 clear hr0 hc0
 have HB := Aside0.mk (Below.refl w.heap.size w)
 have H : (secateurref02_Values.l0 k l0 (([] : List Int)) 0) = some r := h
 clear h
 obtain ⟨y398, hy398⟩ : ∃ y_ : List Int, y_ = (([] : List Int)) := ⟨_, rfl⟩
 replace H : (secateurref02_Values.l0 k l0 y398 0) = some r := by first | (rw [hy398]; with_reducible exact H) | (have H2_ := (Option.bind_some _ _).symm.trans H; rw [hy398]; with_reducible exact H2_) | (have H2_ := (Option.bind_some _ _).symm.trans H; with_reducible exact H2_) | with_reducible exact H | (rw [hy398]; exact H) | exact H
 have Ny398 := Aside0.mk hy398
 clear hy398
 have H' := Aside0.mk H
 clear H
 go_enter Try.func29, Try.ntmps29
 go_wp2_with (first | ((with_reducible refine gate_dst (N := 6) rfl ?_); refine Kd.R_lit (Kd.int .i64) _ 3 ?hg (N := 6) ?hd (xs := ([] : List Int)) (inner := []) (ok := fun _ => True) (okp := fun _ => True) ?hr ?hp (fun _ hk => hk) trivial (Below.refl _ _) (Nat.le_refl _) (by simp) ?_; (case hd => rfl); (case hg => rfl); (case hr => first | (go_simp; done) | (go_simp; rfl)); (case hp => exact (Reps.none _ _)); intro v399 w2 ho3 hb hg_ hnew_; clear hg_ hnew_; (first | rw [← Ny398.out] at ho3 | (simp only [Int.reduceToNat] at ho3; rw [← Ny398.out] at ho3)); have n0_ := Aside0.mk (Kd.R_lower ho3 (below_size (by repeat (first | (with_reducible first | exact HB.out | apply below_alloc | apply pw_below_drewN | apply below_drew1) | exact HB.out)))); have n1_ := Aside0.mk (below_step (by repeat (first | (with_reducible first | exact HB.out | apply below_alloc | apply pw_below_drewN | apply below_drew1) | exact HB.out)) hb); clear HB; have HO400 := n0_; have HB := n1_; clear n0_ n1_; clear hb ho3))
 go_loopg [3, 4] k (fun kq v3 v4 w' => ∃ (x3_1 : List Int) (x4_1 : Int), v4 = .int .i64 x4_1 ∧ Aside0 (secateurref02_Values.l0 kq l0 x3_1 x4_1 = some r) ∧ Aside0 (kq ≤ k) ∧ Aside0 (Kd.R (Kd.int .i64) 3 w' w.heap.size (fun _ => True) v3 x3_1) ∧ Aside0 (Below w.heap.size w w'))
 case atStart => exact ⟨(y398), (0), (by first | rfl | (simp; done) | (simp [*]; done)), H', ⟨Nat.le_refl _⟩, ⟨by (with_reducible repeat (first | apply Kd.R_alloc | apply Kd.R_drewN | apply Kd.R_drew)); exact HO400.out⟩, ⟨by repeat (first | (with_reducible first | exact HB.out | apply below_alloc | apply pw_below_drewN | apply below_drew1) | exact HB.out)⟩⟩
 case round =>
  clear H'
  try clear c2
  try clear p2
  obtain ⟨x3_1, x4_1, rfl, HA, HK1, HO_3, HB⟩ := hrel
  cases gk with
  | zero => exact absurd HA.out (by simp [secateurref02_Values.l0])
  | succ k1 =>
   have H := HA.out
   clear HA
   simp only [secateurref02_Values.l0] at H
   by_cases c4 : x4_1 < (l0.length : Int)
   ·rw [if_pos c4] at H
    have c4b0 : decide (x4_1 < (l0.length : Int)) = true := decide_eq_true c4
    clear c4
    by_cases c5 : 0 ≤ x4_1
    ·rw [if_pos c5] at H
     have c5b0 : decide (0 ≤ x4_1) = true := decide_eq_true c5
     clear c5
     have H' := Aside0.mk H
     clear H
     have p401 : 0 ≤ (x4_1 : Int) := of_decide_eq_true (by first | (with_reducible assumption) | assumption)
     have q401 : x4_1 < (l0.length : Int) := of_decide_eq_true (by first | (with_reducible assumption) | assumption)
     obtain ⟨ad401, e401, hx401_0, hx401_1⟩ := at_T41 HR0.out x4_1 p401 q401
     cases e401
     replace hx401_0 := (HB.out.cell (World.block_lt_of_cell? w _ hx401_0)).trans hx401_0
     replace hx401_1 := (HB.out.cell (World.block_lt_of_cell? w _ hx401_1)).trans hx401_1
     replace p401 := eq_true p401
     replace q401 := eq_true q401
     go_wp2
     go_loopg [3, 5] k1 (fun kq v3 v5 w' => ∃ (x3_2 : List Int) (x5_2 : Int), v5 = .int .i64 x5_2 ∧ Aside0 (secateurref02_Values.l1 kq l0 x3_2 x4_1 x5_2 = some r) ∧ Aside0 (kq ≤ k1) ∧ Aside0 (Kd.R (Kd.int .i64) 3 w' w.heap.size (fun _ => True) v3 x3_2) ∧ Aside0 (Below w.heap.size w w'))
     case atStart => exact ⟨(x3_1), ((rd_T41 l0 x4_1).f0), (by first | rfl | (simp; done) | (simp [*]; done)), H', ⟨Nat.le_refl _⟩, ⟨by (with_reducible repeat (first | apply Kd.R_alloc | apply Kd.R_drewN | apply Kd.R_drew)); exact HO_3.out⟩, ⟨by repeat (first | (with_reducible first | exact HB.out | apply below_alloc | apply pw_below_drewN | apply below_drew1) | exact HB.out)⟩⟩
     case round =>
      clear H'
      try clear c2
      try clear p2
      try clear c4
      try clear c4b0
      try clear p4
      try clear q4
      try clear hx4
      try clear c5
      try clear c5b0
      try clear hx401_0
      try clear hx401_1
      try clear p2
      try clear p401
      try clear q401
      obtain ⟨x3_2, x5_2, rfl, HA, HK2, HO_3, HB⟩ := hrel
      cases gk with
      | zero => exact absurd HA.out (by simp [secateurref02_Values.l1])
      | succ k2 =>
       have H := HA.out
       clear HA
       simp only [secateurref02_Values.l1] at H
       by_cases c6 : 0 ≤ x4_1
       ·rw [if_pos c6] at H
        have c6b0 : decide (0 ≤ x4_1) = true := decide_eq_true c6
        clear c6
        by_cases c7 : x4_1 < (l0.length : Int)
        ·rw [if_pos c7] at H
         have c7b0 : decide (x4_1 < (l0.length : Int)) = true := decide_eq_true c7
         clear c7
         by_cases c8 : x5_2 ≤ ((rd_T41 l0 x4_1).f1)
         ·rw [if_pos c8] at H
          have c8b0 : decide (x5_2 ≤ ((rd_T41 l0 x4_1).f1)) = true := decide_eq_true c8
          clear c8
          by_cases c9 : x3_2.length < 17592186044416
          ·rw [if_pos c9] at H
           have LMc9 := Aside0.mk c9
           clear c9
           obtain ⟨y403, hy403⟩ : ∃ y_ : List Int, y_ = (x3_2 ++ [x5_2]) := ⟨_, rfl⟩
           replace H : (secateurref02_Values.l1 k2 l0 y403 x4_1 (wrap64 (x5_2 + 1))) = some r := by first | (rw [hy403]; with_reducible exact H) | (have H2_ := (Option.bind_some _ _).symm.trans H; rw [hy403]; with_reducible exact H2_) | (have H2_ := (Option.bind_some _ _).symm.trans H; with_reducible exact H2_) | with_reducible exact H | (rw [hy403]; exact H) | exact H
           have Ny403 := Aside0.mk hy403
           clear hy403
           have H' := Aside0.mk H
           clear H
           have p402 : 0 ≤ (x4_1 : Int) := of_decide_eq_true (by first | (with_reducible assumption) | assumption)
           have q402 : x4_1 < (l0.length : Int) := of_decide_eq_true (by first | (with_reducible assumption) | assumption)
           obtain ⟨ad402, e402, hx402_0, hx402_1⟩ := at_T41 HR0.out x4_1 p402 q402
           obtain rfl : ad401 = ad402 := (by injection e402)
           replace hx402_0 := (HB.out.cell (World.block_lt_of_cell? w _ hx402_0)).trans hx402_0
           replace hx402_1 := (HB.out.cell (World.block_lt_of_cell? w _ hx402_1)).trans hx402_1
           replace p402 := eq_true p402
           replace q402 := eq_true q402
           go_wp2_with (first | ((with_reducible refine gate_builtin (b := .append) (xs := #[.tmp 27, .tmp 29]) rfl ?_); at_builtin; refine Kd.R_append (Kd.int .i64) (w0 := w) w.heap.size rfl (.tmp 27) (.tmp 29) 23 3 (.int .i64 0) 8 rfl Try.underlying23 info3 rfl (by decide) (by omega) u3 x3_2 x5_2 [.int .i64 x5_2] (fun _ => True) (fun _ => False) rfl rfl ?aP (fun _ hk => hk.elim) ?aF ?aO ?aB ?aS ?aL ?_; (case aP => exact rfl); (case aB => exact (by repeat (first | (with_reducible first | exact HB.out | apply below_alloc | apply pw_below_drewN | apply below_drew1) | exact HB.out))); (case aF => exact (fun _ _ => trivial)); (case aO => exact (by (with_reducible repeat (first | apply Kd.R_alloc | apply Kd.R_drewN | apply Kd.R_drew)); exact HO_3.out)); (case aS => exact (below_size (by repeat (first | (with_reducible first | exact HB.out | apply below_alloc | apply pw_below_drewN | apply below_drew1) | exact HB.out)))); (case aL => have := LMc9.out; omega); intro v404 w10 ho hb hg hat; rw [← Ny403.out] at ho; have n0_ := Aside0.mk (hb); have n1_ := Aside0.mk (ho); clear HB; clear HO_3; have HB := n0_; have HO405 := n1_; clear n0_ n1_; clear ho hb hg hat))
           go_roundg k2
           case measure => have := HK1.out; have := HK2.out; omega
           case rel => exact ⟨(y403), (wrap64 (x5_2 + 1)), (by first | rfl | (simp; done) | (simp [*]; done)), H', ⟨by have := HK1.out; have := HK2.out; omega⟩, ⟨by (with_reducible repeat (first | apply Kd.R_alloc | apply Kd.R_drewN | apply Kd.R_drew)); exact HO405.out⟩, ⟨by repeat (first | (with_reducible first | exact HB.out | apply below_alloc | apply pw_below_drewN | apply below_drew1) | exact HB.out)⟩⟩
          ·rw [if_neg c9] at H
           exact absurd H (by simp)
         ·rw [if_neg c8] at H
          have c8b0 : decide (x5_2 ≤ ((rd_T41 l0 x4_1).f1)) = false := decide_eq_false c8
          clear c8
          have H' := Aside0.mk H
          clear H
          have p402 : 0 ≤ (x4_1 : Int) := of_decide_eq_true (by first | (with_reducible assumption) | assumption)
          have q402 : x4_1 < (l0.length : Int) := of_decide_eq_true (by first | (with_reducible assumption) | assumption)
          obtain ⟨ad402, e402, hx402_0, hx402_1⟩ := at_T41 HR0.out x4_1 p402 q402
          obtain rfl : ad401 = ad402 := (by injection e402)
          replace hx402_0 := (HB.out.cell (World.block_lt_of_cell? w _ hx402_0)).trans hx402_0
          replace hx402_1 := (HB.out.cell (World.block_lt_of_cell? w _ hx402_1)).trans hx402_1
          replace p402 := eq_true p402
          replace q402 := eq_true q402
          go_wp2
          go_roundg k2
          case measure => have := HK1.out; have := HK2.out; omega
          case rel => exact ⟨(x3_2), (wrap64 (x4_1 + 1)), (by first | rfl | (simp; done) | (simp [*]; done)), H', ⟨by have := HK1.out; have := HK2.out; omega⟩, ⟨by (with_reducible repeat (first | apply Kd.R_alloc | apply Kd.R_drewN | apply Kd.R_drew)); exact HO_3.out⟩, ⟨by repeat (first | (with_reducible first | exact HB.out | apply below_alloc | apply pw_below_drewN | apply below_drew1) | exact HB.out)⟩⟩
        ·rw [if_neg c7] at H
         exact absurd H (by simp)
       ·rw [if_neg c6] at H
        exact absurd H (by simp)
    ·rw [if_neg c5] at H
     exact absurd H (by simp)
   ·rw [if_neg c4] at H
    have c4b0 : decide (x4_1 < (l0.length : Int)) = false := decide_eq_false c4
    clear c4
    obtain rfl := Option.some.inj H
    go_wp2
    go_ret
    exact ⟨_, by first | rfl | (simp [errW_none, errW_some] <;> rfl) | (simp [*, errW_none, errW_some] <;> rfl), by (with_reducible repeat (first | apply Kd.R_alloc | apply Kd.R_drewN | apply Kd.R_drew)); exact HO_3.out, by repeat (first | (with_reducible first | exact HB.out | apply below_alloc | apply pw_below_drewN | apply below_drew1) | exact HB.out)⟩

end Go.Proofs.Ytpbcigilipdedaa.P

-- Written by wip/tools/px.py out of the translation. Lean checks it.
namespace Go.Proofs.Ytpbcigilipdedaa.P
open Go.RowKit Go.Proofs.YtpbcigilipdedaaW.PrintWords Go.Proofs.YtpbcigilipdedaaW.PrintLast Go.Proofs.YtpbcigilipdedaaW.PrintMore
attribute [local go_sem] max2_int min2_int max_two min_two max_three min_three max_four min_four   -- for this text's walks alone
set_option linter.unusedVariables false
set_option linter.unusedSimpArgs false

/-! ### secateurref02_Has: function 31 -/
def secateurref02_Has.l0 : Nat → List Int → Int → Int → Option (Bool)
 | 0, _, _, _ => none
 | k + 1, x0, x1, x5 => if x5 < (x0.length : Int) then (if 0 ≤ x5 then (if (rd x0 x5) = x1 then (some true) else (secateurref02_Has.l0 k x0 x1 (wrap64 (x5 + 1)))) else (none)) else (some false)
def secateurref02_Has.f (k : Nat) (l0 : List Int) (a1 : Int) : Option (Bool) := secateurref02_Has.l0 k l0 a1 0
theorem secateurref02_Has.mono_l : ∀ k, (∀ y0 y1 y2, LeO (secateurref02_Has.l0 k y0 y1 y2) (secateurref02_Has.l0 (k + 1) y0 y1 y2))
 | 0 => fun _ _ _ r h => by simp [secateurref02_Has.l0] at h
 | k + 1 => by
  have ih0 := secateurref02_Has.mono_l k
  ·intro y0 y1 y2
   unfold secateurref02_Has.l0
   repeat' first
   | (with_reducible exact ih0 _ _ _)
   | (with_reducible exact LeO.refl _)
   | (with_reducible exact LeO.none _)
   | (with_reducible refine LeO.ite ?_ ?_)
   | (with_reducible refine LeO.bind ?_ (fun _ => ?_))
   | exact ih0 _ _ _
   | exact LeO.none _
   | refine LeO.ite ?_ ?_
   | refine LeO.bind ?_ (fun _ => ?_)
theorem secateurref02_Has.mono : ∀ a0 a1 k, LeO (secateurref02_Has.f k a0 a1) (secateurref02_Has.f (k + 1) a0 a1) := by
 intro a0 a1 k
 have ih0 := secateurref02_Has.mono_l k
 unfold secateurref02_Has.f
 repeat' first
   | (with_reducible exact ih0 _ _ _)
   | (with_reducible exact LeO.refl _)
   | (with_reducible exact LeO.none _)
   | (with_reducible refine LeO.ite ?_ ?_)
   | (with_reducible refine LeO.bind ?_ (fun _ => ?_))
   | exact ih0 _ _ _
   | exact LeO.none _
   | refine LeO.ite ?_ ?_
   | refine LeO.bind ?_ (fun _ => ?_)
set_option maxHeartbeats 8000000 in
set_option maxRecDepth 100000 in
theorem secateurref02_Has.calls (k : Nat) (A0 : Option Addr) (c0 : Nat) (l0 : List Int) (a1 : Int) (r : Bool) (w : World) (hr0 : Kd.C (Kd.int .i64) w A0 l0.length l0) (hc0 : l0.length ≤ c0) (h : secateurref02_Has.f k l0 a1 = some r) :
  Calls Try.prog 31 #[.slice A0 l0.length c0, .int .i64 a1] w fun e w' => e = .returned (.bool r) ∧ Drawn0 w w' := by
 have HR0 := Aside0.mk hr0
 have HC0 := Aside0.mk hc0
 clear hr0 hc0
 have H : (secateurref02_Has.l0 k l0 a1 0) = some r := h
 clear h
 have H' := Aside0.mk H
 clear H
 go_enter Try.func31, Try.ntmps31
 go_wp2
 go_loopg [5] k (fun kq v5 w' => ∃ (x5_1 : Int), v5 = .int .i64 x5_1 ∧ Aside0 (secateurref02_Has.l0 kq l0 a1 x5_1 = some r) ∧ Aside0 (kq ≤ k) ∧ Drawn0 w w')
 case atStart => exact ⟨(0), (by first | rfl | (simp; done) | (simp [*]; done)), H', ⟨Nat.le_refl _⟩, by repeat (first | exact Drawn0.refl _ | apply Drawn0.step)⟩
 case round =>
  clear H'
  try clear p2
  obtain ⟨x5_1, rfl, HA, HK1, ⟨m1, rfl⟩⟩ := hrel
  cases gk with
  | zero => exact absurd HA.out (by simp [secateurref02_Has.l0])
  | succ k1 =>
   have H := HA.out
   clear HA
   simp only [secateurref02_Has.l0] at H
   by_cases c3 : x5_1 < (l0.length : Int)
   ·rw [if_pos c3] at H
    have c3b0 : decide (x5_1 < (l0.length : Int)) = true := decide_eq_true c3
    clear c3
    by_cases c4 : 0 ≤ x5_1
    ·rw [if_pos c4] at H
     have c4b0 : decide (0 ≤ x5_1) = true := decide_eq_true c4
     clear c4
     by_cases c5 : (rd l0 x5_1) = a1
     ·rw [if_pos c5] at H
      have c5b0 : ((rd l0 x5_1) == a1) = true := beq_iff_eq.mpr c5
      have c5b1 : ((rd l0 x5_1) != a1) = false := bne_eq_false_iff_eq.mpr c5
      clear c5
      obtain rfl := Option.some.inj H
      have p131 : 0 ≤ (x5_1 : Int) := of_decide_eq_true (by first | (with_reducible assumption) | assumption)
      have q131 : x5_1 < (l0.length : Int) := of_decide_eq_true (by first | (with_reducible assumption) | assumption)
      obtain ⟨ad131, e131, hx131_0⟩ := Kd.at_int HR0.out x5_1 p131 q131
      cases e131
      replace p131 := eq_true p131
      replace q131 := eq_true q131
      go_wp2
      go_ret
      exact ⟨by first | rfl | (simp; done) | (simp [*]; done), by repeat (first | exact Drawn0.refl _ | apply Drawn0.step)⟩
     ·rw [if_neg c5] at H
      have c5b0 : ((rd l0 x5_1) == a1) = false := beq_eq_false_iff_ne.mpr c5
      have c5b1 : ((rd l0 x5_1) != a1) = true := bne_iff_ne.mpr c5
      have H' := Aside0.mk H
      clear H
      have p131 : 0 ≤ (x5_1 : Int) := of_decide_eq_true (by first | (with_reducible assumption) | assumption)
      have q131 : x5_1 < (l0.length : Int) := of_decide_eq_true (by first | (with_reducible assumption) | assumption)
      obtain ⟨ad131, e131, hx131_0⟩ := Kd.at_int HR0.out x5_1 p131 q131
      cases e131
      replace p131 := eq_true p131
      replace q131 := eq_true q131
      go_wp2
      go_roundg k1
      case measure => have := HK1.out; omega
      case rel => exact ⟨(wrap64 (x5_1 + 1)), (by first | rfl | (simp; done) | (simp [*]; done)), H', ⟨by have := HK1.out; omega⟩, by repeat (first | exact Drawn0.refl _ | apply Drawn0.step)⟩
    ·rw [if_neg c4] at H
     exact absurd H (by simp)
   ·rw [if_neg c3] at H
    have c3b0 : decide (x5_1 < (l0.length : Int)) = false := decide_eq_false c3
    clear c3
    obtain rfl := Option.some.inj H
    go_wp2
    go_ret
    exact ⟨by first | rfl | (simp; done) | (simp [*]; done), by repeat (first | exact Drawn0.refl _ | apply Drawn0.step)⟩

end Go.Proofs.Ytpbcigilipdedaa.P

-- Written by wip/tools/px.py out of the translation. Lean checks it.
namespace Go.Proofs.Ytpbcigilipdedaa.P
open Go.RowKit Go.Proofs.YtpbcigilipdedaaW.PrintWords Go.Proofs.YtpbcigilipdedaaW.PrintLast Go.Proofs.YtpbcigilipdedaaW.PrintMore
attribute [local go_sem] max2_int min2_int max_two min_two max_three min_three max_four min_four   -- for this text's walks alone
set_option linter.unusedVariables false
set_option linter.unusedSimpArgs false

/-! ### secateurref02_Sorted: function 38 -/
mutual
def secateurref02_Sorted.l0 : Nat → List Int → List Int → Int → Option (List Int)
 | 0, _, _, _ => none
 | k + 1, x0, x3, x4 => if x4 < (x0.length : Int) then (if 0 ≤ x4 then ((secateurref02_Has.f k x3 (rd x0 x4)).bind fun t139 => (secateurref02_Sorted.l1 k x0 x3 x4 (([] : List Int)) t139 0)) else (none)) else (some x3)
def secateurref02_Sorted.l1 : Nat → List Int → List Int → Int → List Int → Bool → Int → Option (List Int)
 | 0, _, _, _, _, _, _ => none
 | k + 1, x0, x3, x4, x5, x6, x7 => if x7 < (x3.length : Int) then (if x6 = true then (if 0 ≤ x7 then (if x5.length < 17592186044416 then (secateurref02_Sorted.l1 k x0 x3 x4 (x5 ++ [rd x3 x7]) x6 (wrap64 (x7 + 1))) else (none)) else (none)) else (if 0 ≤ x4 then (if x4 < (x0.length : Int) then (if 0 ≤ x7 then (if (rd x0 x4) < (rd x3 x7) then (if x5.length < 17592186044416 then ((some (x5 ++ [rd x0 x4] : List Int)).bind fun y147 => (if y147.length < 17592186044416 then (secateurref02_Sorted.l1 k x0 x3 x4 (y147 ++ [rd x3 x7]) true (wrap64 (x7 + 1))) else (none))) else (none)) else (if x5.length < 17592186044416 then (secateurref02_Sorted.l1 k x0 x3 x4 (x5 ++ [rd x3 x7]) x6 (wrap64 (x7 + 1))) else (none))) else (none)) else (none)) else (none))) else (if x6 = true then (secateurref02_Sorted.l0 k x0 x5 (wrap64 (x4 + 1))) else (if 0 ≤ x4 then (if x4 < (x0.length : Int) then (if x5.length < 17592186044416 then (secateurref02_Sorted.l0 k x0 (x5 ++ [rd x0 x4]) (wrap64 (x4 + 1))) else (none)) else (none)) else (none)))
end
def secateurref02_Sorted.f (k : Nat) (l0 : List Int) : Option (List Int) := secateurref02_Sorted.l0 k l0 (([] : List Int)) 0
theorem secateurref02_Sorted.mono_l : ∀ k, (∀ y0 y1 y2, LeO (secateurref02_Sorted.l0 k y0 y1 y2) (secateurref02_Sorted.l0 (k + 1) y0 y1 y2)) ∧ (∀ y0 y1 y2 y3 y4 y5, LeO (secateurref02_Sorted.l1 k y0 y1 y2 y3 y4 y5) (secateurref02_Sorted.l1 (k + 1) y0 y1 y2 y3 y4 y5))
 | 0 => ⟨fun _ _ _ r h => by simp [secateurref02_Sorted.l0] at h, fun _ _ _ _ _ _ r h => by simp [secateurref02_Sorted.l1] at h⟩
 | k + 1 => by
  obtain ⟨ih0, ih1⟩ := secateurref02_Sorted.mono_l k
  refine ⟨?_, ?_⟩
  ·intro y0 y1 y2
   unfold secateurref02_Sorted.l0
   repeat' first
   | (with_reducible exact ih0 _ _ _)
   | (with_reducible exact ih1 _ _ _ _ _ _)
   | (with_reducible exact secateurref02_Has.mono _ _ _)
   | (with_reducible exact LeO.refl _)
   | (with_reducible exact LeO.none _)
   | (with_reducible refine LeO.ite ?_ ?_)
   | (with_reducible refine LeO.bind ?_ (fun _ => ?_))
   | exact ih0 _ _ _
   | exact ih1 _ _ _ _ _ _
   | exact secateurref02_Has.mono _ _ _
   | exact LeO.none _
   | refine LeO.ite ?_ ?_
   | refine LeO.bind ?_ (fun _ => ?_)
  ·intro y0 y1 y2 y3 y4 y5
   unfold secateurref02_Sorted.l1
   repeat' first
   | (with_reducible exact ih0 _ _ _)
   | (with_reducible exact ih1 _ _ _ _ _ _)
   | (with_reducible exact secateurref02_Has.mono _ _ _)
   | (with_reducible exact LeO.refl _)
   | (with_reducible exact LeO.none _)
   | (with_reducible refine LeO.ite ?_ ?_)
   | (with_reducible refine LeO.bind ?_ (fun _ => ?_))
   | exact ih0 _ _ _
   | exact ih1 _ _ _ _ _ _
   | exact secateurref02_Has.mono _ _ _
   | exact LeO.none _
   | refine LeO.ite ?_ ?_
   | refine LeO.bind ?_ (fun _ => ?_)
theorem secateurref02_Sorted.mono : ∀ a0 k, LeO (secateurref02_Sorted.f k a0) (secateurref02_Sorted.f (k + 1) a0) := by
 intro a0 k
 obtain ⟨ih0, ih1⟩ := secateurref02_Sorted.mono_l k
 unfold secateurref02_Sorted.f
 repeat' first
   | (with_reducible exact ih0 _ _ _)
   | (with_reducible exact ih1 _ _ _ _ _ _)
   | (with_reducible exact secateurref02_Has.mono _ _ _)
   | (with_reducible exact LeO.refl _)
   | (with_reducible exact LeO.none _)
   | (with_reducible refine LeO.ite ?_ ?_)
   | (with_reducible refine LeO.bind ?_ (fun _ => ?_))
   | exact ih0 _ _ _
   | exact ih1 _ _ _ _ _ _
   | exact secateurref02_Has.mono _ _ _
   | exact LeO.none _
   | refine LeO.ite ?_ ?_
   | refine LeO.bind ?_ (fun _ => ?_)
set_option maxHeartbeats 8000000 in
set_option maxRecDepth 100000 in
theorem secateurref02_Sorted.calls (k : Nat) (A0 : Option Addr) (c0 : Nat) (l0 : List Int) (r : List Int) (w : World) (hr0 : Kd.C (Kd.int .i64) w A0 l0.length l0) (hc0 : l0.length ≤ c0) (h : secateurref02_Sorted.f k l0 = some r) :
  Calls Try.prog 38 #[.slice A0 l0.length c0] w fun e w' => ∃ v0_ : Value, e = .returned (v0_) ∧ Kd.R (Kd.int .i64) 3 w' w.heap.size (fun _ => True) v0_ r ∧ Below w.heap.size w w' := by
 have HR0 := Aside0.mk hr0
 have HC0 := Aside0.mk hc0
 clear hr0 hc0
 have HB := Aside0.mk (Below.refl w.heap.size w)
 have H : (secateurref02_Sorted.l0 k l0 (([] : List Int)) 0) = some r := h
 clear h
 obtain ⟨y132, hy132⟩ : ∃ y_ : List Int, y_ = (([] : List Int)) := ⟨_, rfl⟩
 replace H : (secateurref02_Sorted.l0 k l0 y132 0) = some r := by first | (rw [hy132]; with_reducible exact H) | (have H2_ := (Option.bind_some _ _).symm.trans H; rw [hy132]; with_reducible exact H2_) | (have H2_ := (Option.bind_some _ _).symm.trans H; with_reducible exact H2_) | with_reducible exact H | (rw [hy132]; exact H) | exact H
 have Ny132 := Aside0.mk hy132
 clear hy132
 have H' := Aside0.mk H
 clear H
 go_enter Try.func38, Try.ntmps38
 go_wp2_with (first | ((with_reducible refine gate_dst (N := 8) rfl ?_); refine Kd.R_lit (Kd.int .i64) _ 3 ?hg (N := 8) ?hd (xs := ([] : List Int)) (inner := []) (ok := fun _ => True) (okp := fun _ => True) ?hr ?hp (fun _ hk => hk) trivial (Below.refl _ _) (Nat.le_refl _) (by simp) ?_; (case hd => rfl); (case hg => rfl); (case hr => first | (go_simp; done) | (go_simp; rfl)); (case hp => exact (Reps.none _ _)); intro v133 w2 ho3 hb hg_ hnew_; clear hg_ hnew_; (first | rw [← Ny132.out] at ho3 | (simp only [Int.reduceToNat] at ho3; rw [← Ny132.out] at ho3)); have n0_ := Aside0.mk (Kd.R_lower ho3 (below_size (by repeat (first | (with_reducible first | exact HB.out | apply below_alloc | apply pw_below_drewN | apply below_drew1) | exact HB.out)))); have n1_ := Aside0.mk (below_step (by repeat (first | (with_reducible first | exact HB.out | apply below_alloc | apply pw_below_drewN | apply below_drew1) | exact HB.out)) hb); clear HB; have HO134 := n0_; have HB := n1_; clear n0_ n1_; clear hb ho3))
 repeat (go_quiet (first | ((with_reducible refine gate_dst (N := 8) rfl ?_); refine Kd.R_lit (Kd.int .i64) _ 3 ?hg (N := 8) ?hd (xs := ([] : List Int)) (inner := []) (ok := fun _ => True) (okp := fun _ => True) ?hr ?hp (fun _ hk => hk) trivial (Below.refl _ _) (Nat.le_refl _) (by simp) ?_; (case hd => rfl); (case hg => rfl); (case hr => first | (go_simp; done) | (go_simp; rfl)); (case hp => exact (Reps.none _ _)); intro v133 w2 ho3 hb hg_ hnew_; clear hg_ hnew_; (first | rw [← Ny132.out] at ho3 | (simp only [Int.reduceToNat] at ho3; rw [← Ny132.out] at ho3)); have n0_ := Aside0.mk (Kd.R_lower ho3 (below_size (by repeat (first | (with_reducible first | exact HB.out | apply below_alloc | apply pw_below_drewN | apply below_drew1) | exact HB.out)))); have n1_ := Aside0.mk (below_step (by repeat (first | (with_reducible first | exact HB.out | apply below_alloc | apply pw_below_drewN | apply below_drew1) | exact HB.out)) hb); clear HB; have HO134 := n0_; have HB := n1_; clear n0_ n1_; clear hb ho3)); try go_wp2_with (first | ((with_reducible refine gate_dst (N := 8) rfl ?_); refine Kd.R_lit (Kd.int .i64) _ 3 ?hg (N := 8) ?hd (xs := ([] : List Int)) (inner := []) (ok := fun _ => True) (okp := fun _ => True) ?hr ?hp (fun _ hk => hk) trivial (Below.refl _ _) (Nat.le_refl _) (by simp) ?_; (case hd => rfl); (case hg => rfl); (case hr => first | (go_simp; done) | (go_simp; rfl)); (case hp => exact (Reps.none _ _)); intro v133 w2 ho3 hb hg_ hnew_; clear hg_ hnew_; (first | rw [← Ny132.out] at ho3 | (simp only [Int.reduceToNat] at ho3; rw [← Ny132.out] at ho3)); have n0_ := Aside0.mk (Kd.R_lower ho3 (below_size (by repeat (first | (with_reducible first | exact HB.out | apply below_alloc | apply pw_below_drewN | apply below_drew1) | exact HB.out)))); have n1_ := Aside0.mk (below_step (by repeat (first | (with_reducible first | exact HB.out | apply below_alloc | apply pw_below_drewN | apply below_drew1) | exact HB.out)) hb); clear HB; have HO134 := n0_; have HB := n1_; clear n0_ n1_; clear hb ho3)))
 go_loopg [3, 4] k (fun kq v3 v4 w' => ∃ (x3_1 : List Int) (x4_1 : Int), v4 = .int .i64 x4_1 ∧ Aside0 (secateurref02_Sorted.l0 kq l0 x3_1 x4_1 = some r) ∧ Aside0 (kq ≤ k) ∧ Aside0 (Kd.R (Kd.int .i64) 3 w' w.heap.size (fun _ => True) v3 x3_1) ∧ Aside0 (Below w.heap.size w w'))
 case atStart => exact ⟨(y132), (0), (by first | rfl | (simp; done) | (simp [*]; done)), H', ⟨Nat.le_refl _⟩, ⟨by (with_reducible repeat (first | apply Kd.R_alloc | apply Kd.R_drewN | apply Kd.R_drew)); exact HO134.out⟩, ⟨by repeat (first | (with_reducible first | exact HB.out | apply below_alloc | apply pw_below_drewN | apply below_drew1) | exact HB.out)⟩⟩
 case round =>
  clear H'
  try clear p2
  try clear c3
  obtain ⟨x3_1, x4_1, rfl, HA, HK1, HO_3, HB⟩ := hrel
  cases gk with
  | zero => exact absurd HA.out (by simp [secateurref02_Sorted.l0])
  | succ k1 =>
   have H := HA.out
   clear HA
   simp only [secateurref02_Sorted.l0] at H
   by_cases c4 : x4_1 < (l0.length : Int)
   ·rw [if_pos c4] at H
    have c4b0 : decide (x4_1 < (l0.length : Int)) = true := decide_eq_true c4
    clear c4
    obtain ⟨y135, hy135⟩ : ∃ y_ : List Int, y_ = (([] : List Int)) := ⟨_, rfl⟩
    replace H : (if 0 ≤ x4_1 then ((secateurref02_Has.f k1 x3_1 (rd l0 x4_1)).bind fun t139 => (secateurref02_Sorted.l1 k1 l0 x3_1 x4_1 y135 t139 0)) else (none)) = some r := by first | (rw [hy135]; with_reducible exact H) | (have H2_ := (Option.bind_some _ _).symm.trans H; rw [hy135]; with_reducible exact H2_) | (have H2_ := (Option.bind_some _ _).symm.trans H; with_reducible exact H2_) | with_reducible exact H | (rw [hy135]; exact H) | exact H
    have Ny135 := Aside0.mk hy135
    clear hy135
    by_cases c5 : 0 ≤ x4_1
    ·rw [if_pos c5] at H
     have c5b0 : decide (0 ≤ x4_1) = true := decide_eq_true c5
     clear c5
     replace H := Option.bind_eq_some_iff.mp H
     obtain ⟨t139, A60, H⟩ := H
     replace H : (secateurref02_Sorted.l1 k1 l0 x3_1 x4_1 y135 t139 0) = some r := H
     have A6 := Aside0.mk A60
     clear A60
     have H' := Aside0.mk H
     clear H
     go_wp2_with (first | ((with_reducible refine gate_dst (N := 15) rfl ?_); refine Kd.R_lit (Kd.int .i64) _ 3 ?hg (N := 15) ?hd (xs := ([] : List Int)) (inner := []) (ok := fun _ => True) (okp := fun _ => True) ?hr ?hp (fun _ hk => hk) trivial (Below.refl _ _) (Nat.le_refl _) (by simp) ?_; (case hd => rfl); (case hg => rfl); (case hr => first | (go_simp; done) | (go_simp; rfl)); (case hp => exact (Reps.none _ _)); intro v136 w7 ho8 hb hg_ hnew_; clear hg_ hnew_; (first | rw [← Ny135.out] at ho8 | (simp only [Int.reduceToNat] at ho8; rw [← Ny135.out] at ho8)); have n0_ := Aside0.mk (Kd.R_elder' (by (with_reducible repeat (first | apply Kd.R_alloc | apply Kd.R_drewN | apply Kd.R_drew)); exact HO_3.out) (Kd.R_base ho8) hb); have n1_ := Aside0.mk (Kd.R_lower (Kd.R_new' ho8 (Kd.R_lt (by (with_reducible repeat (first | apply Kd.R_alloc | apply Kd.R_drewN | apply Kd.R_drew)); exact HO_3.out))) (below_size (by repeat (first | (with_reducible first | exact HB.out | apply below_alloc | apply pw_below_drewN | apply below_drew1) | exact HB.out)))); have n2_ := Aside0.mk (below_step (by repeat (first | (with_reducible first | exact HB.out | apply below_alloc | apply pw_below_drewN | apply below_drew1) | exact HB.out)) hb); clear HO_3; clear HB; have HO_3 := n0_; have HO137 := n1_; have HB := n2_; clear n0_ n1_ n2_; clear hb ho8; have p138 : 0 ≤ (x4_1 : Int) := of_decide_eq_true (by first | (with_reducible assumption) | assumption); have q138 : x4_1 < (l0.length : Int) := of_decide_eq_true (by first | (with_reducible assumption) | assumption); obtain ⟨ad138, e138, hx138_0⟩ := Kd.at_int HR0.out x4_1 p138 q138; cases e138; replace hx138_0 := (HB.out.cell (World.block_lt_of_cell? w _ hx138_0)).trans hx138_0; replace p138 := eq_true p138; replace q138 := eq_true q138; obtain ⟨Ao9, co9, eo9⟩ := Kd.R_slice HO_3.out; subst eo9) | (go_at_call 31; (with_reducible refine (secateurref02_Has.calls k1 _ _ x3_1 (rd l0 x4_1) t139 _ ?side1 ?side2 A6.out).mono ?_); (case side1 => repeat (first | exact (Kd.R_reads' HO_3.out).2.2 | (with_reducible refine Kd.C_alloc ?_ _) | (with_reducible refine Kd.C_drewN ?_ _) | (with_reducible refine Kd.C_drew ?_))); (case side2 => exact (Kd.R_reads' HO_3.out).2.1); rintro e w' ⟨rfl, ⟨nd, rfl⟩⟩; (try first | exact ⟨rfl, _, World.drewN_drewN _ _ _⟩ | exact ⟨rfl, _, Eq.trans (World.drewN_drewN _ _ _) (congrArg (World.drewN _) (Nat.add_assoc _ _ _))⟩)))
     repeat (go_quiet (first | ((with_reducible refine gate_dst (N := 15) rfl ?_); refine Kd.R_lit (Kd.int .i64) _ 3 ?hg (N := 15) ?hd (xs := ([] : List Int)) (inner := []) (ok := fun _ => True) (okp := fun _ => True) ?hr ?hp (fun _ hk => hk) trivial (Below.refl _ _) (Nat.le_refl _) (by simp) ?_; (case hd => rfl); (case hg => rfl); (case hr => first | (go_simp; done) | (go_simp; rfl)); (case hp => exact (Reps.none _ _)); intro v136 w7 ho8 hb hg_ hnew_; clear hg_ hnew_; (first | rw [← Ny135.out] at ho8 | (simp only [Int.reduceToNat] at ho8; rw [← Ny135.out] at ho8)); have n0_ := Aside0.mk (Kd.R_elder' (by (with_reducible repeat (first | apply Kd.R_alloc | apply Kd.R_drewN | apply Kd.R_drew)); exact HO_3.out) (Kd.R_base ho8) hb); have n1_ := Aside0.mk (Kd.R_lower (Kd.R_new' ho8 (Kd.R_lt (by (with_reducible repeat (first | apply Kd.R_alloc | apply Kd.R_drewN | apply Kd.R_drew)); exact HO_3.out))) (below_size (by repeat (first | (with_reducible first | exact HB.out | apply below_alloc | apply pw_below_drewN | apply below_drew1) | exact HB.out)))); have n2_ := Aside0.mk (below_step (by repeat (first | (with_reducible first | exact HB.out | apply below_alloc | apply pw_below_drewN | apply below_drew1) | exact HB.out)) hb); clear HO_3; clear HB; have HO_3 := n0_; have HO137 := n1_; have HB := n2_; clear n0_ n1_ n2_; clear hb ho8; have p138 : 0 ≤ (x4_1 : Int) := of_decide_eq_true (by first | (with_reducible assumption) | assumption); have q138 : x4_1 < (l0.length : Int) := of_decide_eq_true (by first | (with_reducible assumption) | assumption); obtain ⟨ad138, e138, hx138_0⟩ := Kd.at_int HR0.out x4_1 p138 q138; cases e138; replace hx138_0 := (HB.out.cell (World.block_lt_of_cell? w _ hx138_0)).trans hx138_0; replace p138 := eq_true p138; replace q138 := eq_true q138; obtain ⟨Ao9, co9, eo9⟩ := Kd.R_slice HO_3.out; subst eo9) | (go_at_call 31; (with_reducible refine (secateurref02_Has.calls k1 _ _ x3_1 (rd l0 x4_1) t139 _ ?side1 ?side2 A6.out).mono ?_); (case side1 => repeat (first | exact (Kd.R_reads' HO_3.out).2.2 | (with_reducible refine Kd.C_alloc ?_ _) | (with_reducible refine Kd.C_drewN ?_ _) | (with_reducible refine Kd.C_drew ?_))); (case side2 => exact (Kd.R_reads' HO_3.out).2.1); rintro e w' ⟨rfl, ⟨nd, rfl⟩⟩; (try first | exact ⟨rfl, _, World.drewN_drewN _ _ _⟩ | exact ⟨rfl, _, Eq.trans (World.drewN_drewN _ _ _) (congrArg (World.drewN _) (Nat.add_assoc _ _ _))⟩))); try go_wp2_with (first | ((with_reducible refine gate_dst (N := 15) rfl ?_); refine Kd.R_lit (Kd.int .i64) _ 3 ?hg (N := 15) ?hd (xs := ([] : List Int)) (inner := []) (ok := fun _ => True) (okp := fun _ => True) ?hr ?hp (fun _ hk => hk) trivial (Below.refl _ _) (Nat.le_refl _) (by simp) ?_; (case hd => rfl); (case hg => rfl); (case hr => first | (go_simp; done) | (go_simp; rfl)); (case hp => exact (Reps.none _ _)); intro v136 w7 ho8 hb hg_ hnew_; clear hg_ hnew_; (first | rw [← Ny135.out] at ho8 | (simp only [Int.reduceToNat] at ho8; rw [← Ny135.out] at ho8)); have n0_ := Aside0.mk (Kd.R_elder' (by (with_reducible repeat (first | apply Kd.R_alloc | apply Kd.R_drewN | apply Kd.R_drew)); exact HO_3.out) (Kd.R_base ho8) hb); have n1_ := Aside0.mk (Kd.R_lower (Kd.R_new' ho8 (Kd.R_lt (by (with_reducible repeat (first | apply Kd.R_alloc | apply Kd.R_drewN | apply Kd.R_drew)); exact HO_3.out))) (below_size (by repeat (first | (with_reducible first | exact HB.out | apply below_alloc | apply pw_below_drewN | apply below_drew1) | exact HB.out)))); have n2_ := Aside0.mk (below_step (by repeat (first | (with_reducible first | exact HB.out | apply below_alloc | apply pw_below_drewN | apply below_drew1) | exact HB.out)) hb); clear HO_3; clear HB; have HO_3 := n0_; have HO137 := n1_; have HB := n2_; clear n0_ n1_ n2_; clear hb ho8; have p138 : 0 ≤ (x4_1 : Int) := of_decide_eq_true (by first | (with_reducible assumption) | assumption); have q138 : x4_1 < (l0.length : Int) := of_decide_eq_true (by first | (with_reducible assumption) | assumption); obtain ⟨ad138, e138, hx138_0⟩ := Kd.at_int HR0.out x4_1 p138 q138; cases e138; replace hx138_0 := (HB.out.cell (World.block_lt_of_cell? w _ hx138_0)).trans hx138_0; replace p138 := eq_true p138; replace q138 := eq_true q138; obtain ⟨Ao9, co9, eo9⟩ := Kd.R_slice HO_3.out; subst eo9) | (go_at_call 31; (with_reducible refine (secateurref02_Has.calls k1 _ _ x3_1 (rd l0 x4_1) t139 _ ?side1 ?side2 A6.out).mono ?_); (case side1 => repeat (first | exact (Kd.R_reads' HO_3.out).2.2 | (with_reducible refine Kd.C_alloc ?_ _) | (with_reducible refine Kd.C_drewN ?_ _) | (with_reducible refine Kd.C_drew ?_))); (case side2 => exact (Kd.R_reads' HO_3.out).2.1); rintro e w' ⟨rfl, ⟨nd, rfl⟩⟩; (try first | exact ⟨rfl, _, World.drewN_drewN _ _ _⟩ | exact ⟨rfl, _, Eq.trans (World.drewN_drewN _ _ _) (congrArg (World.drewN _) (Nat.add_assoc _ _ _))⟩))))
     go_loopg [5, 6, 7] k1 (fun kq v5 v6 v7 w' => ∃ (x5_2 : List Int) (x6_2 : Bool) (x7_2 : Int), v6 = .bool x6_2 ∧ v7 = .int .i64 x7_2 ∧ Aside0 (secateurref02_Sorted.l1 kq l0 x3_1 x4_1 x5_2 x6_2 x7_2 = some r) ∧ Aside0 (kq ≤ k1) ∧ Aside0 (Kd.R (Kd.int .i64) 3 w' w.heap.size (fun k_ => some k_ ≠ (v5 : Value).ownBlock) (.slice Ao9 x3_1.length co9) x3_1) ∧ Aside0 (Kd.R (Kd.int .i64) 3 w' w.heap.size (fun k_ => some k_ ≠ ((.slice Ao9 x3_1.length co9) : Value).ownBlock) v5 x5_2) ∧ Aside0 (Below w.heap.size w w'))
     case atStart => exact ⟨(y135), (t139), (0), (by first | rfl | (simp; done) | (simp [*]; done)), (by first | rfl | (simp; done) | (simp [*]; done)), H', ⟨Nat.le_refl _⟩, ⟨by (with_reducible repeat (first | apply Kd.R_alloc | apply Kd.R_drewN | apply Kd.R_drew)); exact Kd.R_mono HO_3.out (fun _ hk => hk.2)⟩, ⟨by (with_reducible repeat (first | apply Kd.R_alloc | apply Kd.R_drewN | apply Kd.R_drew)); exact Kd.R_mono HO137.out (fun _ hk => hk.2)⟩, ⟨by repeat (first | (with_reducible first | exact HB.out | apply below_alloc | apply pw_below_drewN | apply below_drew1) | exact HB.out)⟩⟩
     case round =>
      clear H'
      try clear p1
      try clear q1
      try clear hx1
      try clear p2
      try clear c3
      try clear c4
      try clear c4b0
      try clear c5
      try clear c5b0
      try clear hx138_0
      try clear p138
      try clear p2
      try clear q138
      obtain ⟨x5_2, x6_2, x7_2, rfl, rfl, HA, HK2, HO_3, HO_5, HB⟩ := hrel
      cases gk with
      | zero => exact absurd HA.out (by simp [secateurref02_Sorted.l1])
      | succ k2 =>
       have H := HA.out
       clear HA
       simp only [secateurref02_Sorted.l1] at H
       by_cases c10 : x7_2 < (x3_1.length : Int)
       ·rw [if_pos c10] at H
        have c10b0 : decide (x7_2 < (x3_1.length : Int)) = true := decide_eq_true c10
        clear c10
        by_cases c11 : x6_2 = true
        ·subst c11
         have H1 : (if 0 ≤ x7_2 then (if x5_2.length < 17592186044416 then (secateurref02_Sorted.l1 k2 l0 x3_1 x4_1 (x5_2 ++ [rd x3_1 x7_2]) true (wrap64 (x7_2 + 1))) else (none)) else (none)) = some r := by rw [if_pos rfl] at H; exact H
         clear H
         have H := H1
         clear H1
         by_cases c12 : 0 ≤ x7_2
         ·rw [if_pos c12] at H
          have c12b0 : decide (0 ≤ x7_2) = true := decide_eq_true c12
          clear c12
          by_cases c13 : x5_2.length < 17592186044416
          ·rw [if_pos c13] at H
           have LMc13 := Aside0.mk c13
           clear c13
           obtain ⟨y141, hy141⟩ : ∃ y_ : List Int, y_ = (x5_2 ++ [rd x3_1 x7_2]) := ⟨_, rfl⟩
           replace H : (secateurref02_Sorted.l1 k2 l0 x3_1 x4_1 y141 true (wrap64 (x7_2 + 1))) = some r := by first | (rw [hy141]; with_reducible exact H) | (have H2_ := (Option.bind_some _ _).symm.trans H; rw [hy141]; with_reducible exact H2_) | (have H2_ := (Option.bind_some _ _).symm.trans H; with_reducible exact H2_) | with_reducible exact H | (rw [hy141]; exact H) | exact H
           have Ny141 := Aside0.mk hy141
           clear hy141
           have H' := Aside0.mk H
           clear H
           have p140 : 0 ≤ (x7_2 : Int) := of_decide_eq_true (by first | (with_reducible assumption) | assumption)
           have q140 : x7_2 < (x3_1.length : Int) := of_decide_eq_true (by first | (with_reducible assumption) | assumption)
           obtain ⟨ad140, e140, hx140_0⟩ := Kd.at_int (Kd.R_reads' HO_3.out).2.2 x7_2 p140 q140
           cases e140
           replace p140 := eq_true p140
           replace q140 := eq_true q140
           go_wp2_with (first | ((with_reducible refine gate_builtin (b := .append) (xs := #[.tmp 48, .tmp 53]) rfl ?_); at_builtin; refine Kd.R_append (Kd.int .i64) (w0 := w) w.heap.size rfl (.tmp 48) (.tmp 53) 23 3 (.int .i64 0) 8 rfl Try.underlying23 info3 rfl (by decide) (by omega) u5 x5_2 (rd x3_1 x7_2) [.int .i64 (rd x3_1 x7_2)] (fun k_ => some k_ ≠ (.slice (some ad140) x3_1.length co9 : Value).ownBlock) (fun _ => False) rfl rfl ?aP (fun _ hk => hk.elim) ?aF ?aO ?aB ?aS ?aL ?_; (case aP => exact rfl); (case aB => exact (by repeat (first | (with_reducible first | exact HB.out | apply below_alloc | apply pw_below_drewN | apply below_drew1) | exact HB.out))); (case aF => exact (fun k_ hk => Kd.fresh' (Kd.R_lt (by (with_reducible repeat (first | apply Kd.R_alloc | apply Kd.R_drewN | apply Kd.R_drew)); exact HO_3.out)) k_ hk)); (case aO => exact (by (with_reducible repeat (first | apply Kd.R_alloc | apply Kd.R_drewN | apply Kd.R_drew)); exact HO_5.out)); (case aS => exact (below_size (by repeat (first | (with_reducible first | exact HB.out | apply below_alloc | apply pw_below_drewN | apply below_drew1) | exact HB.out)))); (case aL => have := LMc13.out; omega); intro v142 w14 ho hb hg hat; rw [← Ny141.out] at ho; have n0_ := Aside0.mk (Kd.R_after (ok := (fun _ => True)) (by (with_reducible repeat (first | apply Kd.R_alloc | apply Kd.R_drewN | apply Kd.R_drew)); exact Kd.R_mono HO_3.out (fun _ hk => ⟨trivial, hk⟩)) hg hat); have n1_ := Aside0.mk (hb); have n2_ := Aside0.mk (ho); clear HO_3; clear HB; clear HO_5; have HO_3 := n0_; have HB := n1_; have HO143 := n2_; clear n0_ n1_ n2_; clear ho hb hg hat))
           repeat (go_quiet (first | ((with_reducible refine gate_builtin (b := .append) (xs := #[.tmp 48, .tmp 53]) rfl ?_); at_builtin; refine Kd.R_append (Kd.int .i64) (w0 := w) w.heap.size rfl (.tmp 48) (.tmp 53) 23 3 (.int .i64 0) 8 rfl Try.underlying23 info3 rfl (by decide) (by omega) u5 x5_2 (rd x3_1 x7_2) [.int .i64 (rd x3_1 x7_2)] (fun k_ => some k_ ≠ (.slice (some ad140) x3_1.length co9 : Value).ownBlock) (fun _ => False) rfl rfl ?aP (fun _ hk => hk.elim) ?aF ?aO ?aB ?aS ?aL ?_; (case aP => exact rfl); (case aB => exact (by repeat (first | (with_reducible first | exact HB.out | apply below_alloc | apply pw_below_drewN | apply below_drew1) | exact HB.out))); (case aF => exact (fun k_ hk => Kd.fresh' (Kd.R_lt (by (with_reducible repeat (first | apply Kd.R_alloc | apply Kd.R_drewN | apply Kd.R_drew)); exact HO_3.out)) k_ hk)); (case aO => exact (by (with_reducible repeat (first | apply Kd.R_alloc | apply Kd.R_drewN | apply Kd.R_drew)); exact HO_5.out)); (case aS => exact (below_size (by repeat (first | (with_reducible first | exact HB.out | apply below_alloc | apply pw_below_drewN | apply below_drew1) | exact HB.out)))); (case aL => have := LMc13.out; omega); intro v142 w14 ho hb hg hat; rw [← Ny141.out] at ho; have n0_ := Aside0.mk (Kd.R_after (ok := (fun _ => True)) (by (with_reducible repeat (first | apply Kd.R_alloc | apply Kd.R_drewN | apply Kd.R_drew)); exact Kd.R_mono HO_3.out (fun _ hk => ⟨trivial, hk⟩)) hg hat); have n1_ := Aside0.mk (hb); have n2_ := Aside0.mk (ho); clear HO_3; clear HB; clear HO_5; have HO_3 := n0_; have HB := n1_; have HO143 := n2_; clear n0_ n1_ n2_; clear ho hb hg hat)); try go_wp2_with (first | ((with_reducible refine gate_builtin (b := .append) (xs := #[.tmp 48, .tmp 53]) rfl ?_); at_builtin; refine Kd.R_append (Kd.int .i64) (w0 := w) w.heap.size rfl (.tmp 48) (.tmp 53) 23 3 (.int .i64 0) 8 rfl Try.underlying23 info3 rfl (by decide) (by omega) u5 x5_2 (rd x3_1 x7_2) [.int .i64 (rd x3_1 x7_2)] (fun k_ => some k_ ≠ (.slice (some ad140) x3_1.length co9 : Value).ownBlock) (fun _ => False) rfl rfl ?aP (fun _ hk => hk.elim) ?aF ?aO ?aB ?aS ?aL ?_; (case aP => exact rfl); (case aB => exact (by repeat (first | (with_reducible first | exact HB.out | apply below_alloc | apply pw_below_drewN | apply below_drew1) | exact HB.out))); (case aF => exact (fun k_ hk => Kd.fresh' (Kd.R_lt (by (with_reducible repeat (first | apply Kd.R_alloc | apply Kd.R_drewN | apply Kd.R_drew)); exact HO_3.out)) k_ hk)); (case aO => exact (by (with_reducible repeat (first | apply Kd.R_alloc | apply Kd.R_drewN | apply Kd.R_drew)); exact HO_5.out)); (case aS => exact (below_size (by repeat (first | (with_reducible first | exact HB.out | apply below_alloc | apply pw_below_drewN | apply below_drew1) | exact HB.out)))); (case aL => have := LMc13.out; omega); intro v142 w14 ho hb hg hat; rw [← Ny141.out] at ho; have n0_ := Aside0.mk (Kd.R_after (ok := (fun _ => True)) (by (with_reducible repeat (first | apply Kd.R_alloc | apply Kd.R_drewN | apply Kd.R_drew)); exact Kd.R_mono HO_3.out (fun _ hk => ⟨trivial, hk⟩)) hg hat); have n1_ := Aside0.mk (hb); have n2_ := Aside0.mk (ho); clear HO_3; clear HB; clear HO_5; have HO_3 := n0_; have HB := n1_; have HO143 := n2_; clear n0_ n1_ n2_; clear ho hb hg hat)))
           go_roundg k2
           case measure => have := HK1.out; have := HK2.out; omega
           case rel => exact ⟨(y141), (true), (wrap64 (x7_2 + 1)), (by first | rfl | (simp; done) | (simp [*]; done)), (by first | rfl | (simp; done) | (simp [*]; done)), H', ⟨by have := HK1.out; have := HK2.out; omega⟩, ⟨by (with_reducible repeat (first | apply Kd.R_alloc | apply Kd.R_drewN | apply Kd.R_drew)); exact Kd.R_mono HO_3.out (fun _ hk => hk.2)⟩, ⟨by (with_reducible repeat (first | apply Kd.R_alloc | apply Kd.R_drewN | apply Kd.R_drew)); exact HO143.out⟩, ⟨by repeat (first | (with_reducible first | exact HB.out | apply below_alloc | apply pw_below_drewN | apply below_drew1) | exact HB.out)⟩⟩
          ·rw [if_neg c13] at H
           exact absurd H (by simp)
         ·rw [if_neg c12] at H
          exact absurd H (by simp)
        ·replace c11 := Bool.eq_false_iff.mpr c11
         subst c11
         have H1 : (if 0 ≤ x4_1 then (if x4_1 < (l0.length : Int) then (if 0 ≤ x7_2 then (if (rd l0 x4_1) < (rd x3_1 x7_2) then (if x5_2.length < 17592186044416 then ((some (x5_2 ++ [rd l0 x4_1] : List Int)).bind fun y147 => (if y147.length < 17592186044416 then (secateurref02_Sorted.l1 k2 l0 x3_1 x4_1 (y147 ++ [rd x3_1 x7_2]) true (wrap64 (x7_2 + 1))) else (none))) else (none)) else (if x5_2.length < 17592186044416 then (secateurref02_Sorted.l1 k2 l0 x3_1 x4_1 (x5_2 ++ [rd x3_1 x7_2]) false (wrap64 (x7_2 + 1))) else (none))) else (none)) else (none)) else (none)) = some r := by rw [if_neg (show ¬ (false = true) by decide)] at H; exact H
         clear H
         have H := H1
         clear H1
         by_cases c15 : 0 ≤ x4_1
         ·rw [if_pos c15] at H
          have c15b0 : decide (0 ≤ x4_1) = true := decide_eq_true c15
          clear c15
          by_cases c16 : x4_1 < (l0.length : Int)
          ·rw [if_pos c16] at H
           have c16b0 : decide (x4_1 < (l0.length : Int)) = true := decide_eq_true c16
           clear c16
           by_cases c17 : 0 ≤ x7_2
           ·rw [if_pos c17] at H
            have c17b0 : decide (0 ≤ x7_2) = true := decide_eq_true c17
            clear c17
            by_cases c18 : (rd l0 x4_1) < (rd x3_1 x7_2)
            ·rw [if_pos c18] at H
             have c18b0 : decide ((rd l0 x4_1) < (rd x3_1 x7_2)) = true := decide_eq_true c18
             clear c18
             by_cases c19 : x5_2.length < 17592186044416
             ·rw [if_pos c19] at H
              have LMc19 := Aside0.mk c19
              clear c19
              obtain ⟨y147, hy147⟩ : ∃ y_ : List Int, y_ = (x5_2 ++ [rd l0 x4_1]) := ⟨_, rfl⟩
              replace H : (if y147.length < 17592186044416 then (secateurref02_Sorted.l1 k2 l0 x3_1 x4_1 (y147 ++ [rd x3_1 x7_2]) true (wrap64 (x7_2 + 1))) else (none)) = some r := by first | (rw [hy147]; with_reducible exact H) | (have H2_ := (Option.bind_some _ _).symm.trans H; rw [hy147]; with_reducible exact H2_) | (have H2_ := (Option.bind_some _ _).symm.trans H; with_reducible exact H2_) | with_reducible exact H | (rw [hy147]; exact H) | exact H
              have Ny147 := Aside0.mk hy147
              clear hy147
              by_cases c20 : y147.length < 17592186044416
              ·rw [if_pos c20] at H
               have LMc20 := Aside0.mk c20
               clear c20
               obtain ⟨y151, hy151⟩ : ∃ y_ : List Int, y_ = (y147 ++ [rd x3_1 x7_2]) := ⟨_, rfl⟩
               replace H : (secateurref02_Sorted.l1 k2 l0 x3_1 x4_1 y151 true (wrap64 (x7_2 + 1))) = some r := by first | (rw [hy151]; with_reducible exact H) | (have H2_ := (Option.bind_some _ _).symm.trans H; rw [hy151]; with_reducible exact H2_) | (have H2_ := (Option.bind_some _ _).symm.trans H; with_reducible exact H2_) | with_reducible exact H | (rw [hy151]; exact H) | exact H
               have Ny151 := Aside0.mk hy151
               clear hy151
               have H' := Aside0.mk H
               clear H
               have p144 : 0 ≤ (x4_1 : Int) := of_decide_eq_true (by first | (with_reducible assumption) | assumption)
               have q144 : x4_1 < (l0.length : Int) := of_decide_eq_true (by first | (with_reducible assumption) | assumption)
               obtain ⟨ad144, e144, hx144_0⟩ := Kd.at_int HR0.out x4_1 p144 q144
               obtain rfl : ad138 = ad144 := (by injection e144)
               replace hx144_0 := (HB.out.cell (World.block_lt_of_cell? w _ hx144_0)).trans hx144_0
               replace p144 := eq_true p144
               replace q144 := eq_true q144
               have p145 : 0 ≤ (x7_2 : Int) := of_decide_eq_true (by first | (with_reducible assumption) | assumption)
               have q145 : x7_2 < (x3_1.length : Int) := of_decide_eq_true (by first | (with_reducible assumption) | assumption)
               obtain ⟨ad145, e145, hx145_0⟩ := Kd.at_int (Kd.R_reads' HO_3.out).2.2 x7_2 p145 q145
               cases e145
               replace p145 := eq_true p145
               replace q145 := eq_true q145
               have p146 : 0 ≤ (x4_1 : Int) := of_decide_eq_true (by first | (with_reducible assumption) | assumption)
               have q146 : x4_1 < (l0.length : Int) := of_decide_eq_true (by first | (with_reducible assumption) | assumption)
               obtain ⟨ad146, e146, hx146_0⟩ := Kd.at_int HR0.out x4_1 p146 q146
               obtain rfl : ad138 = ad146 := (by injection e146)
               replace hx146_0 := (HB.out.cell (World.block_lt_of_cell? w _ hx146_0)).trans hx146_0
               replace p146 := eq_true p146
               replace q146 := eq_true q146
               go_wp2_with (first | ((with_reducible refine gate_builtin (b := .append) (xs := #[.tmp 41, .tmp 46]) rfl ?_); at_builtin; refine Kd.R_append (Kd.int .i64) (w0 := w) w.heap.size rfl (.tmp 41) (.tmp 46) 23 3 (.int .i64 0) 8 rfl Try.underlying23 info3 rfl (by decide) (by omega) u5 x5_2 (rd l0 x4_1) [.int .i64 (rd l0 x4_1)] (fun k_ => some k_ ≠ (.slice (some ad145) x3_1.length co9 : Value).ownBlock) (fun _ => False) rfl rfl ?aP (fun _ hk => hk.elim) ?aF ?aO ?aB ?aS ?aL ?_; (case aP => exact rfl); (case aB => exact (by repeat (first | (with_reducible first | exact HB.out | apply below_alloc | apply pw_below_drewN | apply below_drew1) | exact HB.out))); (case aF => exact (fun k_ hk => Kd.fresh' (Kd.R_lt (by (with_reducible repeat (first | apply Kd.R_alloc | apply Kd.R_drewN | apply Kd.R_drew)); exact HO_3.out)) k_ hk)); (case aO => exact (by (with_reducible repeat (first | apply Kd.R_alloc | apply Kd.R_drewN | apply Kd.R_drew)); exact HO_5.out)); (case aS => exact (below_size (by repeat (first | (with_reducible first | exact HB.out | apply below_alloc | apply pw_below_drewN | apply below_drew1) | exact HB.out)))); (case aL => have := LMc19.out; omega); intro v148 w21 ho hb hg hat; rw [← Ny147.out] at ho; have n0_ := Aside0.mk (Kd.R_after (ok := (fun _ => True)) (by (with_reducible repeat (first | apply Kd.R_alloc | apply Kd.R_drewN | apply Kd.R_drew)); exact Kd.R_mono HO_3.out (fun _ hk => ⟨trivial, hk⟩)) hg hat); have n1_ := Aside0.mk (hb); have n2_ := Aside0.mk (ho); clear HO_3; clear HB; clear HO_5; have HO_3 := n0_; have HB := n1_; have HO149 := n2_; clear n0_ n1_ n2_; clear ho hb hg hat; have p150 : 0 ≤ (x7_2 : Int) := of_decide_eq_true (by first | (with_reducible assumption) | assumption); have q150 : x7_2 < (x3_1.length : Int) := of_decide_eq_true (by first | (with_reducible assumption) | assumption); obtain ⟨ad150, e150, hx150_0⟩ := Kd.at_int (Kd.R_reads' HO_3.out).2.2 x7_2 p150 q150; obtain rfl : ad145 = ad150 := (by injection e150); replace p150 := eq_true p150; replace q150 := eq_true q150) | ((with_reducible refine gate_builtin (b := .append) (xs := #[.tmp 48, .tmp 53]) rfl ?_); at_builtin; refine Kd.R_append (Kd.int .i64) (w0 := w) w.heap.size rfl (.tmp 48) (.tmp 53) 23 3 (.int .i64 0) 8 rfl Try.underlying23 info3 rfl (by decide) (by omega) v148 y147 (rd x3_1 x7_2) [.int .i64 (rd x3_1 x7_2)] (fun k_ => some k_ ≠ (.slice (some ad145) x3_1.length co9 : Value).ownBlock) (fun _ => False) rfl rfl ?aP (fun _ hk => hk.elim) ?aF ?aO ?aB ?aS ?aL ?_; (case aP => exact rfl); (case aB => exact (by repeat (first | (with_reducible first | exact HB.out | apply below_alloc | apply pw_below_drewN | apply below_drew1) | exact HB.out))); (case aF => exact (fun k_ hk => Kd.fresh' (Kd.R_lt (by (with_reducible repeat (first | apply Kd.R_alloc | apply Kd.R_drewN | apply Kd.R_drew)); exact HO_3.out)) k_ hk)); (case aO => exact (by (with_reducible repeat (first | apply Kd.R_alloc | apply Kd.R_drewN | apply Kd.R_drew)); exact HO149.out)); (case aS => exact (below_size (by repeat (first | (with_reducible first | exact HB.out | apply below_alloc | apply pw_below_drewN | apply below_drew1) | exact HB.out)))); (case aL => have := LMc20.out; omega); intro v152 w22 ho hb hg hat; rw [← Ny151.out] at ho; have n0_ := Aside0.mk (Kd.R_after (ok := (fun _ => True)) (by (with_reducible repeat (first | apply Kd.R_alloc | apply Kd.R_drewN | apply Kd.R_drew)); exact HO_3.out) hg hat); have n1_ := Aside0.mk (hb); have n2_ := Aside0.mk (ho); clear HO_3; clear HB; clear HO149; have HO_3 := n0_; have HB := n1_; have HO153 := n2_; clear n0_ n1_ n2_; clear ho hb hg hat))
               repeat (go_quiet (first | ((with_reducible refine gate_builtin (b := .append) (xs := #[.tmp 41, .tmp 46]) rfl ?_); at_builtin; refine Kd.R_append (Kd.int .i64) (w0 := w) w.heap.size rfl (.tmp 41) (.tmp 46) 23 3 (.int .i64 0) 8 rfl Try.underlying23 info3 rfl (by decide) (by omega) u5 x5_2 (rd l0 x4_1) [.int .i64 (rd l0 x4_1)] (fun k_ => some k_ ≠ (.slice (some ad145) x3_1.length co9 : Value).ownBlock) (fun _ => False) rfl rfl ?aP (fun _ hk => hk.elim) ?aF ?aO ?aB ?aS ?aL ?_; (case aP => exact rfl); (case aB => exact (by repeat (first | (with_reducible first | exact HB.out | apply below_alloc | apply pw_below_drewN | apply below_drew1) | exact HB.out))); (case aF => exact (fun k_ hk => Kd.fresh' (Kd.R_lt (by (with_reducible repeat (first | apply Kd.R_alloc | apply Kd.R_drewN | apply Kd.R_drew)); exact HO_3.out)) k_ hk)); (case aO => exact (by (with_reducible repeat (first | apply Kd.R_alloc | apply Kd.R_drewN | apply Kd.R_drew)); exact HO_5.out)); (case aS => exact (below_size (by repeat (first | (with_reducible first | exact HB.out | apply below_alloc | apply pw_below_drewN | apply below_drew1) | exact HB.out)))); (case aL => have := LMc19.out; omega); intro v148 w21 ho hb hg hat; rw [← Ny147.out] at ho; have n0_ := Aside0.mk (Kd.R_after (ok := (fun _ => True)) (by (with_reducible repeat (first | apply Kd.R_alloc | apply Kd.R_drewN | apply Kd.R_drew)); exact Kd.R_mono HO_3.out (fun _ hk => ⟨trivial, hk⟩)) hg hat); have n1_ := Aside0.mk (hb); have n2_ := Aside0.mk (ho); clear HO_3; clear HB; clear HO_5; have HO_3 := n0_; have HB := n1_; have HO149 := n2_; clear n0_ n1_ n2_; clear ho hb hg hat; have p150 : 0 ≤ (x7_2 : Int) := of_decide_eq_true (by first | (with_reducible assumption) | assumption); have q150 : x7_2 < (x3_1.length : Int) := of_decide_eq_true (by first | (with_reducible assumption) | assumption); obtain ⟨ad150, e150, hx150_0⟩ := Kd.at_int (Kd.R_reads' HO_3.out).2.2 x7_2 p150 q150; obtain rfl : ad145 = ad150 := (by injection e150); replace p150 := eq_true p150; replace q150 := eq_true q150) | ((with_reducible refine gate_builtin (b := .append) (xs := #[.tmp 48, .tmp 53]) rfl ?_); at_builtin; refine Kd.R_append (Kd.int .i64) (w0 := w) w.heap.size rfl (.tmp 48) (.tmp 53) 23 3 (.int .i64 0) 8 rfl Try.underlying23 info3 rfl (by decide) (by omega) v148 y147 (rd x3_1 x7_2) [.int .i64 (rd x3_1 x7_2)] (fun k_ => some k_ ≠ (.slice (some ad145) x3_1.length co9 : Value).ownBlock) (fun _ => False) rfl rfl ?aP (fun _ hk => hk.elim) ?aF ?aO ?aB ?aS ?aL ?_; (case aP => exact rfl); (case aB => exact (by repeat (first | (with_reducible first | exact HB.out | apply below_alloc | apply pw_below_drewN | apply below_drew1) | exact HB.out))); (case aF => exact (fun k_ hk => Kd.fresh' (Kd.R_lt (by (with_reducible repeat (first | apply Kd.R_alloc | apply Kd.R_drewN | apply Kd.R_drew)); exact HO_3.out)) k_ hk)); (case aO => exact (by (with_reducible repeat (first | apply Kd.R_alloc | apply Kd.R_drewN | apply Kd.R_drew)); exact HO149.out)); (case aS => exact (below_size (by repeat (first | (with_reducible first | exact HB.out | apply below_alloc | apply pw_below_drewN | apply below_drew1) | exact HB.out)))); (case aL => have := LMc20.out; omega); intro v152 w22 ho hb hg hat; rw [← Ny151.out] at ho; have n0_ := Aside0.mk (Kd.R_after (ok := (fun _ => True)) (by (with_reducible repeat (first | apply Kd.R_alloc | apply Kd.R_drewN | apply Kd.R_drew)); exact HO_3.out) hg hat); have n1_ := Aside0.mk (hb); have n2_ := Aside0.mk (ho); clear HO_3; clear HB; clear HO149; have HO_3 := n0_; have HB := n1_; have HO153 := n2_; clear n0_ n1_ n2_; clear ho hb hg hat)); try go_wp2_with (first | ((with_reducible refine gate_builtin (b := .append) (xs := #[.tmp 41, .tmp 46]) rfl ?_); at_builtin; refine Kd.R_append (Kd.int .i64) (w0 := w) w.heap.size rfl (.tmp 41) (.tmp 46) 23 3 (.int .i64 0) 8 rfl Try.underlying23 info3 rfl (by decide) (by omega) u5 x5_2 (rd l0 x4_1) [.int .i64 (rd l0 x4_1)] (fun k_ => some k_ ≠ (.slice (some ad145) x3_1.length co9 : Value).ownBlock) (fun _ => False) rfl rfl ?aP (fun _ hk => hk.elim) ?aF ?aO ?aB ?aS ?aL ?_; (case aP => exact rfl); (case aB => exact (by repeat (first | (with_reducible first | exact HB.out | apply below_alloc | apply pw_below_drewN | apply below_drew1) | exact HB.out))); (case aF => exact (fun k_ hk => Kd.fresh' (Kd.R_lt (by (with_reducible repeat (first | apply Kd.R_alloc | apply Kd.R_drewN | apply Kd.R_drew)); exact HO_3.out)) k_ hk)); (case aO => exact (by (with_reducible repeat (first | apply Kd.R_alloc | apply Kd.R_drewN | apply Kd.R_drew)); exact HO_5.out)); (case aS => exact (below_size (by repeat (first | (with_reducible first | exact HB.out | apply below_alloc | apply pw_below_drewN | apply below_drew1) | exact HB.out)))); (case aL => have := LMc19.out; omega); intro v148 w21 ho hb hg hat; rw [← Ny147.out] at ho; have n0_ := Aside0.mk (Kd.R_after (ok := (fun _ => True)) (by (with_reducible repeat (first | apply Kd.R_alloc | apply Kd.R_drewN | apply Kd.R_drew)); exact Kd.R_mono HO_3.out (fun _ hk => ⟨trivial, hk⟩)) hg hat); have n1_ := Aside0.mk (hb); have n2_ := Aside0.mk (ho); clear HO_3; clear HB; clear HO_5; have HO_3 := n0_; have HB := n1_; have HO149 := n2_; clear n0_ n1_ n2_; clear ho hb hg hat; have p150 : 0 ≤ (x7_2 : Int) := of_decide_eq_true (by first | (with_reducible assumption) | assumption); have q150 : x7_2 < (x3_1.length : Int) := of_decide_eq_true (by first | (with_reducible assumption) | assumption); obtain ⟨ad150, e150, hx150_0⟩ := Kd.at_int (Kd.R_reads' HO_3.out).2.2 x7_2 p150 q150; obtain rfl : ad145 = ad150 := (by injection e150); replace p150 := eq_true p150; replace q150 := eq_true q150) | ((with_reducible refine gate_builtin (b := .append) (xs := #[.tmp 48, .tmp 53]) rfl ?_); at_builtin; refine Kd.R_append (Kd.int .i64) (w0 := w) w.heap.size rfl (.tmp 48) (.tmp 53) 23 3 (.int .i64 0) 8 rfl Try.underlying23 info3 rfl (by decide) (by omega) v148 y147 (rd x3_1 x7_2) [.int .i64 (rd x3_1 x7_2)] (fun k_ => some k_ ≠ (.slice (some ad145) x3_1.length co9 : Value).ownBlock) (fun _ => False) rfl rfl ?aP (fun _ hk => hk.elim) ?aF ?aO ?aB ?aS ?aL ?_; (case aP => exact rfl); (case aB => exact (by repeat (first | (with_reducible first | exact HB.out | apply below_alloc | apply pw_below_drewN | apply below_drew1) | exact HB.out))); (case aF => exact (fun k_ hk => Kd.fresh' (Kd.R_lt (by (with_reducible repeat (first | apply Kd.R_alloc | apply Kd.R_drewN | apply Kd.R_drew)); exact HO_3.out)) k_ hk)); (case aO => exact (by (with_reducible repeat (first | apply Kd.R_alloc | apply Kd.R_drewN | apply Kd.R_drew)); exact HO149.out)); (case aS => exact (below_size (by repeat (first | (with_reducible first | exact HB.out | apply below_alloc | apply pw_below_drewN | apply below_drew1) | exact HB.out)))); (case aL => have := LMc20.out; omega); intro v152 w22 ho hb hg hat; rw [← Ny151.out] at ho; have n0_ := Aside0.mk (Kd.R_after (ok := (fun _ => True)) (by (with_reducible repeat (first | apply Kd.R_alloc | apply Kd.R_drewN | apply Kd.R_drew)); exact HO_3.out) hg hat); have n1_ := Aside0.mk (hb); have n2_ := Aside0.mk (ho); clear HO_3; clear HB; clear HO149; have HO_3 := n0_; have HB := n1_; have HO153 := n2_; clear n0_ n1_ n2_; clear ho hb hg hat)))
               go_roundg k2
               case measure => have := HK1.out; have := HK2.out; omega
               case rel => exact ⟨(y151), (true), (wrap64 (x7_2 + 1)), (by first | rfl | (simp; done) | (simp [*]; done)), (by first | rfl | (simp; done) | (simp [*]; done)), H', ⟨by have := HK1.out; have := HK2.out; omega⟩, ⟨by (with_reducible repeat (first | apply Kd.R_alloc | apply Kd.R_drewN | apply Kd.R_drew)); exact Kd.R_mono HO_3.out (fun _ hk => hk.2)⟩, ⟨by (with_reducible repeat (first | apply Kd.R_alloc | apply Kd.R_drewN | apply Kd.R_drew)); exact HO153.out⟩, ⟨by repeat (first | (with_reducible first | exact HB.out | apply below_alloc | apply pw_below_drewN | apply below_drew1) | exact HB.out)⟩⟩
              ·rw [if_neg c20] at H
               exact absurd H (by simp)
             ·rw [if_neg c19] at H
              exact absurd H (by simp)
            ·rw [if_neg c18] at H
             have c18b0 : decide ((rd l0 x4_1) < (rd x3_1 x7_2)) = false := decide_eq_false c18
             clear c18
             by_cases c23 : x5_2.length < 17592186044416
             ·rw [if_pos c23] at H
              have LMc23 := Aside0.mk c23
              clear c23
              obtain ⟨y155, hy155⟩ : ∃ y_ : List Int, y_ = (x5_2 ++ [rd x3_1 x7_2]) := ⟨_, rfl⟩
              replace H : (secateurref02_Sorted.l1 k2 l0 x3_1 x4_1 y155 false (wrap64 (x7_2 + 1))) = some r := by first | (rw [hy155]; with_reducible exact H) | (have H2_ := (Option.bind_some _ _).symm.trans H; rw [hy155]; with_reducible exact H2_) | (have H2_ := (Option.bind_some _ _).symm.trans H; with_reducible exact H2_) | with_reducible exact H | (rw [hy155]; exact H) | exact H
              have Ny155 := Aside0.mk hy155
              clear hy155
              have H' := Aside0.mk H
              clear H
              have p144 : 0 ≤ (x4_1 : Int) := of_decide_eq_true (by first | (with_reducible assumption) | assumption)
              have q144 : x4_1 < (l0.length : Int) := of_decide_eq_true (by first | (with_reducible assumption) | assumption)
              obtain ⟨ad144, e144, hx144_0⟩ := Kd.at_int HR0.out x4_1 p144 q144
              obtain rfl : ad138 = ad144 := (by injection e144)
              replace hx144_0 := (HB.out.cell (World.block_lt_of_cell? w _ hx144_0)).trans hx144_0
              replace p144 := eq_true p144
              replace q144 := eq_true q144
              have p145 : 0 ≤ (x7_2 : Int) := of_decide_eq_true (by first | (with_reducible assumption) | assumption)
              have q145 : x7_2 < (x3_1.length : Int) := of_decide_eq_true (by first | (with_reducible assumption) | assumption)
              obtain ⟨ad145, e145, hx145_0⟩ := Kd.at_int (Kd.R_reads' HO_3.out).2.2 x7_2 p145 q145
              cases e145
              replace p145 := eq_true p145
              replace q145 := eq_true q145
              have p154 : 0 ≤ (x7_2 : Int) := of_decide_eq_true (by first | (with_reducible assumption) | assumption)
              have q154 : x7_2 < (x3_1.length : Int) := of_decide_eq_true (by first | (with_reducible assumption) | assumption)
              obtain ⟨ad154, e154, hx154_0⟩ := Kd.at_int (Kd.R_reads' HO_3.out).2.2 x7_2 p154 q154
              obtain rfl : ad145 = ad154 := (by injection e154)
              replace p154 := eq_true p154
              replace q154 := eq_true q154
              go_wp2_with (first | ((with_reducible refine gate_builtin (b := .append) (xs := #[.tmp 48, .tmp 53]) rfl ?_); at_builtin; refine Kd.R_append (Kd.int .i64) (w0 := w) w.heap.size rfl (.tmp 48) (.tmp 53) 23 3 (.int .i64 0) 8 rfl Try.underlying23 info3 rfl (by decide) (by omega) u5 x5_2 (rd x3_1 x7_2) [.int .i64 (rd x3_1 x7_2)] (fun k_ => some k_ ≠ (.slice (some ad145) x3_1.length co9 : Value).ownBlock) (fun _ => False) rfl rfl ?aP (fun _ hk => hk.elim) ?aF ?aO ?aB ?aS ?aL ?_; (case aP => exact rfl); (case aB => exact (by repeat (first | (with_reducible first | exact HB.out | apply below_alloc | apply pw_below_drewN | apply below_drew1) | exact HB.out))); (case aF => exact (fun k_ hk => Kd.fresh' (Kd.R_lt (by (with_reducible repeat (first | apply Kd.R_alloc | apply Kd.R_drewN | apply Kd.R_drew)); exact HO_3.out)) k_ hk)); (case aO => exact (by (with_reducible repeat (first | apply Kd.R_alloc | apply Kd.R_drewN | apply Kd.R_drew)); exact HO_5.out)); (case aS => exact (below_size (by repeat (first | (with_reducible first | exact HB.out | apply below_alloc | apply pw_below_drewN | apply below_drew1) | exact HB.out)))); (case aL => have := LMc23.out; omega); intro v156 w24 ho hb hg hat; rw [← Ny155.out] at ho; have n0_ := Aside0.mk (Kd.R_after (ok := (fun _ => True)) (by (with_reducible repeat (first | apply Kd.R_alloc | apply Kd.R_drewN | apply Kd.R_drew)); exact Kd.R_mono HO_3.out (fun _ hk => ⟨trivial, hk⟩)) hg hat); have n1_ := Aside0.mk (hb); have n2_ := Aside0.mk (ho); clear HO_3; clear HB; clear HO_5; have HO_3 := n0_; have HB := n1_; have HO157 := n2_; clear n0_ n1_ n2_; clear ho hb hg hat))
              repeat (go_quiet (first | ((with_reducible refine gate_builtin (b := .append) (xs := #[.tmp 48, .tmp 53]) rfl ?_); at_builtin; refine Kd.R_append (Kd.int .i64) (w0 := w) w.heap.size rfl (.tmp 48) (.tmp 53) 23 3 (.int .i64 0) 8 rfl Try.underlying23 info3 rfl (by decide) (by omega) u5 x5_2 (rd x3_1 x7_2) [.int .i64 (rd x3_1 x7_2)] (fun k_ => some k_ ≠ (.slice (some ad145) x3_1.length co9 : Value).ownBlock) (fun _ => False) rfl rfl ?aP (fun _ hk => hk.elim) ?aF ?aO ?aB ?aS ?aL ?_; (case aP => exact rfl); (case aB => exact (by repeat (first | (with_reducible first | exact HB.out | apply below_alloc | apply pw_below_drewN | apply below_drew1) | exact HB.out))); (case aF => exact (fun k_ hk => Kd.fresh' (Kd.R_lt (by (with_reducible repeat (first | apply Kd.R_alloc | apply Kd.R_drewN | apply Kd.R_drew)); exact HO_3.out)) k_ hk)); (case aO => exact (by (with_reducible repeat (first | apply Kd.R_alloc | apply Kd.R_drewN | apply Kd.R_drew)); exact HO_5.out)); (case aS => exact (below_size (by repeat (first | (with_reducible first | exact HB.out | apply below_alloc | apply pw_below_drewN | apply below_drew1) | exact HB.out)))); (case aL => have := LMc23.out; omega); intro v156 w24 ho hb hg hat; rw [← Ny155.out] at ho; have n0_ := Aside0.mk (Kd.R_after (ok := (fun _ => True)) (by (with_reducible repeat (first | apply Kd.R_alloc | apply Kd.R_drewN | apply Kd.R_drew)); exact Kd.R_mono HO_3.out (fun _ hk => ⟨trivial, hk⟩)) hg hat); have n1_ := Aside0.mk (hb); have n2_ := Aside0.mk (ho); clear HO_3; clear HB; clear HO_5; have HO_3 := n0_; have HB := n1_; have HO157 := n2_; clear n0_ n1_ n2_; clear ho hb hg hat)); try go_wp2_with (first | ((with_reducible refine gate_builtin (b := .append) (xs := #[.tmp 48, .tmp 53]) rfl ?_); at_builtin; refine Kd.R_append (Kd.int .i64) (w0 := w) w.heap.size rfl (.tmp 48) (.tmp 53) 23 3 (.int .i64 0) 8 rfl Try.underlying23 info3 rfl (by decide) (by omega) u5 x5_2 (rd x3_1 x7_2) [.int .i64 (rd x3_1 x7_2)] (fun k_ => some k_ ≠ (.slice (some ad145) x3_1.length co9 : Value).ownBlock) (fun _ => False) rfl rfl ?aP (fun _ hk => hk.elim) ?aF ?aO ?aB ?aS ?aL ?_; (case aP => exact rfl); (case aB => exact (by repeat (first | (with_reducible first | exact HB.out | apply below_alloc | apply pw_below_drewN | apply below_drew1) | exact HB.out))); (case aF => exact (fun k_ hk => Kd.fresh' (Kd.R_lt (by (with_reducible repeat (first | apply Kd.R_alloc | apply Kd.R_drewN | apply Kd.R_drew)); exact HO_3.out)) k_ hk)); (case aO => exact (by (with_reducible repeat (first | apply Kd.R_alloc | apply Kd.R_drewN | apply Kd.R_drew)); exact HO_5.out)); (case aS => exact (below_size (by repeat (first | (with_reducible first | exact HB.out | apply below_alloc | apply pw_below_drewN | apply below_drew1) | exact HB.out)))); (case aL => have := LMc23.out; omega); intro v156 w24 ho hb hg hat; rw [← Ny155.out] at ho; have n0_ := Aside0.mk (Kd.R_after (ok := (fun _ => True)) (by (with_reducible repeat (first | apply Kd.R_alloc | apply Kd.R_drewN | apply Kd.R_drew)); exact Kd.R_mono HO_3.out (fun _ hk => ⟨trivial, hk⟩)) hg hat); have n1_ := Aside0.mk (hb); have n2_ := Aside0.mk (ho); clear HO_3; clear HB; clear HO_5; have HO_3 := n0_; have HB := n1_; have HO157 := n2_; clear n0_ n1_ n2_; clear ho hb hg hat)))
              go_roundg k2
              case measure => have := HK1.out; have := HK2.out; omega
              case rel => exact ⟨(y155), (false), (wrap64 (x7_2 + 1)), (by first | rfl | (simp; done) | (simp [*]; done)), (by first | rfl | (simp; done) | (simp [*]; done)), H', ⟨by have := HK1.out; have := HK2.out; omega⟩, ⟨by (with_reducible repeat (first | apply Kd.R_alloc | apply Kd.R_drewN | apply Kd.R_drew)); exact Kd.R_mono HO_3.out (fun _ hk => hk.2)⟩, ⟨by (with_reducible repeat (first | apply Kd.R_alloc | apply Kd.R_drewN | apply Kd.R_drew)); exact HO157.out⟩, ⟨by repeat (first | (with_reducible first | exact HB.out | apply below_alloc | apply pw_below_drewN | apply below_drew1) | exact HB.out)⟩⟩
             ·rw [if_neg c23] at H
              exact absurd H (by simp)
           ·rw [if_neg c17] at H
            exact absurd H (by simp)
          ·rw [if_neg c16] at H
           exact absurd H (by simp)
         ·rw [if_neg c15] at H
          exact absurd H (by simp)
       ·rw [if_neg c10] at H
        have c10b0 : decide (x7_2 < (x3_1.length : Int)) = false := decide_eq_false c10
        clear c10
        by_cases c25 : x6_2 = true
        ·subst c25
         have H1 : (secateurref02_Sorted.l0 k2 l0 x5_2 (wrap64 (x4_1 + 1))) = some r := by rw [if_pos rfl] at H; exact H
         clear H
         have H := H1
         clear H1
         have H' := Aside0.mk H
         clear H
         go_wp2
         repeat (go_quiet (fail); try go_wp2)
         go_roundg k2
         case measure => have := HK1.out; have := HK2.out; omega
         case rel => exact ⟨(x5_2), (wrap64 (x4_1 + 1)), (by first | rfl | (simp; done) | (simp [*]; done)), H', ⟨by have := HK1.out; have := HK2.out; omega⟩, ⟨by (with_reducible repeat (first | apply Kd.R_alloc | apply Kd.R_drewN | apply Kd.R_drew)); exact Kd.R_mono HO_5.out (fun _ hk => trivial)⟩, ⟨by repeat (first | (with_reducible first | exact HB.out | apply below_alloc | apply pw_below_drewN | apply below_drew1) | exact HB.out)⟩⟩
        ·replace c25 := Bool.eq_false_iff.mpr c25
         subst c25
         have H1 : (if 0 ≤ x4_1 then (if x4_1 < (l0.length : Int) then (if x5_2.length < 17592186044416 then (secateurref02_Sorted.l0 k2 l0 (x5_2 ++ [rd l0 x4_1]) (wrap64 (x4_1 + 1))) else (none)) else (none)) else (none)) = some r := by rw [if_neg (show ¬ (false = true) by decide)] at H; exact H
         clear H
         have H := H1
         clear H1
         by_cases c26 : 0 ≤ x4_1
         ·rw [if_pos c26] at H
          have c26b0 : decide (0 ≤ x4_1) = true := decide_eq_true c26
          clear c26
          by_cases c27 : x4_1 < (l0.length : Int)
          ·rw [if_pos c27] at H
           have c27b0 : decide (x4_1 < (l0.length : Int)) = true := decide_eq_true c27
           clear c27
           by_cases c28 : x5_2.length < 17592186044416
           ·rw [if_pos c28] at H
            have LMc28 := Aside0.mk c28
            clear c28
            obtain ⟨y159, hy159⟩ : ∃ y_ : List Int, y_ = (x5_2 ++ [rd l0 x4_1]) := ⟨_, rfl⟩
            replace H : (secateurref02_Sorted.l0 k2 l0 y159 (wrap64 (x4_1 + 1))) = some r := by first | (rw [hy159]; with_reducible exact H) | (have H2_ := (Option.bind_some _ _).symm.trans H; rw [hy159]; with_reducible exact H2_) | (have H2_ := (Option.bind_some _ _).symm.trans H; with_reducible exact H2_) | with_reducible exact H | (rw [hy159]; exact H) | exact H
            have Ny159 := Aside0.mk hy159
            clear hy159
            have H' := Aside0.mk H
            clear H
            have p158 : 0 ≤ (x4_1 : Int) := of_decide_eq_true (by first | (with_reducible assumption) | assumption)
            have q158 : x4_1 < (l0.length : Int) := of_decide_eq_true (by first | (with_reducible assumption) | assumption)
            obtain ⟨ad158, e158, hx158_0⟩ := Kd.at_int HR0.out x4_1 p158 q158
            obtain rfl : ad138 = ad158 := (by injection e158)
            replace hx158_0 := (HB.out.cell (World.block_lt_of_cell? w _ hx158_0)).trans hx158_0
            replace p158 := eq_true p158
            replace q158 := eq_true q158
            go_wp2_with (first | ((with_reducible refine gate_builtin (b := .append) (xs := #[.tmp 57, .tmp 62]) rfl ?_); at_builtin; refine Kd.R_append (Kd.int .i64) (w0 := w) w.heap.size rfl (.tmp 57) (.tmp 62) 23 3 (.int .i64 0) 8 rfl Try.underlying23 info3 rfl (by decide) (by omega) u5 x5_2 (rd l0 x4_1) [.int .i64 (rd l0 x4_1)] (fun k_ => some k_ ≠ (.slice Ao9 x3_1.length co9 : Value).ownBlock) (fun _ => False) rfl rfl ?aP (fun _ hk => hk.elim) ?aF ?aO ?aB ?aS ?aL ?_; (case aP => exact rfl); (case aB => exact (by repeat (first | (with_reducible first | exact HB.out | apply below_alloc | apply pw_below_drewN | apply below_drew1) | exact HB.out))); (case aF => exact (fun k_ hk => Kd.fresh' (Kd.R_lt (by (with_reducible repeat (first | apply Kd.R_alloc | apply Kd.R_drewN | apply Kd.R_drew)); exact HO_3.out)) k_ hk)); (case aO => exact (by (with_reducible repeat (first | apply Kd.R_alloc | apply Kd.R_drewN | apply Kd.R_drew)); exact HO_5.out)); (case aS => exact (below_size (by repeat (first | (with_reducible first | exact HB.out | apply below_alloc | apply pw_below_drewN | apply below_drew1) | exact HB.out)))); (case aL => have := LMc28.out; omega); intro v160 w29 ho hb hg hat; rw [← Ny159.out] at ho; have n0_ := Aside0.mk (Kd.R_after (ok := (fun _ => True)) (by (with_reducible repeat (first | apply Kd.R_alloc | apply Kd.R_drewN | apply Kd.R_drew)); exact Kd.R_mono HO_3.out (fun _ hk => ⟨trivial, hk⟩)) hg hat); have n1_ := Aside0.mk (hb); have n2_ := Aside0.mk (ho); clear HO_3; clear HB; clear HO_5; have HO_3 := n0_; have HB := n1_; have HO161 := n2_; clear n0_ n1_ n2_; clear ho hb hg hat))
            repeat (go_quiet (first | ((with_reducible refine gate_builtin (b := .append) (xs := #[.tmp 57, .tmp 62]) rfl ?_); at_builtin; refine Kd.R_append (Kd.int .i64) (w0 := w) w.heap.size rfl (.tmp 57) (.tmp 62) 23 3 (.int .i64 0) 8 rfl Try.underlying23 info3 rfl (by decide) (by omega) u5 x5_2 (rd l0 x4_1) [.int .i64 (rd l0 x4_1)] (fun k_ => some k_ ≠ (.slice Ao9 x3_1.length co9 : Value).ownBlock) (fun _ => False) rfl rfl ?aP (fun _ hk => hk.elim) ?aF ?aO ?aB ?aS ?aL ?_; (case aP => exact rfl); (case aB => exact (by repeat (first | (with_reducible first | exact HB.out | apply below_alloc | apply pw_below_drewN | apply below_drew1) | exact HB.out))); (case aF => exact (fun k_ hk => Kd.fresh' (Kd.R_lt (by (with_reducible repeat (first | apply Kd.R_alloc | apply Kd.R_drewN | apply Kd.R_drew)); exact HO_3.out)) k_ hk)); (case aO => exact (by (with_reducible repeat (first | apply Kd.R_alloc | apply Kd.R_drewN | apply Kd.R_drew)); exact HO_5.out)); (case aS => exact (below_size (by repeat (first | (with_reducible first | exact HB.out | apply below_alloc | apply pw_below_drewN | apply below_drew1) | exact HB.out)))); (case aL => have := LMc28.out; omega); intro v160 w29 ho hb hg hat; rw [← Ny159.out] at ho; have n0_ := Aside0.mk (Kd.R_after (ok := (fun _ => True)) (by (with_reducible repeat (first | apply Kd.R_alloc | apply Kd.R_drewN | apply Kd.R_drew)); exact Kd.R_mono HO_3.out (fun _ hk => ⟨trivial, hk⟩)) hg hat); have n1_ := Aside0.mk (hb); have n2_ := Aside0.mk (ho); clear HO_3; clear HB; clear HO_5; have HO_3 := n0_; have HB := n1_; have HO161 := n2_; clear n0_ n1_ n2_; clear ho hb hg hat)); try go_wp2_with (first | ((with_reducible refine gate_builtin (b := .append) (xs := #[.tmp 57, .tmp 62]) rfl ?_); at_builtin; refine Kd.R_append (Kd.int .i64) (w0 := w) w.heap.size rfl (.tmp 57) (.tmp 62) 23 3 (.int .i64 0) 8 rfl Try.underlying23 info3 rfl (by decide) (by omega) u5 x5_2 (rd l0 x4_1) [.int .i64 (rd l0 x4_1)] (fun k_ => some k_ ≠ (.slice Ao9 x3_1.length co9 : Value).ownBlock) (fun _ => False) rfl rfl ?aP (fun _ hk => hk.elim) ?aF ?aO ?aB ?aS ?aL ?_; (case aP => exact rfl); (case aB => exact (by repeat (first | (with_reducible first | exact HB.out | apply below_alloc | apply pw_below_drewN | apply below_drew1) | exact HB.out))); (case aF => exact (fun k_ hk => Kd.fresh' (Kd.R_lt (by (with_reducible repeat (first | apply Kd.R_alloc | apply Kd.R_drewN | apply Kd.R_drew)); exact HO_3.out)) k_ hk)); (case aO => exact (by (with_reducible repeat (first | apply Kd.R_alloc | apply Kd.R_drewN | apply Kd.R_drew)); exact HO_5.out)); (case aS => exact (below_size (by repeat (first | (with_reducible first | exact HB.out | apply below_alloc | apply pw_below_drewN | apply below_drew1) | exact HB.out)))); (case aL => have := LMc28.out; omega); intro v160 w29 ho hb hg hat; rw [← Ny159.out] at ho; have n0_ := Aside0.mk (Kd.R_after (ok := (fun _ => True)) (by (with_reducible repeat (first | apply Kd.R_alloc | apply Kd.R_drewN | apply Kd.R_drew)); exact Kd.R_mono HO_3.out (fun _ hk => ⟨trivial, hk⟩)) hg hat); have n1_ := Aside0.mk (hb); have n2_ := Aside0.mk (ho); clear HO_3; clear HB; clear HO_5; have HO_3 := n0_; have HB := n1_; have HO161 := n2_; clear n0_ n1_ n2_; clear ho hb hg hat)))
            go_roundg k2
            case measure => have := HK1.out; have := HK2.out; omega
            case rel => exact ⟨(y159), (wrap64 (x4_1 + 1)), (by first | rfl | (simp; done) | (simp [*]; done)), H', ⟨by have := HK1.out; have := HK2.out; omega⟩, ⟨by (with_reducible repeat (first | apply Kd.R_alloc | apply Kd.R_drewN | apply Kd.R_drew)); exact Kd.R_mono HO161.out (fun _ hk => trivial)⟩, ⟨by repeat (first | (with_reducible first | exact HB.out | apply below_alloc | apply pw_below_drewN | apply below_drew1) | exact HB.out)⟩⟩
           ·rw [if_neg c28] at H
            exact absurd H (by simp)
          ·rw [if_neg c27] at H
           exact absurd H (by simp)
         ·rw [if_neg c26] at H
          exact absurd H (by simp)
    ·rw [if_neg c5] at H
     exact absurd H (by simp)
   ·rw [if_neg c4] at H
    have c4b0 : decide (x4_1 < (l0.length : Int)) = false := decide_eq_false c4
    clear c4
    obtain rfl := Option.some.inj H
    go_wp2
    repeat (go_quiet (fail); try go_wp2)
    go_ret
    exact ⟨_, by first | rfl | (simp [errW_none, errW_some] <;> rfl) | (simp [*, errW_none, errW_some] <;> rfl), by (with_reducible repeat (first | apply Kd.R_alloc | apply Kd.R_drewN | apply Kd.R_drew)); exact HO_3.out, by repeat (first | (with_reducible first | exact HB.out | apply below_alloc | apply pw_below_drewN | apply below_drew1) | exact HB.out)⟩

end Go.Proofs.Ytpbcigilipdedaa.P

-- Written by wip/tools/px.py out of the translation. Lean checks it.
namespace Go.Proofs.Ytpbcigilipdedaa.P
open Go.RowKit Go.Proofs.YtpbcigilipdedaaW.PrintWords Go.Proofs.YtpbcigilipdedaaW.PrintLast Go.Proofs.YtpbcigilipdedaaW.PrintMore
attribute [local go_sem] max2_int min2_int max_two min_two max_three min_three max_four min_four   -- for this text's walks alone
set_option linter.unusedVariables false
set_option linter.unusedSimpArgs false

/-! ### secateurref02_Pack: function 58 -/
def secateurref02_Pack.l0 : Nat → List Int → List (S41) → Int → Int → Option ((List (S41)))
 | 0, _, _, _, _ => none
 | k + 1, x0, x3, x4, x5 => if x5 < (x0.length : Int) then (if (wrap64 (x5 + 1)) = (x0.length : Int) then (if 0 ≤ x4 then (if x4 < (x0.length : Int) then (if 0 ≤ x5 then (if x3.length < 8796093022208 then (secateurref02_Pack.l0 k x0 (x3 ++ [(⟨rd x0 x4, rd x0 x5⟩ : S41)]) (wrap64 (x5 + 1)) (wrap64 (x5 + 1))) else (none)) else (none)) else (none)) else (none)) else (if 0 ≤ (wrap64 (x5 + 1)) then (if (wrap64 (x5 + 1)) < (x0.length : Int) then (if 0 ≤ x5 then (if (rd x0 (wrap64 (x5 + 1))) = (wrap64 ((rd x0 x5) + 1)) then (secateurref02_Pack.l0 k x0 x3 x4 (wrap64 (x5 + 1))) else (if 0 ≤ x4 then (if x4 < (x0.length : Int) then (if x3.length < 8796093022208 then (secateurref02_Pack.l0 k x0 (x3 ++ [(⟨rd x0 x4, rd x0 x5⟩ : S41)]) (wrap64 (x5 + 1)) (wrap64 (x5 + 1))) else (none)) else (none)) else (none))) else (none)) else (none)) else (none))) else (some x3)
def secateurref02_Pack.f (k : Nat) (l0 : List Int) : Option ((List (S41))) := secateurref02_Pack.l0 k l0 (([] : List (S41))) 0 0
theorem secateurref02_Pack.mono_l : ∀ k, (∀ y0 y1 y2 y3, LeO (secateurref02_Pack.l0 k y0 y1 y2 y3) (secateurref02_Pack.l0 (k + 1) y0 y1 y2 y3))
 | 0 => fun _ _ _ _ r h => by simp [secateurref02_Pack.l0] at h
 | k + 1 => by
  have ih0 := secateurref02_Pack.mono_l k
  ·intro y0 y1 y2 y3
   unfold secateurref02_Pack.l0
   repeat' first
   | (with_reducible exact ih0 _ _ _ _)
   | (with_reducible exact LeO.refl _)
   | (with_reducible exact LeO.none _)
   | (with_reducible refine LeO.ite ?_ ?_)
   | (with_reducible refine LeO.bind ?_ (fun _ => ?_))
   | exact ih0 _ _ _ _
   | exact LeO.none _
   | refine LeO.ite ?_ ?_
   | refine LeO.bind ?_ (fun _ => ?_)
theorem secateurref02_Pack.mono : ∀ a0 k, LeO (secateurref02_Pack.f k a0) (secateurref02_Pack.f (k + 1) a0) := by
 intro a0 k
 have ih0 := secateurref02_Pack.mono_l k
 unfold secateurref02_Pack.f
 repeat' first
   | (with_reducible exact ih0 _ _ _ _)
   | (with_reducible exact LeO.refl _)
   | (with_reducible exact LeO.none _)
   | (with_reducible refine LeO.ite ?_ ?_)
   | (with_reducible refine LeO.bind ?_ (fun _ => ?_))
   | exact ih0 _ _ _ _
   | exact LeO.none _
   | refine LeO.ite ?_ ?_
   | refine LeO.bind ?_ (fun _ => ?_)
def secateurref02_Pack.T5 : Bool × List (List Nat × List Nat) := (true, [([], []), ([0], [0]), ([], []), ([2], [2]), ([1, 3], [1, 3]), ([4], [4]), ([5], [5]), ([5], [5]), ([7, 5], [5, 7]), ([6, 8, 5], [5, 6, 8]), ([9, 5], [5, 9]), ([5], [5]), ([5], [5]), ([11, 12, 5], [5, 11, 12]), ([13, 5], [5, 13]), ([14, 5], [5, 14]), ([10, 15, 5], [5, 10, 15]), ([5, 16], [5, 16])])
def secateurref02_Pack.B5 : List Nat := [0, 1, 0, 4, 15, 31, 63, 63, 191, 511, 1023, 63, 63, 6207, 14399, 30783, 65535, 131071]
theorem secateurref02_Pack.tab5 : rtab .any (opsOf Try.f58 5) = secateurref02_Pack.T5 := by kernel_rfl
theorem secateurref02_Pack.bits5 : waitsOk secateurref02_Pack.T5.2 secateurref02_Pack.B5 = true := by kernel_rfl
def secateurref02_Pack.T6 : Bool × List (List Nat × List Nat) := (true, [([], []), ([], []), ([], []), ([1, 2], [1, 2]), ([3], [3]), ([], []), ([], []), ([5, 6], [5, 6]), ([7], [7]), ([4, 8], [4, 8]), ([9], [9]), ([0, 10], [0, 10]), ([11, 11, 0, 1, 2, 3, 4, 5, 6, 7, 8, 9, 10, 11], [0, 11])])
def secateurref02_Pack.B6 : List Nat := [0, 0, 0, 6, 14, 0, 0, 96, 224, 510, 1022, 2047, 4095]
theorem secateurref02_Pack.tab6 : rtab .any (opsOf Try.f58 6) = secateurref02_Pack.T6 := by kernel_rfl
theorem secateurref02_Pack.bits6 : waitsOk secateurref02_Pack.T6.2 secateurref02_Pack.B6 = true := by kernel_rfl
set_option maxHeartbeats 8000000 in
set_option maxRecDepth 100000 in
theorem secateurref02_Pack.calls (k : Nat) (A0 : Option Addr) (c0 : Nat) (l0 : List Int) (r : List (S41)) (w : World) (hr0 : Kd.C (Kd.int .i64) w A0 l0.length l0) (hc0 : l0.length ≤ c0) (h : secateurref02_Pack.f k l0 = some r) :
  Calls Try.prog 58 #[.slice A0 l0.length c0] w fun e w' => ∃ v0_ : Value, e = .returned (v0_) ∧ Kd.R k41 41 w' w.heap.size (fun _ => True) v0_ r ∧ Below w.heap.size w w' := by
 have hu41 := Try.underlying41
 have HR0 := Aside0.mk hr0
 have HC0 := Aside0.mk hc0
 clear hr0 hc0
 have HB := Aside0.mk (Below.refl w.heap.size w)
 have H : (secateurref02_Pack.l0 k l0 (([] : List (S41))) 0 0) = some r := h
 clear h
 obtain ⟨y162, hy162⟩ : ∃ y_ : List (S41), y_ = (([] : List (S41))) := ⟨_, rfl⟩
 replace H : (secateurref02_Pack.l0 k l0 y162 0 0) = some r := by first | (rw [hy162]; with_reducible exact H) | (have H2_ := (Option.bind_some _ _).symm.trans H; rw [hy162]; with_reducible exact H2_) | (have H2_ := (Option.bind_some _ _).symm.trans H; with_reducible exact H2_) | with_reducible exact H | (rw [hy162]; exact H) | exact H
 have Ny162 := Aside0.mk hy162
 clear hy162
 have H' := Aside0.mk H
 clear H
 go_enter Try.func58, Try.ntmps58
 go_wp2_with (first | ((with_reducible refine gate_dst (N := 6) rfl ?_); refine Kd.R_lit k41 _ 41 ?hg (N := 6) ?hd (xs := ([] : List (S41))) (inner := []) (ok := fun _ => True) (okp := fun _ => True) ?hr ?hp (fun _ hk => hk) trivial (Below.refl _ _) (Nat.le_refl _) (by simp) ?_; (case hd => rfl); (case hg => rfl); (case hr => first | (go_simp; done) | (go_simp; rfl)); (case hp => exact (Reps.none _ _)); intro v163 w2 ho3 hb hg_ hnew_; clear hg_ hnew_; (first | rw [← Ny162.out] at ho3 | (simp only [Int.reduceToNat] at ho3; rw [← Ny162.out] at ho3)); have n0_ := Aside0.mk (Kd.R_lower ho3 (below_size (by repeat (first | (with_reducible first | exact HB.out | apply below_alloc | apply pw_below_drewN | apply below_drew1) | exact HB.out)))); have n1_ := Aside0.mk (below_step (by repeat (first | (with_reducible first | exact HB.out | apply below_alloc | apply pw_below_drewN | apply below_drew1) | exact HB.out)) hb); clear HB; have HO164 := n0_; have HB := n1_; clear n0_ n1_; clear hb ho3))
 go_loopg [3, 4, 5] k (fun kq v3 v4 v5 w' => ∃ (x3_1 : List (S41)) (x4_1 : Int) (x5_1 : Int), v4 = .int .i64 x4_1 ∧ v5 = .int .i64 x5_1 ∧ Aside0 (secateurref02_Pack.l0 kq l0 x3_1 x4_1 x5_1 = some r) ∧ Aside0 (kq ≤ k) ∧ Aside0 (Kd.R k41 41 w' w.heap.size (fun _ => True) v3 x3_1) ∧ Aside0 (Below w.heap.size w w'))
 case atStart => exact ⟨(y162), (0), (0), (by first | rfl | (simp; done) | (simp [*]; done)), (by first | rfl | (simp; done) | (simp [*]; done)), H', ⟨Nat.le_refl _⟩, ⟨by (with_reducible repeat (first | apply Kd.R_alloc | apply Kd.R_drewN | apply Kd.R_drew)); exact HO164.out⟩, ⟨by repeat (first | (with_reducible first | exact HB.out | apply below_alloc | apply pw_below_drewN | apply below_drew1) | exact HB.out)⟩⟩
 case round =>
  clear H'
  try clear p2
  obtain ⟨x3_1, x4_1, x5_1, rfl, rfl, HA, HK1, HO_3, HB⟩ := hrel
  cases gk with
  | zero => exact absurd HA.out (by simp [secateurref02_Pack.l0])
  | succ k1 =>
   have H := HA.out
   clear HA
   simp only [secateurref02_Pack.l0] at H
   by_cases c4 : x5_1 < (l0.length : Int)
   ·rw [if_pos c4] at H
    have c4b0 : decide (x5_1 < (l0.length : Int)) = true := decide_eq_true c4
    clear c4
    by_cases c5 : (wrap64 (x5_1 + 1)) = (l0.length : Int)
    ·rw [if_pos c5] at H
     have c5b0 : ((wrap64 (x5_1 + 1)) == (l0.length : Int)) = true := beq_iff_eq.mpr c5
     have c5b1 : ((wrap64 (x5_1 + 1)) != (l0.length : Int)) = false := bne_eq_false_iff_eq.mpr c5
     clear c5
     by_cases c6 : 0 ≤ x4_1
     ·rw [if_pos c6] at H
      have c6b0 : decide (0 ≤ x4_1) = true := decide_eq_true c6
      clear c6
      by_cases c7 : x4_1 < (l0.length : Int)
      ·rw [if_pos c7] at H
       have c7b0 : decide (x4_1 < (l0.length : Int)) = true := decide_eq_true c7
       clear c7
       by_cases c8 : 0 ≤ x5_1
       ·rw [if_pos c8] at H
        have c8b0 : decide (0 ≤ x5_1) = true := decide_eq_true c8
        clear c8
        by_cases c9 : x3_1.length < 8796093022208
        ·rw [if_pos c9] at H
         have LMc9 := Aside0.mk c9
         clear c9
         obtain ⟨y167, hy167⟩ : ∃ y_ : List (S41), y_ = (x3_1 ++ [(⟨rd l0 x4_1, rd l0 x5_1⟩ : S41)]) := ⟨_, rfl⟩
         replace H : (secateurref02_Pack.l0 k1 l0 y167 (wrap64 (x5_1 + 1)) (wrap64 (x5_1 + 1))) = some r := by first | (rw [hy167]; with_reducible exact H) | (have H2_ := (Option.bind_some _ _).symm.trans H; rw [hy167]; with_reducible exact H2_) | (have H2_ := (Option.bind_some _ _).symm.trans H; with_reducible exact H2_) | with_reducible exact H | (rw [hy167]; exact H) | exact H
         have Ny167 := Aside0.mk hy167
         clear hy167
         have H' := Aside0.mk H
         clear H
         try go_wp2
         have n0_ := Aside0.mk (Kd.R_drew HO_3.out)
         have n1_ := Aside0.mk (below_drew1 HB.out)
         clear HO_3
         clear HB
         have HO_3 := n0_
         have HB := n1_
         clear n0_ n1_
         refine start_ (n := 18) (S := fun w' => True) (ds := []) #[false, false, false, false, false, false, false, false, false, false, false, false, false, false, false, false, false, false] (by kernel_rfl) rfl rfl trivial (fun hHeld => ?_); refine with_tabW secateurref02_Pack.tab5 secateurref02_Pack.bits5 (fun HT_ HW_ => ?_)
         generalize wr.drew = w10 at HO_3 HB hHeld ⊢
         refine pure_ (i := 0) (N := some 13) (v := ?_) (a' := ?_) #[true, false, false, false, false, false, false, false, false, false, false, false, false, false, false, false, false, false] rfl rfl (any_of HT_.out (by kernel_rfl)) (fun _ _ _ h => h) (Or.inl ⟨by rfl, ?_⟩) ?_ ?_
         rotate_left
         ·intro w'
          go_simp
          with_reducible rfl
         rotate_left
         ·simp only [Act.put, List.setIfInBounds_toArray, List.set_cons_zero, List.set_cons_succ, i64_w, i32_w]
          rfl
         refine pure_ (i := 1) (N := some 14) (v := ?_) (a' := ?_) #[true, true, false, false, false, false, false, false, false, false, false, false, false, false, false, false, false, false] rfl rfl (any_of HT_.out (by kernel_rfl)) (fun _ _ _ h => h) (Or.inl ⟨by rfl, ?_⟩) ?_ ?_
         rotate_left
         ·intro w'
          go_simp
          with_reducible rfl
         rotate_left
         ·simp only [Act.put, List.setIfInBounds_toArray, List.set_cons_zero, List.set_cons_succ, i64_w, i32_w]
          rfl
         refine pure_ (i := 2) (N := some 15) (v := ?_) (a' := ?_) #[true, true, true, false, false, false, false, false, false, false, false, false, false, false, false, false, false, false] rfl rfl (any_of HT_.out (by kernel_rfl)) (fun _ _ _ h => h) (Or.inl ⟨by rfl, ?_⟩) ?_ ?_
         rotate_left
         ·intro w'
          go_simp
          with_reducible rfl
         rotate_left
         ·simp only [Act.put, List.setIfInBounds_toArray, List.set_cons_zero, List.set_cons_succ, i64_w, i32_w]
          rfl
         refine pure_ (i := 3) (N := some 16) (v := ?_) (a' := ?_) #[true, true, true, true, false, false, false, false, false, false, false, false, false, false, false, false, false, false] rfl rfl (any_of HT_.out (by kernel_rfl)) (fun _ _ _ h => h) (Or.inl ⟨by rfl, ?_⟩) ?_ ?_
         rotate_left
         ·intro w'
          go_simp
          with_reducible rfl
         rotate_left
         ·simp only [Act.put, List.setIfInBounds_toArray, List.set_cons_zero, List.set_cons_succ, i64_w, i32_w]
          rfl
         refine pure_ (i := 4) (N := some 17) (v := ?_) (a' := ?_) #[true, true, true, true, true, false, false, false, false, false, false, false, false, false, false, false, false, false] rfl rfl (any_of HT_.out (by kernel_rfl)) (fun _ _ _ h => h) (Or.inl ⟨by rfl, ?_⟩) ?_ ?_
         rotate_left
         ·intro w'
          go_simp
          with_reducible rfl
         rotate_left
         ·simp only [Act.put, List.setIfInBounds_toArray, List.set_cons_zero, List.set_cons_succ, i64_w, i32_w]
          rfl
         refine pure_ (i := 5) (N := some 18) (v := ?_) (a' := ?_) #[true, true, true, true, true, true, false, false, false, false, false, false, false, false, false, false, false, false] rfl rfl (any_of HT_.out (by kernel_rfl)) (fun _ _ _ h => h) (Or.inl ⟨by rfl, ?_⟩) ?_ ?_
         rotate_left
         ·intro w'
          go_simp
          with_reducible rfl
         rotate_left
         ·simp only [Act.put, List.setIfInBounds_toArray, List.set_cons_zero, List.set_cons_succ, i64_w, i32_w]
          rfl
         refine pure_ (i := 6) (N := some 19) (v := undef) (a' := ?_) #[true, true, true, true, true, true, true, false, false, false, false, false, false, false, false, false, false, false] rfl rfl (any_of HT_.out (by kernel_rfl)) (fun _ _ _ h => h) (Or.inr ⟨by rfl, rfl⟩) ?_ ?_
         rotate_left
         ·simp only [Act.put, List.setIfInBounds_toArray, List.set_cons_zero, List.set_cons_succ, i64_w, i32_w]
          rfl
         refine pure_ (i := 7) (N := some 20) (v := undef) (a' := ?_) #[true, true, true, true, true, true, true, true, false, false, false, false, false, false, false, false, false, false] rfl rfl (any_of HT_.out (by kernel_rfl)) (fun _ _ _ h => h) (Or.inr ⟨by rfl, rfl⟩) ?_ ?_
         rotate_left
         ·simp only [Act.put, List.setIfInBounds_toArray, List.set_cons_zero, List.set_cons_succ, i64_w, i32_w]
          rfl
         refine pure_ (i := 8) (N := some 21) (v := undef) (a' := ?_) #[true, true, true, true, true, true, true, true, true, false, false, false, false, false, false, false, false, false] rfl rfl (any_of HT_.out (by kernel_rfl)) (fun _ _ _ h => h) (Or.inr ⟨by rfl, rfl⟩) ?_ ?_
         rotate_left
         ·simp only [Act.put, List.setIfInBounds_toArray, List.set_cons_zero, List.set_cons_succ, i64_w, i32_w]
          rfl
         refine pure_ (i := 9) (N := some 22) (v := undef) (a' := ?_) #[true, true, true, true, true, true, true, true, true, true, false, false, false, false, false, false, false, false] rfl rfl (any_of HT_.out (by kernel_rfl)) (fun _ _ _ h => h) (Or.inr ⟨by rfl, rfl⟩) ?_ ?_
         rotate_left
         ·simp only [Act.put, List.setIfInBounds_toArray, List.set_cons_zero, List.set_cons_succ, i64_w, i32_w]
          rfl
         refine pure_ (i := 10) (N := some 23) (v := undef) (a' := ?_) #[true, true, true, true, true, true, true, true, true, true, true, false, false, false, false, false, false, false] rfl rfl (any_of HT_.out (by kernel_rfl)) (fun _ _ _ h => h) (Or.inr ⟨by rfl, rfl⟩) ?_ ?_
         rotate_left
         ·simp only [Act.put, List.setIfInBounds_toArray, List.set_cons_zero, List.set_cons_succ, i64_w, i32_w]
          rfl
         refine pure_ (i := 11) (N := some 24) (v := undef) (a' := ?_) #[true, true, true, true, true, true, true, true, true, true, true, true, false, false, false, false, false, false] rfl rfl (any_of HT_.out (by kernel_rfl)) (fun _ _ _ h => h) (Or.inr ⟨by rfl, rfl⟩) ?_ ?_
         rotate_left
         ·simp only [Act.put, List.setIfInBounds_toArray, List.set_cons_zero, List.set_cons_succ, i64_w, i32_w]
          rfl
         refine pure_ (i := 12) (N := some 25) (v := undef) (a' := ?_) #[true, true, true, true, true, true, true, true, true, true, true, true, true, false, false, false, false, false] rfl rfl (any_of HT_.out (by kernel_rfl)) (fun _ _ _ h => h) (Or.inr ⟨by rfl, rfl⟩) ?_ ?_
         rotate_left
         ·simp only [Act.put, List.setIfInBounds_toArray, List.set_cons_zero, List.set_cons_succ, i64_w, i32_w]
          rfl
         refine pure_ (i := 13) (N := some 26) (v := undef) (a' := ?_) #[true, true, true, true, true, true, true, true, true, true, true, true, true, true, false, false, false, false] rfl rfl (any_of HT_.out (by kernel_rfl)) (fun _ _ _ h => h) (Or.inr ⟨by rfl, rfl⟩) ?_ ?_
         rotate_left
         ·simp only [Act.put, List.setIfInBounds_toArray, List.set_cons_zero, List.set_cons_succ, i64_w, i32_w]
          rfl
         refine pure_ (i := 14) (N := some 27) (v := undef) (a' := ?_) #[true, true, true, true, true, true, true, true, true, true, true, true, true, true, true, false, false, false] rfl rfl (any_of HT_.out (by kernel_rfl)) (fun _ _ _ h => h) (Or.inr ⟨by rfl, rfl⟩) ?_ ?_
         rotate_left
         ·simp only [Act.put, List.setIfInBounds_toArray, List.set_cons_zero, List.set_cons_succ, i64_w, i32_w]
          rfl
         refine pure_ (i := 15) (N := some 28) (v := undef) (a' := ?_) #[true, true, true, true, true, true, true, true, true, true, true, true, true, true, true, true, false, false] rfl rfl (any_of HT_.out (by kernel_rfl)) (fun _ _ _ h => h) (Or.inr ⟨by rfl, rfl⟩) ?_ ?_
         rotate_left
         ·simp only [Act.put, List.setIfInBounds_toArray, List.set_cons_zero, List.set_cons_succ, i64_w, i32_w]
          rfl
         refine pure_ (i := 16) (N := some 29) (v := undef) (a' := ?_) #[true, true, true, true, true, true, true, true, true, true, true, true, true, true, true, true, true, false] rfl rfl (any_of HT_.out (by kernel_rfl)) (fun _ _ _ h => h) (Or.inr ⟨by rfl, rfl⟩) ?_ ?_
         rotate_left
         ·simp only [Act.put, List.setIfInBounds_toArray, List.set_cons_zero, List.set_cons_succ, i64_w, i32_w]
          rfl
         refine pure_ (i := 17) (N := some 30) (v := ?_) (a' := ?_) #[true, true, true, true, true, true, true, true, true, true, true, true, true, true, true, true, true, true] rfl rfl (any_of HT_.out (by kernel_rfl)) (fun _ _ _ h => h) (Or.inl ⟨by rfl, ?_⟩) ?_ ?_
         rotate_left
         ·intro w'
          go_simp
          with_reducible rfl
         rotate_left
         ·simp only [Act.put, List.setIfInBounds_toArray, List.set_cons_zero, List.set_cons_succ, i64_w, i32_w]
          rfl
         refine done_ (done_of HT_.out (by kernel_rfl)) ?_
         try go_wp2
         have n0_ := Aside0.mk (Kd.R_drew HO_3.out)
         have n1_ := Aside0.mk (below_drew1 HB.out)
         clear HO_3
         clear HB
         have HO_3 := n0_
         have HB := n1_
         clear n0_ n1_
         have p165 : 0 ≤ (x4_1 : Int) := of_decide_eq_true (by first | (with_reducible assumption) | assumption)
         have q165 : x4_1 < (l0.length : Int) := of_decide_eq_true (by first | (with_reducible assumption) | assumption)
         obtain ⟨ad165, e165, hx165_0⟩ := Kd.at_int HR0.out x4_1 p165 q165
         have hw165_0 := hx165_0
         cases e165
         replace hx165_0 := (HB.out.cell (World.block_lt_of_cell? w _ hx165_0)).trans hx165_0
         replace p165 := eq_true p165
         replace q165 := eq_true q165
         have p166 : 0 ≤ (x5_1 : Int) := of_decide_eq_true (by first | (with_reducible assumption) | assumption)
         have q166 : x5_1 < (l0.length : Int) := of_decide_eq_true (by first | (with_reducible assumption) | assumption)
         obtain ⟨ad166, e166, hx166_0⟩ := Kd.at_int HR0.out x5_1 p166 q166
         have hw166_0 := hx166_0
         obtain rfl : ad165 = ad166 := (by injection e166)
         replace hx166_0 := (HB.out.cell (World.block_lt_of_cell? w _ hx166_0)).trans hx166_0
         replace p166 := eq_true p166
         replace q166 := eq_true q166
         refine start_ (n := 13) (S := fun w' => w'.cell? (ad165.add (x4_1).toNat) = some (.int .i64 (rd l0 x4_1)) ∧ w'.cell? (ad165.add (x5_1).toNat) = some (.int .i64 (rd l0 x5_1))) (ds := []) #[false, false, false, false, false, false, false, false, false, false, false, false, false] (by kernel_rfl) rfl rfl ⟨((HB.out.cell (World.block_lt_of_cell? w _ hw165_0)).trans hw165_0), ((HB.out.cell (World.block_lt_of_cell? w _ hw166_0)).trans hw166_0)⟩ (fun hHeld => ?_); refine with_tabW secateurref02_Pack.tab6 secateurref02_Pack.bits6 (fun HT_ HW_ => ?_)
         generalize w10.drew = w11 at HO_3 HB hx165_0 hx166_0 hHeld ⊢
         refine pure_ (i := 0) (N := some 31) (v := ?_) (a' := ?_) #[true, false, false, false, false, false, false, false, false, false, false, false, false] rfl rfl (any_of HT_.out (by kernel_rfl)) (fun _ _ _ h => h) (Or.inl ⟨by rfl, ?_⟩) ?_ ?_
         rotate_left
         ·intro w'
          go_simp
          with_reducible rfl
         rotate_left
         ·simp only [Act.put, List.setIfInBounds_toArray, List.set_cons_zero, List.set_cons_succ, i64_w, i32_w]
          rfl
         refine pure_ (i := 1) (N := some 32) (v := ?_) (a' := ?_) #[true, true, false, false, false, false, false, false, false, false, false, false, false] rfl rfl (any_of HT_.out (by kernel_rfl)) (fun _ _ _ h => h) (Or.inl ⟨by rfl, ?_⟩) ?_ ?_
         rotate_left
         ·intro w'
          go_simp
          with_reducible rfl
         rotate_left
         ·simp only [Act.put, List.setIfInBounds_toArray, List.set_cons_zero, List.set_cons_succ, i64_w, i32_w]
          rfl
         refine pure_ (i := 2) (N := some 33) (v := ?_) (a' := ?_) #[true, true, true, false, false, false, false, false, false, false, false, false, false] rfl rfl (any_of HT_.out (by kernel_rfl)) (fun _ _ _ h => h) (Or.inl ⟨by rfl, ?_⟩) ?_ ?_
         rotate_left
         ·intro w'
          go_simp
          with_reducible rfl
         rotate_left
         ·simp only [Act.put, List.setIfInBounds_toArray, List.set_cons_zero, List.set_cons_succ, i64_w, i32_w]
          rfl
         refine pure_ (i := 3) (N := some 34) (v := ?_) (a' := ?_) #[true, true, true, true, false, false, false, false, false, false, false, false, false] rfl rfl (any_of HT_.out (by kernel_rfl)) (fun _ _ _ h => h) (Or.inl ⟨by rfl, ?_⟩) ?_ ?_
         rotate_left
         ·intro w'
          go_simp
          with_reducible rfl
         rotate_left
         ·simp only [Act.put, List.setIfInBounds_toArray, List.set_cons_zero, List.set_cons_succ, i64_w, i32_w]
          rfl
         refine pure_ (i := 5) (N := some 36) (v := ?_) (a' := ?_) #[true, true, true, true, false, true, false, false, false, false, false, false, false] rfl rfl (any_of HT_.out (by kernel_rfl)) (fun _ _ _ h => h) (Or.inl ⟨by rfl, ?_⟩) ?_ ?_
         rotate_left
         ·intro w'
          go_simp
          with_reducible rfl
         rotate_left
         ·simp only [Act.put, List.setIfInBounds_toArray, List.set_cons_zero, List.set_cons_succ, i64_w, i32_w]
          rfl
         refine pure_ (i := 6) (N := some 37) (v := ?_) (a' := ?_) #[true, true, true, true, false, true, true, false, false, false, false, false, false] rfl rfl (any_of HT_.out (by kernel_rfl)) (fun _ _ _ h => h) (Or.inl ⟨by rfl, ?_⟩) ?_ ?_
         rotate_left
         ·intro w'
          go_simp
          with_reducible rfl
         rotate_left
         ·simp only [Act.put, List.setIfInBounds_toArray, List.set_cons_zero, List.set_cons_succ, i64_w, i32_w]
          rfl
         refine pure_ (i := 7) (N := some 38) (v := ?_) (a' := ?_) #[true, true, true, true, false, true, true, true, false, false, false, false, false] rfl rfl (any_of HT_.out (by kernel_rfl)) (fun _ _ _ h => h) (Or.inl ⟨by rfl, ?_⟩) ?_ ?_
         rotate_left
         ·intro w'
          go_simp
          with_reducible rfl
         rotate_left
         ·simp only [Act.put, List.setIfInBounds_toArray, List.set_cons_zero, List.set_cons_succ, i64_w, i32_w]
          rfl
         refine take_ (i := 4) (N := some 35) (v := ?_) (a' := ?_) #[true, true, true, true, true, true, true, true, false, false, false, false, false] rfl rfl (take_ofW HT_.out HW_.out (by kernel_rfl)) (fun _ _ _ h => h) (Or.inl ⟨by rfl, ?_⟩) hHeld ?_ ?_
         rotate_left
         ·rintro w' ⟨s0, s1⟩
          go_simp
          with_reducible rfl
         rotate_left
         ·simp only [Act.put, List.setIfInBounds_toArray, List.set_cons_zero, List.set_cons_succ, i64_w, i32_w]
          rfl
         refine take_ (i := 8) (N := some 39) (v := ?_) (a' := ?_) #[true, true, true, true, true, true, true, true, true, false, false, false, false] rfl rfl (take_ofW HT_.out HW_.out (by kernel_rfl)) (fun _ _ _ h => h) (Or.inl ⟨by rfl, ?_⟩) hHeld ?_ ?_
         rotate_left
         ·rintro w' ⟨s0, s1⟩
          go_simp
          with_reducible rfl
         rotate_left
         ·simp only [Act.put, List.setIfInBounds_toArray, List.set_cons_zero, List.set_cons_succ, i64_w, i32_w]
          rfl
         refine pure_ (i := 9) (N := some 40) (v := ?_) (a' := ?_) #[true, true, true, true, true, true, true, true, true, true, false, false, false] rfl rfl (any_of HT_.out (by kernel_rfl)) (fun _ _ _ h => h) (Or.inl ⟨by rfl, ?_⟩) ?_ ?_
         rotate_left
         ·intro w'
          go_simp
          with_reducible rfl
         rotate_left
         ·simp only [Act.put, List.setIfInBounds_toArray, List.set_cons_zero, List.set_cons_succ, i64_w, i32_w]
          rfl
         refine one_ (i := 10) (N := some 41) #[true, true, true, true, true, true, true, true, true, true, true, false, false] rfl rfl (one_of HT_.out (by kernel_rfl)) (by decide) (fun K hK => ?_)
         refine value_ (w1 := ?_) (v := ?_) (by rfl) rfl ?_ ?_
         rotate_left 2
         ·go_simp
          constructor
          ·rfl
          ·rfl
         refine hK.out _ _ ⟨(World.cell?_alloc_lt _ _ _ (World.block_lt_of_cell? _ _ (((HB.out.cell (World.block_lt_of_cell? w _ hw165_0)).trans hw165_0)))).trans (((HB.out.cell (World.block_lt_of_cell? w _ hw165_0)).trans hw165_0)), (World.cell?_alloc_lt _ _ _ (World.block_lt_of_cell? _ _ (((HB.out.cell (World.block_lt_of_cell? w _ hw166_0)).trans hw166_0)))).trans (((HB.out.cell (World.block_lt_of_cell? w _ hw166_0)).trans hw166_0))⟩ (fun hHeld => ?_)
         clear hK K
         refine norm_ (a' := ?_) ?_ ?_
         rotate_left
         ·show Act.put _ (some 41) _ = _
          simp only [Act.put, List.setIfInBounds_toArray, List.set_cons_zero, List.set_cons_succ, i64_w, i32_w]
          rfl
         refine one_ (i := 11) (N := some 42) #[true, true, true, true, true, true, true, true, true, true, true, true, false] rfl rfl (one_of HT_.out (by kernel_rfl)) (by decide) (fun K hK => ?_)
         refine Kd.R_append_step k41 (w0 := w) w.heap.size (by rfl) (.tmp 31) (.tmp 41) 39 41 (.agg #[(.int .i64 0), (.int .i64 0)]) 16 rfl Try.underlying39 info41 rfl (by decide) (by omega) u3 x3_1 (⟨rd l0 x4_1, rd l0 x5_1⟩ : S41) [.int .i64 (rd l0 x4_1), .int .i64 (rd l0 x5_1)] (fun _ => True) (fun _ => False) rfl rfl ?aP (fun _ hk => hk.elim) ?aF ?aO ?aB ?aS ?aL ?_
         (case aP => exact k41_mkM _ _ _ (⟨rd l0 x4_1, rd l0 x5_1⟩ : S41))
         (case aB => exact (by repeat (first | (with_reducible first | exact HB.out | apply below_alloc | apply pw_below_drewN | apply below_drew1) | exact HB.out)))
         (case aF => exact (fun _ _ => trivial))
         (case aO => exact (by (with_reducible repeat (first | apply Kd.R_alloc | apply Kd.R_drewN | apply Kd.R_drew)); exact HO_3.out))
         (case aS => exact (below_size (by repeat (first | (with_reducible first | exact HB.out | apply below_alloc | apply pw_below_drewN | apply below_drew1) | exact HB.out))))
         (case aL => have := LMc9.out; omega)
         intro v168 w12 ho hb hg hat
         rw [← Ny167.out] at ho
         have n0_ := Aside0.mk (hb)
         have n1_ := Aside0.mk (ho)
         clear HB
         clear HO_3
         have HB := n0_
         have HO169 := n1_
         clear n0_ n1_
         clear ho hb hg hat
         refine hK.out _ _ ⟨((HB.out.cell (World.block_lt_of_cell? w _ hw165_0)).trans hw165_0), ((HB.out.cell (World.block_lt_of_cell? w _ hw166_0)).trans hw166_0)⟩ (fun hHeld => ?_)
         clear hK K
         refine norm_ (a' := ?_) ?_ ?_
         rotate_left
         ·show Act.put _ (some 42) _ = _
          simp only [Act.put, List.setIfInBounds_toArray, List.set_cons_zero, List.set_cons_succ, i64_w, i32_w]
          rfl
         refine pure_ (i := 12) (N := some 3) (v := ?_) (a' := ?_) #[true, true, true, true, true, true, true, true, true, true, true, true, true] rfl rfl (any_of HT_.out (by kernel_rfl)) (fun _ _ _ h => h) (Or.inl ⟨by rfl, ?_⟩) ?_ ?_
         rotate_left
         ·intro w'
          go_simp
          with_reducible rfl
         rotate_left
         ·simp only [Act.put, List.setIfInBounds_toArray, List.set_cons_zero, List.set_cons_succ, i64_w, i32_w]
          rfl
         refine done_ (done_of HT_.out (by kernel_rfl)) ?_
         try go_wp2
         go_roundg k1
         case measure => have := HK1.out; omega
         case rel => exact ⟨(y167), (wrap64 (x5_1 + 1)), (wrap64 (x5_1 + 1)), (by first | rfl | (simp; done) | (simp [*]; done)), (by first | rfl | (simp; done) | (simp [*]; done)), H', ⟨by have := HK1.out; omega⟩, ⟨by (with_reducible repeat (first | apply Kd.R_alloc | apply Kd.R_drewN | apply Kd.R_drew)); exact HO169.out⟩, ⟨by repeat (first | (with_reducible first | exact HB.out | apply below_alloc | apply pw_below_drewN | apply below_drew1) | exact HB.out)⟩⟩
        ·rw [if_neg c9] at H
         exact absurd H (by simp)
       ·rw [if_neg c8] at H
        exact absurd H (by simp)
      ·rw [if_neg c7] at H
       exact absurd H (by simp)
     ·rw [if_neg c6] at H
      exact absurd H (by simp)
    ·rw [if_neg c5] at H
     have c5b0 : ((wrap64 (x5_1 + 1)) == (l0.length : Int)) = false := beq_eq_false_iff_ne.mpr c5
     have c5b1 : ((wrap64 (x5_1 + 1)) != (l0.length : Int)) = true := bne_iff_ne.mpr c5
     obtain ⟨ji13, hji13⟩ : ∃ j_ : Int, (wrap64 (x5_1 + 1)) = j_ := ⟨_, rfl⟩
     replace H : (if 0 ≤ (ji13) then (if (ji13) < (l0.length : Int) then (if 0 ≤ x5_1 then (if (rd l0 (ji13)) = (wrap64 ((rd l0 x5_1) + 1)) then (secateurref02_Pack.l0 k1 l0 x3_1 x4_1 ji13) else (if 0 ≤ x4_1 then (if x4_1 < (l0.length : Int) then (if x3_1.length < 8796093022208 then (secateurref02_Pack.l0 k1 l0 (x3_1 ++ [(⟨rd l0 x4_1, rd l0 x5_1⟩ : S41)]) ji13 ji13) else (none)) else (none)) else (none))) else (none)) else (none)) else (none)) = some r := by first | (rw [hji13] at H; exact H) | (simp only [hji13] at H ⊢; exact H)
     (try rw [hji13] at c5b0)
     (try rw [hji13] at c5b1)
     have hji13w : (IntKind.i64.wrap (x5_1 + 1)) = ji13 := (i64_w _).trans hji13
     by_cases c14 : 0 ≤ (ji13)
     ·rw [if_pos c14] at H
      have c14b0 : decide (0 ≤ (ji13)) = true := decide_eq_true c14
      clear c14
      by_cases c15 : (ji13) < (l0.length : Int)
      ·rw [if_pos c15] at H
       have c15b0 : decide ((ji13) < (l0.length : Int)) = true := decide_eq_true c15
       clear c15
       by_cases c16 : 0 ≤ x5_1
       ·rw [if_pos c16] at H
        have c16b0 : decide (0 ≤ x5_1) = true := decide_eq_true c16
        clear c16
        by_cases c17 : (rd l0 (ji13)) = (wrap64 ((rd l0 x5_1) + 1))
        ·rw [if_pos c17] at H
         have c17b0 : ((rd l0 (ji13)) == (wrap64 ((rd l0 x5_1) + 1))) = true := beq_iff_eq.mpr c17
         have c17b1 : ((rd l0 (ji13)) != (wrap64 ((rd l0 x5_1) + 1))) = false := bne_eq_false_iff_eq.mpr c17
         clear c17
         have H' := Aside0.mk H
         clear H
         try go_wp2
         have n0_ := Aside0.mk (Kd.R_drew HO_3.out)
         have n1_ := Aside0.mk (below_drew1 HB.out)
         clear HO_3
         clear HB
         have HO_3 := n0_
         have HB := n1_
         clear n0_ n1_
         have p170 : 0 ≤ ((ji13) : Int) := of_decide_eq_true (by first | (with_reducible assumption) | assumption)
         have q170 : (ji13) < (l0.length : Int) := of_decide_eq_true (by first | (with_reducible assumption) | assumption)
         obtain ⟨ad170, e170, hx170_0⟩ := Kd.at_int HR0.out (ji13) p170 q170
         have hw170_0 := hx170_0
         cases e170
         replace hx170_0 := (HB.out.cell (World.block_lt_of_cell? w _ hx170_0)).trans hx170_0
         replace p170 := eq_true p170
         replace q170 := eq_true q170
         have p171 : 0 ≤ (x5_1 : Int) := of_decide_eq_true (by first | (with_reducible assumption) | assumption)
         have q171 : x5_1 < (l0.length : Int) := of_decide_eq_true (by first | (with_reducible assumption) | assumption)
         obtain ⟨ad171, e171, hx171_0⟩ := Kd.at_int HR0.out x5_1 p171 q171
         have hw171_0 := hx171_0
         obtain rfl : ad170 = ad171 := (by injection e171)
         replace hx171_0 := (HB.out.cell (World.block_lt_of_cell? w _ hx171_0)).trans hx171_0
         replace p171 := eq_true p171
         replace q171 := eq_true q171
         refine start_ (n := 18) (S := fun w' => w'.cell? (ad170.add ((ji13)).toNat) = some (.int .i64 (rd l0 (ji13))) ∧ w'.cell? (ad170.add (x5_1).toNat) = some (.int .i64 (rd l0 x5_1))) (ds := []) #[false, false, false, false, false, false, false, false, false, false, false, false, false, false, false, false, false, false] (by kernel_rfl) rfl rfl ⟨((HB.out.cell (World.block_lt_of_cell? w _ hw170_0)).trans hw170_0), ((HB.out.cell (World.block_lt_of_cell? w _ hw171_0)).trans hw171_0)⟩ (fun hHeld => ?_); refine with_tabW secateurref02_Pack.tab5 secateurref02_Pack.bits5 (fun HT_ HW_ => ?_)
         generalize wr.drew = w18 at HO_3 HB hx170_0 hx171_0 hHeld ⊢
         refine pure_ (i := 0) (N := some 13) (v := ?_) (a' := ?_) #[true, false, false, false, false, false, false, false, false, false, false, false, false, false, false, false, false, false] rfl rfl (any_of HT_.out (by kernel_rfl)) (fun _ _ _ h => h) (Or.inl ⟨by rfl, ?_⟩) ?_ ?_
         rotate_left
         ·intro w'
          go_simp
          with_reducible rfl
         rotate_left
         ·simp only [Act.put, List.setIfInBounds_toArray, List.set_cons_zero, List.set_cons_succ, i64_w, i32_w]
          rfl
         refine pure_ (i := 1) (N := some 14) (v := ?_) (a' := ?_) #[true, true, false, false, false, false, false, false, false, false, false, false, false, false, false, false, false, false] rfl rfl (any_of HT_.out (by kernel_rfl)) (fun _ _ _ h => h) (Or.inl ⟨by rfl, ?_⟩) ?_ ?_
         rotate_left
         ·intro w'
          go_simp
          with_reducible rfl
         rotate_left
         ·simp only [Act.put, List.setIfInBounds_toArray, List.set_cons_zero, List.set_cons_succ, i64_w, i32_w]
          rfl
         refine pure_ (i := 2) (N := some 15) (v := ?_) (a' := ?_) #[true, true, true, false, false, false, false, false, false, false, false, false, false, false, false, false, false, false] rfl rfl (any_of HT_.out (by kernel_rfl)) (fun _ _ _ h => h) (Or.inl ⟨by rfl, ?_⟩) ?_ ?_
         rotate_left
         ·intro w'
          go_simp
          with_reducible rfl
         rotate_left
         ·simp only [Act.put, List.setIfInBounds_toArray, List.set_cons_zero, List.set_cons_succ, i64_w, i32_w]
          rfl
         refine pure_ (i := 3) (N := some 16) (v := ?_) (a' := ?_) #[true, true, true, true, false, false, false, false, false, false, false, false, false, false, false, false, false, false] rfl rfl (any_of HT_.out (by kernel_rfl)) (fun _ _ _ h => h) (Or.inl ⟨by rfl, ?_⟩) ?_ ?_
         rotate_left
         ·intro w'
          go_simp
          with_reducible rfl
         rotate_left
         ·simp only [Act.put, List.setIfInBounds_toArray, List.set_cons_zero, List.set_cons_succ, i64_w, i32_w]
          rfl
         refine pure_ (i := 4) (N := some 17) (v := ?_) (a' := ?_) #[true, true, true, true, true, false, false, false, false, false, false, false, false, false, false, false, false, false] rfl rfl (any_of HT_.out (by kernel_rfl)) (fun _ _ _ h => h) (Or.inl ⟨by rfl, ?_⟩) ?_ ?_
         rotate_left
         ·intro w'
          go_simp
          with_reducible rfl
         rotate_left
         ·simp only [Act.put, List.setIfInBounds_toArray, List.set_cons_zero, List.set_cons_succ, i64_w, i32_w]
          rfl
         refine pure_ (i := 5) (N := some 18) (v := ?_) (a' := ?_) #[true, true, true, true, true, true, false, false, false, false, false, false, false, false, false, false, false, false] rfl rfl (any_of HT_.out (by kernel_rfl)) (fun _ _ _ h => h) (Or.inl ⟨by rfl, ?_⟩) ?_ ?_
         rotate_left
         ·intro w'
          go_simp
          with_reducible rfl
         rotate_left
         ·simp only [Act.put, List.setIfInBounds_toArray, List.set_cons_zero, List.set_cons_succ, i64_w, i32_w]
          rfl
         refine pure_ (i := 6) (N := some 19) (v := ?_) (a' := ?_) #[true, true, true, true, true, true, true, false, false, false, false, false, false, false, false, false, false, false] rfl rfl (any_of HT_.out (by kernel_rfl)) (fun _ _ _ h => h) (Or.inl ⟨by rfl, ?_⟩) ?_ ?_
         rotate_left
         ·intro w'
          go_simp
          with_reducible rfl
         rotate_left
         ·simp only [Act.put, List.setIfInBounds_toArray, List.set_cons_zero, List.set_cons_succ, i64_w, i32_w]
          rfl
         refine pure_ (i := 7) (N := some 20) (v := ?_) (a' := ?_) #[true, true, true, true, true, true, true, true, false, false, false, false, false, false, false, false, false, false] rfl rfl (any_of HT_.out (by kernel_rfl)) (fun _ _ _ h => h) (Or.inl ⟨by rfl, ?_⟩) ?_ ?_
         rotate_left
         ·intro w'
          go_simp
          with_reducible rfl
         rotate_left
         ·simp only [Act.put, List.setIfInBounds_toArray, List.set_cons_zero, List.set_cons_succ, i64_w, i32_w]
          rfl
         refine pure_ (i := 8) (N := some 21) (v := ?_) (a' := ?_) #[true, true, true, true, true, true, true, true, true, false, false, false, false, false, false, false, false, false] rfl rfl (any_of HT_.out (by kernel_rfl)) (fun _ _ _ h => h) (Or.inl ⟨by rfl, ?_⟩) ?_ ?_
         rotate_left
         ·intro w'
          go_simp
          with_reducible rfl
         rotate_left
         ·simp only [Act.put, List.setIfInBounds_toArray, List.set_cons_zero, List.set_cons_succ, i64_w, i32_w]
          rfl
         refine pure_ (i := 9) (N := some 22) (v := ?_) (a' := ?_) #[true, true, true, true, true, true, true, true, true, true, false, false, false, false, false, false, false, false] rfl rfl (any_of HT_.out (by kernel_rfl)) (fun _ _ _ h => h) (Or.inl ⟨by rfl, ?_⟩) ?_ ?_
         rotate_left
         ·intro w'
          go_simp
          with_reducible rfl
         rotate_left
         ·simp only [Act.put, List.setIfInBounds_toArray, List.set_cons_zero, List.set_cons_succ, i64_w, i32_w]
          rfl
         refine pure_ (i := 11) (N := some 24) (v := ?_) (a' := ?_) #[true, true, true, true, true, true, true, true, true, true, false, true, false, false, false, false, false, false] rfl rfl (any_of HT_.out (by kernel_rfl)) (fun _ _ _ h => h) (Or.inl ⟨by rfl, ?_⟩) ?_ ?_
         rotate_left
         ·intro w'
          go_simp
          with_reducible rfl
         rotate_left
         ·simp only [Act.put, List.setIfInBounds_toArray, List.set_cons_zero, List.set_cons_succ, i64_w, i32_w]
          rfl
         refine pure_ (i := 12) (N := some 25) (v := ?_) (a' := ?_) #[true, true, true, true, true, true, true, true, true, true, false, true, true, false, false, false, false, false] rfl rfl (any_of HT_.out (by kernel_rfl)) (fun _ _ _ h => h) (Or.inl ⟨by rfl, ?_⟩) ?_ ?_
         rotate_left
         ·intro w'
          go_simp
          with_reducible rfl
         rotate_left
         ·simp only [Act.put, List.setIfInBounds_toArray, List.set_cons_zero, List.set_cons_succ, i64_w, i32_w]
          rfl
         refine pure_ (i := 13) (N := some 26) (v := ?_) (a' := ?_) #[true, true, true, true, true, true, true, true, true, true, false, true, true, true, false, false, false, false] rfl rfl (any_of HT_.out (by kernel_rfl)) (fun _ _ _ h => h) (Or.inl ⟨by rfl, ?_⟩) ?_ ?_
         rotate_left
         ·intro w'
          go_simp
          with_reducible rfl
         rotate_left
         ·simp only [Act.put, List.setIfInBounds_toArray, List.set_cons_zero, List.set_cons_succ, i64_w, i32_w]
          rfl
         refine take_ (i := 10) (N := some 23) (v := ?_) (a' := ?_) #[true, true, true, true, true, true, true, true, true, true, true, true, true, true, false, false, false, false] rfl rfl (take_ofW HT_.out HW_.out (by kernel_rfl)) (fun _ _ _ h => h) (Or.inl ⟨by rfl, ?_⟩) hHeld ?_ ?_
         rotate_left
         ·rintro w' ⟨s0, s1⟩
          go_simp
          with_reducible rfl
         rotate_left
         ·simp only [Act.put, List.setIfInBounds_toArray, List.set_cons_zero, List.set_cons_succ, i64_w, i32_w]
          rfl
         refine take_ (i := 14) (N := some 27) (v := ?_) (a' := ?_) #[true, true, true, true, true, true, true, true, true, true, true, true, true, true, true, false, false, false] rfl rfl (take_ofW HT_.out HW_.out (by kernel_rfl)) (fun _ _ _ h => h) (Or.inl ⟨by rfl, ?_⟩) hHeld ?_ ?_
         rotate_left
         ·rintro w' ⟨s0, s1⟩
          go_simp
          with_reducible rfl
         rotate_left
         ·simp only [Act.put, List.setIfInBounds_toArray, List.set_cons_zero, List.set_cons_succ, i64_w, i32_w]
          rfl
         refine pure_ (i := 15) (N := some 28) (v := ?_) (a' := ?_) #[true, true, true, true, true, true, true, true, true, true, true, true, true, true, true, true, false, false] rfl rfl (any_of HT_.out (by kernel_rfl)) (fun _ _ _ h => h) (Or.inl ⟨by rfl, ?_⟩) ?_ ?_
         rotate_left
         ·intro w'
          go_simp
          with_reducible rfl
         rotate_left
         ·simp only [Act.put, List.setIfInBounds_toArray, List.set_cons_zero, List.set_cons_succ, i64_w, i32_w]
          rfl
         refine pure_ (i := 16) (N := some 29) (v := ?_) (a' := ?_) #[true, true, true, true, true, true, true, true, true, true, true, true, true, true, true, true, true, false] rfl rfl (any_of HT_.out (by kernel_rfl)) (fun _ _ _ h => h) (Or.inl ⟨by rfl, ?_⟩) ?_ ?_
         rotate_left
         ·intro w'
          go_simp
          with_reducible rfl
         rotate_left
         ·simp only [Act.put, List.setIfInBounds_toArray, List.set_cons_zero, List.set_cons_succ, i64_w, i32_w]
          rfl
         refine pure_ (i := 17) (N := some 30) (v := ?_) (a' := ?_) #[true, true, true, true, true, true, true, true, true, true, true, true, true, true, true, true, true, true] rfl rfl (any_of HT_.out (by kernel_rfl)) (fun _ _ _ h => h) (Or.inl ⟨by rfl, ?_⟩) ?_ ?_
         rotate_left
         ·intro w'
          go_simp
          with_reducible rfl
         rotate_left
         ·simp only [Act.put, List.setIfInBounds_toArray, List.set_cons_zero, List.set_cons_succ, i64_w, i32_w]
          rfl
         refine done_ (done_of HT_.out (by kernel_rfl)) ?_
         try go_wp2
         go_roundg k1
         case measure => have := HK1.out; omega
         case rel => exact ⟨(x3_1), (x4_1), (ji13), (by first | rfl | (simp; done) | (simp [*]; done)), (by first | rfl | (simp; done) | (simp only [← hji13] <;> (first | rfl | simp)) | (simp [*]; done)), H', ⟨by have := HK1.out; omega⟩, ⟨by (with_reducible repeat (first | apply Kd.R_alloc | apply Kd.R_drewN | apply Kd.R_drew)); exact HO_3.out⟩, ⟨by repeat (first | (with_reducible first | exact HB.out | apply below_alloc | apply pw_below_drewN | apply below_drew1) | exact HB.out)⟩⟩
        ·rw [if_neg c17] at H
         have c17b0 : ((rd l0 (ji13)) == (wrap64 ((rd l0 x5_1) + 1))) = false := beq_eq_false_iff_ne.mpr c17
         have c17b1 : ((rd l0 (ji13)) != (wrap64 ((rd l0 x5_1) + 1))) = true := bne_iff_ne.mpr c17
         by_cases c19 : 0 ≤ x4_1
         ·rw [if_pos c19] at H
          have c19b0 : decide (0 ≤ x4_1) = true := decide_eq_true c19
          clear c19
          by_cases c20 : x4_1 < (l0.length : Int)
          ·rw [if_pos c20] at H
           have c20b0 : decide (x4_1 < (l0.length : Int)) = true := decide_eq_true c20
           clear c20
           by_cases c21 : x3_1.length < 8796093022208
           ·rw [if_pos c21] at H
            have LMc21 := Aside0.mk c21
            clear c21
            obtain ⟨y174, hy174⟩ : ∃ y_ : List (S41), y_ = (x3_1 ++ [(⟨rd l0 x4_1, rd l0 x5_1⟩ : S41)]) := ⟨_, rfl⟩
            replace H : (secateurref02_Pack.l0 k1 l0 y174 ji13 ji13) = some r := by first | (rw [hy174]; with_reducible exact H) | (have H2_ := (Option.bind_some _ _).symm.trans H; rw [hy174]; with_reducible exact H2_) | (have H2_ := (Option.bind_some _ _).symm.trans H; with_reducible exact H2_) | with_reducible exact H | (rw [hy174]; exact H) | exact H
            have Ny174 := Aside0.mk hy174
            clear hy174
            have H' := Aside0.mk H
            clear H
            try go_wp2
            have n0_ := Aside0.mk (Kd.R_drew HO_3.out)
            have n1_ := Aside0.mk (below_drew1 HB.out)
            clear HO_3
            clear HB
            have HO_3 := n0_
            have HB := n1_
            clear n0_ n1_
            have p170 : 0 ≤ ((ji13) : Int) := of_decide_eq_true (by first | (with_reducible assumption) | assumption)
            have q170 : (ji13) < (l0.length : Int) := of_decide_eq_true (by first | (with_reducible assumption) | assumption)
            obtain ⟨ad170, e170, hx170_0⟩ := Kd.at_int HR0.out (ji13) p170 q170
            have hw170_0 := hx170_0
            cases e170
            replace hx170_0 := (HB.out.cell (World.block_lt_of_cell? w _ hx170_0)).trans hx170_0
            replace p170 := eq_true p170
            replace q170 := eq_true q170
            have p171 : 0 ≤ (x5_1 : Int) := of_decide_eq_true (by first | (with_reducible assumption) | assumption)
            have q171 : x5_1 < (l0.length : Int) := of_decide_eq_true (by first | (with_reducible assumption) | assumption)
            obtain ⟨ad171, e171, hx171_0⟩ := Kd.at_int HR0.out x5_1 p171 q171
            have hw171_0 := hx171_0
            obtain rfl : ad170 = ad171 := (by injection e171)
            replace hx171_0 := (HB.out.cell (World.block_lt_of_cell? w _ hx171_0)).trans hx171_0
            replace p171 := eq_true p171
            replace q171 := eq_true q171
            refine start_ (n := 18) (S := fun w' => w'.cell? (ad170.add ((ji13)).toNat) = some (.int .i64 (rd l0 (ji13))) ∧ w'.cell? (ad170.add (x5_1).toNat) = some (.int .i64 (rd l0 x5_1))) (ds := []) #[false, false, false, false, false, false, false, false, false, false, false, false, false, false, false, false, false, false] (by kernel_rfl) rfl rfl ⟨((HB.out.cell (World.block_lt_of_cell? w _ hw170_0)).trans hw170_0), ((HB.out.cell (World.block_lt_of_cell? w _ hw171_0)).trans hw171_0)⟩ (fun hHeld => ?_); refine with_tabW secateurref02_Pack.tab5 secateurref02_Pack.bits5 (fun HT_ HW_ => ?_)
            generalize wr.drew = w22 at HO_3 HB hx170_0 hx171_0 hHeld ⊢
            refine pure_ (i := 0) (N := some 13) (v := ?_) (a' := ?_) #[true, false, false, false, false, false, false, false, false, false, false, false, false, false, false, false, false, false] rfl rfl (any_of HT_.out (by kernel_rfl)) (fun _ _ _ h => h) (Or.inl ⟨by rfl, ?_⟩) ?_ ?_
            rotate_left
            ·intro w'
             go_simp
             with_reducible rfl
            rotate_left
            ·simp only [Act.put, List.setIfInBounds_toArray, List.set_cons_zero, List.set_cons_succ, i64_w, i32_w]
             rfl
            refine pure_ (i := 1) (N := some 14) (v := ?_) (a' := ?_) #[true, true, false, false, false, false, false, false, false, false, false, false, false, false, false, false, false, false] rfl rfl (any_of HT_.out (by kernel_rfl)) (fun _ _ _ h => h) (Or.inl ⟨by rfl, ?_⟩) ?_ ?_
            rotate_left
            ·intro w'
             go_simp
             with_reducible rfl
            rotate_left
            ·simp only [Act.put, List.setIfInBounds_toArray, List.set_cons_zero, List.set_cons_succ, i64_w, i32_w]
             rfl
            refine pure_ (i := 2) (N := some 15) (v := ?_) (a' := ?_) #[true, true, true, false, false, false, false, false, false, false, false, false, false, false, false, false, false, false] rfl rfl (any_of HT_.out (by kernel_rfl)) (fun _ _ _ h => h) (Or.inl ⟨by rfl, ?_⟩) ?_ ?_
            rotate_left
            ·intro w'
             go_simp
             with_reducible rfl
            rotate_left
            ·simp only [Act.put, List.setIfInBounds_toArray, List.set_cons_zero, List.set_cons_succ, i64_w, i32_w]
             rfl
            refine pure_ (i := 3) (N := some 16) (v := ?_) (a' := ?_) #[true, true, true, true, false, false, false, false, false, false, false, false, false, false, false, false, false, false] rfl rfl (any_of HT_.out (by kernel_rfl)) (fun _ _ _ h => h) (Or.inl ⟨by rfl, ?_⟩) ?_ ?_
            rotate_left
            ·intro w'
             go_simp
             with_reducible rfl
            rotate_left
            ·simp only [Act.put, List.setIfInBounds_toArray, List.set_cons_zero, List.set_cons_succ, i64_w, i32_w]
             rfl
            refine pure_ (i := 4) (N := some 17) (v := ?_) (a' := ?_) #[true, true, true, true, true, false, false, false, false, false, false, false, false, false, false, false, false, false] rfl rfl (any_of HT_.out (by kernel_rfl)) (fun _ _ _ h => h) (Or.inl ⟨by rfl, ?_⟩) ?_ ?_
            rotate_left
            ·intro w'
             go_simp
             with_reducible rfl
            rotate_left
            ·simp only [Act.put, List.setIfInBounds_toArray, List.set_cons_zero, List.set_cons_succ, i64_w, i32_w]
             rfl
            refine pure_ (i := 5) (N := some 18) (v := ?_) (a' := ?_) #[true, true, true, true, true, true, false, false, false, false, false, false, false, false, false, false, false, false] rfl rfl (any_of HT_.out (by kernel_rfl)) (fun _ _ _ h => h) (Or.inl ⟨by rfl, ?_⟩) ?_ ?_
            rotate_left
            ·intro w'
             go_simp
             with_reducible rfl
            rotate_left
            ·simp only [Act.put, List.setIfInBounds_toArray, List.set_cons_zero, List.set_cons_succ, i64_w, i32_w]
             rfl
            refine pure_ (i := 6) (N := some 19) (v := ?_) (a' := ?_) #[true, true, true, true, true, true, true, false, false, false, false, false, false, false, false, false, false, false] rfl rfl (any_of HT_.out (by kernel_rfl)) (fun _ _ _ h => h) (Or.inl ⟨by rfl, ?_⟩) ?_ ?_
            rotate_left
            ·intro w'
             go_simp
             with_reducible rfl
            rotate_left
            ·simp only [Act.put, List.setIfInBounds_toArray, List.set_cons_zero, List.set_cons_succ, i64_w, i32_w]
             rfl
            refine pure_ (i := 7) (N := some 20) (v := ?_) (a' := ?_) #[true, true, true, true, true, true, true, true, false, false, false, false, false, false, false, false, false, false] rfl rfl (any_of HT_.out (by kernel_rfl)) (fun _ _ _ h => h) (Or.inl ⟨by rfl, ?_⟩) ?_ ?_
            rotate_left
            ·intro w'
             go_simp
             with_reducible rfl
            rotate_left
            ·simp only [Act.put, List.setIfInBounds_toArray, List.set_cons_zero, List.set_cons_succ, i64_w, i32_w]
             rfl
            refine pure_ (i := 8) (N := some 21) (v := ?_) (a' := ?_) #[true, true, true, true, true, true, true, true, true, false, false, false, false, false, false, false, false, false] rfl rfl (any_of HT_.out (by kernel_rfl)) (fun _ _ _ h => h) (Or.inl ⟨by rfl, ?_⟩) ?_ ?_
            rotate_left
            ·intro w'
             go_simp
             with_reducible rfl
            rotate_left
            ·simp only [Act.put, List.setIfInBounds_toArray, List.set_cons_zero, List.set_cons_succ, i64_w, i32_w]
             rfl
            refine pure_ (i := 9) (N := some 22) (v := ?_) (a' := ?_) #[true, true, true, true, true, true, true, true, true, true, false, false, false, false, false, false, false, false] rfl rfl (any_of HT_.out (by kernel_rfl)) (fun _ _ _ h => h) (Or.inl ⟨by rfl, ?_⟩) ?_ ?_
            rotate_left
            ·intro w'
             go_simp
             with_reducible rfl
            rotate_left
            ·simp only [Act.put, List.setIfInBounds_toArray, List.set_cons_zero, List.set_cons_succ, i64_w, i32_w]
             rfl
            refine pure_ (i := 11) (N := some 24) (v := ?_) (a' := ?_) #[true, true, true, true, true, true, true, true, true, true, false, true, false, false, false, false, false, false] rfl rfl (any_of HT_.out (by kernel_rfl)) (fun _ _ _ h => h) (Or.inl ⟨by rfl, ?_⟩) ?_ ?_
            rotate_left
            ·intro w'
             go_simp
             with_reducible rfl
            rotate_left
            ·simp only [Act.put, List.setIfInBounds_toArray, List.set_cons_zero, List.set_cons_succ, i64_w, i32_w]
             rfl
            refine pure_ (i := 12) (N := some 25) (v := ?_) (a' := ?_) #[true, true, true, true, true, true, true, true, true, true, false, true, true, false, false, false, false, false] rfl rfl (any_of HT_.out (by kernel_rfl)) (fun _ _ _ h => h) (Or.inl ⟨by rfl, ?_⟩) ?_ ?_
            rotate_left
            ·intro w'
             go_simp
             with_reducible rfl
            rotate_left
            ·simp only [Act.put, List.setIfInBounds_toArray, List.set_cons_zero, List.set_cons_succ, i64_w, i32_w]
             rfl
            refine pure_ (i := 13) (N := some 26) (v := ?_) (a' := ?_) #[true, true, true, true, true, true, true, true, true, true, false, true, true, true, false, false, false, false] rfl rfl (any_of HT_.out (by kernel_rfl)) (fun _ _ _ h => h) (Or.inl ⟨by rfl, ?_⟩) ?_ ?_
            rotate_left
            ·intro w'
             go_simp
             with_reducible rfl
            rotate_left
            ·simp only [Act.put, List.setIfInBounds_toArray, List.set_cons_zero, List.set_cons_succ, i64_w, i32_w]
             rfl
            refine take_ (i := 10) (N := some 23) (v := ?_) (a' := ?_) #[true, true, true, true, true, true, true, true, true, true, true, true, true, true, false, false, false, false] rfl rfl (take_ofW HT_.out HW_.out (by kernel_rfl)) (fun _ _ _ h => h) (Or.inl ⟨by rfl, ?_⟩) hHeld ?_ ?_
            rotate_left
            ·rintro w' ⟨s0, s1⟩
             go_simp
             with_reducible rfl
            rotate_left
            ·simp only [Act.put, List.setIfInBounds_toArray, List.set_cons_zero, List.set_cons_succ, i64_w, i32_w]
             rfl
            refine take_ (i := 14) (N := some 27) (v := ?_) (a' := ?_) #[true, true, true, true, true, true, true, true, true, true, true, true, true, true, true, false, false, false] rfl rfl (take_ofW HT_.out HW_.out (by kernel_rfl)) (fun _ _ _ h => h) (Or.inl ⟨by rfl, ?_⟩) hHeld ?_ ?_
            rotate_left
            ·rintro w' ⟨s0, s1⟩
             go_simp
             with_reducible rfl
            rotate_left
            ·simp only [Act.put, List.setIfInBounds_toArray, List.set_cons_zero, List.set_cons_succ, i64_w, i32_w]
             rfl
            refine pure_ (i := 15) (N := some 28) (v := ?_) (a' := ?_) #[true, true, true, true, true, true, true, true, true, true, true, true, true, true, true, true, false, false] rfl rfl (any_of HT_.out (by kernel_rfl)) (fun _ _ _ h => h) (Or.inl ⟨by rfl, ?_⟩) ?_ ?_
            rotate_left
            ·intro w'
             go_simp
             with_reducible rfl
            rotate_left
            ·simp only [Act.put, List.setIfInBounds_toArray, List.set_cons_zero, List.set_cons_succ, i64_w, i32_w]
             rfl
            refine pure_ (i := 16) (N := some 29) (v := ?_) (a' := ?_) #[true, true, true, true, true, true, true, true, true, true, true, true, true, true, true, true, true, false] rfl rfl (any_of HT_.out (by kernel_rfl)) (fun _ _ _ h => h) (Or.inl ⟨by rfl, ?_⟩) ?_ ?_
            rotate_left
            ·intro w'
             go_simp
             with_reducible rfl
            rotate_left
            ·simp only [Act.put, List.setIfInBounds_toArray, List.set_cons_zero, List.set_cons_succ, i64_w, i32_w]
             rfl
            refine pure_ (i := 17) (N := some 30) (v := ?_) (a' := ?_) #[true, true, true, true, true, true, true, true, true, true, true, true, true, true, true, true, true, true] rfl rfl (any_of HT_.out (by kernel_rfl)) (fun _ _ _ h => h) (Or.inl ⟨by rfl, ?_⟩) ?_ ?_
            rotate_left
            ·intro w'
             go_simp
             with_reducible rfl
            rotate_left
            ·simp only [Act.put, List.setIfInBounds_toArray, List.set_cons_zero, List.set_cons_succ, i64_w, i32_w]
             rfl
            refine done_ (done_of HT_.out (by kernel_rfl)) ?_
            try go_wp2
            have n0_ := Aside0.mk (Kd.R_drew HO_3.out)
            have n1_ := Aside0.mk (below_drew1 HB.out)
            clear HO_3
            clear HB
            have HO_3 := n0_
            have HB := n1_
            clear n0_ n1_
            have p172 : 0 ≤ (x4_1 : Int) := of_decide_eq_true (by first | (with_reducible assumption) | assumption)
            have q172 : x4_1 < (l0.length : Int) := of_decide_eq_true (by first | (with_reducible assumption) | assumption)
            obtain ⟨ad172, e172, hx172_0⟩ := Kd.at_int HR0.out x4_1 p172 q172
            have hw172_0 := hx172_0
            obtain rfl : ad170 = ad172 := (by injection e172)
            replace hx172_0 := (HB.out.cell (World.block_lt_of_cell? w _ hx172_0)).trans hx172_0
            replace p172 := eq_true p172
            replace q172 := eq_true q172
            have p173 : 0 ≤ (x5_1 : Int) := of_decide_eq_true (by first | (with_reducible assumption) | assumption)
            have q173 : x5_1 < (l0.length : Int) := of_decide_eq_true (by first | (with_reducible assumption) | assumption)
            obtain ⟨ad173, e173, hx173_0⟩ := Kd.at_int HR0.out x5_1 p173 q173
            have hw173_0 := hx173_0
            obtain rfl : ad170 = ad173 := (by injection e173)
            replace hx173_0 := (HB.out.cell (World.block_lt_of_cell? w _ hx173_0)).trans hx173_0
            replace p173 := eq_true p173
            replace q173 := eq_true q173
            refine start_ (n := 13) (S := fun w' => w'.cell? (ad170.add (x4_1).toNat) = some (.int .i64 (rd l0 x4_1)) ∧ w'.cell? (ad170.add (x5_1).toNat) = some (.int .i64 (rd l0 x5_1))) (ds := []) #[false, false, false, false, false, false, false, false, false, false, false, false, false] (by kernel_rfl) rfl rfl ⟨((HB.out.cell (World.block_lt_of_cell? w _ hw172_0)).trans hw172_0), ((HB.out.cell (World.block_lt_of_cell? w _ hw173_0)).trans hw173_0)⟩ (fun hHeld => ?_); refine with_tabW secateurref02_Pack.tab6 secateurref02_Pack.bits6 (fun HT_ HW_ => ?_)
            generalize w22.drew = w23 at HO_3 HB hx172_0 hx173_0 hHeld ⊢
            refine pure_ (i := 0) (N := some 31) (v := ?_) (a' := ?_) #[true, false, false, false, false, false, false, false, false, false, false, false, false] rfl rfl (any_of HT_.out (by kernel_rfl)) (fun _ _ _ h => h) (Or.inl ⟨by rfl, ?_⟩) ?_ ?_
            rotate_left
            ·intro w'
             go_simp
             with_reducible rfl
            rotate_left
            ·simp only [Act.put, List.setIfInBounds_toArray, List.set_cons_zero, List.set_cons_succ, i64_w, i32_w]
             rfl
            refine pure_ (i := 1) (N := some 32) (v := ?_) (a' := ?_) #[true, true, false, false, false, false, false, false, false, false, false, false, false] rfl rfl (any_of HT_.out (by kernel_rfl)) (fun _ _ _ h => h) (Or.inl ⟨by rfl, ?_⟩) ?_ ?_
            rotate_left
            ·intro w'
             go_simp
             with_reducible rfl
            rotate_left
            ·simp only [Act.put, List.setIfInBounds_toArray, List.set_cons_zero, List.set_cons_succ, i64_w, i32_w]
             rfl
            refine pure_ (i := 2) (N := some 33) (v := ?_) (a' := ?_) #[true, true, true, false, false, false, false, false, false, false, false, false, false] rfl rfl (any_of HT_.out (by kernel_rfl)) (fun _ _ _ h => h) (Or.inl ⟨by rfl, ?_⟩) ?_ ?_
            rotate_left
            ·intro w'
             go_simp
             with_reducible rfl
            rotate_left
            ·simp only [Act.put, List.setIfInBounds_toArray, List.set_cons_zero, List.set_cons_succ, i64_w, i32_w]
             rfl
            refine pure_ (i := 3) (N := some 34) (v := ?_) (a' := ?_) #[true, true, true, true, false, false, false, false, false, false, false, false, false] rfl rfl (any_of HT_.out (by kernel_rfl)) (fun _ _ _ h => h) (Or.inl ⟨by rfl, ?_⟩) ?_ ?_
            rotate_left
            ·intro w'
             go_simp
             with_reducible rfl
            rotate_left
            ·simp only [Act.put, List.setIfInBounds_toArray, List.set_cons_zero, List.set_cons_succ, i64_w, i32_w]
             rfl
            refine pure_ (i := 5) (N := some 36) (v := ?_) (a' := ?_) #[true, true, true, true, false, true, false, false, false, false, false, false, false] rfl rfl (any_of HT_.out (by kernel_rfl)) (fun _ _ _ h => h) (Or.inl ⟨by rfl, ?_⟩) ?_ ?_
            rotate_left
            ·intro w'
             go_simp
             with_reducible rfl
            rotate_left
            ·simp only [Act.put, List.setIfInBounds_toArray, List.set_cons_zero, List.set_cons_succ, i64_w, i32_w]
             rfl
            refine pure_ (i := 6) (N := some 37) (v := ?_) (a' := ?_) #[true, true, true, true, false, true, true, false, false, false, false, false, false] rfl rfl (any_of HT_.out (by kernel_rfl)) (fun _ _ _ h => h) (Or.inl ⟨by rfl, ?_⟩) ?_ ?_
            rotate_left
            ·intro w'
             go_simp
             with_reducible rfl
            rotate_left
            ·simp only [Act.put, List.setIfInBounds_toArray, List.set_cons_zero, List.set_cons_succ, i64_w, i32_w]
             rfl
            refine pure_ (i := 7) (N := some 38) (v := ?_) (a' := ?_) #[true, true, true, true, false, true, true, true, false, false, false, false, false] rfl rfl (any_of HT_.out (by kernel_rfl)) (fun _ _ _ h => h) (Or.inl ⟨by rfl, ?_⟩) ?_ ?_
            rotate_left
            ·intro w'
             go_simp
             with_reducible rfl
            rotate_left
            ·simp only [Act.put, List.setIfInBounds_toArray, List.set_cons_zero, List.set_cons_succ, i64_w, i32_w]
             rfl
            refine take_ (i := 4) (N := some 35) (v := ?_) (a' := ?_) #[true, true, true, true, true, true, true, true, false, false, false, false, false] rfl rfl (take_ofW HT_.out HW_.out (by kernel_rfl)) (fun _ _ _ h => h) (Or.inl ⟨by rfl, ?_⟩) hHeld ?_ ?_
            rotate_left
            ·rintro w' ⟨s0, s1⟩
             go_simp
             with_reducible rfl
            rotate_left
            ·simp only [Act.put, List.setIfInBounds_toArray, List.set_cons_zero, List.set_cons_succ, i64_w, i32_w]
             rfl
            refine take_ (i := 8) (N := some 39) (v := ?_) (a' := ?_) #[true, true, true, true, true, true, true, true, true, false, false, false, false] rfl rfl (take_ofW HT_.out HW_.out (by kernel_rfl)) (fun _ _ _ h => h) (Or.inl ⟨by rfl, ?_⟩) hHeld ?_ ?_
            rotate_left
            ·rintro w' ⟨s0, s1⟩
             go_simp
             with_reducible rfl
            rotate_left
            ·simp only [Act.put, List.setIfInBounds_toArray, List.set_cons_zero, List.set_cons_succ, i64_w, i32_w]
             rfl
            refine pure_ (i := 9) (N := some 40) (v := ?_) (a' := ?_) #[true, true, true, true, true, true, true, true, true, true, false, false, false] rfl rfl (any_of HT_.out (by kernel_rfl)) (fun _ _ _ h => h) (Or.inl ⟨by rfl, ?_⟩) ?_ ?_
            rotate_left
            ·intro w'
             go_simp
             with_reducible rfl
            rotate_left
            ·simp only [Act.put, List.setIfInBounds_toArray, List.set_cons_zero, List.set_cons_succ, i64_w, i32_w]
             rfl
            refine one_ (i := 10) (N := some 41) #[true, true, true, true, true, true, true, true, true, true, true, false, false] rfl rfl (one_of HT_.out (by kernel_rfl)) (by decide) (fun K hK => ?_)
            refine value_ (w1 := ?_) (v := ?_) (by rfl) rfl ?_ ?_
            rotate_left 2
            ·go_simp
             constructor
             ·rfl
             ·rfl
            refine hK.out _ _ ⟨(World.cell?_alloc_lt _ _ _ (World.block_lt_of_cell? _ _ (((HB.out.cell (World.block_lt_of_cell? w _ hw172_0)).trans hw172_0)))).trans (((HB.out.cell (World.block_lt_of_cell? w _ hw172_0)).trans hw172_0)), (World.cell?_alloc_lt _ _ _ (World.block_lt_of_cell? _ _ (((HB.out.cell (World.block_lt_of_cell? w _ hw173_0)).trans hw173_0)))).trans (((HB.out.cell (World.block_lt_of_cell? w _ hw173_0)).trans hw173_0))⟩ (fun hHeld => ?_)
            clear hK K
            refine norm_ (a' := ?_) ?_ ?_
            rotate_left
            ·show Act.put _ (some 41) _ = _
             simp only [Act.put, List.setIfInBounds_toArray, List.set_cons_zero, List.set_cons_succ, i64_w, i32_w]
             rfl
            refine one_ (i := 11) (N := some 42) #[true, true, true, true, true, true, true, true, true, true, true, true, false] rfl rfl (one_of HT_.out (by kernel_rfl)) (by decide) (fun K hK => ?_)
            refine Kd.R_append_step k41 (w0 := w) w.heap.size (by rfl) (.tmp 31) (.tmp 41) 39 41 (.agg #[(.int .i64 0), (.int .i64 0)]) 16 rfl Try.underlying39 info41 rfl (by decide) (by omega) u3 x3_1 (⟨rd l0 x4_1, rd l0 x5_1⟩ : S41) [.int .i64 (rd l0 x4_1), .int .i64 (rd l0 x5_1)] (fun _ => True) (fun _ => False) rfl rfl ?aP (fun _ hk => hk.elim) ?aF ?aO ?aB ?aS ?aL ?_
            (case aP => exact k41_mkM _ _ _ (⟨rd l0 x4_1, rd l0 x5_1⟩ : S41))
            (case aB => exact (by repeat (first | (with_reducible first | exact HB.out | apply below_alloc | apply pw_below_drewN | apply below_drew1) | exact HB.out)))
            (case aF => exact (fun _ _ => trivial))
            (case aO => exact (by (with_reducible repeat (first | apply Kd.R_alloc | apply Kd.R_drewN | apply Kd.R_drew)); exact HO_3.out))
            (case aS => exact (below_size (by repeat (first | (with_reducible first | exact HB.out | apply below_alloc | apply pw_below_drewN | apply below_drew1) | exact HB.out))))
            (case aL => have := LMc21.out; omega)
            intro v175 w24 ho hb hg hat
            rw [← Ny174.out] at ho
            have n0_ := Aside0.mk (hb)
            have n1_ := Aside0.mk (ho)
            clear HB
            clear HO_3
            have HB := n0_
            have HO176 := n1_
            clear n0_ n1_
            clear ho hb hg hat
            refine hK.out _ _ ⟨((HB.out.cell (World.block_lt_of_cell? w _ hw172_0)).trans hw172_0), ((HB.out.cell (World.block_lt_of_cell? w _ hw173_0)).trans hw173_0)⟩ (fun hHeld => ?_)
            clear hK K
            refine norm_ (a' := ?_) ?_ ?_
            rotate_left
            ·show Act.put _ (some 42) _ = _
             simp only [Act.put, List.setIfInBounds_toArray, List.set_cons_zero, List.set_cons_succ, i64_w, i32_w]
             rfl
            refine pure_ (i := 12) (N := some 3) (v := ?_) (a' := ?_) #[true, true, true, true, true, true, true, true, true, true, true, true, true] rfl rfl (any_of HT_.out (by kernel_rfl)) (fun _ _ _ h => h) (Or.inl ⟨by rfl, ?_⟩) ?_ ?_
            rotate_left
            ·intro w'
             go_simp
             with_reducible rfl
            rotate_left
            ·simp only [Act.put, List.setIfInBounds_toArray, List.set_cons_zero, List.set_cons_succ, i64_w, i32_w]
             rfl
            refine done_ (done_of HT_.out (by kernel_rfl)) ?_
            try go_wp2
            go_roundg k1
            case measure => have := HK1.out; omega
            case rel => exact ⟨(y174), (ji13), (ji13), (by first | rfl | (simp; done) | (simp only [← hji13] <;> (first | rfl | simp)) | (simp [*]; done)), (by first | rfl | (simp; done) | (simp only [← hji13] <;> (first | rfl | simp)) | (simp [*]; done)), H', ⟨by have := HK1.out; omega⟩, ⟨by (with_reducible repeat (first | apply Kd.R_alloc | apply Kd.R_drewN | apply Kd.R_drew)); exact HO176.out⟩, ⟨by repeat (first | (with_reducible first | exact HB.out | apply below_alloc | apply pw_below_drewN | apply below_drew1) | exact HB.out)⟩⟩
           ·rw [if_neg c21] at H
            exact absurd H (by simp)
          ·rw [if_neg c20] at H
           exact absurd H (by simp)
         ·rw [if_neg c19] at H
          exact absurd H (by simp)
       ·rw [if_neg c16] at H
        exact absurd H (by simp)
      ·rw [if_neg c15] at H
       exact absurd H (by simp)
     ·rw [if_neg c14] at H
      exact absurd H (by simp)
   ·rw [if_neg c4] at H
    have c4b0 : decide (x5_1 < (l0.length : Int)) = false := decide_eq_false c4
    clear c4
    obtain rfl := Option.some.inj H
    go_wp2
    go_ret
    exact ⟨_, by first | rfl | (simp [errW_none, errW_some] <;> rfl) | (simp [*, errW_none, errW_some] <;> rfl), by (with_reducible repeat (first | apply Kd.R_alloc | apply Kd.R_drewN | apply Kd.R_drew)); exact HO_3.out, by repeat (first | (with_reducible first | exact HB.out | apply below_alloc | apply pw_below_drewN | apply below_drew1) | exact HB.out)⟩

end Go.Proofs.Ytpbcigilipdedaa.P

-- Written by wip/tools/px.py out of the translation. Lean checks it.
namespace Go.Proofs.Ytpbcigilipdedaa.P
open Go.RowKit Go.Proofs.YtpbcigilipdedaaW.PrintWords Go.Proofs.YtpbcigilipdedaaW.PrintLast Go.Proofs.YtpbcigilipdedaaW.PrintMore
attribute [local go_sem] max2_int min2_int max_two min_two max_three min_three max_four min_four   -- for this text's walks alone
set_option linter.unusedVariables false
set_option linter.unusedSimpArgs false

/-! ### secateurref02_Value: function 85 -/
def secateurref02_Value.f (a0 : Int) : Option (Bool) := if a0 ≥ (-1048576) then (some (decide (a0 ≤ 1048576))) else (some false)
set_option maxHeartbeats 8000000 in
set_option maxRecDepth 100000 in
theorem secateurref02_Value.calls (a0 : Int) (r : Bool) (w : World) (h : secateurref02_Value.f a0 = some r) :
  Calls Try.prog 85 #[.int .i64 a0] w fun e w' => e = .returned (.bool r) ∧ Drawn0 w w' := by
 have H : (if a0 ≥ (-1048576) then (some (decide (a0 ≤ 1048576))) else (some false)) = some r := h
 clear h
 by_cases c2 : a0 ≥ (-1048576)
 ·rw [if_pos c2] at H
  have c2b0 : decide ((-1048576) ≤ a0) = true := decide_eq_true c2
  clear c2
  obtain rfl := Option.some.inj H
  go_enter Try.func85, Try.ntmps85
  go_wp2
  go_ret
  exact ⟨by first | rfl | (simp; done) | (simp [*]; done), by repeat (first | exact Drawn0.refl _ | apply Drawn0.step)⟩
 ·rw [if_neg c2] at H
  have c2b0 : decide ((-1048576) ≤ a0) = false := decide_eq_false c2
  clear c2
  obtain rfl := Option.some.inj H
  go_enter Try.func85, Try.ntmps85
  go_wp2
  go_ret
  exact ⟨by first | rfl | (simp; done) | (simp [*]; done), by repeat (first | exact Drawn0.refl _ | apply Drawn0.step)⟩

end Go.Proofs.Ytpbcigilipdedaa.P

-- Written by wip/tools/px.py out of the translation. Lean checks it.
namespace Go.Proofs.Ytpbcigilipdedaa.P
open Go.RowKit Go.Proofs.YtpbcigilipdedaaW.PrintWords Go.Proofs.YtpbcigilipdedaaW.PrintLast Go.Proofs.YtpbcigilipdedaaW.PrintMore
attribute [local go_sem] max2_int min2_int max_two min_two max_three min_three max_four min_four   -- for this text's walks alone
set_option linter.unusedVariables false
set_option linter.unusedSimpArgs false

/-! ### secateurref02_Of: function 59 -/
def secateurref02_Of.l0 : Nat → List Int → Int → Option ((List (S41)) × Int)
 | 0, _, _ => none
 | k + 1, x0, x4 => if x4 < (x0.length : Int) then (if 0 ≤ x4 then ((secateurref02_Value.f (rd x0 x4)).bind fun t178 => (if t178 = true then (secateurref02_Of.l0 k x0 (wrap64 (x4 + 1))) else (some (([] : List (S41)), 20)))) else (none)) else ((secateurref02_Sorted.f k x0).bind fun t179 => (if (t179.length : Int) > 4096 then (some (([] : List (S41)), 2)) else ((secateurref02_Pack.f k t179).bind fun t182 => (some (t182, 0)))))
def secateurref02_Of.f (k : Nat) (l0 : List Int) : Option ((List (S41)) × Int) := secateurref02_Of.l0 k l0 0
theorem secateurref02_Of.mono_l : ∀ k, (∀ y0 y1, LeO (secateurref02_Of.l0 k y0 y1) (secateurref02_Of.l0 (k + 1) y0 y1))
 | 0 => fun _ _ r h => by simp [secateurref02_Of.l0] at h
 | k + 1 => by
  have ih0 := secateurref02_Of.mono_l k
  ·intro y0 y1
   unfold secateurref02_Of.l0
   repeat' first
   | (with_reducible exact ih0 _ _)
   | (with_reducible exact secateurref02_Pack.mono _ _)
   | (with_reducible exact secateurref02_Sorted.mono _ _)
   | (with_reducible exact LeO.refl _)
   | (with_reducible exact LeO.none _)
   | (with_reducible refine LeO.ite ?_ ?_)
   | (with_reducible refine LeO.bind ?_ (fun _ => ?_))
   | exact ih0 _ _
   | exact secateurref02_Pack.mono _ _
   | exact secateurref02_Sorted.mono _ _
   | exact LeO.none _
   | refine LeO.ite ?_ ?_
   | refine LeO.bind ?_ (fun _ => ?_)
theorem secateurref02_Of.mono : ∀ a0 k, LeO (secateurref02_Of.f k a0) (secateurref02_Of.f (k + 1) a0) := by
 intro a0 k
 have ih0 := secateurref02_Of.mono_l k
 unfold secateurref02_Of.f
 repeat' first
   | (with_reducible exact ih0 _ _)
   | (with_reducible exact secateurref02_Pack.mono _ _)
   | (with_reducible exact secateurref02_Sorted.mono _ _)
   | (with_reducible exact LeO.refl _)
   | (with_reducible exact LeO.none _)
   | (with_reducible refine LeO.ite ?_ ?_)
   | (with_reducible refine LeO.bind ?_ (fun _ => ?_))
   | exact ih0 _ _
   | exact secateurref02_Pack.mono _ _
   | exact secateurref02_Sorted.mono _ _
   | exact LeO.none _
   | refine LeO.ite ?_ ?_
   | refine LeO.bind ?_ (fun _ => ?_)
set_option maxHeartbeats 8000000 in
set_option maxRecDepth 100000 in
theorem secateurref02_Of.calls (k : Nat) (A0 : Option Addr) (c0 : Nat) (l0 : List Int) (r1 : List (S41)) (r2 : Int) (w : World) (hr0 : Kd.C (Kd.int .i64) w A0 l0.length l0) (hc0 : l0.length ≤ c0) (h : secateurref02_Of.f k l0 = some (r1, r2)) :
  Calls Try.prog 59 #[.slice A0 l0.length c0] w fun e w' => ∃ v0_ : Value, e = .returned (.tuple #[v0_, .int .i64 r2]) ∧ Kd.R k41 41 w' w.heap.size (fun _ => True) v0_ r1 ∧ Below w.heap.size w w' := by
 have HR0 := Aside0.mk hr0
 have HC0 := Aside0.mk hc0
 clear hr0 hc0
 have HB := Aside0.mk (Below.refl w.heap.size w)
 have H : (secateurref02_Of.l0 k l0 0) = some (r1, r2) := h
 clear h
 have H' := Aside0.mk H
 clear H
 go_enter Try.func59, Try.ntmps59
 go_wp2
 go_loopg [4] k (fun kq v4 w' => ∃ (x4_1 : Int), v4 = .int .i64 x4_1 ∧ Aside0 (secateurref02_Of.l0 kq l0 x4_1 = some (r1, r2)) ∧ Aside0 (kq ≤ k) ∧ Aside0 (Below w.heap.size w w'))
 case atStart => exact ⟨(0), (by first | rfl | (simp; done) | (simp [*]; done)), H', ⟨Nat.le_refl _⟩, ⟨by repeat (first | (with_reducible first | exact HB.out | apply below_alloc | apply pw_below_drewN | apply below_drew1) | exact HB.out)⟩⟩
 case round =>
  clear H'
  obtain ⟨x4_1, rfl, HA, HK1, HB⟩ := hrel
  cases gk with
  | zero => exact absurd HA.out (by simp [secateurref02_Of.l0])
  | succ k1 =>
   have H := HA.out
   clear HA
   simp only [secateurref02_Of.l0] at H
   by_cases c2 : x4_1 < (l0.length : Int)
   ·rw [if_pos c2] at H
    have c2b0 : decide (x4_1 < (l0.length : Int)) = true := decide_eq_true c2
    clear c2
    by_cases c3 : 0 ≤ x4_1
    ·rw [if_pos c3] at H
     have c3b0 : decide (0 ≤ x4_1) = true := decide_eq_true c3
     clear c3
     replace H := Option.bind_eq_some_iff.mp H
     obtain ⟨t178, A40, H⟩ := H
     replace H : (if t178 = true then (secateurref02_Of.l0 k1 l0 (wrap64 (x4_1 + 1))) else (some (([] : List (S41)), 20))) = some (r1, r2) := H
     have A4 := Aside0.mk A40
     clear A40
     by_cases c5 : t178 = true
     ·subst c5
      have H1 : (secateurref02_Of.l0 k1 l0 (wrap64 (x4_1 + 1))) = some (r1, r2) := by rw [if_pos rfl] at H; exact H
      clear H
      have H := H1
      clear H1
      have H' := Aside0.mk H
      clear H
      have p177 : 0 ≤ (x4_1 : Int) := of_decide_eq_true (by first | (with_reducible assumption) | assumption)
      have q177 : x4_1 < (l0.length : Int) := of_decide_eq_true (by first | (with_reducible assumption) | assumption)
      obtain ⟨ad177, e177, hx177_0⟩ := Kd.at_int HR0.out x4_1 p177 q177
      cases e177
      replace hx177_0 := (HB.out.cell (World.block_lt_of_cell? w _ hx177_0)).trans hx177_0
      replace p177 := eq_true p177
      replace q177 := eq_true q177
      go_wp2_with (first | ((with_reducible refine gate_callee (f := 85) rfl ?_); refine goesL_ (some 16) rfl rfl Try.func85 (by kernel_rfl) rfl #[.int .i64 (rd l0 x4_1)] rfl (by (try simp only [List.map_toArray, List.map_cons, List.map_nil]); first | done | rfl | (simp only [List.length_drop, List.length_take]; rfl)) ?_; (with_reducible refine (secateurref02_Value.calls (rd l0 x4_1) true _ A4.out).mono ?_); rintro e w' ⟨rfl, ⟨nd, rfl⟩⟩; refine ⟨_, rfl, ?_⟩))
      go_roundg k1
      case measure => have := HK1.out; omega
      case rel => exact ⟨(wrap64 (x4_1 + 1)), (by first | rfl | (simp; done) | (simp [*]; done)), H', ⟨by have := HK1.out; omega⟩, ⟨by repeat (first | (with_reducible first | exact HB.out | apply below_alloc | apply pw_below_drewN | apply below_drew1) | exact HB.out)⟩⟩
     ·replace c5 := Bool.eq_false_iff.mpr c5
      subst c5
      have H1 : (some (([] : List (S41)), 20)) = some (r1, r2) := by rw [if_neg (show ¬ (false = true) by decide)] at H; exact H
      clear H
      have H := H1
      clear H1
      simp only [Option.some.injEq, Prod.mk.injEq] at H
      obtain ⟨rfl, rfl⟩ := H
      have p177 : 0 ≤ (x4_1 : Int) := of_decide_eq_true (by first | (with_reducible assumption) | assumption)
      have q177 : x4_1 < (l0.length : Int) := of_decide_eq_true (by first | (with_reducible assumption) | assumption)
      obtain ⟨ad177, e177, hx177_0⟩ := Kd.at_int HR0.out x4_1 p177 q177
      cases e177
      replace hx177_0 := (HB.out.cell (World.block_lt_of_cell? w _ hx177_0)).trans hx177_0
      replace p177 := eq_true p177
      replace q177 := eq_true q177
      go_wp2_with (first | ((with_reducible refine gate_callee (f := 85) rfl ?_); refine goesL_ (some 16) rfl rfl Try.func85 (by kernel_rfl) rfl #[.int .i64 (rd l0 x4_1)] rfl (by (try simp only [List.map_toArray, List.map_cons, List.map_nil]); first | done | rfl | (simp only [List.length_drop, List.length_take]; rfl)) ?_; (with_reducible refine (secateurref02_Value.calls (rd l0 x4_1) false _ A4.out).mono ?_); rintro e w' ⟨rfl, ⟨nd, rfl⟩⟩; refine ⟨_, rfl, ?_⟩))
      go_ret2
      exact ⟨_, by first | rfl | (simp [errW_none, errW_some] <;> rfl) | (simp [*, errW_none, errW_some] <;> rfl), by first | exact Kd.R_nil _ _ _ _ _ | exact Kd.N_nil _ _ _ _ _ | exact Kd.V_nil _ _ _ _ _ | exact Kd.Q_nil _ _ _ _ _ | exact Kd.S_nil _ _ _ _ _, by repeat (first | (with_reducible first | exact HB.out | apply below_alloc | apply pw_below_drewN | apply below_drew1) | exact HB.out)⟩
    ·rw [if_neg c3] at H
     exact absurd H (by simp)
   ·rw [if_neg c2] at H
    have c2b0 : decide (x4_1 < (l0.length : Int)) = false := decide_eq_false c2
    clear c2
    replace H := Option.bind_eq_some_iff.mp H
    obtain ⟨t179, A60, H⟩ := H
    replace H : (if (t179.length : Int) > 4096 then (some (([] : List (S41)), 2)) else ((secateurref02_Pack.f k1 t179).bind fun t182 => (some (t182, 0)))) = some (r1, r2) := H
    have A6 := Aside0.mk A60
    clear A60
    by_cases c7 : (t179.length : Int) > 4096
    ·rw [if_pos c7] at H
     have c7b0 : decide (4096 < (t179.length : Int)) = true := decide_eq_true c7
     have c7b1 : decide (4096 < t179.length) = true := decide_eq_true (by omega)
     clear c7
     simp only [Option.some.injEq, Prod.mk.injEq] at H
     obtain ⟨rfl, rfl⟩ := H
     go_wp2_with (first | ((with_reducible refine gate_callee (f := 38) rfl ?_); refine goesL_ (some 19) rfl rfl Try.func38 (by kernel_rfl) rfl #[.slice A0 l0.length c0] rfl (by (try simp only [List.map_toArray, List.map_cons, List.map_nil]); first | done | rfl | (simp only [List.length_drop, List.length_take]; rfl)) ?_; (with_reducible refine (secateurref02_Sorted.calls k1 _ _ l0 t179 _ ?side1 ?side2 A6.out).mono ?_); (case side1 => repeat (first | exact (Kd.C_below HR0.out HB.out) | (with_reducible refine Kd.C_alloc ?_ _) | (with_reducible refine Kd.C_drewN ?_ _) | (with_reducible refine Kd.C_drew ?_))); (case side2 => exact HC0.out); rintro e w8 ⟨v180, rfl, ho0, hb⟩; refine ⟨_, rfl, ?_⟩; have n0_ := Aside0.mk (Kd.R_lower ho0 (below_size (by repeat (first | (with_reducible first | exact HB.out | apply below_alloc | apply pw_below_drewN | apply below_drew1) | exact HB.out)))); have n1_ := Aside0.mk (below_step (by repeat (first | (with_reducible first | exact HB.out | apply below_alloc | apply pw_below_drewN | apply below_drew1) | exact HB.out)) hb); clear HB; have HO181 := n0_; have HB := n1_; clear n0_ n1_; (try clear hb); (try clear hb2); (try clear hk); (try clear hi); (try clear ho0); obtain ⟨Ao9, co9, eo9⟩ := Kd.R_slice HO181.out; subst eo9))
     go_ret2
     exact ⟨_, by first | rfl | (simp [errW_none, errW_some] <;> rfl) | (simp [*, errW_none, errW_some] <;> rfl), by first | exact Kd.R_nil _ _ _ _ _ | exact Kd.N_nil _ _ _ _ _ | exact Kd.V_nil _ _ _ _ _ | exact Kd.Q_nil _ _ _ _ _ | exact Kd.S_nil _ _ _ _ _, by repeat (first | (with_reducible first | exact HB.out | apply below_alloc | apply pw_below_drewN | apply below_drew1) | exact HB.out)⟩
    ·rw [if_neg c7] at H
     have c7b0 : decide (4096 < (t179.length : Int)) = false := decide_eq_false c7
     have c7b1 : decide (4096 < t179.length) = false := decide_eq_false (by omega)
     clear c7
     replace H := Option.bind_eq_some_iff.mp H
     obtain ⟨t182, A100, H⟩ := H
     replace H : (some (t182, 0)) = some (r1, r2) := H
     have A10 := Aside0.mk A100
     clear A100
     simp only [Option.some.injEq, Prod.mk.injEq] at H
     obtain ⟨rfl, rfl⟩ := H
     go_wp2_with (first | ((with_reducible refine gate_callee (f := 38) rfl ?_); refine goesL_ (some 19) rfl rfl Try.func38 (by kernel_rfl) rfl #[.slice A0 l0.length c0] rfl (by (try simp only [List.map_toArray, List.map_cons, List.map_nil]); first | done | rfl | (simp only [List.length_drop, List.length_take]; rfl)) ?_; (with_reducible refine (secateurref02_Sorted.calls k1 _ _ l0 t179 _ ?side1 ?side2 A6.out).mono ?_); (case side1 => repeat (first | exact (Kd.C_below HR0.out HB.out) | (with_reducible refine Kd.C_alloc ?_ _) | (with_reducible refine Kd.C_drewN ?_ _) | (with_reducible refine Kd.C_drew ?_))); (case side2 => exact HC0.out); rintro e w11 ⟨v180, rfl, ho0, hb⟩; refine ⟨_, rfl, ?_⟩; have n0_ := Aside0.mk (Kd.R_lower ho0 (below_size (by repeat (first | (with_reducible first | exact HB.out | apply below_alloc | apply pw_below_drewN | apply below_drew1) | exact HB.out)))); have n1_ := Aside0.mk (below_step (by repeat (first | (with_reducible first | exact HB.out | apply below_alloc | apply pw_below_drewN | apply below_drew1) | exact HB.out)) hb); clear HB; have HO181 := n0_; have HB := n1_; clear n0_ n1_; (try clear hb); (try clear hb2); (try clear hk); (try clear hi); (try clear ho0); obtain ⟨Ao12, co12, eo12⟩ := Kd.R_slice HO181.out; subst eo12) | ((with_reducible refine gate_callee (f := 58) rfl ?_); refine goesL_ (some 24) rfl rfl Try.func58 (by kernel_rfl) rfl #[.slice Ao12 t179.length co12] rfl (by (try simp only [List.map_toArray, List.map_cons, List.map_nil]); first | done | rfl | (simp only [List.length_drop, List.length_take]; rfl)) ?_; (with_reducible refine (secateurref02_Pack.calls k1 _ _ t179 t182 _ ?side1 ?side2 A10.out).mono ?_); (case side1 => repeat (first | exact (Kd.R_reads' HO181.out).2.2 | (with_reducible refine Kd.C_alloc ?_ _) | (with_reducible refine Kd.C_drewN ?_ _) | (with_reducible refine Kd.C_drew ?_))); (case side2 => exact (Kd.R_reads' HO181.out).2.1); rintro e w13 ⟨v183, rfl, ho0, hb⟩; refine ⟨_, rfl, ?_⟩; have n0_ := Aside0.mk (Kd.R_below (by (with_reducible repeat (first | apply Kd.R_alloc | apply Kd.R_drewN | apply Kd.R_drew)); exact HO181.out) hb); have n1_ := Aside0.mk (Kd.R_lower ho0 (below_size (by repeat (first | (with_reducible first | exact HB.out | apply below_alloc | apply pw_below_drewN | apply below_drew1) | exact HB.out)))); have n2_ := Aside0.mk (below_step (by repeat (first | (with_reducible first | exact HB.out | apply below_alloc | apply pw_below_drewN | apply below_drew1) | exact HB.out)) hb); clear HO181; clear HB; have HO181 := n0_; have HO184 := n1_; have HB := n2_; clear n0_ n1_ n2_; (try clear hb); (try clear hb2); (try clear hk); (try clear hi); (try clear ho0)))
     go_ret2
     exact ⟨_, by first | rfl | (simp [errW_none, errW_some] <;> rfl) | (simp [*, errW_none, errW_some] <;> rfl), by (with_reducible repeat (first | apply Kd.R_alloc | apply Kd.R_drewN | apply Kd.R_drew)); exact HO184.out, by repeat (first | (with_reducible first | exact HB.out | apply below_alloc | apply pw_below_drewN | apply below_drew1) | exact HB.out)⟩

end Go.Proofs.Ytpbcigilipdedaa.P

/- The document's answers for domains: what each comes to. -/
namespace Go.Proofs.Ytpbcigilipdedaa.P
open Go.RowKit Go.Proofs.YtpbcigilipdedaaW.PrintWords Go.Proofs.YtpbcigilipdedaaW.PrintLast Go.Proofs.YtpbcigilipdedaaW.PrintMore
set_option linter.unusedVariables false
set_option linter.unusedSimpArgs false

theorem drop_nil' {α : Type} {l : List α} {n : Nat} (h : n + 0 = l.length) : l.drop n = [] := List.drop_eq_nil_iff.2 (by omega)

/-! ### Has -/
theorem ref_Has_l (l : List Int) (v : Int) (hl : l.length < 4611686018427387904) : ∀ (m n : Nat), n + m = l.length → Ev (fun k => secateurref02_Has.l0 k l v (n : Int)) (decide (v ∈ l.drop n)) := by
  intro m
  induction m with
  | zero =>
    intro n h
    rw [drop_nil' h]
    exact Ev.step (G := fun _ => some false) (fun k => by rw [secateurref02_Has.l0, if_neg (by omega)]) (Ev.const (by simp))
  | succ m ih =>
    intro n h
    have hn : n < l.length := by omega
    have hm : v ∈ l.drop n ↔ v = l[n] ∨ v ∈ l.drop (n + 1) := by rw [List.drop_eq_getElem_cons hn, List.mem_cons]
    by_cases e : l[n] = v
    · exact Ev.step (G := fun _ => some true) (fun k => by rw [secateurref02_Has.l0, if_pos (by omega), if_pos (by omega), rd_nat l n hn, if_pos e]) (Ev.const (by rw [decide_eq_true (hm.2 (.inl e.symm))]))
    · have e2 : decide (v ∈ l.drop n) = decide (v ∈ l.drop (n + 1)) := decide_eq_decide.2 (hm.trans ⟨fun h => h.elim (fun h => absurd h.symm e) id, .inr⟩)
      rw [e2]
      exact Ev.step (fun k => by rw [secateurref02_Has.l0, if_pos (by omega), if_pos (by omega), rd_nat l n hn, if_neg e, w1 (by omega)]) (ih (n + 1) (by omega))
theorem ref_Has (l : List Int) (v : Int) (hl : l.length < 4611686018427387904) : Ev (fun k => secateurref02_Has.f k l v) (decide (v ∈ l)) := ref_Has_l l v hl l.length 0 (by omega)

/-! ### Nums, Same -/
theorem ref_Nums_l (l m : List Int) (hl : l.length < 4611686018427387904) (hm : l.length = m.length) : ∀ (r n : Nat), n + r = l.length → Ev (fun k => secateurref02_Nums.l0 k l m (n : Int)) (decide (l.drop n = m.drop n)) := by
  intro r
  induction r with
  | zero =>
    intro n h
    rw [drop_nil' h, drop_nil' (l := m) (by omega)]
    exact Ev.step (G := fun _ => some true) (fun k => by rw [secateurref02_Nums.l0, if_neg (by omega)]) (Ev.const (by simp))
  | succ r ih =>
    intro n h
    have hn : n < l.length := by omega
    have hn2 : n < m.length := by omega
    have hm : l.drop n = m.drop n ↔ l[n] = m[n] ∧ l.drop (n + 1) = m.drop (n + 1) := by rw [List.drop_eq_getElem_cons hn, List.drop_eq_getElem_cons hn2, List.cons.injEq]
    by_cases e : l[n] = m[n]
    · have e2 : decide (l.drop n = m.drop n) = decide (l.drop (n + 1) = m.drop (n + 1)) := decide_eq_decide.2 (hm.trans ⟨And.right, fun h => ⟨e, h⟩⟩)
      rw [e2]
      exact Ev.step (fun k => by rw [secateurref02_Nums.l0, if_pos (by omega), if_pos (by omega), if_pos (by omega), rd_nat l n hn, rd_nat m n hn2, if_pos e, w1 (by omega)]) (ih (n + 1) (by omega))
    · exact Ev.step (G := fun _ => some false) (fun k => by rw [secateurref02_Nums.l0, if_pos (by omega), if_pos (by omega), if_pos (by omega), rd_nat l n hn, rd_nat m n hn2, if_neg e]) (Ev.const (by rw [decide_eq_false (fun h => e (hm.1 h).1)]))
theorem ref_Nums (l m : List Int) (hl : l.length < 4611686018427387904) : Ev (fun k => secateurref02_Nums.f k l m) (decide (l = m)) := by
  by_cases h : l.length = m.length
  · exact Ev.eq (fun k => by rw [secateurref02_Nums.f, if_pos (by omega)]; rfl) (ref_Nums_l l m hl h l.length 0 (by omega))
  · exact Ev.eq (G := fun _ => some false) (fun k => by rw [secateurref02_Nums.f, if_neg (by omega)]) (Ev.const (by simp; intro e; exact h (by rw [e])))
theorem ref_Nums_self (l : List Int) (hl : l.length < 4611686018427387904) : Ev (fun k => secateurref02_Nums.f k l l) true := by have := ref_Nums l l hl; simpa using this
theorem ref_Same_l (l : List Rg) (hl : l.length < 4611686018427387904) : ∀ (r n : Nat), n + r = l.length → Ev (fun k => secateurref02_Same.l0 k l l (n : Int)) true := by
  intro r
  induction r with
  | zero =>
    intro n h
    exact Ev.step (G := fun _ => some true) (fun k => by rw [secateurref02_Same.l0, if_neg (by omega)]) (Ev.const (by simp))
  | succ r ih =>
    intro n h
    exact Ev.step (fun k => by rw [secateurref02_Same.l0, if_pos (by omega), if_pos (by omega), if_pos (by omega), if_neg (by simp), w1 (by omega)]) (ih (n + 1) (by omega))
theorem ref_Same_self (l : List Rg) (hl : l.length < 4611686018427387904) : Ev (fun k => secateurref02_Same.f k l l) true :=
  Ev.eq (fun k => by rw [secateurref02_Same.f, if_pos (by omega)]; rfl) (ref_Same_l l hl l.length 0 (by omega))

/-! ### Values -/
theorem ref_Values_l1 (d : List Rg) (i : Nat) (hi : i < d.length) (h1 : d[i].f1 ≤ 1048576) {b : List Int} : ∀ (r : Nat) (v : Int) (acc : List Int), -1048576 ≤ v → r = (d[i].f1 + 1 - v).toNat → acc.length + r < 17592186044416 →
    Ev (fun k => secateurref02_Values.l0 k d (acc ++ upTo r v d[i].f1) (wrap64 ((i : Int) + 1))) b → Ev (fun k => secateurref02_Values.l1 k d acc (i : Int) v) b := by
  intro r
  induction r with
  | zero =>
    intro v acc hv hr hb h
    simp only [upTo, List.append_nil] at h
    exact Ev.step (fun k => by rw [secateurref02_Values.l1, if_pos (by omega), if_pos (by omega), show rd_T41 d (i : Int) = d[i] from rg_nat d i hi, if_neg (by omega)]) h
  | succ r ih =>
    intro v acc hv hr hb h
    have hle : v ≤ d[i].f1 := by omega
    rw [upTo, if_pos hle] at h
    exact Ev.step (fun k => by rw [secateurref02_Values.l1, if_pos (by omega), if_pos (by omega), show rd_T41 d (i : Int) = d[i] from rg_nat d i hi, if_pos hle, if_pos (by omega), w64 (n := v + 1) (by omega) (by omega)])
      (ih (v + 1) (acc ++ [v]) (by omega) (by omega) (by simp; omega) (by simpa using h))
theorem Gd.drop {V : Int} : ∀ {b : Int} {d : List Rg} (n : Nat), Gd V b d → Gd V b (d.drop n)
  | _, [], n, h => by simp [Gd]
  | b, x :: d, 0, h => h
  | b, x :: d, n + 1, ⟨h1, h2, h3, h4⟩ => (Gd.drop n h4).mono (by omega)
theorem ref_Values_l0 (d : List Rg) (hl : d.length < 4611686018427387904) {b : Int} (hd : Gd 1048576 b d) (hb : -1048576 ≤ b) : ∀ (m n : Nat) (acc : List Int), n + m = d.length → acc.length + (vals (d.drop n)).length < 17592186044416 →
    Ev (fun k => secateurref02_Values.l0 k d acc (n : Int)) (acc ++ vals (d.drop n)) := by
  intro m
  induction m with
  | zero =>
    intro n acc h _
    rw [drop_nil' h]
    exact Ev.step (G := fun _ => some acc) (fun k => by rw [secateurref02_Values.l0, if_neg (by omega)]) (Ev.const (by simp [vals]))
  | succ m ih =>
    intro n acc h hs
    have hn : n < d.length := by omega
    have hg := hd.drop n
    rw [List.drop_eq_getElem_cons hn] at hs hg ⊢
    obtain ⟨g1, g2, g3, g4⟩ := hg
    rw [vals] at hs ⊢
    rw [List.length_append] at hs
    have hu := upTo_len (d[n].f1 + 1 - d[n].f0).toNat d[n].f0 d[n].f1
    refine Ev.step (fun k => by rw [secateurref02_Values.l0, if_pos (by omega), if_pos (by omega), show rd_T41 d (n : Int) = d[n] from rg_nat d n hn]) (ref_Values_l1 d n hn g3 (d[n].f1 + 1 - d[n].f0).toNat d[n].f0 acc (by omega) rfl (by omega) ?_)
    rw [w1 (by omega), ← List.append_assoc]
    exact ih (n + 1) _ (by omega) (by rw [List.length_append]; omega)
theorem ref_Values (d : List Rg) {b : Int} (hd : Gd 1048576 b d) (hb : -1048576 ≤ b) : Ev (fun k => secateurref02_Values.f k d) (vals d) := by
  have h1 := vals_length hd
  have h2 := length_le_vals hd
  exact ref_Values_l0 d (by omega) hd hb d.length 0 [] (by omega) (by simp; omega)

/-! ### Sorted -/
/-- What Sorted's inner loop makes of the rest. -/
def ins2 (x : Int) : Bool → List Int → List Int
  | p, [] => if p then [] else [x]
  | p, y :: l => if p = false ∧ x < y then x :: y :: ins2 x true l else y :: ins2 x p l
theorem ins2_true (x : Int) : ∀ l, ins2 x true l = l
  | [] => by simp [ins2]
  | y :: l => by simp [ins2, ins2_true x l]
theorem ins2_false (x : Int) : ∀ l, x ∉ l → ins2 x false l = insU x l
  | [], _ => by simp [ins2, insU]
  | y :: l, h => by
    have h1 : x ≠ y := fun e => h (by simp [e])
    have h2 : x ∉ l := fun e => h (List.mem_cons_of_mem _ e)
    unfold ins2 insU
    by_cases hlt : x < y
    · simp [hlt, ins2_true]
    · simp [hlt, h1, ins2_false x l h2]
theorem insU_mem (x : Int) : ∀ l, SS l → x ∈ l → insU x l = l
  | y :: l, h, hx => by
    obtain ⟨hy, hl⟩ := List.pairwise_cons.1 h
    unfold insU
    rcases List.mem_cons.1 hx with rfl | hx
    · simp
    · have := hy x hx
      rw [if_neg (by omega), if_neg (by omega), insU_mem x l hl hx]
theorem ins2_length (x : Int) : ∀ p l, (ins2 x p l).length ≤ l.length + 1
  | p, [] => by unfold ins2; split <;> simp
  | p, y :: l => by
    unfold ins2
    split
    · rw [ins2_true]; simp
    · have := ins2_length x p l; simp; omega
theorem ref_Sorted_l1 (x0 out : List Int) (i : Nat) (hi : i < x0.length) (ho : out.length < 8000000000000) {b : List Int} : ∀ (m n : Nat) (next : List Int) (p : Bool), n + m = out.length → next.length ≤ n + p.toNat →
    Ev (fun k => secateurref02_Sorted.l0 k x0 (next ++ ins2 x0[i] p (out.drop n)) (wrap64 ((i : Int) + 1))) b → Ev (fun k => secateurref02_Sorted.l1 k x0 out (i : Int) next p (n : Int)) b := by
  intro m
  induction m with
  | zero =>
    intro n next p h hn hE
    rw [drop_nil' h] at hE
    cases p with
    | true =>
      simp only [ins2, if_true, List.append_nil] at hE
      exact Ev.step (fun k => by rw [secateurref02_Sorted.l1, if_neg (by omega), if_pos rfl]) hE
    | false =>
      simp only [Bool.toNat_false, Nat.add_zero] at hn
      simp only [ins2, Bool.false_eq_true, if_false] at hE
      exact Ev.step (fun k => by rw [secateurref02_Sorted.l1, if_neg (by omega), if_neg (by simp), if_pos (by omega), if_pos (by omega), if_pos (by omega), rd_nat x0 i hi]) hE
  | succ m ih =>
    intro n next p h hn hE
    have hlt : n < out.length := by omega
    rw [List.drop_eq_getElem_cons hlt] at hE
    cases p with
    | true =>
      simp only [Bool.toNat_true] at hn
      have e : ins2 x0[i] true (out[n] :: out.drop (n + 1)) = out[n] :: ins2 x0[i] true (out.drop (n + 1)) := by simp [ins2]
      rw [e] at hE
      exact Ev.step (fun k => by rw [secateurref02_Sorted.l1, if_pos (by omega), if_pos rfl, if_pos (by omega), if_pos (by omega), rd_nat out n hlt, w1 (by omega)])
        (ih (n + 1) (next ++ [out[n]]) true (by omega) (by simp; omega) (by simpa using hE))
    | false =>
      simp only [Bool.toNat_false, Nat.add_zero] at hn
      by_cases hx : x0[i] < out[n]
      · have e : ins2 x0[i] false (out[n] :: out.drop (n + 1)) = x0[i] :: out[n] :: ins2 x0[i] true (out.drop (n + 1)) := by simp [ins2, hx]
        rw [e] at hE
        exact Ev.step (fun k => by rw [secateurref02_Sorted.l1, if_pos (by omega), if_neg (by simp), if_pos (by omega), if_pos (by omega), if_pos (by omega), rd_nat x0 i hi, rd_nat out n hlt, if_pos hx, if_pos (by omega), Option.bind_some, if_pos (by simp; omega), w1 (by omega)])
          (ih (n + 1) ((next ++ [x0[i]]) ++ [out[n]]) true (by omega) (by simp; omega) (by simpa using hE))
      · have e : ins2 x0[i] false (out[n] :: out.drop (n + 1)) = out[n] :: ins2 x0[i] false (out.drop (n + 1)) := by simp [ins2, hx]
        rw [e] at hE
        exact Ev.step (fun k => by rw [secateurref02_Sorted.l1, if_pos (by omega), if_neg (by simp), if_pos (by omega), if_pos (by omega), if_pos (by omega), rd_nat x0 i hi, rd_nat out n hlt, if_neg hx, if_pos (by omega), w1 (by omega)])
          (ih (n + 1) (next ++ [out[n]]) false (by omega) (by simp; omega) (by simpa using hE))
end Go.Proofs.Ytpbcigilipdedaa.P

/- Plain: the document's comparisons of lists of lists. -/
namespace Go.Proofs.Ytpbcigilipdedaa.P
open Go.RowKit Go.Proofs.YtpbcigilipdedaaW.PrintWords Go.Proofs.YtpbcigilipdedaaW.PrintLast Go.Proofs.YtpbcigilipdedaaW.PrintMore
set_option linter.unusedVariables false
set_option linter.unusedSimpArgs false

theorem rdL_nat (xs : List (List Int)) (n : Nat) (h : n < xs.length) : rd_L1 xs (n : Int) = xs[n] := by simp [rd_L1, List.getD_eq_getElem?_getD, List.getElem?_eq_getElem h]
theorem ref_Lists_l (a b : List (List Int)) (ha : a.length < 4611686018427387904) (hin : ∀ x ∈ a, x.length < 4611686018427387904) (hl : a.length = b.length) : ∀ (r n : Nat), n + r = a.length → Ev (fun k => secateurref04_Lists.l0 k a b (n : Int)) (decide (a.drop n = b.drop n)) := by
  intro r
  induction r with
  | zero =>
    intro n h
    rw [List.drop_of_length_le (by omega), List.drop_of_length_le (by omega)]
    exact Ev.step (G := fun _ => some true) (fun k => by rw [secateurref04_Lists.l0, if_neg (by omega)]) (Ev.const (by simp))
  | succ r ih =>
    intro n h
    have hna : n < a.length := by omega
    have hnb : n < b.length := by omega
    have hN := ref_Nums a[n] b[n] (hin _ (List.getElem_mem hna))
    refine Ev.step (fun k => by rw [secateurref04_Lists.l0, if_pos (by omega), if_pos (by omega), if_pos (by omega), rdL_nat a n hna, rdL_nat b n hnb, w1 (by omega)]) (Ev.bind hN ?_)
    rw [List.drop_eq_getElem_cons hna, List.drop_eq_getElem_cons hnb]
    by_cases e : a[n] = b[n]
    · simp only [e, decide_true, if_true, List.cons.injEq, true_and]
      exact ih (n + 1) (by omega)
    · simp only [e, decide_false, Bool.false_eq_true, if_false, List.cons.injEq, false_and]
      exact Ev.pure _
theorem ref_Lists (a b : List (List Int)) (ha : a.length < 4611686018427387904) (hin : ∀ x ∈ a, x.length < 4611686018427387904) : Ev (fun k => secateurref04_Lists.f k a b) (decide (a = b)) := by
  unfold secateurref04_Lists.f
  by_cases h : a.length = b.length
  · exact Ev.ite_pos (by omega) (ref_Lists_l a b ha hin h a.length 0 (by omega))
  · have : decide (a = b) = false := decide_eq_false (fun e => h (by rw [e]))
    rw [this]
    exact Ev.ite_neg (by omega) (Ev.pure _)
theorem ref_Lists_eq {a b : List (List Int)} (h : a = b) (ha : a.length < 4611686018427387904) (hin : ∀ x ∈ a, x.length < 4611686018427387904) : Ev (fun k => secateurref04_Lists.f k a b) true := by
  have := ref_Lists a b ha hin
  rwa [decide_eq_true h] at this
end Go.Proofs.Ytpbcigilipdedaa.P

-- Written by wip/tools/px.py out of the translation. Lean checks it.
namespace Go.Proofs.Ytpbcigilipdedaa.P
open Go.RowKit Go.Proofs.YtpbcigilipdedaaW.PrintWords Go.Proofs.YtpbcigilipdedaaW.PrintLast Go.Proofs.YtpbcigilipdedaaW.PrintMore
attribute [local go_sem] max2_int min2_int max_two min_two max_three min_three max_four min_four   -- for this text's walks alone
set_option linter.unusedVariables false
set_option linter.unusedSimpArgs false

/-! ### secateurref06_Order: function 33 -/
mutual
def secateurref06_Order.l0 : Nat → List Int → List Int → Int → Option (Int)
 | 0, _, _, _ => none
 | k + 1, x0, x1, x5 => if x5 < (x0.length : Int) then (secateurref06_Order.j1 k x0 x1 x5 (decide (x5 < (x1.length : Int)))) else (secateurref06_Order.j1 k x0 x1 x5 false)
def secateurref06_Order.j1 : Nat → List Int → List Int → Int → Bool → Option (Int)
 | 0, _, _, _, _ => none
 | k + 1, x0, x1, x5, x15 => if x15 = true then (if 0 ≤ x5 then (if x5 < (x0.length : Int) then (if x5 < (x1.length : Int) then (if (rd x0 x5) < (rd x1 x5) then (some (-1)) else (if (rd x0 x5) > (rd x1 x5) then (some 1) else (secateurref06_Order.l0 k x0 x1 (wrap64 (x5 + 1))))) else (none)) else (none)) else (none)) else (if (x0.length : Int) < (x1.length : Int) then (some (-1)) else (if (x0.length : Int) > (x1.length : Int) then (some 1) else (some 0)))
end
def secateurref06_Order.f (k : Nat) (l0 : List Int) (l1 : List Int) : Option (Int) := secateurref06_Order.l0 k l0 l1 0
theorem secateurref06_Order.mono_l : ∀ k, (∀ y0 y1 y2, LeO (secateurref06_Order.l0 k y0 y1 y2) (secateurref06_Order.l0 (k + 1) y0 y1 y2)) ∧ (∀ y0 y1 y2 y3, LeO (secateurref06_Order.j1 k y0 y1 y2 y3) (secateurref06_Order.j1 (k + 1) y0 y1 y2 y3))
 | 0 => ⟨fun _ _ _ r h => by simp [secateurref06_Order.l0] at h, fun _ _ _ _ r h => by simp [secateurref06_Order.j1] at h⟩
 | k + 1 => by
  obtain ⟨ih0, ih1⟩ := secateurref06_Order.mono_l k
  refine ⟨?_, ?_⟩
  ·intro y0 y1 y2
   unfold secateurref06_Order.l0
   repeat' first
   | (with_reducible exact ih0 _ _ _)
   | (with_reducible exact ih1 _ _ _ _)
   | (with_reducible exact LeO.refl _)
   | (with_reducible exact LeO.none _)
   | (with_reducible refine LeO.ite ?_ ?_)
   | (with_reducible refine LeO.bind ?_ (fun _ => ?_))
   | exact ih0 _ _ _
   | exact ih1 _ _ _ _
   | exact LeO.none _
   | refine LeO.ite ?_ ?_
   | refine LeO.bind ?_ (fun _ => ?_)
  ·intro y0 y1 y2 y3
   unfold secateurref06_Order.j1
   repeat' first
   | (with_reducible exact ih0 _ _ _)
   | (with_reducible exact ih1 _ _ _ _)
   | (with_reducible exact LeO.refl _)
   | (with_reducible exact LeO.none _)
   | (with_reducible refine LeO.ite ?_ ?_)
   | (with_reducible refine LeO.bind ?_ (fun _ => ?_))
   | exact ih0 _ _ _
   | exact ih1 _ _ _ _
   | exact LeO.none _
   | refine LeO.ite ?_ ?_
   | refine LeO.bind ?_ (fun _ => ?_)
theorem secateurref06_Order.mono : ∀ a0 a1 k, LeO (secateurref06_Order.f k a0 a1) (secateurref06_Order.f (k + 1) a0 a1) := by
 intro a0 a1 k
 obtain ⟨ih0, ih1⟩ := secateurref06_Order.mono_l k
 unfold secateurref06_Order.f
 repeat' first
   | (with_reducible exact ih0 _ _ _)
   | (with_reducible exact ih1 _ _ _ _)
   | (with_reducible exact LeO.refl _)
   | (with_reducible exact LeO.none _)
   | (with_reducible refine LeO.ite ?_ ?_)
   | (with_reducible refine LeO.bind ?_ (fun _ => ?_))
   | exact ih0 _ _ _
   | exact ih1 _ _ _ _
   | exact LeO.none _
   | refine LeO.ite ?_ ?_
   | refine LeO.bind ?_ (fun _ => ?_)
set_option maxHeartbeats 8000000 in
set_option maxRecDepth 100000 in
theorem secateurref06_Order.calls (k : Nat) (A0 : Option Addr) (c0 : Nat) (l0 : List Int) (A1 : Option Addr) (c1 : Nat) (l1 : List Int) (r : Int) (w : World) (hr0 : Kd.C (Kd.int .i64) w A0 l0.length l0) (hc0 : l0.length ≤ c0) (hr1 : Kd.C (Kd.int .i64) w A1 l1.length l1) (hc1 : l1.length ≤ c1) (h : secateurref06_Order.f k l0 l1 = some r) :
  Calls Try.prog 33 #[.slice A0 l0.length c0, .slice A1 l1.length c1] w fun e w' => e = .returned (.int .i64 r) ∧ Drawn0 w w' := by
 have HR0 := Aside0.mk hr0
 have HC0 := Aside0.mk hc0
 clear hr0 hc0
 have HR1 := Aside0.mk hr1
 have HC1 := Aside0.mk hc1
 clear hr1 hc1
 have H : (secateurref06_Order.l0 k l0 l1 0) = some r := h
 clear h
 have H' := Aside0.mk H
 clear H
 go_enter Try.func33, Try.ntmps33
 go_wp2
 repeat (go_quiet (fail); try go_wp2)
 go_loopg [5] k (fun kq v5 w' => ∃ (x5_1 : Int), v5 = .int .i64 x5_1 ∧ Aside0 (secateurref06_Order.l0 kq l0 l1 x5_1 = some r) ∧ Aside0 (kq ≤ k) ∧ Drawn0 w w')
 case atStart => exact ⟨(0), (by first | rfl | (simp; done) | (simp [*]; done)), H', ⟨Nat.le_refl _⟩, by repeat (first | exact Drawn0.refl _ | apply Drawn0.step)⟩
 case round =>
  clear H'
  try clear c1
  try clear p2
  obtain ⟨x5_1, rfl, HA, HK1, ⟨m1, rfl⟩⟩ := hrel
  cases gk with
  | zero => exact absurd HA.out (by simp [secateurref06_Order.l0])
  | succ k1 =>
   have H := HA.out
   clear HA
   simp only [secateurref06_Order.l0] at H
   have HC3 := Aside0.mk H
   clear H
   go_upto_region 2 with (fail)
   repeat (go_quiet (fail); go_upto_region 2 with (fail))
   go_cut [15] (fun v15 wc => ∃ (kq : Nat) (x15_2 : Bool), v15 = .bool x15_2 ∧ Aside0 (secateurref06_Order.j1 kq l0 l1 x5_1 x15_2 = some r) ∧ Aside0 (kq ≤ k1) ∧ Drawn0 w wc)
   case first =>
    have H := HC3.out
    clear HC3
    by_cases c4 : x5_1 < (l0.length : Int)
    ·rw [if_pos c4] at H
     have c4b0 : decide (x5_1 < (l0.length : Int)) = true := decide_eq_true c4
     clear c4
     (first | rw [c4b0] | (simp only [i64_w, i32_w]; rw [c4b0]) | skip)
     have H' := Aside0.mk H
     clear H
     go_wp2
     repeat (go_quiet (fail); try go_wp2)
     go_meet
     case rel => exact ⟨_, (decide (x5_1 < (l1.length : Int))), (by first | rfl | (simp; done) | (simp [*]; done)), H', ⟨by have := HK1.out; first | omega | exact Nat.le_refl _⟩, by repeat (first | exact Drawn0.refl _ | apply Drawn0.step)⟩
    ·rw [if_neg c4] at H
     have c4b0 : decide (x5_1 < (l0.length : Int)) = false := decide_eq_false c4
     clear c4
     (first | rw [c4b0] | (simp only [i64_w, i32_w]; rw [c4b0]) | skip)
     have H' := Aside0.mk H
     clear H
     go_wp2
     repeat (go_quiet (fail); try go_wp2)
     go_meet
     case rel => exact ⟨_, (false), (by first | rfl | (simp; done) | (simp [*]; done)), H', ⟨by have := HK1.out; first | omega | exact Nat.le_refl _⟩, by repeat (first | exact Drawn0.refl _ | apply Drawn0.step)⟩
   case rest =>
    clear HC3
    try clear c1
    try clear p2
    try clear c3
    try clear c4
    try clear c4b0
    try clear p2
    obtain ⟨kq, x15_2, rfl, HA, HJ2, ⟨mc2, rfl⟩⟩ := hcut
    cases kq with
    | zero => exact absurd HA.out (by simp [secateurref06_Order.j1])
    | succ kj2 =>
     have H := HA.out
     clear HA
     simp only [secateurref06_Order.j1] at H
     by_cases c5 : x15_2 = true
     ·subst c5
      have H1 : (if 0 ≤ x5_1 then (if x5_1 < (l0.length : Int) then (if x5_1 < (l1.length : Int) then (if (rd l0 x5_1) < (rd l1 x5_1) then (some (-1)) else (if (rd l0 x5_1) > (rd l1 x5_1) then (some 1) else (secateurref06_Order.l0 kj2 l0 l1 (wrap64 (x5_1 + 1))))) else (none)) else (none)) else (none)) = some r := by rw [if_pos rfl] at H; exact H
      clear H
      have H := H1
      clear H1
      by_cases c6 : 0 ≤ x5_1
      ·rw [if_pos c6] at H
       have c6b0 : decide (0 ≤ x5_1) = true := decide_eq_true c6
       clear c6
       by_cases c7 : x5_1 < (l0.length : Int)
       ·rw [if_pos c7] at H
        have c7b0 : decide (x5_1 < (l0.length : Int)) = true := decide_eq_true c7
        clear c7
        by_cases c8 : x5_1 < (l1.length : Int)
        ·rw [if_pos c8] at H
         have c8b0 : decide (x5_1 < (l1.length : Int)) = true := decide_eq_true c8
         clear c8
         by_cases c9 : (rd l0 x5_1) < (rd l1 x5_1)
         ·rw [if_pos c9] at H
          have c9b0 : decide ((rd l0 x5_1) < (rd l1 x5_1)) = true := decide_eq_true c9
          clear c9
          obtain rfl := Option.some.inj H
          have p381 : 0 ≤ (x5_1 : Int) := of_decide_eq_true (by first | (with_reducible assumption) | assumption)
          have q381 : x5_1 < (l0.length : Int) := of_decide_eq_true (by first | (with_reducible assumption) | assumption)
          obtain ⟨ad381, e381, hx381_0⟩ := Kd.at_int HR0.out x5_1 p381 q381
          cases e381
          replace p381 := eq_true p381
          replace q381 := eq_true q381
          have p382 : 0 ≤ (x5_1 : Int) := of_decide_eq_true (by first | (with_reducible assumption) | assumption)
          have q382 : x5_1 < (l1.length : Int) := of_decide_eq_true (by first | (with_reducible assumption) | assumption)
          obtain ⟨ad382, e382, hx382_0⟩ := Kd.at_int HR1.out x5_1 p382 q382
          cases e382
          replace p382 := eq_true p382
          replace q382 := eq_true q382
          go_wp2
          repeat (go_quiet (fail); try go_wp2)
          go_ret
          exact ⟨by first | rfl | (simp; done) | (simp [*]; done), by repeat (first | exact Drawn0.refl _ | apply Drawn0.step)⟩
         ·rw [if_neg c9] at H
          have c9b0 : decide ((rd l0 x5_1) < (rd l1 x5_1)) = false := decide_eq_false c9
          clear c9
          by_cases c10 : (rd l0 x5_1) > (rd l1 x5_1)
          ·rw [if_pos c10] at H
           have c10b0 : decide ((rd l1 x5_1) < (rd l0 x5_1)) = true := decide_eq_true c10
           clear c10
           obtain rfl := Option.some.inj H
           have p381 : 0 ≤ (x5_1 : Int) := of_decide_eq_true (by first | (with_reducible assumption) | assumption)
           have q381 : x5_1 < (l0.length : Int) := of_decide_eq_true (by first | (with_reducible assumption) | assumption)
           obtain ⟨ad381, e381, hx381_0⟩ := Kd.at_int HR0.out x5_1 p381 q381
           cases e381
           replace p381 := eq_true p381
           replace q381 := eq_true q381
           have p382 : 0 ≤ (x5_1 : Int) := of_decide_eq_true (by first | (with_reducible assumption) | assumption)
           have q382 : x5_1 < (l1.length : Int) := of_decide_eq_true (by first | (with_reducible assumption) | assumption)
           obtain ⟨ad382, e382, hx382_0⟩ := Kd.at_int HR1.out x5_1 p382 q382
           cases e382
           replace p382 := eq_true p382
           replace q382 := eq_true q382
           have p383 : 0 ≤ (x5_1 : Int) := of_decide_eq_true (by first | (with_reducible assumption) | assumption)
           have q383 : x5_1 < (l0.length : Int) := of_decide_eq_true (by first | (with_reducible assumption) | assumption)
           obtain ⟨ad383, e383, hx383_0⟩ := Kd.at_int HR0.out x5_1 p383 q383
           obtain rfl : ad381 = ad383 := (by injection e383)
           replace p383 := eq_true p383
           replace q383 := eq_true q383
           have p384 : 0 ≤ (x5_1 : Int) := of_decide_eq_true (by first | (with_reducible assumption) | assumption)
           have q384 : x5_1 < (l1.length : Int) := of_decide_eq_true (by first | (with_reducible assumption) | assumption)
           obtain ⟨ad384, e384, hx384_0⟩ := Kd.at_int HR1.out x5_1 p384 q384
           obtain rfl : ad382 = ad384 := (by injection e384)
           replace p384 := eq_true p384
           replace q384 := eq_true q384
           go_wp2
           repeat (go_quiet (fail); try go_wp2)
           go_ret
           exact ⟨by first | rfl | (simp; done) | (simp [*]; done), by repeat (first | exact Drawn0.refl _ | apply Drawn0.step)⟩
          ·rw [if_neg c10] at H
           have c10b0 : decide ((rd l1 x5_1) < (rd l0 x5_1)) = false := decide_eq_false c10
           clear c10
           have H' := Aside0.mk H
           clear H
           have p381 : 0 ≤ (x5_1 : Int) := of_decide_eq_true (by first | (with_reducible assumption) | assumption)
           have q381 : x5_1 < (l0.length : Int) := of_decide_eq_true (by first | (with_reducible assumption) | assumption)
           obtain ⟨ad381, e381, hx381_0⟩ := Kd.at_int HR0.out x5_1 p381 q381
           cases e381
           replace p381 := eq_true p381
           replace q381 := eq_true q381
           have p382 : 0 ≤ (x5_1 : Int) := of_decide_eq_true (by first | (with_reducible assumption) | assumption)
           have q382 : x5_1 < (l1.length : Int) := of_decide_eq_true (by first | (with_reducible assumption) | assumption)
           obtain ⟨ad382, e382, hx382_0⟩ := Kd.at_int HR1.out x5_1 p382 q382
           cases e382
           replace p382 := eq_true p382
           replace q382 := eq_true q382
           have p383 : 0 ≤ (x5_1 : Int) := of_decide_eq_true (by first | (with_reducible assumption) | assumption)
           have q383 : x5_1 < (l0.length : Int) := of_decide_eq_true (by first | (with_reducible assumption) | assumption)
           obtain ⟨ad383, e383, hx383_0⟩ := Kd.at_int HR0.out x5_1 p383 q383
           obtain rfl : ad381 = ad383 := (by injection e383)
           replace p383 := eq_true p383
           replace q383 := eq_true q383
           have p384 : 0 ≤ (x5_1 : Int) := of_decide_eq_true (by first | (with_reducible assumption) | assumption)
           have q384 : x5_1 < (l1.length : Int) := of_decide_eq_true (by first | (with_reducible assumption) | assumption)
           obtain ⟨ad384, e384, hx384_0⟩ := Kd.at_int HR1.out x5_1 p384 q384
           obtain rfl : ad382 = ad384 := (by injection e384)
           replace p384 := eq_true p384
           replace q384 := eq_true q384
           go_wp2
           repeat (go_quiet (fail); try go_wp2)
           go_roundg kj2
           case measure => have := HK1.out; have := HJ2.out; omega
           case rel => exact ⟨(wrap64 (x5_1 + 1)), (by first | rfl | (simp; done) | (simp [*]; done)), H', ⟨by have := HK1.out; have := HJ2.out; omega⟩, by repeat (first | exact Drawn0.refl _ | apply Drawn0.step)⟩
        ·rw [if_neg c8] at H
         exact absurd H (by simp)
       ·rw [if_neg c7] at H
        exact absurd H (by simp)
      ·rw [if_neg c6] at H
       exact absurd H (by simp)
     ·replace c5 := Bool.eq_false_iff.mpr c5
      subst c5
      have H1 : (if (l0.length : Int) < (l1.length : Int) then (some (-1)) else (if (l0.length : Int) > (l1.length : Int) then (some 1) else (some 0))) = some r := by rw [if_neg (show ¬ (false = true) by decide)] at H; exact H
      clear H
      have H := H1
      clear H1
      by_cases c11 : (l0.length : Int) < (l1.length : Int)
      ·rw [if_pos c11] at H
       have c11b0 : decide ((l0.length : Int) < (l1.length : Int)) = true := decide_eq_true c11
       have c11b1 : decide (l0.length < l1.length) = true := decide_eq_true (Int.ofNat_lt.mp c11)
       clear c11
       obtain rfl := Option.some.inj H
       go_wp2
       repeat (go_quiet (fail); try go_wp2)
       go_ret
       exact ⟨by first | rfl | (simp; done) | (simp [*]; done), by repeat (first | exact Drawn0.refl _ | apply Drawn0.step)⟩
      ·rw [if_neg c11] at H
       have c11b0 : decide ((l0.length : Int) < (l1.length : Int)) = false := decide_eq_false c11
       have c11b1 : decide (l0.length < l1.length) = false := decide_eq_false (fun h => c11 (Int.ofNat_lt.mpr h))
       clear c11
       by_cases c12 : (l0.length : Int) > (l1.length : Int)
       ·rw [if_pos c12] at H
        have c12b0 : decide ((l1.length : Int) < (l0.length : Int)) = true := decide_eq_true c12
        have c12b1 : decide (l1.length < l0.length) = true := decide_eq_true (Int.ofNat_lt.mp c12)
        clear c12
        obtain rfl := Option.some.inj H
        go_wp2
        repeat (go_quiet (fail); try go_wp2)
        go_ret
        exact ⟨by first | rfl | (simp; done) | (simp [*]; done), by repeat (first | exact Drawn0.refl _ | apply Drawn0.step)⟩
       ·rw [if_neg c12] at H
        have c12b0 : decide ((l1.length : Int) < (l0.length : Int)) = false := decide_eq_false c12
        have c12b1 : decide (l1.length < l0.length) = false := decide_eq_false (fun h => c12 (Int.ofNat_lt.mpr h))
        clear c12
        obtain rfl := Option.some.inj H
        go_wp2
        repeat (go_quiet (fail); try go_wp2)
        go_ret
        exact ⟨by first | rfl | (simp; done) | (simp [*]; done), by repeat (first | exact Drawn0.refl _ | apply Drawn0.step)⟩

end Go.Proofs.Ytpbcigilipdedaa.P

/- secateurref09.Sorted: lists in order, each once, by putting one in after another; the rows are those that came in. -/
namespace Go.Proofs.Ytpbcigilipdedaa.P
open Go.RowKit Go.Proofs.YtpbcigilipdedaaW.PrintWords Go.Proofs.YtpbcigilipdedaaW.PrintLast Go.Proofs.YtpbcigilipdedaaW.PrintMore
set_option linter.unusedVariables false
set_option linter.unusedSimpArgs false

theorem at_fixed {w0 w : World} {A : Option Addr} {n : Nat} {xs : List (List Int)} (h : (Kd.fixed kInts w0).C w A n xs) (k : Nat) (hk : k < xs.length) :
    ∃ ad A0 c0, A = some ad ∧ w.cell? (ad.add k) = some (.slice A0 xs[k].length c0) ∧ xs[k].length ≤ c0 ∧ Kd.C (Kd.int .i64) w0 A0 xs[k].length xs[k] := by
  obtain ⟨ad, u, hA, hc, A0, c0, hu, hl, hC⟩ := at_one (d := Kd.fixed kInts w0) rfl h k hk
  obtain rfl : u = _ := List.singleton_inj.1 hu
  exact ⟨ad, A0, c0, hA, hc, hl, hC⟩
theorem fixed_K {w0 : World} {A0 : Option Addr} {c0 : Nat} {x : List Int} (hl : x.length ≤ c0) (hC : Kd.C (Kd.int .i64) w0 A0 x.length x) : kInts.K w0 x [.slice A0 x.length c0] := ⟨A0, c0, rfl, hl, hC⟩
/-- What stood fixed is read now. -/
theorem C_of_fixed {w0 w : World} {A : Option Addr} {n : Nat} {xs : List (List Int)} (hB : Below w0.heap.size w0 w) (h : (Kd.fixed kInts w0).C w A n xs) : kInts.C w A n xs :=
  ReadsRow.imp_ h (Below.refl _ w) (fun _ _ hp => kInts.K_below hB hp)

/-! ### Order -/
theorem order_l0 (a b : List Int) (ha : a.length ≤ 9223372036854775807) (hb : b.length ≤ 9223372036854775807) : ∀ (m n : Nat), n + m = a.length → n ≤ b.length → Ev (fun k => secateurref06_Order.l0 k a b (n : Int)) (lexCmp (a.drop n) (b.drop n)) := by
  have hend : ∀ n, (n = a.length ∨ n = b.length) → n ≤ a.length → n ≤ b.length → (if (a.length : Int) < (b.length : Int) then some (-1 : Int) else if (a.length : Int) > (b.length : Int) then some 1 else some 0) = some (lexCmp (a.drop n) (b.drop n)) := by
    intro n h h1 h2
    rcases h with rfl | rfl
    · rw [List.drop_of_length_le (Nat.le_refl _), lexCmp_nil]
      by_cases hlt : a.length < b.length
      · rw [if_pos (by omega), if_neg (by intro e; have := congrArg List.length e; simp at this; omega)]
      · rw [if_neg (by omega), if_neg (by omega), List.drop_of_length_le (by omega), if_pos rfl]
    · rw [List.drop_of_length_le (Nat.le_refl b.length), lexCmp_nil']
      by_cases hlt : b.length < a.length
      · rw [if_neg (by omega), if_pos (by omega), if_neg (by intro e; have := congrArg List.length e; simp at this; omega)]
      · rw [if_neg (by omega), if_neg (by omega), List.drop_of_length_le (by omega), if_pos rfl]
  intro m
  induction m with
  | zero =>
    intro n h hn
    refine Ev.step (fun k => by rw [secateurref06_Order.l0, if_neg (by omega)]) ?_
    exact Ev.step (fun k => by rw [secateurref06_Order.j1, if_neg (by simp), hend n (.inl (by omega)) (by omega) hn]) (Ev.pure _)
  | succ m ih =>
    intro n h hn
    have hna : n < a.length := by omega
    by_cases hnb : n < b.length
    · refine Ev.step (fun k => by rw [secateurref06_Order.l0, if_pos (by omega)]) ?_
      rw [List.drop_eq_getElem_cons hna, List.drop_eq_getElem_cons hnb, lexCmp_cons]
      have h1 : wrap64 ((n : Int) + 1) = ((n + 1 : Nat) : Int) := by rw [w64 (by omega) (by omega)]; omega
      refine Ev.step (fun k => by rw [secateurref06_Order.j1, if_pos (by simp; omega), if_pos (by omega), if_pos (by omega), if_pos (by omega), rd_nat a n hna, rd_nat b n hnb, h1]) ?_
      by_cases c1 : a[n] < b[n]
      · simp only [if_pos c1]
        exact Ev.pure _
      · by_cases c2 : b[n] < a[n]
        · simp only [if_neg c1, if_pos c2, gt_iff_lt]
          exact Ev.pure _
        · simp only [if_neg c1, if_neg c2, gt_iff_lt]
          exact ih (n + 1) (by omega) (by omega)
    · refine Ev.step (fun k => by rw [secateurref06_Order.l0, if_pos (by omega)]) ?_
      exact Ev.step (fun k => by rw [secateurref06_Order.j1, if_neg (by simp; omega), hend n (.inr (by omega)) (by omega) hn]) (Ev.pure _)
theorem order_ev (a b : List Int) (ha : a.length ≤ 9223372036854775807) (hb : b.length ≤ 9223372036854775807) : Ev (fun k => secateurref06_Order.f k a b) (lexCmp a b) := order_l0 a b ha hb a.length 0 (by omega) (by omega)
theorem orderL (A0 : Option Addr) (c0 : Nat) (l0 : List Int) (A1 : Option Addr) (c1 : Nat) (l1 : List Int) (w : World) (hr0 : Kd.C (Kd.int .i64) w A0 l0.length l0) (hc0 : l0.length ≤ c0) (hr1 : Kd.C (Kd.int .i64) w A1 l1.length l1) (hc1 : l1.length ≤ c1) :
    Calls Try.prog 33 #[.slice A0 l0.length c0, .slice A1 l1.length c1] w fun e w' => e = .returned (.int .i64 (lexCmp l0 l1)) ∧ ∃ q, w' = w.drewN q := by
  obtain ⟨k, hk⟩ := (order_ev l0 l1 hr0.2.1 hr1.2.1).out
  refine (secateurref06_Order.calls k A0 c0 l0 A1 c1 l1 _ w hr0 hc0 hr1 hc1 hk).mono ?_
  rintro e w' ⟨rfl, ⟨nd, rfl⟩⟩
  exact ⟨rfl, nd, rfl⟩

/-! ### The insertion, as it goes -/
/-- x is not put: so far all of 'out' was ahead of it; or it is put (or was there). -/
def InsAt (x : List Int) (out : List (List Int)) (k : Nat) (put : Bool) (next : List (List Int)) : Prop :=
  if put then insL x out = next ++ out.drop k else next = out.take k ∧ insL x out = out.take k ++ insL x (out.drop k)
theorem InsAt.start (x : List Int) (out : List (List Int)) : InsAt x out 0 false [] := by simp [InsAt]
theorem InsAt.put {x : List Int} {out : List (List Int)} {k : Nat} {next : List (List Int)} (hk : k < out.length) (h : InsAt x out k true next) : InsAt x out (k + 1) true (next ++ [out[k]]) := by
  simp only [InsAt, if_true] at h ⊢
  rw [h, List.drop_eq_getElem_cons hk]
  simp
theorem InsAt.same {x : List Int} {out : List (List Int)} {k : Nat} {next : List (List Int)} (hk : k < out.length) (h : InsAt x out k false next) (hc : lexCmp x out[k] = 0) : InsAt x out (k + 1) true (next ++ [out[k]]) := by
  simp only [InsAt, Bool.false_eq_true, if_false, if_true] at h ⊢
  obtain ⟨rfl, h⟩ := h
  have e := lexCmp_zero.1 hc
  rw [h, List.drop_eq_getElem_cons hk, ← e]
  simp [insL, lexLt_irrefl]
theorem InsAt.less {x : List Int} {out : List (List Int)} {k : Nat} {next : List (List Int)} (hk : k < out.length) (h : InsAt x out k false next) (hc : lexCmp x out[k] < 0) : InsAt x out (k + 1) true (next ++ [x] ++ [out[k]]) := by
  simp only [InsAt, Bool.false_eq_true, if_false, if_true] at h ⊢
  obtain ⟨rfl, h⟩ := h
  rw [h, List.drop_eq_getElem_cons hk]
  simp [insL, lexCmp_neg.1 hc]
theorem InsAt.more {x : List Int} {out : List (List Int)} {k : Nat} {next : List (List Int)} (hk : k < out.length) (h : InsAt x out k false next) (hc : 0 < lexCmp x out[k]) : InsAt x out (k + 1) false (next ++ [out[k]]) := by
  simp only [InsAt, Bool.false_eq_true, if_false] at h ⊢
  obtain ⟨rfl, h⟩ := h
  have h1 : ¬ lexLt x out[k] = true := fun e => by have := lexCmp_neg.2 e; omega
  have h2 : ¬ x = out[k] := fun e => by have := lexCmp_zero.2 e; omega
  refine ⟨(List.take_succ_eq_append_getElem hk).symm, ?_⟩
  rw [h, List.drop_eq_getElem_cons hk]
  have e : insL x (out[k] :: out.drop (k + 1)) = out[k] :: insL x (out.drop (k + 1)) := by rw [insL, if_neg h1, if_neg h2]
  rw [e, List.take_succ_eq_append_getElem hk, List.append_assoc]
  rfl
theorem InsAt.end1 {x : List Int} {out : List (List Int)} {next : List (List Int)} (h : InsAt x out out.length true next) : next = insL x out := by
  simp [InsAt] at h
  exact h.symm
theorem InsAt.end0 {x : List Int} {out : List (List Int)} {next : List (List Int)} (h : InsAt x out out.length false next) : next ++ [x] = insL x out := by
  simp [InsAt] at h
  rw [h.1, h.2]
  simp [insL]
/-- All put in, one after another. -/
def insAll (l : List (List Int)) : List (List Int) := l.foldl (fun acc x => insL x acc) []
theorem insAll_snoc (l : List (List Int)) (x : List Int) : insAll (l ++ [x]) = insL x (insAll l) := by simp [insAll]
theorem insAll_eq (l : List (List Int)) : insAll l = sdL l := by
  have h : ∀ (l acc : List (List Int)), SSL acc → SSL (l.foldl (fun acc x => insL x acc) acc) ∧ ∀ z, z ∈ l.foldl (fun acc x => insL x acc) acc ↔ z ∈ l ∨ z ∈ acc := by
    intro l
    induction l with
    | nil => intro acc h; exact ⟨h, fun z => by simp⟩
    | cons x l ih =>
      intro acc h
      obtain ⟨h1, h2⟩ := ih (insL x acc) (insL_ss x acc h)
      refine ⟨h1, fun z => (h2 z).trans ?_⟩
      rw [mem_insL, List.mem_cons]
      constructor
      · rintro (h | h | h)
        · exact .inl (.inr h)
        · exact .inl (.inl h)
        · exact .inr h
      · rintro ((h | h) | h)
        · exact .inr (.inl h)
        · exact .inl h
        · exact .inr (.inr h)
  obtain ⟨h1, h2⟩ := h l [] List.Pairwise.nil
  exact (sdL_eq h1 (fun z => by rw [h2 z]; simp)).symm
theorem insAll_length (l : List (List Int)) : (insAll l).length ≤ l.length := by rw [insAll_eq]; exact sdL_length l

/-! ### The walk -/
set_option maxRecDepth 100000 in
set_option maxHeartbeats 8000000 in
theorem refSortedL (A0 : Option Addr) (c0 : Nat) (l0 : List (List Int)) (w : World) (hr0 : Kd.C kInts w A0 l0.length l0) (hc0 : l0.length ≤ c0) (hl : l0.length < 1000000000) :
    Calls Try.prog 25 #[.slice A0 l0.length c0] w fun e w' => ∃ v0_ : Value, e = .returned (v0_) ∧ Kd.R (Kd.fixed kInts w) 23 w' w.heap.size (fun _ => True) v0_ (sdL l0) ∧ Below w.heap.size w w' := by
  have HR := Aside0.mk hr0
  have HB0 := Aside0.mk (Below.refl w.heap.size w)
  clear hr0
  go_enter Try.func25, Try.ntmps25
  go_wp2_with (first | ((with_reducible refine gate_dst (N := 9) rfl ?_); refine Kd.R_lit (Kd.fixed kInts w) _ 23 ?hg (N := 9) ?hd (xs := ([] : List (List Int))) (inner := []) (ok := fun _ => True) (okp := fun _ => True) ?hr ?hp (fun _ hk => hk) trivial (Below.refl w.heap.size w) (Nat.le_refl _) (by simp) ?_; (case hd => rfl); (case hg => rfl); (case hr => first | (go_simp; done) | (go_simp; rfl)); (case hp => exact (Reps.none _ _)); intro v1 w1 ho hb hg_ hnew_; have HO := Aside0.mk ho; have HB := Aside0.mk hb; clear ho hb hg_ hnew_))
  go_loopg [3, 4] l0.length (fun gg v3 s4 wr => ∃ i : Nat, i ≤ l0.length ∧ l0.length - i ≤ gg ∧ s4 = .int .i64 i ∧ Aside0 (Kd.R (Kd.fixed kInts w) 23 wr w.heap.size (fun _ => True) v3 (insAll (l0.take i))) ∧ Aside0 (Below w.heap.size w wr))
  case atStart => exact ⟨0, Nat.zero_le _, by omega, rfl, HO, HB⟩
  case round =>
    clear HO HB
    obtain ⟨i, hi, hg, rfl, HO, HB⟩ := hrel
    obtain ⟨wo, rfl⟩ : ∃ wo : World, wo = wr := ⟨_, rfl⟩
    by_cases hlt : i < l0.length
    · obtain ⟨ad, Ax, cx, rfl, hx, hcx, hCx⟩ := at_slice HR.out i hlt
      have hx0 := Aside0.mk hx
      have HX := Aside0.mk (fixed_K hcx hCx)
      have HCX := Aside0.mk hCx
      have hins : Aside0 (insAll (l0.take (i + 1)) = insL l0[i] (insAll (l0.take i))) := ⟨by rw [List.take_succ_eq_append_getElem hlt, insAll_snoc]⟩
      have hol : Aside0 ((insAll (l0.take i)).length ≤ 1000000000) := ⟨by have := insAll_length (l0.take i); rw [List.length_take] at this; omega⟩
      clear hx hCx
      generalize l0[i] = x at *
      generalize insAll (l0.take i) = out at *
      obtain ⟨Ao, co, rfl, hco, hCo⟩ := Kd.R_reads HO.out
      have HCO := Aside0.mk hCo
      clear hCo
      have hol' : out.length ≤ 9223372036854775807 := by have := hol.out; omega
      have hxb : ∀ W, Below w.heap.size w W → W.cell? (ad.add i) = some (.slice Ax x.length cx) := fun W h => (h.cell (World.block_lt_of_cell? w _ hx0.out)).trans hx0.out
      have HXB := Aside0.mk hxb
      clear hxb
      go_wp2_with (first | ((with_reducible refine gate_dst (N := 16) rfl ?_); refine Kd.R_lit (Kd.fixed kInts w) _ 23 ?hg (N := 16) ?hd (xs := ([] : List (List Int))) (inner := []) (ok := fun _ => True) (okp := fun _ => True) ?hr ?hp (fun _ hk => hk) trivial (Below.refl wo.heap.size wo) (Nat.le_refl _) (by simp) ?_; (case hd => rfl); (case hg => rfl); (case hr => first | (go_simp; done) | (go_simp; rfl)); (case hp => exact (Reps.none _ _)); intro v5 w5 ho hb hg_ hnew_; have HN := Aside0.mk ho; have HBI := Aside0.mk hb; clear ho hb hg_ hnew_))
      go_loopg [5, 6, 7] out.length (fun g2 n5 s6 s7 wr => ∃ (k : Nat) (put : Bool) (next : List (List Int)), k ≤ out.length ∧ out.length - k ≤ g2 ∧ s7 = .int .i64 k ∧ s6 = .bool put ∧ Aside0 (InsAt x out k put next) ∧ Aside0 (next.length ≤ k + 1) ∧ Aside0 (Kd.R (Kd.fixed kInts w) 23 wr wo.heap.size (fun _ => True) n5 next) ∧ Aside0 (Below wo.heap.size wo wr))
      case atStart => exact ⟨0, false, [], Nat.zero_le _, by omega, rfl, rfl, ⟨InsAt.start x out⟩, ⟨by simp⟩, HN, HBI⟩
      case round =>
        clear HN HBI
        obtain ⟨k, put, next, hk, hg2, rfl, rfl, HI, HLN, HN, HBI⟩ := hrel
        have hBw : Below w.heap.size w wr := HB.out.trans (HBI.out.mono HB.out.size)
        have hx2 := HXB.out wr hBw
        by_cases hlk : k < out.length
        · obtain ⟨ado, Ay, cy, rfl, hyo, hcy, hCy⟩ := at_fixed HCO.out k hlk
          have HYB : Aside0 (∀ W, Below wo.heap.size wo W → W.cell? (ado.add k) = some (.slice Ay out[k].length cy)) := ⟨fun W h => (h.cell (World.block_lt_of_cell? wo _ hyo)).trans hyo⟩
          clear hyo
          have hy := HYB.out wr HBI.out
          have HY := Aside0.mk (fixed_K hcy hCy)
          have HCC : Aside0 (∀ n, Calls Try.prog 33 #[.slice Ax x.length cx, .slice Ay out[k].length cy] (wr.drewN n) fun e w' => e = .returned (.int .i64 (lexCmp x out[k])) ∧ ∃ q, w' = wr.drewN q) := ⟨fun n => by
            refine (orderL Ax cx x Ay cy out[k] (wr.drewN n) (Kd.C_below (Kd.C_below HCX.out hBw) (pw_below_drewN (Below.refl _ _) n)) hcx (Kd.C_below (Kd.C_below hCy hBw) (pw_below_drewN (Below.refl _ _) n)) hcy).mono ?_
            rintro e w' ⟨rfl, q, rfl⟩
            exact ⟨rfl, n + q, by rw [World.drewN_drewN]⟩⟩
          have HIp : Aside0 (InsAt x out k true next → InsAt x out (k + 1) true (next ++ [out[k]])) := ⟨fun h => h.put hlk⟩
          have HIs : Aside0 (lexCmp x out[k] = 0 → InsAt x out k false next → InsAt x out (k + 1) true (next ++ [out[k]])) := ⟨fun e h => h.same hlk e⟩
          have HIl : Aside0 (lexCmp x out[k] < 0 → InsAt x out k false next → InsAt x out (k + 1) true (next ++ [x] ++ [out[k]])) := ⟨fun e h => h.less hlk e⟩
          have HIm : Aside0 (0 < lexCmp x out[k] → InsAt x out k false next → InsAt x out (k + 1) false (next ++ [out[k]])) := ⟨fun e h => h.more hlk e⟩
          have hs3 : lexCmp x out[k] = -1 ∨ lexCmp x out[k] = 0 ∨ lexCmp x out[k] = 1 := by
            unfold lexCmp
            split
            · exact .inl rfl
            · split
              · exact .inr (.inr rfl)
              · exact .inr (.inl rfl)
          clear hCy hBw
          generalize out[k] = y at *
          generalize lexCmp x y = s at *
          cases put with
          | true =>
            clear hs3
            go_wp2_with (fail)
            go_quiet (first | exact HCC.out _)
            go_wp2_with (first | ((with_reducible refine gate_builtin (b := .append) (xs := #[.tmp 50, .tmp 55]) rfl ?_); at_builtin; go_loud (refine Kd.R_append (Kd.fixed kInts w) (w0 := wo) wo.heap.size rfl (.tmp 50) (.tmp 55) 22 23 (.slice none 0 0) 24 rfl Try.underlying22 info23 rfl (Nat.lt_succ_self 0) (by omega) _ next y [.slice Ay y.length cy] (fun _ => True) (fun _ => False) rfl rfl ?aP (fun _ h => h.elim) ?aF ?aO ?aB ?aS ?aL ?_; (case aP => exact HY.out); (case aB => first | exact HBI.out | exact pw_below_drewN HBI.out _); (case aF => exact (fun _ _ => trivial)); (case aO => first | exact HN.out | exact Kd.R_drewN HN.out _); (case aS => first | exact HBI.out.size | exact (pw_below_drewN HBI.out _).size); (case aL => have := HLN.out; have := hol.out; (try simp only [List.length_append, List.length_cons, List.length_nil]); omega); intro v7 w7 ho2 hb2 hg2 hat2; have HN2 := Aside0.mk ho2; have HBI2 := Aside0.mk hb2; clear ho2 hb2 hg2 hat2)))
            go_roundg (out.length - (k + 1))
            case measure => omega
            case rel => exact ⟨k + 1, true, next ++ [y], by omega, by omega, by go_num, rfl, ⟨HIp.out HI.out⟩, ⟨by have := HLN.out; simp; omega⟩, HN2, HBI2⟩
          | false =>
            rcases hs3 with rfl | rfl | rfl
            rotate_left
            · skip
              go_wp2_with (fail)
              go_quiet (first | exact HCC.out _)
              go_wp2_with (first | ((with_reducible refine gate_builtin (b := .append) (xs := #[.tmp 50, .tmp 55]) rfl ?_); at_builtin; go_loud (refine Kd.R_append (Kd.fixed kInts w) (w0 := wo) wo.heap.size rfl (.tmp 50) (.tmp 55) 22 23 (.slice none 0 0) 24 rfl Try.underlying22 info23 rfl (Nat.lt_succ_self 0) (by omega) _ next y [.slice Ay y.length cy] (fun _ => True) (fun _ => False) rfl rfl ?aP (fun _ h => h.elim) ?aF ?aO ?aB ?aS ?aL ?_; (case aP => exact HY.out); (case aB => first | exact HBI.out | exact pw_below_drewN HBI.out _); (case aF => exact (fun _ _ => trivial)); (case aO => first | exact HN.out | exact Kd.R_drewN HN.out _); (case aS => first | exact HBI.out.size | exact (pw_below_drewN HBI.out _).size); (case aL => have := HLN.out; have := hol.out; (try simp only [List.length_append, List.length_cons, List.length_nil]); omega); intro v7 w7 ho2 hb2 hg2 hat2; have HN2 := Aside0.mk ho2; have HBI2 := Aside0.mk hb2; clear ho2 hb2 hg2 hat2)))
              go_roundg (out.length - (k + 1))
              case measure => omega
              case rel => exact ⟨k + 1, true, next ++ [y], by omega, by omega, by go_num, rfl, ⟨by first | exact HIs.out rfl HI.out | exact HIs.out trivial HI.out⟩, ⟨by have := HLN.out; simp; omega⟩, HN2, HBI2⟩
            rotate_left
            · · skip
                go_wp2_with (fail)
                go_quiet (first | exact HCC.out _)
                go_wp2_with (first | ((with_reducible refine gate_builtin (b := .append) (xs := #[.tmp 43, .tmp 48]) rfl ?_); at_builtin; go_loud (refine Kd.R_append (Kd.fixed kInts w) (w0 := wo) wo.heap.size rfl (.tmp 43) (.tmp 48) 22 23 (.slice none 0 0) 24 rfl Try.underlying22 info23 rfl (Nat.lt_succ_self 0) (by omega) _ next x [.slice Ax x.length cx] (fun _ => True) (fun _ => False) rfl rfl ?aP (fun _ h => h.elim) ?aF ?aO ?aB ?aS ?aL ?_; (case aP => exact HX.out); (case aB => first | exact HBI.out | exact pw_below_drewN HBI.out _); (case aF => exact (fun _ _ => trivial)); (case aO => first | exact HN.out | exact Kd.R_drewN HN.out _); (case aS => first | exact HBI.out.size | exact (pw_below_drewN HBI.out _).size); (case aL => have := HLN.out; have := hol.out; (try simp only [List.length_append, List.length_cons, List.length_nil]); omega); intro v6 w6 ho2 hb2 hg2 hat2; have hy6 := HYB.out w6 hb2; have HN1 := Aside0.mk ho2; have HBI1 := Aside0.mk hb2; clear ho2 hb2 hg2 hat2)) | ((with_reducible refine gate_builtin (b := .append) (xs := #[.tmp 50, .tmp 55]) rfl ?_); at_builtin; go_loud (refine Kd.R_append (Kd.fixed kInts w) (w0 := wo) wo.heap.size rfl (.tmp 50) (.tmp 55) 22 23 (.slice none 0 0) 24 rfl Try.underlying22 info23 rfl (Nat.lt_succ_self 0) (by omega) _ (next ++ [x]) y [.slice Ay y.length cy] (fun _ => True) (fun _ => False) rfl rfl ?aP (fun _ h => h.elim) ?aF ?aO ?aB ?aS ?aL ?_; (case aP => exact HY.out); (case aB => first | exact HBI1.out | exact pw_below_drewN HBI1.out _); (case aF => exact (fun _ _ => trivial)); (case aO => first | exact HN1.out | exact Kd.R_drewN HN1.out _); (case aS => first | exact HBI1.out.size | exact (pw_below_drewN HBI1.out _).size); (case aL => have := HLN.out; have := hol.out; (try simp only [List.length_append, List.length_cons, List.length_nil]); omega); intro v7 w7 ho2 hb2 hg2 hat2; have HN2 := Aside0.mk ho2; have HBI2 := Aside0.mk hb2; clear ho2 hb2 hg2 hat2)))
                go_roundg (out.length - (k + 1))
                case measure => omega
                case rel => exact ⟨k + 1, true, next ++ [x] ++ [y], by omega, by omega, by go_num, rfl, ⟨by first | exact HIl.out (by omega) HI.out | exact HIl.out trivial HI.out⟩, ⟨by have h_ := HI.out; simp only [InsAt, Bool.false_eq_true, if_false] at h_; have h2_ := congrArg List.length h_.1; rw [List.length_take] at h2_; simp; omega⟩, HN2, HBI2⟩
            · · skip
                go_wp2_with (fail)
                go_quiet (first | exact HCC.out _)
                go_wp2_with (first | ((with_reducible refine gate_builtin (b := .append) (xs := #[.tmp 50, .tmp 55]) rfl ?_); at_builtin; go_loud (refine Kd.R_append (Kd.fixed kInts w) (w0 := wo) wo.heap.size rfl (.tmp 50) (.tmp 55) 22 23 (.slice none 0 0) 24 rfl Try.underlying22 info23 rfl (Nat.lt_succ_self 0) (by omega) _ next y [.slice Ay y.length cy] (fun _ => True) (fun _ => False) rfl rfl ?aP (fun _ h => h.elim) ?aF ?aO ?aB ?aS ?aL ?_; (case aP => exact HY.out); (case aB => first | exact HBI.out | exact pw_below_drewN HBI.out _); (case aF => exact (fun _ _ => trivial)); (case aO => first | exact HN.out | exact Kd.R_drewN HN.out _); (case aS => first | exact HBI.out.size | exact (pw_below_drewN HBI.out _).size); (case aL => have := HLN.out; have := hol.out; (try simp only [List.length_append, List.length_cons, List.length_nil]); omega); intro v7 w7 ho2 hb2 hg2 hat2; have HN2 := Aside0.mk ho2; have HBI2 := Aside0.mk hb2; clear ho2 hb2 hg2 hat2)))
                go_roundg (out.length - (k + 1))
                case measure => omega
                case rel => exact ⟨k + 1, false, next ++ [y], by omega, by omega, by go_num, rfl, ⟨by first | exact HIm.out (by omega) HI.out | exact HIm.out trivial HI.out⟩, ⟨by have := HLN.out; simp; omega⟩, HN2, HBI2⟩
        · obtain rfl : k = out.length := by omega
          clear hBw
          cases put with
          | true =>
            go_wp2
            go_roundg (l0.length - (i + 1))
            case measure => omega
            case rel => exact ⟨i + 1, by omega, by omega, by go_num, ⟨by rw [hins.out, ← HI.out.end1]; exact Kd.R_lower HN.out HB.out.size⟩, ⟨HB.out.trans (HBI.out.mono HB.out.size)⟩⟩
          | false =>
            go_wp2_with (first | ((with_reducible refine gate_builtin (b := .append) (xs := #[.tmp 59, .tmp 64]) rfl ?_); at_builtin; go_loud (refine Kd.R_append (Kd.fixed kInts w) (w0 := wo) wo.heap.size rfl (.tmp 59) (.tmp 64) 22 23 (.slice none 0 0) 24 rfl Try.underlying22 info23 rfl (Nat.lt_succ_self 0) (by omega) _ next x [.slice Ax x.length cx] (fun _ => True) (fun _ => False) rfl rfl ?aP (fun _ h => h.elim) ?aF ?aO ?aB ?aS ?aL ?_; (case aP => exact HX.out); (case aB => first | exact HBI.out | exact pw_below_drewN HBI.out _); (case aF => exact (fun _ _ => trivial)); (case aO => first | exact HN.out | exact Kd.R_drewN HN.out _); (case aS => first | exact HBI.out.size | exact (pw_below_drewN HBI.out _).size); (case aL => have := HLN.out; have := hol.out; (try simp only [List.length_append, List.length_cons, List.length_nil]); omega); intro v7 w7 ho2 hb2 hg2 hat2; have HN2 := Aside0.mk ho2; have HBI2 := Aside0.mk hb2; clear ho2 hb2 hg2 hat2)))
            go_roundg (l0.length - (i + 1))
            case measure => omega
            case rel => exact ⟨i + 1, by omega, by omega, by go_num, ⟨by rw [hins.out, ← HI.out.end0]; exact Kd.R_lower HN2.out HB.out.size⟩, ⟨HB.out.trans (HBI2.out.mono HB.out.size)⟩⟩
    · obtain rfl : i = l0.length := by omega
      go_wp2
      go_ret
      have := HO.out
      rw [List.take_length, insAll_eq] at this
      exact ⟨_, rfl, this, HB.out⟩
end Go.Proofs.Ytpbcigilipdedaa.P
