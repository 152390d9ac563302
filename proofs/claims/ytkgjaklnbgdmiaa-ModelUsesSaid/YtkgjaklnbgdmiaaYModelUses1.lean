/- Proved: the statement ModelUses. Conditions: none but those of the statement. -/
import Derived.Test.YtkgjaklnbgdmiaaZ1
import Derived.Test.YtkgjaklnbgdmiaaZ2
import Derived.Test.YtkgjaklnbgdmiaaZ3
import Derived.Laws.Bits64b
/- Plain: the values of ranges, at most so many of them (what dom.all goes over). -/
namespace Go.Proofs.Ytkgjaklnbgdmiaa.P
open Go.RowKit Go.Proofs.YtkgjaklnbgdmiaaW.PrintWords Go.Proofs.YtkgjaklnbgdmiaaW.PrintLast Go.Proofs.YtkgjaklnbgdmiaaW.PrintMore
set_option linter.unusedVariables false
set_option linter.unusedSimpArgs false
def upTo : Nat → Int → Int → List Int
  | 0, _, _ => []
  | r + 1, v, hi => if v ≤ hi then v :: upTo r (v + 1) hi else []
def niceD (d : List S48) : Bool := d.all fun x => decide (-1048576 ≤ x.f0 ∧ x.f0 ≤ 1048576 ∧ -1048576 ≤ x.f1 ∧ x.f1 ≤ 1048576)
end Go.Proofs.Ytkgjaklnbgdmiaa.P
/- Plain: domains as lists of ranges. A domain is told by its values: two good lists of ranges with the same values are one. -/
namespace Go.Proofs.Ytkgjaklnbgdmiaa.P
open Go.RowKit Go.Proofs.YtkgjaklnbgdmiaaW.PrintWords Go.Proofs.YtkgjaklnbgdmiaaW.PrintLast Go.Proofs.YtkgjaklnbgdmiaaW.PrintMore
set_option linter.unusedVariables false
set_option linter.unusedSimpArgs false
abbrev Rg := S48
abbrev rg (d : List Rg) (i : Int) : Rg := Zb d i
theorem Rg.ext' {x y : Rg} (h0 : x.f0 = y.f0) (h1 : x.f1 = y.f1) : x = y := by cases x; cases y; simp at *; exact ⟨h0, h1⟩
theorem rg_nat (d : List Rg) (n : Nat) (h : n < d.length) : rg d (n : Int) = d[n] := by simp [rg, Zb, List.getD_eq_getElem?_getD, List.getElem?_eq_getElem h]
def Gd (V : Int) : Int → List Rg → Prop
  | _, [] => True
  | b, x :: d => b ≤ x.f0 ∧ x.f0 ≤ x.f1 ∧ x.f1 ≤ V ∧ Gd V (x.f1 + 2) d
def Va (d : List Rg) (v : Int) : Prop := ∃ x ∈ d, x.f0 ≤ v ∧ v ≤ x.f1
@[simp] theorem Va_nil (v : Int) : Va [] v ↔ False := by simp [Va]
@[simp] theorem Zc0 (x : Rg) (d : List Rg) (v : Int) : Va (x :: d) v ↔ (x.f0 ≤ v ∧ v ≤ x.f1) ∨ Va d v := by simp [Va]
theorem Va_append (d e : List Rg) (v : Int) : Va (d ++ e) v ↔ Va d v ∨ Va e v := by
  induction d with
  | nil => simp
  | cons x d ih => simp [ih, or_assoc]
theorem Gd.mono {V b c : Int} {d : List Rg} (h : Gd V b d) (hc : c ≤ b) : Gd V c d := by
  cases d with
  | nil => trivial
  | cons x d => obtain ⟨h1, h2, h3, h4⟩ := h; exact ⟨by omega, h2, h3, h4⟩
theorem Gd.ge {V : Int} : ∀ {b : Int} {d : List Rg} {v : Int}, Gd V b d → Va d v → b ≤ v
  | _, [], _, _, h => absurd h (by simp)
  | b, x :: d, v, ⟨h1, h2, h3, h4⟩, h => by
    rcases (Zc0 x d v).1 h with h | h
    · omega
    have := Gd.ge h4 h; omega
theorem Gd.le {V : Int} : ∀ {b : Int} {d : List Rg} {v : Int}, Gd V b d → Va d v → v ≤ V
  | _, [], _, _, h => absurd h (by simp)
  | b, x :: d, v, ⟨h1, h2, h3, h4⟩, h => by
    rcases (Zc0 x d v).1 h with h | h
    · omega
    exact Gd.le h4 h
theorem Gd.ext {V : Int} : ∀ {b c : Int} {d e : List Rg}, Gd V b d → Gd V c e → (∀ v, Va d v ↔ Va e v) → d = e
  | _, _, [], [], _, _, _ => rfl
  | _, _, [], y :: e, _, ⟨_, h2, _, _⟩, h => absurd ((h y.f0).2 ((Zc0 _ _ _).2 (.inl ⟨Int.le_refl _, h2⟩))) (by simp)
  | _, _, x :: d, [], ⟨_, h2, _, _⟩, _, h => absurd ((h x.f0).1 ((Zc0 _ _ _).2 (.inl ⟨Int.le_refl _, h2⟩))) (by simp)
  | b, c, x :: d, y :: e, ⟨h1, h2, h3, h4⟩, ⟨k1, k2, k3, k4⟩, h => by
    have gx : ∀ v, Va (x :: d) v → x.f0 ≤ v := fun v hv => Gd.ge (V := V) (b := x.f0) (d := x :: d) ⟨Int.le_refl _, h2, h3, h4⟩ hv
    have gy : ∀ v, Va (y :: e) v → y.f0 ≤ v := fun v hv => Gd.ge (V := V) (b := y.f0) (d := y :: e) ⟨Int.le_refl _, k2, k3, k4⟩ hv
    have a1 := gy _ ((h x.f0).1 ((Zc0 _ _ _).2 (.inl ⟨Int.le_refl _, h2⟩)))
    have a2 := gx _ ((h y.f0).2 ((Zc0 _ _ _).2 (.inl ⟨Int.le_refl _, k2⟩)))
    have e0 : x.f0 = y.f0 := by omega
    have no1 : ¬ x.f1 < y.f1 := fun hlt => by
      have := (h (x.f1 + 1)).2 ((Zc0 _ _ _).2 (.inl ⟨by omega, by omega⟩))
      rcases (Zc0 _ _ _).1 this with h | h
      · omega
      have := Gd.ge h4 h; omega
    have no2 : ¬ y.f1 < x.f1 := fun hlt => by
      have := (h (y.f1 + 1)).1 ((Zc0 _ _ _).2 (.inl ⟨by omega, by omega⟩))
      rcases (Zc0 _ _ _).1 this with h | h
      · omega
      have := Gd.ge k4 h; omega
    have e1 : x.f1 = y.f1 := by omega
    obtain rfl := Rg.ext' e0 e1
    congr 1
    refine Gd.ext h4 k4 (fun v => ⟨fun hv => ?_, fun hv => ?_⟩)
    · have hg := Gd.ge h4 hv
      rcases (Zc0 _ _ _).1 ((h v).1 ((Zc0 _ _ _).2 (.inr hv))) with h | h
      · omega
      exact h
    have hg := Gd.ge k4 hv
    rcases (Zc0 _ _ _).1 ((h v).2 ((Zc0 _ _ _).2 (.inr hv))) with h | h
    · omega
    exact h
def endB (b : Int) (d : List Rg) : Int := (d.getLast?.map fun x => x.f1 + 2).getD b
theorem Zer (b : Int) (d : List Rg) (x : Rg) : endB b (d ++ [x]) = x.f1 + 2 := by simp [endB]
theorem endB_cons (b : Int) (x : Rg) (d : List Rg) : endB b (x :: d) = endB (x.f1 + 2) d := by
  cases d with
  | nil => simp [endB]
  | cons y d => simp [endB, List.getLast?_cons]
theorem Gd_append (V : Int) : ∀ (b : Int) (d e : List Rg), Gd V b (d ++ e) ↔ Gd V b d ∧ Gd V (endB b d) e
  | b, [], e => by simp [Gd, endB]
  | b, x :: d, e => by
    rw [List.cons_append, Gd, Gd, Gd_append V (x.f1 + 2) d e, endB_cons]
    simp [and_assoc]
theorem Gd_snoc {V b : Int} {d : List Rg} {x : Rg} : Gd V b (d ++ [x]) ↔ Gd V b d ∧ endB b d ≤ x.f0 ∧ x.f0 ≤ x.f1 ∧ x.f1 ≤ V := by
  rw [Gd_append]
  simp [Gd]
def vals : List Rg → List Int
  | [] => []
  | x :: d => upTo (x.f1 + 1 - x.f0).toNat x.f0 x.f1 ++ vals d
theorem Zee : ∀ (r : Nat) (v hi z : Int), z ∈ upTo r v hi ↔ v ≤ z ∧ z ≤ hi ∧ z < v + r
  | 0, v, hi, z => by simp [upTo]; omega
  | r + 1, v, hi, z => by
    unfold upTo
    split
    · rw [List.mem_cons, Zee r (v + 1) hi z]
      omega
    simp
    omega
theorem upTo_ss : ∀ (r : Nat) (v hi : Int), SS (upTo r v hi)
  | 0, v, hi => by simp [upTo]
  | r + 1, v, hi => by
    unfold upTo
    split
    · refine List.pairwise_cons.2 ⟨fun z hz => ?_, upTo_ss r (v + 1) hi⟩
      have := (Zee r (v + 1) hi z).1 hz
      omega
    exact List.Pairwise.nil
theorem upTo_len : ∀ (r : Nat) (v hi : Int), ((upTo r v hi).length : Int) = min (r : Int) (max 0 (hi + 1 - v))
  | 0, v, hi => by simp [upTo]; omega
  | r + 1, v, hi => by
    unfold upTo
    split
    · have := upTo_len r (v + 1) hi
      simp
      omega
    simp
    omega
theorem Zfc (z : Int) : ∀ d, z ∈ vals d ↔ Va d z
  | [] => by simp [vals]
  | x :: d => by
    rw [vals, List.mem_append, Zfc z d, Zc0, Zee]
    have : (x.f0 ≤ z ∧ z ≤ x.f1 ∧ z < x.f0 + ((x.f1 + 1 - x.f0).toNat : Int)) ↔ (x.f0 ≤ z ∧ z ≤ x.f1) := by omega
    rw [this]
theorem vals_ss {V : Int} : ∀ {b : Int} {d : List Rg}, Gd V b d → SS (vals d)
  | _, [], _ => List.Pairwise.nil
  | b, x :: d, ⟨h1, h2, h3, h4⟩ => by
    rw [vals]
    refine List.pairwise_append.2 ⟨upTo_ss _ _ _, vals_ss h4, fun y hy z hz => ?_⟩
    have := (Zee _ _ _ _).1 hy
    have := Gd.ge h4 ((Zfc z d).1 hz)
    omega
theorem Zd7 {V b : Int} {d : List Rg} (h : Gd V b d) : ((vals d).length : Int) ≤ max 0 (V + 1 - b) :=
  ss_length (vals_ss h) (fun x hx => ⟨Gd.ge h ((Zfc x d).1 hx), Gd.le h ((Zfc x d).1 hx)⟩)
theorem Zdf {V : Int} : ∀ {b : Int} {d : List Rg}, Gd V b d → d.length ≤ (vals d).length
  | _, [], _ => by simp
  | b, x :: d, ⟨h1, h2, h3, h4⟩ => by
    have h5 := Zdf h4
    have h6 := upTo_len (x.f1 + 1 - x.f0).toNat x.f0 x.f1
    rw [vals]
    simp
    omega
def pack : List Int → List Rg
  | [] => []
  | x :: l => match pack l with
    | [] => [⟨x, x⟩]
    | r :: rs => if r.f0 = x + 1 then ⟨x, r.f1⟩ :: rs else ⟨x, x⟩ :: r :: rs
theorem pack_good {V : Int} : ∀ {b : Int} {l : List Int}, SS l → (∀ x ∈ l, b ≤ x ∧ x ≤ V) → Gd V b (pack l) ∧ ∀ v, Va (pack l) v ↔ v ∈ l
  | b, [], _, _ => ⟨trivial, fun v => by simp [pack]⟩
  | b, x :: l, h, hb => by
    obtain ⟨hx, hl⟩ := List.pairwise_cons.1 h
    obtain ⟨g, m⟩ := pack_good (V := V) (b := x + 1) hl (fun y hy => ⟨by have := hx y hy; omega, (hb y (List.mem_cons_of_mem _ hy)).2⟩)
    obtain ⟨b1, b2⟩ := hb x List.mem_cons_self
    unfold pack
    cases hp : pack l with
    | nil =>
      rw [hp] at m
      refine ⟨⟨b1, Int.le_refl _, b2, trivial⟩, fun v => ?_⟩
      have := m v
      simp at this
      simp [this]
      omega
    | cons r rs =>
      rw [hp] at g m
      obtain ⟨g1, g2, g3, g4⟩ := g
      dsimp only
      split
      · rename_i e
        refine ⟨⟨b1, by show x ≤ r.f1; omega, g3, g4⟩, fun v => ?_⟩
        have := m v
        rw [List.mem_cons, ← this, Zc0, Zc0]
        dsimp only
        constructor
        · rintro (h | h)
          · by_cases e2 : v = x
            · exact .inl e2
            exact .inr (.inl ⟨by omega, h.2⟩)
          exact .inr (.inr h)
        rintro (h | h | h)
        · exact .inl ⟨by omega, by omega⟩
        · exact .inl ⟨by omega, h.2⟩
        exact .inr h
      rename_i e
      refine ⟨⟨b1, Int.le_refl _, b2, by show x + 2 ≤ r.f0; omega, g2, g3, g4⟩, fun v => ?_⟩
      have := m v
      rw [List.mem_cons, ← this, Zc0]
      dsimp only
      constructor
      · rintro (h | h)
        · exact .inl (by omega)
        exact .inr h
      rintro (h | h)
      · exact .inl ⟨by omega, by omega⟩
      exact .inr h
theorem pack_eq {V b : Int} {d : List Rg} {l : List Int} (hd : Gd V b d) (hl : SS l) (h : ∀ v, Va d v ↔ v ∈ l) : d = pack l := by
  obtain ⟨g, m⟩ := pack_good (V := V) (b := b) hl (fun x hx => ⟨Gd.ge hd ((h x).2 hx), Gd.le hd ((h x).2 hx)⟩)
  exact Gd.ext hd g (fun v => (h v).trans (m v).symm)
theorem upTo_enough {r : Nat} {v hi : Int} (h : hi + 1 - v ≤ r) : upTo r v hi = upTo (hi + 1 - v).toNat v hi :=
  SS.ext (upTo_ss _ _ _) (upTo_ss _ _ _) (fun z => by rw [Zee, Zee]; omega)
end Go.Proofs.Ytkgjaklnbgdmiaa.P
namespace Go.Proofs.Ytkgjaklnbgdmiaa.P
open Go.RowKit Go.Proofs.YtkgjaklnbgdmiaaW.PrintWords Go.Proofs.YtkgjaklnbgdmiaaW.PrintLast Go.Proofs.YtkgjaklnbgdmiaaW.PrintMore
attribute [local go_sem] Zcs Zcu Zc7 Zc8 Zcc Zcd Zct Zcv
set_option linter.unusedVariables false
set_option linter.unusedSimpArgs false
def Zbh.l0 : Nat → List Int → Int → Int → Option (Bool)
 | 0, _, _, _ => none
 | k + 1, x0, x1, x5 => if x5 < (x0.length : Int) then (if 0 ≤ x5 then (if (rd x0 x5) = x1 then (some true) else (Zbh.l0 k x0 x1 (wrap64 (x5 + 1)))) else (none)) else (some false)
def Zbh.f (k : Nat) (l0 : List Int) (a1 : Int) : Option (Bool) := Zbh.l0 k l0 a1 0
set_option maxHeartbeats 8000000 in
set_option maxRecDepth 100000 in
theorem Zbh.calls (k : Nat) (A0 : Option Addr) (c0 : Nat) (l0 : List Int) (a1 : Int) (r : Bool) (w : World) (hr0 : Kd.C (Kd.int .i64) w A0 l0.length l0) (hc0 : l0.length ≤ c0) (h : Zbh.f k l0 a1 = some r) :
  Calls Try.prog 33 #[.slice A0 l0.length c0, .int .i64 a1] w fun e w' => e = .returned (.bool r) ∧ Zbf w w' := by
 have HR0 := Za.mk hr0
 have HC0 := Za.mk hc0
 clear hr0 hc0
 have H : (Zbh.l0 k l0 a1 0) = some r := h
 clear h
 have H' := Za.mk H
 clear H
 go_enter Try.func33, Try.ntmps33
 go_wp2
 go_loopg [5] k (fun kq v5 w' => ∃ (x5_1 : Int), v5 = .int .i64 x5_1 ∧ Za (Zbh.l0 kq l0 a1 x5_1 = some r) ∧ Za (kq ≤ k) ∧ Zbf w w')
 case atStart => exact ⟨(0), (by first | rfl | (simp; done) | (simp [*]; done)), H', ⟨Nat.le_refl _⟩, by repeat (first | exact Zbf.refl _ | apply Zbf.step)⟩
 case round =>
  clear H'
  try clear p2
  obtain ⟨x5_1, rfl, HA, HK1, ⟨m1, rfl⟩⟩ := hrel
  cases gk with
  | zero => exact absurd HA.out (by simp [Zbh.l0])
  | succ k1 =>
   have H := HA.out
   clear HA
   simp only [Zbh.l0] at H
   by_cases c3 : x5_1 < (l0.length : Int)
   rotate_left
   ·rw [if_neg c3] at H
    have c3b0 : decide (x5_1 < (l0.length : Int)) = false := decide_eq_false c3
    clear c3
    obtain rfl := Option.some.inj H
    go_wp2
    go_ret
    exact ⟨by first | rfl | (simp; done) | (simp [*]; done), by repeat (first | exact Zbf.refl _ | apply Zbf.step)⟩
   rw [if_pos c3] at H
   have c3b0 : decide (x5_1 < (l0.length : Int)) = true := decide_eq_true c3
   clear c3
   by_cases c4 : 0 ≤ x5_1
   rotate_left
   ·rw [if_neg c4] at H
    exact absurd H (by simp)
   rw [if_pos c4] at H
   have c4b0 : decide (0 ≤ x5_1) = true := decide_eq_true c4
   clear c4
   by_cases c5 : (rd l0 x5_1) = a1
   ·rw [if_pos c5] at H
    have c5b0 : ((rd l0 x5_1) == a1) = true := beq_iff_eq.mpr c5
    have c5b1 : ((rd l0 x5_1) != a1) = false := bne_eq_false_iff_eq.mpr c5
    clear c5
    obtain rfl := Option.some.inj H
    have p347 : 0 ≤ (x5_1 : Int) := of_decide_eq_true (by first | (with_reducible assumption) | assumption)
    have q347 : x5_1 < (l0.length : Int) := of_decide_eq_true (by first | (with_reducible assumption) | assumption)
    obtain ⟨ad347, e347, hx347_0⟩ := Kd.Zcq HR0.out x5_1 p347 q347
    cases e347
    replace p347 := eq_true p347
    replace q347 := eq_true q347
    go_wp2
    go_ret
    exact ⟨by first | rfl | (simp; done) | (simp [*]; done), by repeat (first | exact Zbf.refl _ | apply Zbf.step)⟩
   rw [if_neg c5] at H
   have c5b0 : ((rd l0 x5_1) == a1) = false := beq_eq_false_iff_ne.mpr c5
   have c5b1 : ((rd l0 x5_1) != a1) = true := bne_iff_ne.mpr c5
   have H' := Za.mk H
   clear H
   have p347 : 0 ≤ (x5_1 : Int) := of_decide_eq_true (by first | (with_reducible assumption) | assumption)
   have q347 : x5_1 < (l0.length : Int) := of_decide_eq_true (by first | (with_reducible assumption) | assumption)
   obtain ⟨ad347, e347, hx347_0⟩ := Kd.Zcq HR0.out x5_1 p347 q347
   cases e347
   replace p347 := eq_true p347
   replace q347 := eq_true q347
   go_wp2
   go_roundg k1
   case measure => have := HK1.out; omega
   case rel => exact ⟨(wrap64 (x5_1 + 1)), (by first | rfl | (simp; done) | (simp [*]; done)), H', ⟨by have := HK1.out; omega⟩, by repeat (first | exact Zbf.refl _ | apply Zbf.step)⟩
end Go.Proofs.Ytkgjaklnbgdmiaa.P
/- The document's comparisons of lists of numbers. -/
namespace Go.Proofs.Ytkgjaklnbgdmiaa.P
open Go.RowKit Go.Proofs.YtkgjaklnbgdmiaaW.PrintWords Go.Proofs.YtkgjaklnbgdmiaaW.PrintLast Go.Proofs.YtkgjaklnbgdmiaaW.PrintMore
set_option linter.unusedVariables false
set_option linter.unusedSimpArgs false
theorem drop_nil' {α : Type} {l : List α} {n : Nat} (h : n + 0 = l.length) : l.drop n = [] := List.drop_eq_nil_iff.2 (by omega)
theorem ref_Has_l (l : List Int) (v : Int) (hl : l.length < 4611686018427387904) : ∀ (m n : Nat), n + m = l.length → Ev (fun k => Zbh.l0 k l v (n : Int)) (decide (v ∈ l.drop n)) := by
  intro m
  induction m with
  | zero =>
    intro n h
    rw [drop_nil' h]
    exact Ev.step (G := fun _ => some false) (fun k => by rw [Zbh.l0, if_neg (by omega)]) (Ev.const (by simp))
  | succ m ih =>
    intro n h
    have hn : n < l.length := by omega
    have hm : v ∈ l.drop n ↔ v = l[n] ∨ v ∈ l.drop (n + 1) := by rw [List.drop_eq_getElem_cons hn, List.mem_cons]
    by_cases e : l[n] = v
    · exact Ev.step (G := fun _ => some true) (fun k => by rw [Zbh.l0, if_pos (by omega), if_pos (by omega), Zgb l n hn, if_pos e]) (Ev.const (by rw [decide_eq_true (hm.2 (.inl e.symm))]))
    have e2 : decide (v ∈ l.drop n) = decide (v ∈ l.drop (n + 1)) := decide_eq_decide.2 (hm.trans ⟨fun h => h.elim (fun h => absurd h.symm e) id, .inr⟩)
    rw [e2]
    exact Ev.step (fun k => by rw [Zbh.l0, if_pos (by omega), if_pos (by omega), Zgb l n hn, if_neg e, w1 (by omega)]) (ih (n + 1) (by omega))
theorem ref_Has (l : List Int) (v : Int) (hl : l.length < 4611686018427387904) : Ev (fun k => Zbh.f k l v) (decide (v ∈ l)) := ref_Has_l l v hl l.length 0 (by omega)
end Go.Proofs.Ytkgjaklnbgdmiaa.P
/- Plain: what is in the first one alone, and truths (the seats that have no Cut and no Join). -/
namespace Go.Proofs.Ytkgjaklnbgdmiaa.P
open Go.RowKit Go.Proofs.YtkgjaklnbgdmiaaW.PrintWords Go.Proofs.YtkgjaklnbgdmiaaW.PrintLast Go.Proofs.YtkgjaklnbgdmiaaW.PrintMore
set_option linter.unusedVariables false
set_option linter.unusedSimpArgs false
theorem Gd.drop {V : Int} : ∀ {b : Int} {d : List Rg} (n : Nat), Gd V b d → Gd V b (d.drop n)
  | _, [], n, h => by simp [Gd]
  | b, x :: d, 0, h => h
  | b, x :: d, n + 1, ⟨h1, h2, h3, h4⟩ => (Gd.drop n h4).mono (by omega)
def DomOf (r : List Rg) (q : Int → Prop) : Prop := Gd 1048576 (-1048576) r ∧ ∀ v, Va r v ↔ q v
theorem DomOf.eq {r s : List Rg} {q q' : Int → Prop} (h : DomOf r q) (k : DomOf s q') (e : ∀ v, q v ↔ q' v) : r = s := Gd.ext h.1 k.1 (fun v => (h.2 v).trans ((e v).trans (k.2 v).symm))
theorem DomOf.len {r : List Rg} {q : Int → Prop} (h : DomOf r q) : r.length ≤ 2097153 := by
  have h1 := Zdf h.1
  have h2 := Zd7 h.1
  omega
theorem Gd.at {V b : Int} {d : List Rg} (h : Gd V b d) {n : Nat} (hn : n < d.length) : b ≤ d[n].f0 ∧ d[n].f0 ≤ d[n].f1 ∧ d[n].f1 ≤ V ∧ Gd V (d[n].f1 + 2) (d.drop (n + 1)) := by
  have hg := h.drop n
  rw [List.drop_eq_getElem_cons hn] at hg
  exact hg
theorem Va_drop {d : List Rg} {n : Nat} (hn : n < d.length) (v : Int) : Va (d.drop n) v ↔ (d[n].f0 ≤ v ∧ v ≤ d[n].f1) ∨ Va (d.drop (n + 1)) v := by rw [List.drop_eq_getElem_cons hn, Zc0]
theorem Minus_l1 (a b : List Rg) (ha : Gd 1048576 (-1048576) a) (hb : Gd 1048576 (-1048576) b) (hla : a.length ≤ 2097153) (hlb : b.length ≤ 2097153) (i : Nat) (hi : i < a.length)
    (next : ∀ out : List Rg, out.length ≤ (i + 1) * (b.length + 1) → Gd 1048576 (-1048576) out → endB (-1048576) out ≤ a[i].f1 + 2 →
      ∃ r, Ev (fun k => Za3.l0 k b out a (a.length : Int) ((i + 1 : Nat) : Int)) r ∧ DomOf r (fun v => Va out v ∨ (Va (a.drop (i + 1)) v ∧ ¬ Va b v))) : ∀ (m j : Nat) (lo : Int) (out : List Rg), j + m = b.length → out.length ≤ i * (b.length + 1) + j →
    Gd 1048576 (-1048576) out → endB (-1048576) out ≤ lo → a[i].f0 ≤ lo → lo ≤ 1048577 → endB (-1048576) out ≤ a[i].f1 + 2 → (lo ≤ a[i].f1 ∨ ∀ v, Va (b.drop j) v → a[i].f1 < v) →
    ∃ r, Ev (fun k => Za3.l1 k b out a (a.length : Int) (i : Int) b (b.length : Int) (j : Int) lo a[i].f1) r ∧ DomOf r (fun v => Va out v ∨ ((lo ≤ v ∧ v ≤ a[i].f1) ∧ ¬ Va (b.drop j) v) ∨ (Va (a.drop (i + 1)) v ∧ ¬ Va b v)) := by
  obtain ⟨x1, x2, x3, x4⟩ := ha.at hi
  have hmul : (i + 1) * (b.length + 1) = i * (b.length + 1) + (b.length + 1) := by rw [Nat.add_mul, Nat.one_mul]
  have hbig : i * (b.length + 1) ≤ 2097153 * 2097154 := Nat.mul_le_mul (by omega) (by omega)
  intro m
  induction m with
  | zero =>
    intro j lo out h ho hg he hlo hlo2 he2 hor
    have e1 : b.drop j = [] := drop_nil' h
    by_cases hle : lo ≤ a[i].f1
    · obtain ⟨r, hr, hD⟩ := next (out ++ [⟨lo, a[i].f1⟩]) (by simp; omega) (Gd_snoc.2 ⟨hg, he, hle, x3⟩) (by rw [Zer]; exact Int.le_refl _)
      refine ⟨r, Ev.step (fun k => by rw [Za3.l1, if_neg (by omega), if_pos hle, if_pos (by omega), w1 (by omega)]) hr, hD.1, fun v => ?_⟩
      have hv := hD.2 v
      dsimp only at hv ⊢
      rw [hv, Va_append, Zc0, e1]
      simp [or_assoc]
    obtain ⟨r, hr, hD⟩ := next out (by omega) hg he2
    refine ⟨r, Ev.step (fun k => by rw [Za3.l1, if_neg (by omega), if_neg hle, w1 (by omega)]) hr, hD.1, fun v => ?_⟩
    have hv := hD.2 v
    dsimp only at hv ⊢
    rw [hv]
    constructor
    · rintro (h | h)
      · exact .inl h
      exact .inr (.inr h)
    rintro (h | ⟨h, _⟩ | h)
    · exact .inl h
    · omega
    exact .inr h
  | succ m ih =>
    intro j lo out h ho hg he hlo hlo2 he2 hor
    have hj : j < b.length := by omega
    obtain ⟨y1, y2, y3, y4⟩ := hb.at hj
    have hyb := show Zb b (j : Int) = b[j] from rg_nat b j hj
    have hvb := Va_drop hj
    have skip : (b[j].f1 < lo ∨ b[j].f0 > a[i].f1) → (∃ r, Ev (fun k => Za3.l1 k b out a (a.length : Int) (i : Int) b (b.length : Int) ((j + 1 : Nat) : Int) lo a[i].f1) r ∧ DomOf r (fun v => Va out v ∨ ((lo ≤ v ∧ v ≤ a[i].f1) ∧ ¬ Va (b.drop j) v) ∨ (Va (a.drop (i + 1)) v ∧ ¬ Va b v))) := fun hs => by
      obtain ⟨r, hr, hD⟩ := ih (j + 1) lo out (by omega) (by omega) hg he hlo hlo2 he2 (hor.imp_right (fun hh v hv => hh v ((hvb v).2 (.inr hv))))
      refine ⟨r, hr, hD.1, fun v => ?_⟩
      have hv := hD.2 v
      dsimp only at hv ⊢
      rw [hv, hvb v]
      constructor
      · rintro (h | ⟨h1, h2⟩ | h)
        · exact .inl h
        · exact .inr (.inl ⟨h1, fun h3 => h3.elim (fun h3 => by omega) h2⟩)
        exact .inr (.inr h)
      rintro (h | ⟨h1, h2⟩ | h)
      · exact .inl h
      · exact .inr (.inl ⟨h1, fun h3 => h2 (.inr h3)⟩)
      exact .inr (.inr h)
    by_cases c1 : b[j].f1 < lo
    · obtain ⟨r, hr, hD⟩ := skip (.inl c1)
      refine ⟨r, ?_, hD⟩
      refine Ev.step (fun k => by rw [Za3.l1, if_pos (by omega), if_pos (by omega), if_pos (by omega), hyb, if_pos c1]) ?_
      exact Ev.step (fun k => by rw [Za3.j2, if_pos rfl, w1 (by omega)]) hr
    by_cases c2 : b[j].f0 > a[i].f1
    · obtain ⟨r, hr, hD⟩ := skip (.inr c2)
      refine ⟨r, ?_, hD⟩
      refine Ev.step (fun k => by rw [Za3.l1, if_pos (by omega), if_pos (by omega), if_pos (by omega), hyb, if_neg c1]) ?_
      exact Ev.step (fun k => by rw [Za3.j2, if_pos (decide_eq_true c2), w1 (by omega)]) hr
    have hle : lo ≤ a[i].f1 := by
      rcases hor with h | h
      · exact h
      have := h b[j].f0 ((hvb _).2 (.inl ⟨Int.le_refl _, y2⟩)); omega
    have hlater : b[j].f1 + 1 ≤ a[i].f1 ∨ ∀ v, Va (b.drop (j + 1)) v → a[i].f1 < v := by
      by_cases hh : b[j].f1 + 1 ≤ a[i].f1
      · exact .inl hh
      exact .inr (fun v hv => by have := y4.ge hv; omega)
    have common : ∀ v, lo ≤ v → v ≤ a[i].f1 → (¬ ((b[j].f0 ≤ v ∧ v ≤ b[j].f1) ∨ Va (b.drop (j + 1)) v) ↔ (v < b[j].f0 ∨ (b[j].f1 + 1 ≤ v ∧ ¬ Va (b.drop (j + 1)) v))) := fun v h1 h2 => by
      constructor
      · intro hh
        by_cases h3 : v < b[j].f0
        · exact .inl h3
        refine .inr ⟨?_, fun h4 => hh (.inr h4)⟩
        by_cases h5 : v ≤ b[j].f1
        rotate_left
        · omega
        exact absurd (Or.inl ⟨by omega, h5⟩) hh
      rintro (h3 | ⟨h3, h4⟩) (h5 | h5)
      · omega
      · have := y4.ge h5; omega
      · omega
      exact h4 h5
    have start : ∀ {r}, Ev (fun k => Za3.j2 k b out a (a.length : Int) (i : Int) b (b.length : Int) (j : Int) false lo a[i].f1 b[j].f0 b[j].f1) r → Ev (fun k => Za3.l1 k b out a (a.length : Int) (i : Int) b (b.length : Int) (j : Int) lo a[i].f1) r := fun hE =>
      Ev.step (fun k => by rw [Za3.l1, if_pos (by omega), if_pos (by omega), if_pos (by omega), hyb, if_neg c1, decide_eq_false c2]) hE
    by_cases c3 : b[j].f0 > lo
    rotate_left
    · obtain ⟨r, hr, hD⟩ := ih (j + 1) (b[j].f1 + 1) out (by omega) (by omega) hg (by omega) (by omega) (by omega) he2 hlater
      refine ⟨r, start (Ev.step (fun k => by rw [Za3.j2, if_neg (by simp), if_neg c3, w64 (n := b[j].f1 + 1) (by omega) (by omega), w1 (by omega)]) hr), hD.1, fun v => ?_⟩
      have hv := hD.2 v
      dsimp only at hv ⊢
      rw [hv, hvb v]
      constructor
      · rintro (h | ⟨h1, h2⟩ | h)
        · exact .inl h
        · exact .inr (.inl ⟨⟨by omega, h1.2⟩, (common v (by omega) h1.2).2 (.inr ⟨h1.1, h2⟩)⟩)
        exact .inr (.inr h)
      rintro (h | ⟨h1, h2⟩ | h)
      · exact .inl h
      · rcases (common v h1.1 h1.2).1 h2 with h3 | ⟨h3, h4⟩
        · omega
        exact .inr (.inl ⟨⟨h3, h1.2⟩, h4⟩)
      exact .inr (.inr h)
    obtain ⟨r, hr, hD⟩ := ih (j + 1) (b[j].f1 + 1) (out ++ [⟨lo, b[j].f0 - 1⟩]) (by omega) (by simp; omega) (Gd_snoc.2 ⟨hg, he, by show lo ≤ b[j].f0 - 1; omega, by show b[j].f0 - 1 ≤ 1048576; omega⟩) (by rw [Zer]; show b[j].f0 - 1 + 2 ≤ _; omega) (by omega) (by omega) (by rw [Zer]; show b[j].f0 - 1 + 2 ≤ _; omega) hlater
    refine ⟨r, start (Ev.step (fun k => by rw [Za3.j2, if_neg (by simp), if_pos c3, if_pos (by omega), w64 (n := b[j].f0 - 1) (by omega) (by omega), w64 (n := b[j].f1 + 1) (by omega) (by omega), w1 (by omega)]) hr), hD.1, fun v => ?_⟩
    have hv := hD.2 v
    dsimp only at hv ⊢
    rw [hv, hvb v, Va_append, Zc0]
    simp only [Va_nil, or_false]
    constructor
    · rintro ((h | h) | ⟨h1, h2⟩ | h)
      · exact .inl h
      · exact .inr (.inl ⟨⟨h.1, by omega⟩, (common v h.1 (by omega)).2 (.inl (by omega))⟩)
      · exact .inr (.inl ⟨⟨by omega, h1.2⟩, (common v (by omega) h1.2).2 (.inr ⟨h1.1, h2⟩)⟩)
      exact .inr (.inr h)
    rintro (h | ⟨h1, h2⟩ | h)
    · exact .inl (.inl h)
    · rcases (common v h1.1 h1.2).1 h2 with h3 | ⟨h3, h4⟩
      · exact .inl (.inr ⟨h1.1, by omega⟩)
      exact .inr (.inl ⟨⟨h3, h1.2⟩, h4⟩)
    exact .inr (.inr h)
theorem Minus_l0 (a b : List Rg) (ha : Gd 1048576 (-1048576) a) (hb : Gd 1048576 (-1048576) b) (hla : a.length ≤ 2097153) (hlb : b.length ≤ 2097153) : ∀ (m i : Nat) (out : List Rg), i + m = a.length → out.length ≤ i * (b.length + 1) → Gd 1048576 (-1048576) out → (∀ hi : i < a.length, endB (-1048576) out ≤ a[i].f0) →
    ∃ r, Ev (fun k => Za3.l0 k b out a (a.length : Int) (i : Int)) r ∧ DomOf r (fun v => Va out v ∨ (Va (a.drop i) v ∧ ¬ Va b v)) := by
  intro m
  induction m with
  | zero =>
    intro i out h ho hg _
    refine ⟨out, Ev.step (G := fun _ => some out) (fun k => by rw [Za3.l0, if_neg (by omega)]) (Ev.pure _), hg, fun v => by rw [drop_nil' h]; simp⟩
  | succ m ih =>
    intro i out h ho hg he
    have hi : i < a.length := by omega
    obtain ⟨x1, x2, x3, x4⟩ := ha.at hi
    have hxa := show Zb a (i : Int) = a[i] from rg_nat a i hi
    have hva := Va_drop hi
    obtain ⟨r, hr, hD⟩ := Minus_l1 a b ha hb hla hlb i hi (fun out' h1 h2 h3 => ih (i + 1) out' (by omega) h1 h2 (fun hi1 => by
      have := (ha.at hi).2.2.2
      rw [List.drop_eq_getElem_cons hi1] at this
      have := this.1
      omega)) b.length 0 a[i].f0 out (by omega) (by omega) hg (he hi) (Int.le_refl _) (by omega) (by have := he hi; omega) (.inl x2)
    refine ⟨r, Ev.step (fun k => by rw [Za3.l0, if_pos (by omega), if_pos (by omega), if_pos (by omega), hxa]; rfl) hr, hD.1, fun v => ?_⟩
    have hv := hD.2 v
    dsimp only at hv ⊢
    rw [hv, hva v, List.drop_zero]
    constructor
    · rintro (h | ⟨h1, h2⟩ | ⟨h1, h2⟩)
      · exact .inl h
      · exact .inr ⟨.inl h1, h2⟩
      exact .inr ⟨.inr h1, h2⟩
    rintro (h | ⟨h1 | h1, h2⟩)
    · exact .inl h
    · exact .inr (.inl ⟨h1, h2⟩)
    exact .inr (.inr ⟨h1, h2⟩)
theorem Minus_ev (a b : List Rg) (ha : Gd 1048576 (-1048576) a) (hb : Gd 1048576 (-1048576) b) : ∃ r, Ev (fun k => Za3.f k a b) r ∧ DomOf r (fun v => Va a v ∧ ¬ Va b v) := by
  have h1 := Zdf ha
  have h2 := Zd7 ha
  have h3 := Zdf hb
  have h4 := Zd7 hb
  obtain ⟨r, hr, hD⟩ := Minus_l0 a b ha hb (by omega) (by omega) a.length 0 [] (by omega) (by simp) trivial (fun hi => by simp [endB]; exact (ha.at hi).1)
  exact ⟨r, hr, hD.1, fun v => by have hv := hD.2 v; dsimp only at hv ⊢; rw [hv]; simp⟩
set_option maxHeartbeats 2000000 in
theorem truth_ev (d : List Rg) (hd : Gd 1048576 (-1048576) d) : ∃ b : Bool, Ev (fun k => Zb2.f k d) b ∧ (b = true ↔ ∀ v, Va d v → 0 ≤ v ∧ v ≤ 1) := by
  have h01 : Gd 1048576 (-1048576) [(⟨0, 1⟩ : Rg)] := by
    simp [Gd]
  obtain ⟨r, hr, hD⟩ := Minus_ev d [(⟨0, 1⟩ : Rg)] hd h01
  refine ⟨((r.length : Int) == 0), ?_, ?_⟩
  · unfold Zb2.f
    exact Ev.bind hr (Ev.const rfl)
  have hv : ∀ v, Va [(⟨0, 1⟩ : Rg)] v ↔ 0 ≤ v ∧ v ≤ 1 := fun v => by simp [Va]
  rw [beq_iff_eq]
  constructor
  · intro h0 v hd1
    obtain rfl : r = [] := List.length_eq_zero_iff.1 (by omega)
    refine Classical.byContradiction (fun hn => ?_)
    have := (hD.2 v).2 ⟨hd1, fun h => hn ((hv v).1 h)⟩
    simp [Va] at this
  intro h
  cases r with
  | nil => rfl
  | cons x r =>
    exfalso
    have hx : x.f0 ≤ x.f1 := (hD.1.at (n := 0) (by simp)).2.1
    have hva : Va (x :: r) x.f0 := by simp only [Va, List.mem_cons]; exact ⟨x, .inl rfl, Int.le_refl _, hx⟩
    obtain ⟨h1, h2⟩ := (hD.2 x.f0).1 hva
    exact h2 ((hv _).2 (h _ h1))
end Go.Proofs.Ytkgjaklnbgdmiaa.P
/- Whole numbers with their bound, in plain words: Add, Sub, Mul by 2^20, size, big. -/
namespace Go.Proofs.Ytkgjaklnbgdmiaa.P
open Go.RowKit Go.Proofs.YtkgjaklnbgdmiaaW.PrintWords Go.Proofs.YtkgjaklnbgdmiaaW.PrintLast
set_option linter.unusedVariables false
def Sml (x : Int) : Prop := -4611686018427387904 ≤ x ∧ x ≤ 4611686018427387904
instance (x : Int) : Decidable (Sml x) := inferInstanceAs (Decidable (_ ∧ _))
theorem Zgc (l : List Int) (hl : l.length ≤ 1000000) : ∀ (d i : Nat), i + d = l.length → Ev (fun k => Zbe.l0 k l (l.length : Int) (i : Int)) ((l.drop i).all fun x => decide (Sml x))
  | 0, i, h => by
    obtain rfl : i = l.length := by omega
    refine Ev.step (G := fun _ => some true) (fun k => by rw [Zbe.l0, if_neg (by omega)]) (Ev.const ?_)
    rw [List.drop_length]
    rfl
  | d + 1, i, h => by
    have hi : i < l.length := by omega
    have hw : wrap64 ((i : Int) + 1) = ((i + 1 : Nat) : Int) := by unfold wrap64; omega
    have hr : rd l (i : Int) = l[i] := by simp [rd, List.getD_eq_getElem?_getD, List.getElem?_eq_getElem hi]
    have ih := Zgc l hl d (i + 1) (by omega)
    rw [List.drop_eq_getElem_cons hi, List.all_cons]
    by_cases h1 : l[i] < -4611686018427387904
    · have e : decide (Sml l[i]) = false := decide_eq_false (fun hs => absurd hs.1 (by omega))
      rw [e, Bool.false_and]
      exact Ev.step (G := fun _ => some false) (fun k => by rw [Zbe.l0, if_pos (by omega), if_pos (by omega), if_pos (by omega), hr, if_pos h1]) (Ev.const rfl)
    by_cases h2 : l[i] > 4611686018427387904
    rotate_left
    · have e : decide (Sml l[i]) = true := decide_eq_true ⟨by omega, by omega⟩
      rw [e, Bool.true_and]
      exact Ev.step (fun k => by rw [Zbe.l0, if_pos (by omega), if_pos (by omega), if_pos (by omega), hr, if_neg h1, if_neg h2, hw]) ih
    have e : decide (Sml l[i]) = false := decide_eq_false (fun hs => absurd hs.2 (by omega))
    rw [e, Bool.false_and]
    exact Ev.step (G := fun _ => some false) (fun k => by rw [Zbe.l0, if_pos (by omega), if_pos (by omega), if_pos (by omega), hr, if_neg h1, if_pos h2]) (Ev.const rfl)
theorem Zfd (l : List Int) (hl : l.length ≤ 1000000) : Ev (fun k => Zbe.f k l) (l.all fun x => decide (Sml x)) := by
  have := Zgc l hl l.length 0 (by omega)
  rw [List.drop_zero] at this
  exact this
theorem told_ev (a : Int) : Ev (fun k => Zbw.f k a) (if Sml a then (a, true) else (0, false)) := by
  unfold Zbw.f
  have h := Zfd [a] (by simp)
  by_cases hs : Sml a
  · rw [if_pos hs]
    rw [show ([a].all fun x => decide (Sml x)) = true by simp [hs]] at h
    exact Ev.bind h (Ev.Zba rfl (Ev.const rfl))
  rw [if_neg hs]
  rw [show ([a].all fun x => decide (Sml x)) = false by simp [hs]] at h
  exact Ev.bind h (Ev.Zbm (by simp) (Ev.const rfl))
def addS (a b : Int) : Int × Bool := if Sml a ∧ Sml b ∧ Sml (a + b) then (a + b, true) else (0, false)
theorem add_ev (a b : Int) : Ev (fun k => Zcg.f k a b) (addS a b) := by
  unfold Zcg.f
  have h := Zfd [a, b] (by simp)
  by_cases hs : Sml a ∧ Sml b
  rotate_left
  · have e : addS a b = (0, false) := if_neg (fun hh => hs ⟨hh.1, hh.2.1⟩)
    rw [e]
    have e2 : ([a, b].all fun x => decide (Sml x)) = false := by
      by_cases ha : Sml a
      rotate_left
      · simp [ha]
      have hb : ¬ Sml b := fun hb => hs ⟨ha, hb⟩
      simp [ha, hb]
    rw [e2] at h
    exact Ev.bind h (Ev.Zbm (by simp) (Ev.const rfl))
  rw [show ([a, b].all fun x => decide (Sml x)) = true by simp [hs.1, hs.2]] at h
  refine Ev.bind h (Ev.Zba rfl ?_)
  obtain ⟨⟨a1, a2⟩, b1, b2⟩ := hs
  have w1 : a > 0 → wrap64 (4611686018427387904 - a) = 4611686018427387904 - a := fun _ => by unfold wrap64; omega
  have w2 : a < 0 → wrap64 (-4611686018427387904 - a) = -4611686018427387904 - a := fun _ => by unfold wrap64; omega
  have ht := told_ev (a + b)
  by_cases hab : Sml (a + b)
  · have e : addS a b = (a + b, true) := if_pos ⟨⟨a1, a2⟩, ⟨b1, b2⟩, hab⟩
    rw [if_pos hab] at ht
    rw [e]
    have hb := Ev.bind (H := fun _ (p : Int × Bool) => some (p.1, p.2)) ht (Ev.const rfl)
    obtain ⟨c1, c2⟩ := hab
    have w3 : wrap64 (a + b) = a + b := by unfold wrap64; omega
    simp only [w3]
    by_cases q1 : a > 0
    · exact Ev.Zba q1 (Ev.Zbm (by rw [w1 q1]; omega) (Ev.Zbm (by omega) hb))
    by_cases q2 : a < 0
    rotate_left
    · exact Ev.Zbm q1 (Ev.Zbm q2 hb)
    exact Ev.Zbm q1 (Ev.Zba q2 (Ev.Zbm (by rw [w2 q2]; omega) hb))
  have e : addS a b = (0, false) := if_neg (fun hh => hab hh.2.2)
  rw [e]
  have hab' : a + b < -4611686018427387904 ∨ 4611686018427387904 < a + b := by
    rcases Int.lt_or_le (a + b) (-4611686018427387904) with z | z
    · exact .inl z
    rcases Int.lt_or_le 4611686018427387904 (a + b) with z2 | z2
    · exact .inr z2
    exact absurd ⟨z, z2⟩ hab
  by_cases q1 : a > 0
  · exact Ev.Zba q1 (Ev.Zba (by rw [w1 q1]; omega) (Ev.const rfl))
  by_cases q2 : a < 0
  rotate_left
  · exfalso; omega
  exact Ev.Zbm q1 (Ev.Zba q2 (Ev.Zba (by rw [w2 q2]; omega) (Ev.const rfl)))
theorem sub0_ev (a : Int) (h0 : a < 0) (hw : -9223372036854775808 ≤ a) : Ev (fun k => Zd5.f k 0 a) (if Sml a then (-a, true) else (0, false)) := by
  unfold Zd5.f
  have h := Zfd [0, a] (by simp)
  by_cases hs : Sml a
  rotate_left
  · rw [if_neg hs]
    rw [show ([0, a].all fun x => decide (Sml x)) = false by simp [hs]] at h
    exact Ev.bind h (Ev.Zbm (by simp) (Ev.const rfl))
  rw [if_pos hs]
  rw [show ([0, a].all fun x => decide (Sml x)) = true by simp [hs]; exact ⟨by omega, by omega⟩] at h
  have hn : wrap64 (-a) = -a := by
    have := hs.1
    unfold wrap64; omega
  have hadd := add_ev 0 (-a)
  have e : addS 0 (-a) = (-a, true) := by
    unfold addS
    have h1 := hs.1
    have h2 := hs.2
    rw [if_pos ⟨⟨by omega, by omega⟩, ⟨by omega, by omega⟩, by rw [Int.zero_add]; exact ⟨by omega, by omega⟩⟩, Int.zero_add]
  rw [e] at hadd
  refine Ev.bind h (Ev.Zba rfl ?_)
  rw [hn]
  exact Ev.bind (H := fun _ (p : Int × Bool) => some (p.1, p.2)) hadd (Ev.const rfl)
theorem size_ev (a : Int) (hw : -9223372036854775808 ≤ a) : Ev (fun k => Zcx.f k a) (if Sml a then ((a.natAbs : Int), true) else (0, false)) := by
  unfold Zcx.f
  by_cases h0 : a < 0
  · refine Ev.Zba h0 ?_
    have h := sub0_ev a h0 hw
    have e : (if Sml a then (-a, true) else ((0 : Int), false)) = (if Sml a then ((a.natAbs : Int), true) else (0, false)) := by
      rw [show (-a : Int) = (a.natAbs : Int) by omega]
    rw [e] at h
    refine Ev.bind h (Ev.const ?_)
    split <;> rfl
  refine Ev.Zbm h0 ?_
  have h := add_ev 0 a
  have e : addS 0 a = (if Sml a then ((a.natAbs : Int), true) else (0, false)) := by
    unfold addS
    rw [Int.zero_add, show (a.natAbs : Int) = a by omega]
    by_cases hs : Sml a
    rotate_left
    · rw [if_neg (fun hh => hs hh.2.1), if_neg hs]
    rw [if_pos ⟨⟨by omega, by omega⟩, hs, hs⟩, if_pos hs]
  rw [e] at h
  refine Ev.bind h (Ev.const ?_)
  split <;> rfl
theorem wrapU {x : Int} (h0 : 0 ≤ x) (h1 : x < 18446744073709551616) : IntKind.u64.wrap x = x := by
  rw [IntKind.wrap_u64]
  omega
theorem maskU {x : Int} (h0 : 0 ≤ x) (h1 : x < 18446744073709551616) : Go.bits .and .u64 x 4294967295 = x % 4294967296 := by
  obtain ⟨n, rfl⟩ : ∃ n : Nat, x = n := ⟨x.toNat, by omega⟩
  rw [show (4294967295 : Int) = ((4294967295 : Nat) : Int) from rfl, bits_and_u64_nat n 4294967295 (by omega) (by omega), show (4294967295 : Nat) = 2 ^ 32 - 1 from rfl, Nat.and_two_pow_sub_one_eq_mod]
  omega
theorem mul64_mega {a : Int} (h0 : 0 ≤ a) (h1 : a ≤ 4611686018427387904) : bits_Mul64.f a 1048576 = some (a * 1048576 / 18446744073709551616, a * 1048576 % 18446744073709551616) := by
  unfold bits_Mul64.f
  have e1 : (1048576 : Int) / 4294967296 = 0 := by decide
  have e2 : Go.bits .and .u64 (1048576 : Int) 4294967295 = 1048576 := by rw [maskU (by omega) (by omega)]; decide
  rw [e1, e2, maskU h0 (by omega)]
  have w1 : IntKind.u64.wrap (a / 4294967296 * 0) = 0 := by rw [Int.mul_zero]; exact wrapU (by omega) (by omega)
  have w2 : IntKind.u64.wrap (a / 4294967296 * 1048576) = a / 4294967296 * 1048576 := wrapU (by omega) (by omega)
  have w3 : IntKind.u64.wrap (a % 4294967296 * 1048576) = a % 4294967296 * 1048576 := wrapU (by omega) (by omega)
  have w4 : IntKind.u64.wrap (a % 4294967296 * 0) = 0 := by rw [Int.mul_zero]; exact wrapU (by omega) (by omega)
  rw [w1, w2, w3, w4]
  have w5 : IntKind.u64.wrap (a / 4294967296 * 1048576 + a % 4294967296 * 1048576 / 4294967296) = a / 4294967296 * 1048576 + a % 4294967296 * 1048576 / 4294967296 := wrapU (by omega) (by omega)
  rw [w5, maskU (by omega) (by omega)]
  have w6 : ∀ t : Int, 0 ≤ t → t < 18446744073709551616 → IntKind.u64.wrap (IntKind.u64.wrap (0 + t / 4294967296) + IntKind.u64.wrap (t % 4294967296 + 0) / 4294967296) = t / 4294967296 := fun t ht0 ht1 => by
    rw [wrapU (x := 0 + t / 4294967296) (by omega) (by omega), wrapU (x := t % 4294967296 + 0) (by omega) (by omega), wrapU (by omega) (by omega)]
    omega
  rw [w6 _ (by omega) (by omega)]
  have w7 : IntKind.u64.wrap (a * 1048576) = a * 1048576 % 18446744073709551616 := by
    rw [IntKind.wrap_u64]
  rw [w7]
  congr 2
  omega
theorem mul_ev {a : Int} (h0 : 0 ≤ a) (h1 : a ≤ 4611686018427387904) : Ev (fun k => Zbz.f k a 1048576) (if a * 1048576 ≤ 4611686018427387904 then (a * 1048576, true) else (0, false)) := by
  unfold Zbz.f
  have h := Zfd [a, 1048576] (by simp)
  rw [show ([a, 1048576].all fun x => decide (Sml x)) = true by
    have hs1 : Sml a := ⟨by omega, h1⟩
    have hs2 : Sml 1048576 := ⟨by omega, by omega⟩
    simp [hs1, hs2]] at h
  have s1 : Zca.f a = some a := by
    unfold Zca.f
    rw [if_neg (by omega), wrapU h0 (by omega)]
  have s2 : Zca.f 1048576 = some 1048576 := by
    unfold Zca.f
    rw [if_neg (by omega), wrapU (by omega) (by omega)]
  refine Ev.bind h (Ev.Zba rfl ?_)
  simp only [s1, s2, mul64_mega h0 h1, Option.bind_some]
  by_cases hc : a * 1048576 ≤ 4611686018427387904
  rotate_left
  · rw [if_neg hc]
    have key : ∀ b : Bool, b = true → ∀ x : Int, Ev (fun k => Zbz.j0 k a 1048576 x b) (0, false) := fun b hb x => Ev.step (G := fun _ => some (0, false)) (fun k => by rw [Zbz.j0, if_pos hb]) (Ev.const rfl)
    by_cases q1 : a * 1048576 / 18446744073709551616 = 0
    rotate_left
    · exact Ev.Zbm q1 (key _ rfl _)
    exact Ev.Zba q1 (key _ (by simp; omega) _)
  rw [if_pos hc]
  have q1 : a * 1048576 / 18446744073709551616 = 0 := by omega
  have q2 : a * 1048576 % 18446744073709551616 = a * 1048576 := by omega
  simp only [q1, q2]
  refine Ev.Zba trivial (Ev.step (G := fun _ => some (a * 1048576, true)) (fun k => ?_) (Ev.const rfl))
  rw [Zbz.j0, if_neg (by simp; omega), if_neg (by simp; omega), show wrap64 (a * 1048576) = a * 1048576 by unfold wrap64; omega]
def tot : List Int → Int
  | [] => 0
  | c :: l => (c.natAbs : Int) * 1048576 + tot l
theorem Ze6 : ∀ l, 0 ≤ tot l
  | [] => Int.le_refl _
  | c :: l => by have := Ze6 l; unfold tot; omega
theorem big_no (l : List Int) (hl : l.length ≤ 1000000) (hw : ∀ c ∈ l, -9223372036854775808 ≤ c) (s : Int) : ∀ (d i : Nat), i + d = l.length → Ev (fun k => Zb0.l0 k s false l (l.length : Int) (i : Int)) true
  | 0, i, h => by
    obtain rfl : i = l.length := by omega
    exact Ev.step (G := fun _ => some true) (fun k => by rw [Zb0.l0, if_neg (by omega)]; rfl) (Ev.const rfl)
  | d + 1, i, h => by
    have hi : i < l.length := by omega
    have hr : rd l (i : Int) = l[i] := by simp [rd, List.getD_eq_getElem?_getD, List.getElem?_eq_getElem hi]
    have hs := size_ev l[i] (hw _ (List.getElem_mem hi))
    refine Ev.step (fun k => by rw [Zb0.l0, if_pos (by omega), if_pos (by omega), if_pos (by omega), hr]) ?_
    refine Ev.bind hs ?_
    by_cases hsm : Sml l[i]
    rotate_left
    · rw [if_neg hsm]
      exact Ev.Zbm (by simp) (Ev.const rfl)
    rw [if_pos hsm]
    obtain ⟨m1, m2⟩ := hsm
    refine Ev.Zba rfl (Ev.bind (mul_ev (a := (l[i].natAbs : Int)) (by omega) (by omega)) ?_)
    by_cases hm : (l[i].natAbs : Int) * 1048576 ≤ 4611686018427387904
    rotate_left
    · rw [if_neg hm]
      exact Ev.Zbm (by simp) (Ev.const rfl)
    rw [if_pos hm]
    exact Ev.Zba rfl (Ev.Zbm (by simp) (Ev.const rfl))
theorem big_loop (l : List Int) (hl : l.length ≤ 1000000) (hw : ∀ c ∈ l, -9223372036854775808 ≤ c) : ∀ (d i : Nat) (s : Int), i + d = l.length → 0 ≤ s → s ≤ 4611686018427387904 → Ev (fun k => Zb0.l0 k s true l (l.length : Int) (i : Int)) (!decide (s + tot (l.drop i) ≤ 4611686018427387904))
  | 0, i, s, h, h0, h1 => by
    obtain rfl : i = l.length := by omega
    rw [List.drop_length]
    refine Ev.step (G := fun _ => some false) (fun k => by rw [Zb0.l0, if_neg (by omega)]; rfl) (Ev.const ?_)
    rw [decide_eq_true (by unfold tot; omega)]
    rfl
  | d + 1, i, s, h, h0, h1 => by
    have hi : i < l.length := by omega
    have hr : rd l (i : Int) = l[i] := by simp [rd, List.getD_eq_getElem?_getD, List.getElem?_eq_getElem hi]
    have hz : wrap64 ((i : Int) + 1) = ((i + 1 : Nat) : Int) := by unfold wrap64; omega
    have hs := size_ev l[i] (hw _ (List.getElem_mem hi))
    rw [List.drop_eq_getElem_cons hi, tot]
    have ht := Ze6 (l.drop (i + 1))
    refine Ev.step (fun k => by rw [Zb0.l0, if_pos (by omega), if_pos (by omega), if_pos (by omega), hr]) ?_
    refine Ev.bind hs ?_
    by_cases hsm : Sml l[i]
    rotate_left
    · rw [if_neg hsm, decide_eq_false (by
        have : ¬ (-4611686018427387904 ≤ l[i] ∧ l[i] ≤ 4611686018427387904) := hsm
        omega)]
      exact Ev.Zbm (by simp) (Ev.const rfl)
    rw [if_pos hsm]
    obtain ⟨m1, m2⟩ := hsm
    refine Ev.Zba rfl (Ev.bind (mul_ev (a := (l[i].natAbs : Int)) (by omega) (by omega)) ?_)
    by_cases hm : (l[i].natAbs : Int) * 1048576 ≤ 4611686018427387904
    rotate_left
    · rw [if_neg hm, decide_eq_false (by omega)]
      exact Ev.Zbm (by simp) (Ev.const rfl)
    rw [if_pos hm]
    refine Ev.Zba rfl (Ev.Zba rfl ?_)
    have ha := add_ev s ((l[i].natAbs : Int) * 1048576)
    refine Ev.bind ha ?_
    rw [hz]
    by_cases hab : s + (l[i].natAbs : Int) * 1048576 ≤ 4611686018427387904
    rotate_left
    · have e : addS s ((l[i].natAbs : Int) * 1048576) = (0, false) := if_neg (fun hh => hab hh.2.2.2)
      rw [e, decide_eq_false (by omega)]
      exact big_no l hl hw 0 d (i + 1) (by omega)
    have e : addS s ((l[i].natAbs : Int) * 1048576) = (s + (l[i].natAbs : Int) * 1048576, true) := if_pos ⟨⟨by omega, h1⟩, ⟨by omega, hm⟩, ⟨by omega, hab⟩⟩
    rw [e, ← Int.add_assoc]
    exact big_loop l hl hw d (i + 1) _ (by omega) (by omega) hab
theorem big_ev (l : List Int) (rhs : Int) (hl : l.length ≤ 1000000) (hw : ∀ c ∈ l, -9223372036854775808 ≤ c) (hr : -9223372036854775808 ≤ rhs) : Ev (fun k => Zb0.f k l rhs) (!decide ((rhs.natAbs : Int) + tot l ≤ 4611686018427387904)) := by
  unfold Zb0.f
  have ht := Ze6 l
  refine Ev.bind (size_ev rhs hr) ?_
  by_cases hsm : Sml rhs
  rotate_left
  · rw [if_neg hsm, decide_eq_false (by
      have : ¬ (-4611686018427387904 ≤ rhs ∧ rhs ≤ 4611686018427387904) := hsm
      omega)]
    exact big_no l hl hw 0 l.length 0 (by omega)
  rw [if_pos hsm]
  obtain ⟨m1, m2⟩ := hsm
  have := big_loop l hl hw l.length 0 (rhs.natAbs : Int) (by omega) (by omega) (by omega)
  rw [List.drop_zero] at this
  exact this
end Go.Proofs.Ytkgjaklnbgdmiaa.P
/- May a constraint be: model.Con in plain words. -/
namespace Go.Proofs.Ytkgjaklnbgdmiaa.P
open Go.RowKit Go.Proofs.YtkgjaklnbgdmiaaW.PrintWords Go.Proofs.YtkgjaklnbgdmiaaW.PrintLast Go.Proofs.YtkgjaklnbgdmiaaW.PrintMore
set_option linter.unusedVariables false
set_option linter.unusedSimpArgs false
theorem idx_loop (l : List Int) (x : Int) (hl : l.length ≤ 1000000) : ∀ (d i : Nat), i + d = l.length → ∃ r : Int, Ev (fun k => slices_Index_int.l0 k l x (l.length : Int) (i : Int)) r ∧ (0 ≤ r ↔ x ∈ l.drop i)
  | 0, i, h => by
    refine ⟨-1, Ev.step (G := fun _ => some (-1)) (fun k => by rw [slices_Index_int.l0, if_neg (by omega)]) (Ev.const rfl), ?_⟩
    rw [List.drop_eq_nil_of_le (by omega)]
    simp
  | d + 1, i, h => by
    have hi : i < l.length := by omega
    have hr : rd l (i : Int) = l[i] := Zgb l i hi
    rw [List.drop_eq_getElem_cons hi]
    by_cases e : x = l[i]
    · refine ⟨(i : Int), Ev.step (G := fun _ => some (i : Int)) (fun k => by rw [slices_Index_int.l0, if_pos (by omega), if_pos (by omega), if_pos (by omega), hr, if_pos e]) (Ev.const rfl), ⟨fun _ => List.mem_cons.2 (.inl e), fun _ => by omega⟩⟩
    obtain ⟨r, h1, h2⟩ := idx_loop l x hl d (i + 1) (by omega)
    refine ⟨r, Ev.step (fun k => by rw [slices_Index_int.l0, if_pos (by omega), if_pos (by omega), if_pos (by omega), hr, if_neg e, w1 (by omega)]) h1, ?_⟩
    rw [h2, List.mem_cons]
    exact ⟨.inr, fun h_ => h_.resolve_left e⟩
theorem Zfk (l : List Int) (x : Int) (hl : l.length ≤ 1000000) : Ev (fun k => slices_Contains_int.f k l x) (decide (x ∈ l)) := by
  obtain ⟨r, h1, h2⟩ := idx_loop l x hl l.length 0 (by omega)
  unfold slices_Contains_int.f slices_Index_int.f
  refine Ev.bind h1 (Ev.const ?_)
  rw [List.drop_zero] at h2
  congr 1
  exact decide_eq_decide.2 h2
def truB (d : List Rg) : Bool := d.all fun r => decide (0 ≤ r.f0) && decide (r.f1 ≤ 1)
theorem Gd.ne {V : Int} : ∀ {b : Int} {d : List Rg}, Gd V b d → ∀ r ∈ d, r.f0 ≤ r.f1
  | _, [], _, r, h => absurd h List.not_mem_nil
  | _, x :: d, ⟨_, h2, _, h4⟩, r, h => by
    rcases List.mem_cons.1 h with e | h
    · subst e; exact h2
    exact Gd.ne h4 r h
theorem truth_evB (d : List Rg) (hd : Gd 1048576 (-1048576) d) : Ev (fun k => Zb2.f k d) (truB d) := by
  obtain ⟨b, h1, h2⟩ := truth_ev d hd
  have : b = truB d := by
    rw [Bool.eq_iff_iff, h2]
    unfold truB
    rw [List.all_eq_true]
    constructor
    · intro h r hr
      have hne := hd.ne r hr
      have a1 := h r.f0 ⟨r, hr, Int.le_refl _, hne⟩
      have a2 := h r.f1 ⟨r, hr, hne, Int.le_refl _⟩
      simp only [Bool.and_eq_true, decide_eq_true_eq]
      omega
    rintro h v ⟨r, hr, h3, h4⟩
    have := h r hr
    simp only [Bool.and_eq_true, decide_eq_true_eq] at this
    omega
  rw [← this]
  exact h1
def domAt (d : List (List Rg)) (v : Int) : List Rg := d.getD v.toNat []
theorem domAt_Gd {d : List (List Rg)} (hd : ∀ x ∈ d, Gd 1048576 (-1048576) x) (v : Int) : Gd 1048576 (-1048576) (domAt d v) := by
  unfold domAt
  rw [List.getD_eq_getElem?_getD]
  cases h : d[v.toNat]? with
  | none => trivial
  | some x => exact hd x (List.mem_of_getElem? h)
theorem truths_ev (d : List (List Rg)) (hd : ∀ x ∈ d, Gd 1048576 (-1048576) x) : ∀ l : List Int, l.any (awayV d.length) = false → Ev (fun k => truthsL k d l) (l.map fun v => truB (domAt d v))
  | [], _ => Ev.const rfl
  | v :: l, h => by
    rw [List.any_cons, Bool.or_eq_false_iff] at h
    have hv : 0 ≤ v ∧ v < (d.length : Int) := by
      have := h.1
      unfold awayV at this
      simp only [Bool.or_eq_false_iff, decide_eq_false_iff_not] at this
      omega
    have ih := truths_ev d hd l h.2
    unfold truthsL
    refine Ev.Zba hv (Ev.bind (truth_evB _ (domAt_Gd hd v)) (Ev.bind ih (Ev.const rfl)))
def allB (l : List Int) : Bool := decide ((sd l).length = l.length)
theorem all_evB (l : List Int) (hl : l.length ≤ 1000000) : Zcr.f l = some (allB l) := by
  unfold Zcr.f allB
  rw [if_neg (by omega)]
  congr 1
  exact decide_eq_decide.2 (by omega)
def sumB (vars coefs : List Int) : Bool := decide (0 < vars.length) && (decide (vars.length = coefs.length) && (allB vars && !decide ((0 : Int) ∈ coefs)))
theorem sum_evB (kd : Int) (vars coefs : List Int) (op rhs : Int) (rows : List (List Int)) (b : Int) (h1 : vars.length ≤ 1000000) (h2 : coefs.length ≤ 1000000) : Ev (fun k => Zce.f k kd vars coefs op rhs rows b) (sumB vars coefs) := by
  unfold Zce.f sumB
  by_cases q1 : 0 < vars.length
  rotate_left
  · rw [decide_eq_false q1, Bool.false_and]
    exact Ev.Zbm (by omega) (Ev.const rfl)
  rw [decide_eq_true q1, Bool.true_and]
  refine Ev.Zba (by omega) ?_
  by_cases q2 : vars.length = coefs.length
  rotate_left
  · rw [decide_eq_false q2, Bool.false_and]
    exact Ev.Zbm (by omega) (Ev.const rfl)
  rw [decide_eq_true q2, Bool.true_and]
  refine Ev.Zba (by omega) (Ev.bind (Ev.const (all_evB vars h1)) ?_)
  cases allB vars with
  | true => exact Ev.Zba rfl (Ev.bind (Zfk coefs 0 h2) (Ev.const rfl))
  | false => exact Ev.Zbm (by simp) (Ev.const rfl)
def heldB (vars coefs : List Int) (op : Int) : Bool := sumB vars coefs && (decide (0 ≤ op) && decide (op < 3))
theorem held_evB (kd : Int) (vars coefs : List Int) (op rhs : Int) (rows : List (List Int)) (b : Int) (h1 : vars.length ≤ 1000000) (h2 : coefs.length ≤ 1000000) : Ev (fun k => Zch.f k kd vars coefs op rhs rows b) (heldB vars coefs op) := by
  unfold Zch.f heldB
  refine Ev.bind (sum_evB kd vars coefs op rhs rows b h1 h2) ?_
  cases sumB vars coefs with
  | false => exact Ev.Zbm (by simp) (Ev.const rfl)
  | true =>
    refine Ev.Zba rfl ?_
    by_cases q : 0 ≤ op
    rotate_left
    · rw [decide_eq_false q]
      exact Ev.Zbm q (Ev.const rfl)
    rw [decide_eq_true q]
    exact Ev.Zba q (Ev.const (by simp))
def plainB (coefs : List Int) (op rhs b : Int) : Bool := decide (coefs.length = 0) && (decide (op = 0) && (decide (rhs = 0) && decide (b = 0)))
theorem plain_evB (kd : Int) (vars coefs : List Int) (op rhs : Int) (rows : List (List Int)) (b : Int) : Zci.f kd vars coefs op rhs rows b = some (plainB coefs op rhs b) := by
  unfold Zci.f plainB
  by_cases q1 : coefs.length = 0 <;> by_cases q2 : op = 0 <;> by_cases q3 : rhs = 0 <;> by_cases q4 : b = 0 <;> simp [q1, q2, q3, q4]
def rightB (d : List (List Rg)) (kd : Int) (vars coefs : List Int) (op rhs : Int) (rows : List (List Int)) (b : Int) : Bool :=
  if kd ≠ 2 ∧ 0 < rows.length then false
  else if kd = 0 then heldB vars coefs op && decide (b = 0)
  else if kd = 1 then plainB coefs op rhs b && (decide (0 < vars.length) && allB vars)
  else if kd = 2 then plainB coefs op rhs b && (decide (0 < vars.length) && (allB vars && (decide (rows.length ≤ 1024) && !(rows.any fun l => !rowOk vars l))))
  else if kd = 3 then plainB coefs op rhs b && (decide (3 ≤ vars.length) && allB vars)
  else if kd = 4 then heldB vars coefs op && (truB (domAt d b) && !decide (b ∈ vars))
  else if kd = 5 then sumB vars coefs && (decide (op = 0) && (decide (rhs = 0) && (decide (b = 0) && (!(coefs.any oddU) && vars.all fun v => truB (domAt d v)))))
  else plainB coefs op rhs b && (decide (2 ≤ vars.length) && decide ((vars.length : Int) % 2 = 0))
theorem right_evB (d : List (List Rg)) (hd : ∀ x ∈ d, Gd 1048576 (-1048576) x) (kd : Int) (vars coefs : List Int) (op rhs : Int) (rows : List (List Int)) (b : Int) (h1 : vars.length ≤ 1000000) (h2 : coefs.length ≤ 1000000) (hv : vars.any (awayV d.length) = false) (hb : kd = 4 → awayV d.length b = false) :
    Ev (fun k => Zbo.f k d kd vars coefs op rhs rows b) (rightB d kd vars coefs op rhs rows b) := by
  have hall := all_evB vars h1
  have hpl := plain_evB kd vars coefs op rhs rows b
  unfold Zbo.f rightB
  by_cases q0 : kd ≠ 2 ∧ 0 < rows.length
  · rw [if_pos q0]; exact Ev.Zba q0 (Ev.const rfl)
  rw [if_neg q0]; refine Ev.Zbm q0 ?_
  by_cases k0 : kd = 0
  · rw [if_pos k0]; exact Ev.Zba k0 (Ev.bind (held_evB kd vars coefs op rhs rows b h1 h2) (Ev.const rfl))
  rw [if_neg k0]; refine Ev.Zbm k0 ?_
  by_cases k1 : kd = 1
  · rw [if_pos k1]; exact Ev.Zba k1 (Ev.bind (Ev.const hpl) (Ev.bind (Ev.const hall) (Ev.const rfl)))
  rw [if_neg k1]; refine Ev.Zbm k1 ?_
  by_cases k2 : kd = 2
  · rw [if_pos k2]; exact Ev.Zba k2 (Ev.bind (Ev.const hpl) (Ev.bind (Ev.const hall) (Ev.const rfl)))
  rw [if_neg k2]; refine Ev.Zbm k2 ?_
  by_cases k3 : kd = 3
  · rw [if_pos k3]; exact Ev.Zba k3 (Ev.bind (Ev.const hpl) (Ev.bind (Ev.const hall) (Ev.const rfl)))
  rw [if_neg k3]; refine Ev.Zbm k3 ?_
  by_cases k4 : kd = 4
  · rw [if_pos k4]
    have hbb : 0 ≤ b ∧ b < (d.length : Int) := by
      have := hb k4
      unfold awayV at this
      simp only [Bool.or_eq_false_iff, decide_eq_false_iff_not] at this
      omega
    exact Ev.Zba k4 (Ev.Zba hbb (Ev.bind (held_evB kd vars coefs op rhs rows b h1 h2) (Ev.bind (truth_evB _ (domAt_Gd hd b)) (Ev.bind (Zfk vars b h1) (Ev.const rfl)))))
  rw [if_neg k4]; refine Ev.Zbm k4 ?_
  by_cases k5 : kd = 5
  · rw [if_pos k5]
    refine Ev.Zba k5 (Ev.bind (sum_evB kd vars coefs op rhs rows b h1 h2) (Ev.bind (truths_ev d hd vars hv) (Ev.const ?_)))
    rw [List.all_map]
    rfl
  rw [if_neg k5]
  exact Ev.Zbm k5 (Ev.bind (Ev.const hpl) (Ev.const rfl))
def conE (d : List (List Rg)) (kd : Int) (vars coefs : List Int) (op rhs : Int) (rows : List (List Int)) (b : Int) : Int :=
  if kd < 0 ∨ 7 ≤ kd then 44
  else if vars.any (awayV d.length) = true then 43
  else if kd = 4 ∧ awayV d.length b = true then 43
  else if rightB d kd vars coefs op rhs rows b = false then 44
  else if (rhs.natAbs : Int) + tot coefs ≤ 4611686018427387904 then 0 else 45
theorem con_evB (d : List (List Rg)) (hd : ∀ x ∈ d, Gd 1048576 (-1048576) x) (kd : Int) (vars coefs : List Int) (op rhs : Int) (rows : List (List Int)) (b : Int) (h1 : vars.length ≤ 1000000) (h2 : coefs.length ≤ 1000000) (hw : ∀ c ∈ coefs, -9223372036854775808 ≤ c) (hr : -9223372036854775808 ≤ rhs) :
    Ev (fun k => Zcz.f k d kd vars coefs op rhs rows b) (conE d kd vars coefs op rhs rows b) := by
  unfold Zcz.f conE
  by_cases q0 : kd < 0 ∨ 7 ≤ kd
  · rw [if_pos q0]; exact Ev.Zba q0 (Ev.const rfl)
  rw [if_neg q0]; refine Ev.Zbm q0 ?_
  by_cases q1 : vars.any (awayV d.length) = true
  · rw [if_pos q1]; exact Ev.Zba q1 (Ev.const rfl)
  rw [if_neg q1]; refine Ev.Zbm q1 ?_
  by_cases q2 : kd = 4 ∧ awayV d.length b = true
  · rw [if_pos q2]; exact Ev.Zba q2 (Ev.const rfl)
  rw [if_neg q2]; refine Ev.Zbm q2 ?_
  refine Ev.bind (right_evB d hd kd vars coefs op rhs rows b h1 h2 (Bool.eq_false_iff.2 q1) (fun k4 => Bool.eq_false_iff.2 (fun h_ => q2 ⟨k4, h_⟩))) ?_
  by_cases q3 : rightB d kd vars coefs op rhs rows b = false
  · rw [if_pos q3]; exact Ev.Zba q3 (Ev.const rfl)
  rw [if_neg q3]; refine Ev.Zbm q3 (Ev.bind (big_ev coefs rhs h2 hw hr) (Ev.const ?_))
  by_cases q : (rhs.natAbs : Int) + tot coefs ≤ 4611686018427387904
  · rw [if_pos q, decide_eq_true q]; rfl
  rw [if_neg q, decide_eq_false q]; rfl
theorem conE_ok {d : List (List Rg)} {kd : Int} {vars coefs : List Int} {op rhs : Int} {rows : List (List Int)} {b : Int} (h : conE d kd vars coefs op rhs rows b = 0) : vars.any (awayV d.length) = false ∧ (kd = 4 → awayV d.length b = false) := by
  unfold conE at h
  split at h
  · exact absurd h (by decide)
  split at h
  · exact absurd h (by decide)
  split at h
  · exact absurd h (by decide)
  rename_i q1 q2
  exact ⟨Bool.eq_false_iff.2 q1, fun k4 => Bool.eq_false_iff.2 (fun h_ => q2 ⟨k4, h_⟩)⟩
end Go.Proofs.Ytkgjaklnbgdmiaa.P
namespace Go.Proofs.Ytkgjaklnbgdmiaa.P
open Go.RowKit Go.Proofs.YtkgjaklnbgdmiaaW.PrintWords Go.Proofs.YtkgjaklnbgdmiaaW.PrintLast Go.Proofs.YtkgjaklnbgdmiaaW.PrintMore
attribute [local go_sem] Zcs Zcu Zc7 Zc8 Zcc Zcd Zct Zcv
set_option linter.unusedVariables false
set_option linter.unusedSimpArgs false
end Go.Proofs.Ytkgjaklnbgdmiaa.P
/- secateur/secateurref02.Check: over a list of ranges. -/
namespace Go.Proofs.Ytkgjaklnbgdmiaa.P
open Go.RowKit Go.Proofs.YtkgjaklnbgdmiaaW.PrintWords Go.Proofs.YtkgjaklnbgdmiaaW.PrintLast Go.Proofs.YtkgjaklnbgdmiaaW.PrintMore
set_option linter.unusedVariables false
set_option linter.unusedSimpArgs false
end Go.Proofs.Ytkgjaklnbgdmiaa.P
/- Whether ranges are a domain: the program's answer and the document's. -/
namespace Go.Proofs.Ytkgjaklnbgdmiaa.P
open Go.RowKit Go.Proofs.YtkgjaklnbgdmiaaW.PrintWords Go.Proofs.YtkgjaklnbgdmiaaW.PrintLast Go.Proofs.YtkgjaklnbgdmiaaW.PrintMore
set_option linter.unusedVariables false
set_option linter.unusedSimpArgs false
def isVal (v : Int) : Bool := decide (-1048576 ≤ v) && decide (v ≤ 1048576)
theorem Zes (x : Int) : isVal x = true ↔ -1048576 ≤ x ∧ x ≤ 1048576 := by simp [isVal]
theorem value_f (x : Int) : Zcb.f x = some (isVal x) := by
  unfold Zcb.f isVal
  by_cases h : x ≥ -1048576
  · rw [if_pos h]; simp [decide_eq_true h]
  rw [if_neg h]; have : decide (-1048576 ≤ x) = false := decide_eq_false h; simp [this]
theorem Size_l0 (d : List Rg) (hl : d.length ≤ 3000000) {b : Int} (hd : Gd 1048576 b d) (hb : -1048576 ≤ b) : ∀ (m n : Nat) (s : Int), n + m = d.length → 0 ≤ s → s + (vals (d.drop n)).length ≤ 3000000 →
    Ev (fun k => Zcn.l0 k s d (d.length : Int) (n : Int)) (s + (vals (d.drop n)).length) := by
  intro m
  induction m with
  | zero =>
    intro n s h h0 h1
    rw [drop_nil' h]
    exact Ev.step (G := fun _ => some s) (fun k => by rw [Zcn.l0, if_neg (by omega)]) (Ev.const (by simp [vals]))
  | succ m ih =>
    intro n s h h0 h1
    have hn : n < d.length := by omega
    have hg := hd.drop n
    rw [List.drop_eq_getElem_cons hn] at hg
    obtain ⟨g1, g2, g3, g4⟩ := hg
    have e : (vals (d.drop n)).length = (d[n].f1 + 1 - d[n].f0).toNat + (vals (d.drop (n + 1))).length := by
      rw [List.drop_eq_getElem_cons hn, vals, List.length_append]
      have := upTo_len (d[n].f1 + 1 - d[n].f0).toNat d[n].f0 d[n].f1
      omega
    rw [e] at h1 ⊢
    refine Ev.step (fun k => by rw [Zcn.l0, if_pos (by omega), if_pos (by omega), if_pos (by omega), show Zb d (n : Int) = d[n] from rg_nat d n hn, w64 (n := d[n].f1 - d[n].f0) (by omega) (by omega), w64 (n := d[n].f1 - d[n].f0 + 1) (by omega) (by omega), w64 (n := s + (d[n].f1 - d[n].f0 + 1)) (by omega) (by omega), w1 (by omega)]) ?_
    have := ih (n + 1) (s + (d[n].f1 - d[n].f0 + 1)) (by omega) (by omega) (by omega)
    rwa [show s + (d[n].f1 - d[n].f0 + 1) + ((vals (d.drop (n + 1))).length : Int) = s + (((d[n].f1 + 1 - d[n].f0).toNat + (vals (d.drop (n + 1))).length : Nat) : Int) by omega] at this
theorem Size_ev (d : List Rg) {b : Int} (hd : Gd 1048576 b d) (hb : -1048576 ≤ b) : Ev (fun k => Zcn.f k d) (vals d).length := by
  have h1 := Zd7 hd
  have h2 := Zdf hd
  have := Size_l0 d (by omega) hd hb d.length 0 0 (by omega) (by omega) (by simp; omega)
  simp only [Int.zero_add, List.drop_zero] at this
  exact this
def rb : Int → List Rg → Bool
  | _, [] => true
  | b, x :: d => isVal x.f0 && isVal x.f1 && decide (x.f0 ≤ x.f1) && decide (b ≤ x.f0) && rb (x.f1 + 2) d
theorem rb_good : ∀ {b : Int} {d : List Rg}, rb b d = true → Gd 1048576 b d
  | _, [], _ => trivial
  | b, x :: d, h => by
    simp only [rb, Bool.and_eq_true, decide_eq_true_iff] at h
    obtain ⟨⟨⟨⟨h1, h2⟩, h3⟩, h4⟩, h5⟩ := h
    exact ⟨h4, h3, ((Zes _).1 h2).2, rb_good h5⟩
def checkSpec (d : List Rg) : Int := if rb (-1048576) d = true then (if (vals d).length > 4096 then 2 else 0) else 20
theorem Zc (v : Int) : Zcb.f v = some (isVal v) := value_f v
theorem endB_take (d : List Rg) (n : Nat) (hn : n < d.length) : endB (-1048576) (d.take (n + 1)) = d[n].f1 + 2 := by rw [List.take_succ_eq_append_getElem hn, Zer]
theorem right_l0 (d : List Rg) (hl : d.length < 4611686018427387904) : ∀ (m n : Nat), n + m = d.length → (0 < n → ∀ h : n - 1 < d.length, isVal d[n - 1].f1 = true) →
    Ev (fun k => Zb5.l0 k d d (d.length : Int) (n : Int)) (rb (endB (-1048576) (d.take n)) (d.drop n)) := by
  intro m
  induction m with
  | zero =>
    intro n h _
    rw [drop_nil' h]
    exact Ev.step (G := fun _ => some true) (fun k => by rw [Zb5.l0, if_neg (by omega)]) (Ev.pure _)
  | succ m ih =>
    intro n h hp
    have hn : n < d.length := by omega
    rw [List.drop_eq_getElem_cons hn, rb]
    have hat := show Zb d (n : Int) = d[n] from rg_nat d n hn
    cases h0 : isVal d[n].f0 with
    | false => exact Ev.step (G := fun _ => some false) (fun k => by rw [Zb5.l0, if_pos (by omega), if_pos (by omega), if_pos (by omega), hat, Zc, Option.bind_some, if_neg (by rw [h0]; simp)]) (Ev.const (by simp))
    | true =>
      cases h1 : isVal d[n].f1 with
      | false => exact Ev.step (G := fun _ => some false) (fun k => by rw [Zb5.l0, if_pos (by omega), if_pos (by omega), if_pos (by omega), hat, Zc, Option.bind_some, if_pos h0, Zc, Option.bind_some, if_neg (by rw [h1]; simp)]) (Ev.const (by simp))
      | true =>
        have b0 := (Zes _).1 h0
        have b1 := (Zes _).1 h1
        by_cases h2 : d[n].f0 > d[n].f1
        · have hnle : ¬ d[n].f0 ≤ d[n].f1 := by omega
          exact Ev.step (G := fun _ => some false) (fun k => by rw [Zb5.l0, if_pos (by omega), if_pos (by omega), if_pos (by omega), hat, Zc, Option.bind_some, if_pos h0, Zc, Option.bind_some, if_pos h1, if_pos h2]) (Ev.const (by simp [hnle]))
        have hle : d[n].f0 ≤ d[n].f1 := by omega
        have hnext := ih (n + 1) (by omega) (fun _ _ => h1)
        rw [endB_take d n hn] at hnext
        have e : ∀ b, ((true && true && decide (d[n].f0 ≤ d[n].f1) && decide (b ≤ d[n].f0) && rb (d[n].f1 + 2) (d.drop (n + 1)))) = (decide (b ≤ d[n].f0) && rb (d[n].f1 + 2) (d.drop (n + 1))) := fun b => by simp [hle]
        rw [e]
        rcases Nat.eq_zero_or_pos n with rfl | hpos
        · have e2 : decide (endB (-1048576) (d.take 0) ≤ d[0].f0) = true := decide_eq_true (by simp [endB]; omega)
          rw [e2, Bool.true_and]
          exact Ev.step (fun k => by rw [Zb5.l0, if_pos (by omega), if_pos (by omega), if_pos (by omega), hat, Zc, Option.bind_some, if_pos h0, Zc, Option.bind_some, if_pos h1, if_neg h2, if_neg (by omega), w1 (by omega)]) hnext
        have hn1 : n - 1 < d.length := by omega
        have hprev := (Zes _).1 (hp hpos hn1)
        have e3 : endB (-1048576) (d.take n) = d[n - 1].f1 + 2 := by have := endB_take d (n - 1) hn1; rwa [show n - 1 + 1 = n by omega] at this
        have e4 : wrap64 ((n : Int) - 1) = ((n - 1 : Nat) : Int) := by rw [w64 (by omega) (by omega)]; omega
        have hat1 := show Zb d ((n - 1 : Nat) : Int) = d[n - 1] from rg_nat d (n - 1) hn1
        rw [e3]
        by_cases h3 : d[n].f0 < d[n - 1].f1 + 2
        rotate_left
        · rw [decide_eq_true (show d[n - 1].f1 + 2 ≤ d[n].f0 by omega), Bool.true_and]
          exact Ev.step (fun k => by rw [Zb5.l0, if_pos (by omega), if_pos (by omega), if_pos (by omega), hat, Zc, Option.bind_some, if_pos h0, Zc, Option.bind_some, if_pos h1, if_neg h2, if_pos (by omega), e4, if_pos (by omega), if_pos (by omega), hat1, w64 (n := d[n - 1].f1 + 2) (by omega) (by omega), if_neg h3, w1 (by omega)]) hnext
        rw [decide_eq_false (show ¬ d[n - 1].f1 + 2 ≤ d[n].f0 by omega), Bool.false_and]
        exact Ev.step (G := fun _ => some false) (fun k => by rw [Zb5.l0, if_pos (by omega), if_pos (by omega), if_pos (by omega), hat, Zc, Option.bind_some, if_pos h0, Zc, Option.bind_some, if_pos h1, if_neg h2, if_pos (by omega), e4, if_pos (by omega), if_pos (by omega), hat1, w64 (n := d[n - 1].f1 + 2) (by omega) (by omega), if_pos h3]) (Ev.pure _)
theorem dom_Check_ev (d : List Rg) (hl : d.length < 4611686018427387904) : Ev (fun k => Zdz.f k d) (checkSpec d) := by
  refine Ev.bind (a := rb (-1048576) d) (by have := right_l0 d hl d.length 0 (by omega) (fun h => by omega); exact this) ?_
  unfold checkSpec
  by_cases h : rb (-1048576) d = true
  rotate_left
  · rw [if_neg h]
    simp only [if_neg h]
    exact Ev.pure _
  rw [if_pos h]
  simp only [if_pos h]
  refine Ev.bind (Size_ev d (rb_good h) (Int.le_refl _)) ?_
  by_cases h2 : (vals d).length > 4096
  · rw [if_pos h2]; exact Ev.Zba (by omega) (Ev.pure _)
  rw [if_neg h2]; exact Ev.Zbm (c := ((vals d).length : Int) > 4096) (by omega) (Ev.pure _)
end Go.Proofs.Ytkgjaklnbgdmiaa.P
/- May a model be: model.Check in plain words. -/
namespace Go.Proofs.Ytkgjaklnbgdmiaa.P
open Go.RowKit Go.Proofs.YtkgjaklnbgdmiaaW.PrintWords Go.Proofs.YtkgjaklnbgdmiaaW.PrintLast Go.Proofs.YtkgjaklnbgdmiaaW.PrintMore
set_option linter.unusedVariables false
set_option linter.unusedSimpArgs false
def nameB (s : ByteArray) : Bool := !decide (s.size = 0) && (decide (s.size ≤ 16) && nameGo s s.size 0)
def chkV : List S50 → List ByteArray → Int
  | [], _ => 0
  | v :: vs, had => if nameB v.f0 = false then 40 else if hasN had v.f0 = true then 41 else if v.f1.length = 0 then 42 else if checkSpec v.f1 = 0 then chkV vs (had ++ [v.f0]) else 42
theorem chkV_ev : ∀ (vs : List S50) (had : List ByteArray), (∀ v ∈ vs, v.f1.length ≤ 1000000) → Ev (fun k => Zd3 k vs had) (chkV vs had)
  | [], _, _ => Ev.const rfl
  | v :: vs, had, h => by
    have hv := h v List.mem_cons_self
    unfold Zd3 chkV
    refine Ev.bind (a := nameB v.f0) (Ev.const rfl) ?_
    by_cases q1 : nameB v.f0 = false
    · rw [if_pos q1]; exact Ev.Zba q1 (Ev.const rfl)
    rw [if_neg q1]; refine Ev.Zbm q1 ?_
    by_cases q2 : hasN had v.f0 = true
    · rw [if_pos q2]; exact Ev.Zba q2 (Ev.const rfl)
    rw [if_neg q2]; refine Ev.Zbm q2 ?_
    by_cases q3 : v.f1.length = 0
    · rw [if_pos q3]; exact Ev.Zba q3 (Ev.const rfl)
    rw [if_neg q3]; refine Ev.Zbm q3 (Ev.bind (dom_Check_ev v.f1 (by omega)) ?_)
    by_cases q4 : checkSpec v.f1 = 0
    rotate_left
    · rw [if_neg q4]; exact Ev.Zbm q4 (Ev.const rfl)
    rw [if_pos q4]; exact Ev.Zba q4 (chkV_ev vs _ (fun x hx => h x (List.mem_cons_of_mem _ hx)))
theorem checkSpec_Gd {d : List Rg} (h : checkSpec d = 0) : Gd 1048576 (-1048576) d := by
  unfold checkSpec at h
  by_cases q : rb (-1048576) d = true
  · exact rb_good q
  rw [if_neg q] at h
  exact absurd h (by decide)
theorem chkV_ok : ∀ (vs : List S50) (had : List ByteArray), chkV vs had = 0 → ∀ v ∈ vs, Gd 1048576 (-1048576) v.f1 ∧ v.f1 ≠ []
  | [], _, _, v, hv => absurd hv List.not_mem_nil
  | x :: vs, had, h, v, hv => by
    unfold chkV at h
    by_cases q1 : nameB x.f0 = false
    · rw [if_pos q1] at h; exact absurd h (by decide)
    rw [if_neg q1] at h
    by_cases q2 : hasN had x.f0 = true
    · rw [if_pos q2] at h; exact absurd h (by decide)
    rw [if_neg q2] at h
    by_cases q3 : x.f1.length = 0
    · rw [if_pos q3] at h; exact absurd h (by decide)
    rw [if_neg q3] at h
    by_cases q4 : checkSpec x.f1 = 0
    rotate_left
    · rw [if_neg q4] at h; exact absurd h (by decide)
    rw [if_pos q4] at h
    rcases List.mem_cons.1 hv with e | hv
    · subst e
      exact ⟨checkSpec_Gd q4, fun e => q3 (by rw [e]; rfl)⟩
    exact chkV_ok vs _ h v hv
theorem doms_loop (vars : List S50) (hl : vars.length ≤ 1000000) (hr : ∀ v ∈ vars, v.f1.length ≤ 1000000) : ∀ (d n : Nat) (acc : List (List Rg)), n + d = vars.length → acc.length ≤ n → Ev (fun k => Zb3.l0 k acc vars (vars.length : Int) (n : Int)) (acc ++ (vars.drop n).map fun v => v.f1)
  | 0, n, acc, h, ha => by
    rw [List.drop_eq_nil_of_le (by omega), List.map_nil, List.append_nil]
    exact Ev.step (G := fun _ => some acc) (fun k => by rw [Zb3.l0, if_neg (by omega)]) (Ev.const rfl)
  | d + 1, n, acc, h, ha => by
    have hn : n < vars.length := by omega
    have hrd : Za4 vars (n : Int) = vars[n] := by simp [Za4, List.getD_eq_getElem?_getD, List.getElem?_eq_getElem hn]
    have hq := hr _ (List.getElem_mem hn)
    have ih := doms_loop vars hl hr d (n + 1) (acc ++ [vars[n].f1]) (by omega) (by simp; omega)
    rw [List.drop_eq_getElem_cons hn, List.map_cons]
    rw [List.append_assoc, List.singleton_append] at ih
    have hc : cloneR.f vars[n].f1 = some vars[n].f1 := by
      unfold cloneR.f
      first | rfl | (rw [if_pos (by omega)]) | (rw [if_neg (by omega)])
    refine Ev.step (fun k => by rw [Zb3.l0, if_pos (by omega), if_pos (by omega), if_pos (by omega), hrd]) (Ev.bind (a := vars[n].f1) (Ev.const hc) ?_)
    rw [w1 (by omega)]
    have hlt : acc.length < 5864062014805 := by omega
    exact Ev.Zba hlt ih
def domsOf (vars : List S50) : List (List Rg) := vars.map fun v => v.f1
theorem doms_ev (vars : List S50) (cons : List S31) (gk : Int) (gv gc : List Int) (hl : vars.length ≤ 1000000) (hr : ∀ v ∈ vars, v.f1.length ≤ 1000000) : Ev (fun k => Zb3.f k vars cons gk gv gc) (domsOf vars) := doms_loop vars hl hr vars.length 0 [] (by omega) (by simp)
def okC (c : S31) : Prop := c.f1.length ≤ 1000000 ∧ c.f2.length ≤ 1000000 ∧ (∀ x ∈ c.f2, -9223372036854775808 ≤ x) ∧ -9223372036854775808 ≤ c.f4
def conC (d : List (List Rg)) (c : S31) : Int := conE d c.f0 c.f1 c.f2 c.f3 c.f4 c.f5 c.f6
def chkC (d : List (List Rg)) : List S31 → Int
  | [] => 0
  | c :: cs => if conC d c = 0 then chkC d cs else conC d c
theorem chkC_ev (d : List (List Rg)) (hd : ∀ x ∈ d, Gd 1048576 (-1048576) x) : ∀ cs : List S31, (∀ c ∈ cs, okC c) → Ev (fun k => Zd2 k d cs) (chkC d cs)
  | [], _ => Ev.const rfl
  | c :: cs, h => by
    obtain ⟨h1, h2, h3, h4⟩ := h c List.mem_cons_self
    unfold Zd2 chkC
    refine Ev.bind (con_evB d hd c.f0 c.f1 c.f2 c.f3 c.f4 c.f5 c.f6 h1 h2 h3 h4) ?_
    by_cases q : conC d c = 0
    rotate_left
    · rw [if_neg q]; exact Ev.Zbm q (Ev.const rfl)
    rw [if_pos q]; exact Ev.Zba q (chkC_ev d hd cs (fun x hx => h x (List.mem_cons_of_mem _ hx)))
theorem chkC_ok {d : List (List Rg)} : ∀ {cs : List S31}, chkC d cs = 0 → ∀ c ∈ cs, conC d c = 0
  | [], _, c, hc => absurd hc List.not_mem_nil
  | x :: cs, h, c, hc => by
    unfold chkC at h
    by_cases q : conC d x = 0
    rotate_left
    · rw [if_neg q] at h
      exact absurd h q
    rw [if_pos q] at h
    rcases List.mem_cons.1 hc with e | hc
    · subst e; exact q
    exact chkC_ok h c hc
def goalE (d : List (List Rg)) (gk : Int) (gv gc : List Int) : Int :=
  if gk = 0 then if 0 < gv.length then 44 else if 0 < gc.length then 44 else 0
  else if gk = 1 ∨ gk = 2 then conE d 0 gv gc 0 0 [] 0 else 44
theorem goal_evB (d : List (List Rg)) (hd : ∀ x ∈ d, Gd 1048576 (-1048576) x) (gk : Int) (gv gc : List Int) (h1 : gv.length ≤ 1000000) (h2 : gc.length ≤ 1000000) (hw : ∀ c ∈ gc, -9223372036854775808 ≤ c) : Ev (fun k => Zdp.f k d gk gv gc) (goalE d gk gv gc) := by
  have hc := con_evB d hd 0 gv gc 0 0 [] 0 h1 h2 hw (by omega)
  unfold Zdp.f goalE
  by_cases q0 : gk = 0
  · rw [if_pos q0]; refine Ev.Zba q0 ?_
    by_cases q1 : 0 < gv.length
    · rw [if_pos q1]; exact Ev.Zba (by omega) (Ev.const rfl)
    rw [if_neg q1]; refine Ev.Zbm (by omega) ?_
    by_cases q2 : 0 < gc.length
    · rw [if_pos q2]; exact Ev.Zba (by omega) (Ev.const rfl)
    rw [if_neg q2]; exact Ev.Zbm (by omega) (Ev.const rfl)
  rw [if_neg q0]; refine Ev.Zbm q0 ?_
  by_cases q1 : gk = 1
  · rw [if_pos (.inl q1)]; exact Ev.Zba q1 (Ev.bind hc (Ev.const rfl))
  refine Ev.Zbm q1 ?_
  by_cases q2 : gk = 2
  rotate_left
  · rw [if_neg (by omega)]; exact Ev.Zbm q2 (Ev.const rfl)
  rw [if_pos (.inr q2)]; exact Ev.Zba q2 (Ev.bind hc (Ev.const rfl))
def chkE (vars : List S50) (cons : List S31) (gk : Int) (gv gc : List Int) : Int :=
  if 64 < vars.length ∨ 256 < cons.length then 2
  else if chkV vars [] = 0 then if chkC (domsOf vars) cons = 0 then goalE (domsOf vars) gk gv gc else chkC (domsOf vars) cons
  else chkV vars []
theorem check_evB (vars : List S50) (cons : List S31) (gk : Int) (gv gc : List Int) (hr : ∀ v ∈ vars, v.f1.length ≤ 1000000) (hc : ∀ c ∈ cons, okC c) (h1 : gv.length ≤ 1000000) (h2 : gc.length ≤ 1000000) (hw : ∀ c ∈ gc, -9223372036854775808 ≤ c) : Ev (fun k => Zbn.f k vars cons gk gv gc) (chkE vars cons gk gv gc) := by
  unfold Zbn.f chkE
  by_cases q0 : 64 < vars.length ∨ 256 < cons.length
  · rw [if_pos q0]; exact Ev.Zba q0 (Ev.const rfl)
  rw [if_neg q0]; refine Ev.Zbm q0 (Ev.bind (chkV_ev vars [] hr) ?_)
  by_cases q1 : chkV vars [] = 0
  rotate_left
  · rw [if_neg q1]; exact Ev.Zbm q1 (Ev.const rfl)
  rw [if_pos q1]
  have hd : ∀ x ∈ domsOf vars, Gd 1048576 (-1048576) x := fun x hx => by
    obtain ⟨v, hv, rfl⟩ := List.mem_map.1 hx
    exact (chkV_ok vars [] q1 v hv).1
  refine Ev.Zba q1 (Ev.bind (doms_ev vars cons gk gv gc (by omega) hr) (Ev.bind (chkC_ev _ hd cons hc) ?_))
  by_cases q2 : chkC (domsOf vars) cons = 0
  rotate_left
  · rw [if_neg q2]; exact Ev.Zbm q2 (Ev.const rfl)
  rw [if_pos q2]; exact Ev.Zba q2 (goal_evB _ hd gk gv gc h1 h2 hw)
theorem chkE_ok {vars : List S50} {cons : List S31} {gk : Int} {gv gc : List Int} (h : chkE vars cons gk gv gc = 0) : ∀ c ∈ cons, conC (domsOf vars) c = 0 := by
  unfold chkE at h
  split at h
  · exact absurd h (by decide)
  split at h
  · split at h
    · rename_i q; exact chkC_ok q
    rename_i q; exact absurd h q
  rename_i q; exact absurd h q
end Go.Proofs.Ytkgjaklnbgdmiaa.P
namespace Go.Proofs.Ytkgjaklnbgdmiaa.P
open Go.RowKit Go.Proofs.YtkgjaklnbgdmiaaW.PrintWords Go.Proofs.YtkgjaklnbgdmiaaW.PrintLast Go.Proofs.YtkgjaklnbgdmiaaW.PrintMore
attribute [local go_sem] Zcs Zcu Zc7 Zc8 Zcc Zcd Zct Zcv
set_option linter.unusedVariables false
set_option linter.unusedSimpArgs false
def Za8.l0 : Nat → List (List Int) → List (List Int) → Int → Option ((List (List Int)))
 | 0, _, _, _ => none
 | k + 1, x0, x3, x4 => if x4 < (x0.length : Int) then ((some (([] : List Int) : List Int)).bind fun y104 => (if 0 ≤ x4 then (if y104.length + (Zc5 x0 x4).length < 17592186044416 then (if x3.length < 5864062014805 then (Za8.l0 k x0 (x3 ++ [(y104 ++ (Zc5 x0 x4))]) (wrap64 (x4 + 1))) else (none)) else (none)) else (none))) else (some x3)
def Za8.f (k : Nat) (l0 : List (List Int)) : Option ((List (List Int))) := Za8.l0 k l0 (([] : List (List Int))) 0
set_option maxHeartbeats 8000000 in
set_option maxRecDepth 100000 in
theorem Za8.calls (k : Nat) (A0 : Option Addr) (c0 : Nat) (l0 : List (List Int)) (r : List (List Int)) (w : World) (hr0 : Kd.C (Kd.slice 3 (Kd.int .i64)) w A0 l0.length l0) (hc0 : l0.length ≤ c0) (h : Za8.f k l0 = some r) :
  Calls Try.prog 58 #[.slice A0 l0.length c0] w fun e w' => ∃ v0_ : Value, e = .returned (v0_) ∧ Kd.S (Kd.slice 3 (Kd.int .i64)) 24 w' w.heap.size (fun _ => True) v0_ r ∧ Below w.heap.size w w' := by
 have HR0 := Za.mk hr0
 have HC0 := Za.mk hc0
 clear hr0 hc0
 have HB := Za.mk (Below.refl w.heap.size w)
 have H : (Za8.l0 k l0 (([] : List (List Int))) 0) = some r := h
 clear h
 obtain ⟨y101, hy101⟩ : ∃ y_ : List (List Int), y_ = (([] : List (List Int))) := ⟨_, rfl⟩
 replace H : (Za8.l0 k l0 y101 0) = some r := by first | (rw [hy101]; with_reducible exact H) | (have H2_ := (Option.bind_some _ _).symm.trans H; rw [hy101]; with_reducible exact H2_) | (have H2_ := (Option.bind_some _ _).symm.trans H; with_reducible exact H2_) | with_reducible exact H | (rw [hy101]; exact H) | exact H
 have Ny101 := Za.mk hy101
 clear hy101
 have H' := Za.mk H
 clear H
 go_enter Try.func58, Try.ntmps58
 go_wp2_with (first | ((with_reducible refine Zax (N := 5) rfl ?_); refine Kd.S_lit (Kd.slice 3 (Kd.int .i64)) _ 24 ?hg (N := 5) ?hd (xs := ([] : List (List Int))) (inner := []) (ok := fun _ => True) (okp := fun _ => True) ?hr ?hp (fun _ hk => hk) trivial (Below.refl _ _) (Nat.le_refl _) (by simp) ?_; (case hd => rfl); (case hg => rfl); (case hr => first | (go_simp; done) | (go_simp; rfl)); (case hp => exact (Reps.none _ _)); intro v102 w2 ho3 hb hg_ hnew_; clear hg_ hnew_; (first | rw [← Ny101.out] at ho3 | (simp only [Int.reduceToNat] at ho3; rw [← Ny101.out] at ho3)); have n0_ := Za.mk (Kd.Ze0 ho3 (Zan (by repeat (first | (with_reducible first | exact HB.out | apply Zab | apply Zaa | apply Zad) | exact HB.out)))); have n1_ := Za.mk (Zaf (by repeat (first | (with_reducible first | exact HB.out | apply Zab | apply Zaa | apply Zad) | exact HB.out)) hb); clear HB; have HO103 := n0_; have HB := n1_; clear n0_ n1_; clear hb ho3))
 go_loopg [3, 4] k (fun kq v3 v4 w' => ∃ (x3_1 : List (List Int)) (x4_1 : Int), v4 = .int .i64 x4_1 ∧ Za (Za8.l0 kq l0 x3_1 x4_1 = some r) ∧ Za (kq ≤ k) ∧ Za (Kd.S (Kd.slice 3 (Kd.int .i64)) 24 w' w.heap.size (fun _ => True) v3 x3_1) ∧ Za (Below w.heap.size w w'))
 case atStart => exact ⟨(y101), (0), (by first | rfl | (simp; done) | (simp [*]; done)), H', ⟨Nat.le_refl _⟩, ⟨by (with_reducible repeat (first | apply Kd.Zbj | apply Kd.Zbk | apply Kd.Zbr)); exact HO103.out⟩, ⟨by repeat (first | (with_reducible first | exact HB.out | apply Zab | apply Zaa | apply Zad) | exact HB.out)⟩⟩
 case round =>
  clear H'
  try clear p2
  obtain ⟨x3_1, x4_1, rfl, HA, HK1, HO_3, HB⟩ := hrel
  cases gk with
  | zero => exact absurd HA.out (by simp [Za8.l0])
  | succ k1 =>
   have H := HA.out
   clear HA
   simp only [Za8.l0] at H
   by_cases c4 : x4_1 < (l0.length : Int)
   rotate_left
   ·rw [if_neg c4] at H
    have c4b0 : decide (x4_1 < (l0.length : Int)) = false := decide_eq_false c4
    clear c4
    obtain rfl := Option.some.inj H
    go_wp2
    go_ret
    exact ⟨_, by first | rfl | (simp [Zar, Zas] <;> rfl) | (simp [*, Zar, Zas] <;> rfl), by (with_reducible repeat (first | apply Kd.Zbj | apply Kd.Zbk | apply Kd.Zbr)); exact HO_3.out, by repeat (first | (with_reducible first | exact HB.out | apply Zab | apply Zaa | apply Zad) | exact HB.out)⟩
   rw [if_pos c4] at H
   have c4b0 : decide (x4_1 < (l0.length : Int)) = true := decide_eq_true c4
   clear c4
   obtain ⟨y104, hy104⟩ : ∃ y_ : List Int, y_ = (([] : List Int)) := ⟨_, rfl⟩
   replace H : (if 0 ≤ x4_1 then (if y104.length + (Zc5 l0 x4_1).length < 17592186044416 then (if x3_1.length < 5864062014805 then (Za8.l0 k1 l0 (x3_1 ++ [(y104 ++ (Zc5 l0 x4_1))]) (wrap64 (x4_1 + 1))) else (none)) else (none)) else (none)) = some r := by first | (rw [hy104]; with_reducible exact H) | (have H2_ := (Option.bind_some _ _).symm.trans H; rw [hy104]; with_reducible exact H2_) | (have H2_ := (Option.bind_some _ _).symm.trans H; with_reducible exact H2_) | with_reducible exact H | (rw [hy104]; exact H) | exact H
   have Ny104 := Za.mk hy104
   clear hy104
   by_cases c5 : 0 ≤ x4_1
   rotate_left
   ·rw [if_neg c5] at H
    exact absurd H (by simp)
   rw [if_pos c5] at H
   have c5b0 : decide (0 ≤ x4_1) = true := decide_eq_true c5
   clear c5
   by_cases c6 : y104.length + (Zc5 l0 x4_1).length < 17592186044416
   rotate_left
   ·rw [if_neg c6] at H
    exact absurd H (by simp)
   rw [if_pos c6] at H
   have LMc6 := Za.mk c6
   clear c6
   obtain ⟨y108, hy108⟩ : ∃ y_ : List Int, y_ = (y104 ++ (Zc5 l0 x4_1)) := ⟨_, rfl⟩
   replace H : (if x3_1.length < 5864062014805 then (Za8.l0 k1 l0 (x3_1 ++ [y108]) (wrap64 (x4_1 + 1))) else (none)) = some r := by first | (rw [hy108]; with_reducible exact H) | (have H2_ := (Option.bind_some _ _).symm.trans H; rw [hy108]; with_reducible exact H2_) | (have H2_ := (Option.bind_some _ _).symm.trans H; with_reducible exact H2_) | with_reducible exact H | (rw [hy108]; exact H) | exact H
   have Ny108 := Za.mk hy108
   clear hy108
   by_cases c7 : x3_1.length < 5864062014805
   rotate_left
   ·rw [if_neg c7] at H
    exact absurd H (by simp)
   rw [if_pos c7] at H
   have LMc7 := Za.mk c7
   clear c7
   obtain ⟨y111, hy111⟩ : ∃ y_ : List (List Int), y_ = (x3_1 ++ [y108]) := ⟨_, rfl⟩
   replace H : (Za8.l0 k1 l0 y111 (wrap64 (x4_1 + 1))) = some r := by first | (rw [hy111]; with_reducible exact H) | (have H2_ := (Option.bind_some _ _).symm.trans H; rw [hy111]; with_reducible exact H2_) | (have H2_ := (Option.bind_some _ _).symm.trans H; with_reducible exact H2_) | with_reducible exact H | (rw [hy111]; exact H) | exact H
   have Ny111 := Za.mk hy111
   clear hy111
   have H' := Za.mk H
   clear H
   go_wp2_with (first | ((with_reducible refine Zax (N := 13) rfl ?_); refine Kd.Zc9 (Kd.int .i64) _ 3 ?hg (N := 13) ?hd (xs := ([] : List Int)) (inner := []) (ok := fun _ => True) (okp := fun _ => True) ?hr ?hp (fun _ hk => hk) trivial (Below.refl _ _) (Nat.le_refl _) (by simp) ?_; (case hd => rfl); (case hg => rfl); (case hr => first | (go_simp; done) | (go_simp; rfl)); (case hp => exact (Reps.none _ _)); intro v105 w8 ho9 hb hg_ hnew_; clear hg_ hnew_; (first | rw [← Ny104.out] at ho9 | (simp only [Int.reduceToNat] at ho9; rw [← Ny104.out] at ho9)); have n0_ := Za.mk (Kd.Zeo (by (with_reducible repeat (first | apply Kd.Zbj | apply Kd.Zbk | apply Kd.Zbr)); exact HO_3.out) (Kd.Zb4 ho9) hb); have n1_ := Za.mk (Kd.Zbp ho9 (Zan (by repeat (first | (with_reducible first | exact HB.out | apply Zab | apply Zaa | apply Zad) | exact HB.out)))); have n2_ := Za.mk (Zaf (by repeat (first | (with_reducible first | exact HB.out | apply Zab | apply Zaa | apply Zad) | exact HB.out)) hb); clear HO_3; clear HB; have HO_3 := n0_; have HO106 := n1_; have HB := n2_; clear n0_ n1_ n2_; clear hb ho9; have p107 : 0 ≤ (x4_1 : Int) := of_decide_eq_true (by first | (with_reducible assumption) | assumption); have q107 : x4_1 < (l0.length : Int) := of_decide_eq_true (by first | (with_reducible assumption) | assumption); obtain ⟨ad107, A107_0, c107_0, e107, hx107_0, hl107_0, hi107_0⟩ := at_L1 HR0.out x4_1 p107 q107; cases e107; replace hx107_0 := (HB.out.cell (World.block_lt_of_cell? w _ hx107_0)).trans hx107_0; have HR107_0 := Za.mk hi107_0; have HC107_0 := Za.mk hl107_0; clear hi107_0 hl107_0; replace p107 := eq_true p107; replace q107 := eq_true q107) | ((with_reducible refine Zb7 (b := .append) (xs := #[.tmp 13, .tmp 17]) rfl ?_); at_builtin; refine Kd.Zc6 (Kd.int .i64) (w0 := w) w.heap.size rfl (.tmp 13) (.tmp 17) 24 3 (.int .i64 0) 8 rfl Try.underlying24 info3 rfl (by decide) (by omega) v105 y104 (Zc5 l0 x4_1) _ _ _ (fun _ => True) (fun _ => False) rfl rfl ?aO ?aR (fun _ _ h => h) (fun _ h => h.elim) ?aF ?aB ?aS ?aL ?_; (case aR => repeat (first | exact (Kd.Zal HR107_0.out HB.out) | (with_reducible refine Kd.C_alloc ?_ _) | (with_reducible refine Kd.Zaw ?_ _) | (with_reducible refine Kd.C_drew ?_))); (case aB => exact (by repeat (first | (with_reducible first | exact HB.out | apply Zab | apply Zaa | apply Zad) | exact HB.out))); (case aF => exact (fun _ _ => trivial)); (case aO => exact (by (with_reducible repeat (first | apply Kd.Zat | apply Kd.Zau | apply Kd.Zaz)); exact HO106.out)); (case aS => exact (Zan (by repeat (first | (with_reducible first | exact HB.out | apply Zab | apply Zaa | apply Zad) | exact HB.out)))); (case aL => have := LMc6.out; omega); intro v109 w10 ho hb hg hat; rw [← Ny108.out] at ho; have n0_ := Za.mk (Kd.S_after (ok := (fun _ => True)) (by (with_reducible repeat (first | apply Kd.Zbj | apply Kd.Zbk | apply Kd.Zbr)); exact HO_3.out) hg hat); have n1_ := Za.mk (hb); have n2_ := Za.mk (ho); clear HO_3; clear HB; clear HO106; have HO_3 := n0_; have HB := n1_; have HO110 := n2_; clear n0_ n1_ n2_; clear ho hb hg hat; obtain ⟨Ao12, co12, eo12⟩ := Kd.Za9 HO110.out; subst eo12) | ((with_reducible refine Zb7 (b := .append) (xs := #[.tmp 12, .tmp 19]) rfl ?_); at_builtin; refine Kd.S_append (Kd.slice 3 (Kd.int .i64)) (w0 := w) w.heap.size rfl (.tmp 12) (.tmp 19) 29 24 (.slice none 0 0) 24 rfl Try.underlying29 info24 rfl (by decide) (by omega) u3 x3_1 y108 [.slice Ao12 y108.length co12] (fun _ => True) (fun k_ => some k_ = (.slice Ao12 y108.length co12 : Value).ownBlock) rfl rfl ?aP (fun k_ hk_ => ((Kd.Za2 (ok' := fun k_ => ((fun _ => True)) k_ ∧ some k_ ≠ (u3 : Value).ownBlock) (Kd.Zc2 (HO110.out) (Kd.Zd HO_3.out) (by decide)) (fun k_ hk => ⟨trivial, hk.2⟩))).1 k_ hk_.symm) ?aF ?aO ?aB ?aS ?aL ?_; (case aP => exact Kd.M_row (Kd.Za2 (Kd.Zdd rfl (Kd.Za2 (ok' := fun k_ => ((fun _ => True)) k_ ∧ some k_ ≠ (u3 : Value).ownBlock) (Kd.Zc2 (HO110.out) (Kd.Zd HO_3.out) (by decide)) (fun k_ hk => ⟨trivial, hk.2⟩))) (fun _ h_ => h_))); (case aB => exact (by repeat (first | (with_reducible first | exact HB.out | apply Zab | apply Zaa | apply Zad) | exact HB.out))); (case aF => exact (fun _ _ => trivial)); (case aO => exact (by (with_reducible repeat (first | apply Kd.Zbj | apply Kd.Zbk | apply Kd.Zbr)); exact Kd.Zcj HO_3.out (fun k_ hk => ⟨trivial, fun e_ => hk.2 e_⟩))); (case aS => exact (Zan (by repeat (first | (with_reducible first | exact HB.out | apply Zab | apply Zaa | apply Zad) | exact HB.out)))); (case aL => have := LMc7.out; omega); intro v112 w11 ho hb hg hat; rw [← Ny111.out] at ho; have n0_ := Za.mk (hb); have n1_ := Za.mk (ho); clear HB; clear HO_3; clear HO110; have HB := n0_; have HO113 := n1_; clear n0_ n1_; clear ho hb hg hat))
   go_roundg k1
   case measure => have := HK1.out; omega
   case rel => exact ⟨(y111), (wrap64 (x4_1 + 1)), (by first | rfl | (simp; done) | (simp [*]; done)), H', ⟨by have := HK1.out; omega⟩, ⟨by (with_reducible repeat (first | apply Kd.Zbj | apply Kd.Zbk | apply Kd.Zbr)); exact HO113.out⟩, ⟨by repeat (first | (with_reducible first | exact HB.out | apply Zab | apply Zaa | apply Zad) | exact HB.out)⟩⟩
def Zb1.f (k : Nat) (a0_0 : Int) (l0_1 : List Int) (l0_2 : List Int) (a0_3 : Int) (a0_4 : Int) (l0_5 : List (List Int)) (a0_6 : Int) : Option (Int × List Int × List Int × Int × Int × (List (List Int)) × Int) := (some (([] : List Int) : List Int)).bind fun y116 => (if y116.length + l0_1.length < 17592186044416 then ((some (([] : List Int) : List Int)).bind fun y122 => (if y122.length + l0_2.length < 17592186044416 then ((Za8.f k l0_5).bind fun t128 => (some (a0_0, (y116 ++ l0_1), (y122 ++ l0_2), a0_3, a0_4, t128, a0_6))) else (none))) else (none))
set_option maxHeartbeats 8000000 in
set_option maxRecDepth 100000 in
theorem Zb1.calls (k : Nat) (a0_0 : Int) (A0_1 : Option Addr) (c0_1 : Nat) (l0_1 : List Int) (A0_2 : Option Addr) (c0_2 : Nat) (l0_2 : List Int) (a0_3 : Int) (a0_4 : Int) (A0_5 : Option Addr) (c0_5 : Nat) (l0_5 : List (List Int)) (a0_6 : Int) (r1 : Int) (r2 : List Int) (r3 : List Int) (r4 : Int) (r5 : Int) (r6 : List (List Int)) (r7 : Int) (w : World) (hr0_1 : Kd.C (Kd.int .i64) w A0_1 l0_1.length l0_1) (hc0_1 : l0_1.length ≤ c0_1) (hr0_2 : Kd.C (Kd.int .i64) w A0_2 l0_2.length l0_2) (hc0_2 : l0_2.length ≤ c0_2) (hr0_5 : Kd.C (Kd.slice 3 (Kd.int .i64)) w A0_5 l0_5.length l0_5) (hc0_5 : l0_5.length ≤ c0_5) (h : Zb1.f k a0_0 l0_1 l0_2 a0_3 a0_4 l0_5 a0_6 = some (r1, r2, r3, r4, r5, r6, r7)) :
  Calls Try.prog 34 #[.agg #[.int .i64 a0_0, .slice A0_1 l0_1.length c0_1, .slice A0_2 l0_2.length c0_2, .int .i64 a0_3, .int .i64 a0_4, .slice A0_5 l0_5.length c0_5, .int .i64 a0_6]] w fun e w' => ∃ v1_ v2_ v5_ : Value, e = .returned (.agg #[.int .i64 r1, v1_, v2_, .int .i64 r4, .int .i64 r5, v5_, .int .i64 r7]) ∧ Kd.R (Kd.int .i64) 3 w' w.heap.size (fun k_ => some k_ ≠ (v2_ : Value).ownBlock) v1_ r2 ∧ Kd.R (Kd.int .i64) 3 w' w.heap.size (fun k_ => some k_ ≠ (v1_ : Value).ownBlock) v2_ r3 ∧ Kd.S (Kd.slice 3 (Kd.int .i64)) 24 w' w.heap.size (fun k_ => some k_ ≠ (v1_ : Value).ownBlock ∧ some k_ ≠ (v2_ : Value).ownBlock) v5_ r6 ∧ Below w.heap.size w w' := by
 have hu31 := Try.underlying31
 have HR0_1 := Za.mk hr0_1
 have HC0_1 := Za.mk hc0_1
 clear hr0_1 hc0_1
 have HR0_2 := Za.mk hr0_2
 have HC0_2 := Za.mk hc0_2
 clear hr0_2 hc0_2
 have HR0_5 := Za.mk hr0_5
 have HC0_5 := Za.mk hc0_5
 clear hr0_5 hc0_5
 have HB := Za.mk (Below.refl w.heap.size w)
 have H : ((some (([] : List Int) : List Int)).bind fun y116 => (if y116.length + l0_1.length < 17592186044416 then ((some (([] : List Int) : List Int)).bind fun y122 => (if y122.length + l0_2.length < 17592186044416 then ((Za8.f k l0_5).bind fun t128 => (some (a0_0, (y116 ++ l0_1), (y122 ++ l0_2), a0_3, a0_4, t128, a0_6))) else (none))) else (none))) = some (r1, r2, r3, r4, r5, r6, r7) := h
 clear h
 obtain ⟨y116, hy116⟩ : ∃ y_ : List Int, y_ = (([] : List Int)) := ⟨_, rfl⟩
 replace H : (if y116.length + l0_1.length < 17592186044416 then ((some (([] : List Int) : List Int)).bind fun y122 => (if y122.length + l0_2.length < 17592186044416 then ((Za8.f k l0_5).bind fun t128 => (some (a0_0, (y116 ++ l0_1), (y122 ++ l0_2), a0_3, a0_4, t128, a0_6))) else (none))) else (none)) = some (r1, r2, r3, r4, r5, r6, r7) := by first | (rw [hy116]; with_reducible exact H) | (have H2_ := (Option.bind_some _ _).symm.trans H; rw [hy116]; with_reducible exact H2_) | (have H2_ := (Option.bind_some _ _).symm.trans H; with_reducible exact H2_) | with_reducible exact H | (rw [hy116]; exact H) | exact H
 have Ny116 := Za.mk hy116
 clear hy116
 by_cases c2 : y116.length + l0_1.length < 17592186044416
 rotate_left
 ·rw [if_neg c2] at H
  exact absurd H (by simp)
 rw [if_pos c2] at H
 have LMc2 := Za.mk c2
 clear c2
 obtain ⟨y119, hy119⟩ : ∃ y_ : List Int, y_ = (y116 ++ l0_1) := ⟨_, rfl⟩
 replace H : ((some (([] : List Int) : List Int)).bind fun y122 => (if y122.length + l0_2.length < 17592186044416 then ((Za8.f k l0_5).bind fun t128 => (some (a0_0, y119, (y122 ++ l0_2), a0_3, a0_4, t128, a0_6))) else (none))) = some (r1, r2, r3, r4, r5, r6, r7) := by first | (rw [hy119]; with_reducible exact H) | (have H2_ := (Option.bind_some _ _).symm.trans H; rw [hy119]; with_reducible exact H2_) | (have H2_ := (Option.bind_some _ _).symm.trans H; with_reducible exact H2_) | with_reducible exact H | (rw [hy119]; exact H) | exact H
 have Ny119 := Za.mk hy119
 clear hy119
 obtain ⟨y122, hy122⟩ : ∃ y_ : List Int, y_ = (([] : List Int)) := ⟨_, rfl⟩
 replace H : (if y122.length + l0_2.length < 17592186044416 then ((Za8.f k l0_5).bind fun t128 => (some (a0_0, y119, (y122 ++ l0_2), a0_3, a0_4, t128, a0_6))) else (none)) = some (r1, r2, r3, r4, r5, r6, r7) := by first | (rw [hy122]; with_reducible exact H) | (have H2_ := (Option.bind_some _ _).symm.trans H; rw [hy122]; with_reducible exact H2_) | (have H2_ := (Option.bind_some _ _).symm.trans H; with_reducible exact H2_) | with_reducible exact H | (rw [hy122]; exact H) | exact H
 have Ny122 := Za.mk hy122
 clear hy122
 by_cases c3 : y122.length + l0_2.length < 17592186044416
 rotate_left
 ·rw [if_neg c3] at H
  exact absurd H (by simp)
 rw [if_pos c3] at H
 have LMc3 := Za.mk c3
 clear c3
 obtain ⟨y125, hy125⟩ : ∃ y_ : List Int, y_ = (y122 ++ l0_2) := ⟨_, rfl⟩
 replace H : ((Za8.f k l0_5).bind fun t128 => (some (a0_0, y119, y125, a0_3, a0_4, t128, a0_6))) = some (r1, r2, r3, r4, r5, r6, r7) := by first | (rw [hy125]; with_reducible exact H) | (have H2_ := (Option.bind_some _ _).symm.trans H; rw [hy125]; with_reducible exact H2_) | (have H2_ := (Option.bind_some _ _).symm.trans H; with_reducible exact H2_) | with_reducible exact H | (rw [hy125]; exact H) | exact H
 have Ny125 := Za.mk hy125
 clear hy125
 replace H := Option.bind_eq_some_iff.mp H
 obtain ⟨t128, A40, H⟩ := H
 replace H : (some (a0_0, y119, y125, a0_3, a0_4, t128, a0_6)) = some (r1, r2, r3, r4, r5, r6, r7) := H
 have A4 := Za.mk A40
 clear A40
 simp only [Option.some.injEq, Prod.mk.injEq] at H
 obtain ⟨rfl, rfl, rfl, rfl, rfl, rfl, rfl⟩ := H
 go_enter Try.func34, Try.ntmps34
 go_wp2_with (first | ((with_reducible refine Zax (N := 1) rfl ?_); refine Za7 ?hg (N := 1) ?hd (cs := #[.int .i64 a0_0, .slice A0_1 l0_1.length c0_1, .slice A0_2 l0_2.length c0_2, .int .i64 a0_3, .int .i64 a0_4, .slice A0_5 l0_5.length c0_5, .int .i64 a0_6]) (t := 31) ?hr ?_; (case hd => rfl); (case hg => rfl); (case hr => first | (go_simp; done) | (go_simp; rfl)); intro gb114 hg w5 hbox hb; have n0_ := Za.mk (Zaf (by repeat (first | (with_reducible first | exact HB.out | apply Zab | apply Zaa | apply Zad) | exact HB.out)) hb); have n1_ := Za.mk (hbox); have n3_ := Za.mk ((by rw [hg]; exact (Zan (by repeat (first | (with_reducible first | exact HB.out | apply Zab | apply Zaa | apply Zad) | exact HB.out))) : w.heap.size ≤ gb114)); clear HB; have HB := n0_; have BK114 := n1_; have GE114 := n3_; clear n0_ n1_ n3_; clear hb hbox hg) | ((with_reducible refine Zax (N := 2) rfl ?_); refine Za7 ?hg (N := 2) ?hd (cs := #[.int .i64 0, .slice none 0 0, .slice none 0 0, .int .i64 0, .int .i64 0, .slice none 0 0, .int .i64 0]) (t := 31) ?hr ?_; (case hd => rfl); (case hg => rfl); (case hr => first | (go_simp; done) | (go_simp; rfl)); intro gb115 hg w6 hbox hb; have n0_ := Za.mk (Zap (g := gb114) (o := .cells #[.int .i64 a0_0, .slice A0_1 l0_1.length c0_1, .slice A0_2 l0_2.length c0_2, .int .i64 a0_3, .int .i64 a0_4, .slice A0_5 l0_5.length c0_5, .int .i64 a0_6] 31 (0, 0)) (by (with_reducible repeat (first | refine Zag ?_ _ | refine Zai ?_ | refine Zae ?_ _)); exact BK114.out) hb); have n1_ := Za.mk (Zaf (by repeat (first | (with_reducible first | exact HB.out | apply Zab | apply Zaa | apply Zad | refine Zac ?_ GE114.out) | exact HB.out)) hb); have n2_ := Za.mk (hbox); have n4_ := Za.mk ((by rw [hg]; exact (Zan (by repeat (first | (with_reducible first | exact HB.out | apply Zab | apply Zaa | apply Zad | refine Zac ?_ GE114.out) | exact HB.out))) : w.heap.size ≤ gb115)); have n5_ := Za.mk ((by rw [hg]; exact Nat.ne_of_lt (Zbt (g := gb114) (o := .cells #[.int .i64 a0_0, .slice A0_1 l0_1.length c0_1, .slice A0_2 l0_2.length c0_2, .int .i64 a0_3, .int .i64 a0_4, .slice A0_5 l0_5.length c0_5, .int .i64 a0_6] 31 (0, 0)) (by (with_reducible repeat (first | refine Zag ?_ _ | refine Zai ?_ | refine Zae ?_ _)); exact BK114.out)) : gb114 ≠ gb115)); have n6_ := Za.mk ((by rw [hg]; exact Nat.ne_of_gt (Zbt (g := gb114) (o := .cells #[.int .i64 a0_0, .slice A0_1 l0_1.length c0_1, .slice A0_2 l0_2.length c0_2, .int .i64 a0_3, .int .i64 a0_4, .slice A0_5 l0_5.length c0_5, .int .i64 a0_6] 31 (0, 0)) (by (with_reducible repeat (first | refine Zag ?_ _ | refine Zai ?_ | refine Zae ?_ _)); exact BK114.out)) : gb115 ≠ gb114)); clear BK114; clear HB; have BK114 := n0_; have HB := n1_; have BK115 := n2_; have GE115 := n4_; have NB114_115 := n5_; have NB115_114 := n6_; clear n0_ n1_ n2_ n4_ n5_ n6_; clear hb hbox hg) | ((with_reducible refine Zax (N := 3) rfl ?_); refine Kd.Zc9 (Kd.int .i64) _ 3 ?hg (N := 3) ?hd (xs := ([] : List Int)) (inner := []) (ok := fun _ => True) (okp := fun _ => True) ?hr ?hp (fun _ hk => hk) trivial (Below.refl _ _) (Nat.le_refl _) (by simp) ?_; (case hd => rfl); (case hg => rfl); (case hr => first | (go_simp; done) | (go_simp; rfl)); (case hp => exact (Reps.none _ _)); intro v117 w7 ho8 hb hg_ hnew_; clear hg_ hnew_; (first | rw [← Ny116.out] at ho8 | (simp only [Int.reduceToNat] at ho8; rw [← Ny116.out] at ho8)); have n0_ := Za.mk (Kd.Zbp ho8 (Zan (by repeat (first | (with_reducible first | exact HB.out | apply Zab | apply Zaa | apply Zad | refine Zac ?_ GE114.out | refine Zac ?_ GE115.out) | exact HB.out)))); have n1_ := Za.mk (Zap (g := gb114) (o := .cells #[.int .i64 a0_0, .slice A0_1 l0_1.length c0_1, .slice A0_2 l0_2.length c0_2, .int .i64 a0_3, .int .i64 a0_4, .slice A0_5 l0_5.length c0_5, .int .i64 a0_6] 31 (0, 0)) (by (with_reducible repeat (first | refine Zag ?_ _ | refine Zai ?_ | refine Zae ?_ _)); exact BK114.out) hb); have n2_ := Za.mk (Zap (g := gb115) (o := .cells #[.int .i64 0, .slice none 0 0, .slice none 0 0, .int .i64 0, .int .i64 0, .slice none 0 0, .int .i64 0] 31 (0, 0)) (by (with_reducible repeat (first | refine Zag ?_ _ | refine Zai ?_ | refine Zae ?_ _)); exact BK115.out) hb); have n3_ := Za.mk (Zaf (by repeat (first | (with_reducible first | exact HB.out | apply Zab | apply Zaa | apply Zad | refine Zac ?_ GE114.out | refine Zac ?_ GE115.out) | exact HB.out)) hb); clear BK114; clear BK115; clear HB; have HO118 := n0_; have BK114 := n1_; have BK115 := n2_; have HB := n3_; clear n0_ n1_ n2_ n3_; clear hb ho8; have hnb9 := NB114_115.out; have hnc9 := NB115_114.out; obtain ⟨hcz10_0, hcz10_1, hcz10_2, hcz10_3, hcz10_4, hcz10_5, hcz10_6, hfz10_0, hfz10_1, hfz10_2, hfz10_3, hfz10_4, hfz10_5, hfz10_6⟩ := Zdl BK114.out) | ((with_reducible refine Zb7 (b := .append) (xs := #[.tmp 3, .tmp 5]) rfl ?_); at_builtin; refine Kd.Zc6 (Kd.int .i64) (w0 := w) w.heap.size rfl (.tmp 3) (.tmp 5) 24 3 (.int .i64 0) 8 rfl Try.underlying24 info3 rfl (by decide) (by omega) v117 y116 l0_1 _ _ _ (fun _ => True) (fun _ => False) rfl rfl ?aO ?aR (fun _ _ h => h) (fun _ h => h.elim) ?aF ?aB ?aS ?aL ?_; (case aR => repeat (first | exact (Kd.Zal HR0_1.out HB.out) | (with_reducible refine Kd.C_alloc ?_ _) | (with_reducible refine Kd.Zaw ?_ _) | (with_reducible refine Kd.C_drew ?_))); (case aB => exact (by repeat (first | (with_reducible first | exact HB.out | apply Zab | apply Zaa | apply Zad | refine Zac ?_ GE114.out | refine Zac ?_ GE115.out) | exact HB.out))); (case aF => exact (fun _ _ => trivial)); (case aO => exact (by (with_reducible repeat (first | apply Kd.Zat | apply Kd.Zau | apply Kd.Zaz)); exact HO118.out)); (case aS => exact (Zan (by repeat (first | (with_reducible first | exact HB.out | apply Zab | apply Zaa | apply Zad | refine Zac ?_ GE114.out | refine Zac ?_ GE115.out) | exact HB.out)))); (case aL => have := LMc2.out; omega); intro v120 w11 ho hb hg hat; rw [← Ny119.out] at ho; have n0_ := Za.mk (Zbl (g := gb114) (o := .cells #[.int .i64 a0_0, .slice A0_1 l0_1.length c0_1, .slice A0_2 l0_2.length c0_2, .int .i64 a0_3, .int .i64 a0_4, .slice A0_5 l0_5.length c0_5, .int .i64 a0_6] 31 (0, 0)) (by (with_reducible repeat (first | refine Zag ?_ _ | refine Zai ?_ | refine Zae ?_ _)); exact BK114.out) hg (Kd.R_ne HO118.out BK114.out (by decide))); have n1_ := Za.mk (Zbl (g := gb115) (o := .cells #[.int .i64 0, .slice none 0 0, .slice none 0 0, .int .i64 0, .int .i64 0, .slice none 0 0, .int .i64 0] 31 (0, 0)) (by (with_reducible repeat (first | refine Zag ?_ _ | refine Zai ?_ | refine Zae ?_ _)); exact BK115.out) hg (Kd.R_ne HO118.out BK115.out (by decide))); have n2_ := Za.mk (hb); have n3_ := Za.mk (ho); clear BK114; clear BK115; clear HB; clear HO118; have BK114 := n0_; have BK115 := n1_; have HB := n2_; have HO121 := n3_; clear n0_ n1_ n2_ n3_; clear ho hb hg hat; obtain ⟨Ao12, co12, eo12⟩ := Kd.Za9 HO121.out; subst eo12; obtain ⟨hcz13_0, hcz13_1, hcz13_2, hcz13_3, hcz13_4, hcz13_5, hcz13_6, hfz13_0, hfz13_1, hfz13_2, hfz13_3, hfz13_4, hfz13_5, hfz13_6⟩ := Zdl BK114.out) | ((with_reducible refine Zax (N := 8) rfl ?_); refine Kd.Zc9 (Kd.int .i64) _ 3 ?hg (N := 8) ?hd (xs := ([] : List Int)) (inner := []) (ok := fun _ => True) (okp := fun _ => True) ?hr ?hp (fun _ hk => hk) trivial (Below.refl _ _) (Nat.le_refl _) (by simp) ?_; (case hd => rfl); (case hg => rfl); (case hr => first | (go_simp; done) | (go_simp; rfl)); (case hp => exact (Reps.none _ _)); intro v123 w14 ho15 hb hg_ hnew_; clear hg_ hnew_; (first | rw [← Ny122.out] at ho15 | (simp only [Int.reduceToNat] at ho15; rw [← Ny122.out] at ho15)); have n0_ := Za.mk (Kd.Zby (by (with_reducible repeat (first | apply Kd.Zat | apply Kd.Zau | apply Kd.Zaz)); exact (Kd.Za2 (Kd.Za1 (p := ⟨gb114, 1, none⟩) (Kd.Zbc HO121.out BK114.out (by decide)) (fun _ hk => hk.2) (.slice Ao12 y119.length co12)) (fun _ h_ => h_.1))) (Kd.Zb4 ho15) hb); have n1_ := Za.mk (Kd.Zbp (Kd.Zc1 ho15 (Kd.R_lt (by (with_reducible repeat (first | apply Kd.Zat | apply Kd.Zau | apply Kd.Zaz)); exact (Kd.Za2 (Kd.Za1 (p := ⟨gb114, 1, none⟩) (Kd.Zbc HO121.out BK114.out (by decide)) (fun _ hk => hk.2) (.slice Ao12 y119.length co12)) (fun _ h_ => h_.1))))) (Zan (by repeat (first | (with_reducible first | exact HB.out | apply Zab | apply Zaa | apply Zad | refine Zac ?_ GE114.out | refine Zac ?_ GE115.out) | exact HB.out)))); have n2_ := Za.mk (Zap (g := gb114) (o := .cells #[.int .i64 a0_0, .slice Ao12 y119.length co12, .slice A0_2 l0_2.length c0_2, .int .i64 a0_3, .int .i64 a0_4, .slice A0_5 l0_5.length c0_5, .int .i64 a0_6] 31 (0, 0)) (by (with_reducible repeat (first | refine Zag ?_ _ | refine Zai ?_ | refine Zae ?_ _)); refine Zaq (cs := #[.int .i64 a0_0, .slice A0_1 l0_1.length c0_1, .slice A0_2 l0_2.length c0_2, .int .i64 a0_3, .int .i64 a0_4, .slice A0_5 l0_5.length c0_5, .int .i64 a0_6]) ?_ 1 _ rfl; (with_reducible repeat (first | refine Zag ?_ _ | refine Zai ?_ | refine Zae ?_ _)); exact BK114.out) hb); have n3_ := Za.mk (Zap (g := gb115) (o := .cells #[.int .i64 0, .slice none 0 0, .slice none 0 0, .int .i64 0, .int .i64 0, .slice none 0 0, .int .i64 0] 31 (0, 0)) (by (with_reducible repeat (first | refine Zag ?_ _ | refine Zai ?_ | refine Zae ?_ _)); refine Zav ?_ NB115_114.out _; (with_reducible repeat (first | refine Zag ?_ _ | refine Zai ?_ | refine Zae ?_ _)); exact BK115.out) hb); have n4_ := Za.mk (Zaf (by repeat (first | (with_reducible first | exact HB.out | apply Zab | apply Zaa | apply Zad | refine Zac ?_ GE114.out | refine Zac ?_ GE115.out) | exact HB.out)) hb); clear HO121; clear BK114; clear BK115; clear HB; have HO121 := n0_; have HO124 := n1_; have BK114 := n2_; have BK115 := n3_; have HB := n4_; clear n0_ n1_ n2_ n3_ n4_; clear hb ho15; obtain ⟨hcz16_0, hcz16_1, hcz16_2, hcz16_3, hcz16_4, hcz16_5, hcz16_6, hfz16_0, hfz16_1, hfz16_2, hfz16_3, hfz16_4, hfz16_5, hfz16_6⟩ := Zdl BK114.out) | ((with_reducible refine Zb7 (b := .append) (xs := #[.tmp 8, .tmp 10]) rfl ?_); at_builtin; refine Kd.Zc6 (Kd.int .i64) (w0 := w) w.heap.size rfl (.tmp 8) (.tmp 10) 24 3 (.int .i64 0) 8 rfl Try.underlying24 info3 rfl (by decide) (by omega) v123 y122 l0_2 _ _ _ (fun k_ => some k_ ≠ (.slice Ao12 y119.length co12 : Value).ownBlock) (fun _ => False) rfl rfl ?aO ?aR (fun _ _ h => h) (fun _ h => h.elim) ?aF ?aB ?aS ?aL ?_; (case aR => repeat (first | exact (Kd.Zal HR0_2.out HB.out) | (with_reducible refine Kd.C_alloc ?_ _) | (with_reducible refine Kd.Zaw ?_ _) | (with_reducible refine Kd.C_drew ?_))); (case aB => exact (by repeat (first | (with_reducible first | exact HB.out | apply Zab | apply Zaa | apply Zad | refine Zac ?_ GE114.out | refine Zac ?_ GE115.out) | exact HB.out))); (case aF => exact (fun k_ hk => Kd.fresh' (Kd.R_lt (by (with_reducible repeat (first | apply Kd.Zat | apply Kd.Zau | apply Kd.Zaz)); exact HO121.out)) k_ hk)); (case aO => exact (by (with_reducible repeat (first | apply Kd.Zat | apply Kd.Zau | apply Kd.Zaz)); exact Kd.Za2 HO124.out (fun _ hk => hk.2))); (case aS => exact (Zan (by repeat (first | (with_reducible first | exact HB.out | apply Zab | apply Zaa | apply Zad | refine Zac ?_ GE114.out | refine Zac ?_ GE115.out) | exact HB.out)))); (case aL => have := LMc3.out; omega); intro v126 w17 ho hb hg hat; rw [← Ny125.out] at ho; have n0_ := Za.mk (Zbl (g := gb114) (o := .cells #[.int .i64 a0_0, .slice Ao12 y119.length co12, .slice A0_2 l0_2.length c0_2, .int .i64 a0_3, .int .i64 a0_4, .slice A0_5 l0_5.length c0_5, .int .i64 a0_6] 31 (0, 0)) (by (with_reducible repeat (first | refine Zag ?_ _ | refine Zai ?_ | refine Zae ?_ _)); exact BK114.out) hg (Kd.R_ne HO124.out BK114.out (by decide))); have n1_ := Za.mk (Zbl (g := gb115) (o := .cells #[.int .i64 0, .slice none 0 0, .slice none 0 0, .int .i64 0, .int .i64 0, .slice none 0 0, .int .i64 0] 31 (0, 0)) (by (with_reducible repeat (first | refine Zag ?_ _ | refine Zai ?_ | refine Zae ?_ _)); exact BK115.out) hg (Kd.R_ne HO124.out BK115.out (by decide))); have n2_ := Za.mk (Kd.Zey (ok := (fun _ => True)) (by (with_reducible repeat (first | apply Kd.Zat | apply Kd.Zau | apply Kd.Zaz)); exact HO121.out) hg hat); have n3_ := Za.mk (hb); have n4_ := Za.mk (ho); clear BK114; clear BK115; clear HO121; clear HB; clear HO124; have BK114 := n0_; have BK115 := n1_; have HO121 := n2_; have HB := n3_; have HO127 := n4_; clear n0_ n1_ n2_ n3_ n4_; clear ho hb hg hat; obtain ⟨Ao18, co18, eo18⟩ := Kd.Za9 HO127.out; subst eo18; obtain ⟨hcz19_0, hcz19_1, hcz19_2, hcz19_3, hcz19_4, hcz19_5, hcz19_6, hfz19_0, hfz19_1, hfz19_2, hfz19_3, hfz19_4, hfz19_5, hfz19_6⟩ := Zdl BK114.out) | ((with_reducible refine Zay (f := 58) rfl ?_); refine Zbu (some 15) rfl rfl Try.func58 (by kernel_rfl) rfl #[.slice A0_5 l0_5.length c0_5] rfl (by (try simp only [List.map_toArray, List.map_cons, List.map_nil]); first | done | rfl | (simp only [List.length_drop, List.length_take]; rfl)) ?_; (with_reducible refine (Za8.calls k _ _ l0_5 t128 _ ?side1 ?side2 A4.out).mono ?_); (case side1 => exact Kd.Zal HR0_5.out (by repeat (first | (with_reducible first | exact HB.out | apply Zab | apply Zaa | apply Zad | refine Zac ?_ GE114.out | refine Zac ?_ GE115.out) | exact HB.out))); (case side2 => exact HC0_5.out); rintro e w20 ⟨v129, rfl, ho0, hb⟩; refine ⟨_, rfl, ?_⟩; have n0_ := Za.mk (Kd.Zb6 (by (with_reducible repeat (first | apply Kd.Zat | apply Kd.Zau | apply Kd.Zaz)); exact (Kd.Za2 (Kd.Za1 (p := ⟨gb114, 2, none⟩) (Kd.Zbc HO121.out BK114.out (by decide)) (fun _ hk => hk.2) (.slice Ao18 y125.length co18)) (fun _ h_ => h_.1))) hb); have n1_ := Za.mk (Kd.Zb6 (by (with_reducible repeat (first | apply Kd.Zat | apply Kd.Zau | apply Kd.Zaz)); exact (Kd.Za2 (Kd.Za1 (p := ⟨gb114, 2, none⟩) (Kd.Zbc HO127.out BK114.out (by decide)) (fun _ hk => hk.2) (.slice Ao18 y125.length co18)) (fun _ h_ => h_.1))) hb); have n2_ := Za.mk (Kd.Ze0 (Kd.S_new' (Kd.S_new' ho0 (Kd.R_lt (by (with_reducible repeat (first | apply Kd.Zat | apply Kd.Zau | apply Kd.Zaz)); exact (Kd.Za2 (Kd.Za1 (p := ⟨gb114, 2, none⟩) (Kd.Zbc HO121.out BK114.out (by decide)) (fun _ hk => hk.2) (.slice Ao18 y125.length co18)) (fun _ h_ => h_.1))))) (Kd.R_lt (by (with_reducible repeat (first | apply Kd.Zat | apply Kd.Zau | apply Kd.Zaz)); exact (Kd.Za2 (Kd.Za1 (p := ⟨gb114, 2, none⟩) (Kd.Zbc HO127.out BK114.out (by decide)) (fun _ hk => hk.2) (.slice Ao18 y125.length co18)) (fun _ h_ => h_.1))))) (Zan (by repeat (first | (with_reducible first | exact HB.out | apply Zab | apply Zaa | apply Zad | refine Zac ?_ GE114.out | refine Zac ?_ GE115.out) | exact HB.out)))); have n3_ := Za.mk (Zap (g := gb114) (o := .cells #[.int .i64 a0_0, .slice Ao12 y119.length co12, .slice Ao18 y125.length co18, .int .i64 a0_3, .int .i64 a0_4, .slice A0_5 l0_5.length c0_5, .int .i64 a0_6] 31 (0, 0)) (by (with_reducible repeat (first | refine Zag ?_ _ | refine Zai ?_ | refine Zae ?_ _)); refine Zaq (cs := #[.int .i64 a0_0, .slice Ao12 y119.length co12, .slice A0_2 l0_2.length c0_2, .int .i64 a0_3, .int .i64 a0_4, .slice A0_5 l0_5.length c0_5, .int .i64 a0_6]) ?_ 2 _ rfl; (with_reducible repeat (first | refine Zag ?_ _ | refine Zai ?_ | refine Zae ?_ _)); exact BK114.out) hb); have n4_ := Za.mk (Zap (g := gb115) (o := .cells #[.int .i64 0, .slice none 0 0, .slice none 0 0, .int .i64 0, .int .i64 0, .slice none 0 0, .int .i64 0] 31 (0, 0)) (by (with_reducible repeat (first | refine Zag ?_ _ | refine Zai ?_ | refine Zae ?_ _)); refine Zav ?_ NB115_114.out _; (with_reducible repeat (first | refine Zag ?_ _ | refine Zai ?_ | refine Zae ?_ _)); exact BK115.out) hb); have n5_ := Za.mk (Zaf (by repeat (first | (with_reducible first | exact HB.out | apply Zab | apply Zaa | apply Zad | refine Zac ?_ GE114.out | refine Zac ?_ GE115.out) | exact HB.out)) hb); clear HO121; clear HO127; clear BK114; clear BK115; clear HB; have HO121 := n0_; have HO127 := n1_; have HO130 := n2_; have BK114 := n3_; have BK115 := n4_; have HB := n5_; clear n0_ n1_ n2_ n3_ n4_ n5_; (try clear hb); (try clear hb2); (try clear hk); (try clear hi); (try clear ho0); obtain ⟨Ao21, co21, eo21⟩ := Kd.Zdr HO130.out; subst eo21; obtain ⟨hcz22_0, hcz22_1, hcz22_2, hcz22_3, hcz22_4, hcz22_5, hcz22_6, hfz22_0, hfz22_1, hfz22_2, hfz22_3, hfz22_4, hfz22_5, hfz22_6⟩ := Zdl BK114.out; obtain ⟨hcz23_0, hcz23_1, hcz23_2, hcz23_3, hcz23_4, hcz23_5, hcz23_6, hfz23_0, hfz23_1, hfz23_2, hfz23_3, hfz23_4, hfz23_5, hfz23_6⟩ := Zdl BK115.out))
 refine bodyPost_ret (results_cell_row rfl _ _ gb115 31 #[.int .i64 a0_0, .slice Ao12 y119.length co12, .slice Ao18 y125.length co18, .int .i64 a0_3, .int .i64 a0_4, .slice Ao21 t128.length co21, .int .i64 a0_6] (0, 0) _ rfl (by (with_reducible repeat (first | refine Zag ?_ _ | refine Zai ?_ | refine Zae ?_ _)); refine Zaq (cs := #[.int .i64 a0_0, .slice Ao12 y119.length co12, .slice Ao18 y125.length co18, .int .i64 a0_3, .int .i64 a0_4, .slice Ao21 t128.length co21, .int .i64 0]) ?_ 6 _ rfl; (with_reducible repeat (first | refine Zag ?_ _ | refine Zai ?_ | refine Zae ?_ _)); refine Zaq (cs := #[.int .i64 a0_0, .slice Ao12 y119.length co12, .slice Ao18 y125.length co18, .int .i64 a0_3, .int .i64 a0_4, .slice none 0 0, .int .i64 0]) ?_ 5 _ rfl; (with_reducible repeat (first | refine Zag ?_ _ | refine Zai ?_ | refine Zae ?_ _)); refine Zaq (cs := #[.int .i64 a0_0, .slice Ao12 y119.length co12, .slice Ao18 y125.length co18, .int .i64 a0_3, .int .i64 0, .slice none 0 0, .int .i64 0]) ?_ 4 _ rfl; (with_reducible repeat (first | refine Zag ?_ _ | refine Zai ?_ | refine Zae ?_ _)); refine Zaq (cs := #[.int .i64 a0_0, .slice Ao12 y119.length co12, .slice Ao18 y125.length co18, .int .i64 0, .int .i64 0, .slice none 0 0, .int .i64 0]) ?_ 3 _ rfl; (with_reducible repeat (first | refine Zag ?_ _ | refine Zai ?_ | refine Zae ?_ _)); refine Zaq (cs := #[.int .i64 a0_0, .slice Ao12 y119.length co12, .slice none 0 0, .int .i64 0, .int .i64 0, .slice none 0 0, .int .i64 0]) ?_ 2 _ rfl; (with_reducible repeat (first | refine Zag ?_ _ | refine Zai ?_ | refine Zae ?_ _)); refine Zaq (cs := #[.int .i64 a0_0, .slice none 0 0, .slice none 0 0, .int .i64 0, .int .i64 0, .slice none 0 0, .int .i64 0]) ?_ 1 _ rfl; (with_reducible repeat (first | refine Zag ?_ _ | refine Zai ?_ | refine Zae ?_ _)); refine Zaq (cs := #[.int .i64 0, .slice none 0 0, .slice none 0 0, .int .i64 0, .int .i64 0, .slice none 0 0, .int .i64 0]) ?_ 0 _ rfl; (with_reducible repeat (first | refine Zag ?_ _ | refine Zai ?_ | refine Zae ?_ _)); refine Zav ?_ NB115_114.out _; (with_reducible repeat (first | refine Zag ?_ _ | refine Zai ?_ | refine Zae ?_ _)); exact BK115.out) Try.underlying31 rfl (by kernel_rfl)) rfl ?_
 exact ⟨_, _, _, by first | rfl | (simp [Zar, Zas] <;> rfl) | (simp [*, Zar, Zas] <;> rfl), by (with_reducible repeat (first | apply Kd.Zat | apply Kd.Zau | apply Kd.Zaz)); exact Kd.Za2 (Kd.Za1 (p := ⟨gb115, 6, none⟩) (Kd.Za1 (p := ⟨gb115, 5, none⟩) (Kd.Za1 (p := ⟨gb115, 4, none⟩) (Kd.Za1 (p := ⟨gb115, 3, none⟩) (Kd.Za1 (p := ⟨gb115, 2, none⟩) (Kd.Za1 (p := ⟨gb115, 1, none⟩) (Kd.Za1 (p := ⟨gb115, 0, none⟩) (Kd.Za1 (p := ⟨gb114, 5, none⟩) (Kd.Zbc (Kd.Zbc HO121.out BK114.out (by decide)) BK115.out (by decide)) (fun _ hk => hk.1.2) (.slice Ao21 t128.length co21)) (fun _ hk => hk.2) (.int .i64 a0_0)) (fun _ hk => hk.2) (.slice Ao12 y119.length co12)) (fun _ hk => hk.2) (.slice Ao18 y125.length co18)) (fun _ hk => hk.2) (.int .i64 a0_3)) (fun _ hk => hk.2) (.int .i64 a0_4)) (fun _ hk => hk.2) (.slice Ao21 t128.length co21)) (fun _ hk => hk.2) (.int .i64 a0_6)) (fun _ hk => hk.1.1.2), by (with_reducible repeat (first | apply Kd.Zat | apply Kd.Zau | apply Kd.Zaz)); exact Kd.Za2 (Kd.Za1 (p := ⟨gb115, 6, none⟩) (Kd.Za1 (p := ⟨gb115, 5, none⟩) (Kd.Za1 (p := ⟨gb115, 4, none⟩) (Kd.Za1 (p := ⟨gb115, 3, none⟩) (Kd.Za1 (p := ⟨gb115, 2, none⟩) (Kd.Za1 (p := ⟨gb115, 1, none⟩) (Kd.Za1 (p := ⟨gb115, 0, none⟩) (Kd.Za1 (p := ⟨gb114, 5, none⟩) (Kd.Zbc (Kd.Zbc HO127.out BK114.out (by decide)) BK115.out (by decide)) (fun _ hk => hk.1.2) (.slice Ao21 t128.length co21)) (fun _ hk => hk.2) (.int .i64 a0_0)) (fun _ hk => hk.2) (.slice Ao12 y119.length co12)) (fun _ hk => hk.2) (.slice Ao18 y125.length co18)) (fun _ hk => hk.2) (.int .i64 a0_3)) (fun _ hk => hk.2) (.int .i64 a0_4)) (fun _ hk => hk.2) (.slice Ao21 t128.length co21)) (fun _ hk => hk.2) (.int .i64 a0_6)) (fun _ hk => hk.1.1), by (with_reducible repeat (first | apply Kd.Zbj | apply Kd.Zbk | apply Kd.Zbr)); exact Kd.Zcj (Kd.Zbv (p := ⟨gb115, 6, none⟩) (Kd.Zbv (p := ⟨gb115, 5, none⟩) (Kd.Zbv (p := ⟨gb115, 4, none⟩) (Kd.Zbv (p := ⟨gb115, 3, none⟩) (Kd.Zbv (p := ⟨gb115, 2, none⟩) (Kd.Zbv (p := ⟨gb115, 1, none⟩) (Kd.Zbv (p := ⟨gb115, 0, none⟩) (Kd.Zbv (p := ⟨gb114, 5, none⟩) (Kd.Zcm (Kd.Zcm HO130.out BK114.out (by decide)) BK115.out (by decide)) (fun _ hk => hk.1.2) (.slice Ao21 t128.length co21)) (fun _ hk => hk.2) (.int .i64 a0_0)) (fun _ hk => hk.2) (.slice Ao12 y119.length co12)) (fun _ hk => hk.2) (.slice Ao18 y125.length co18)) (fun _ hk => hk.2) (.int .i64 a0_3)) (fun _ hk => hk.2) (.int .i64 a0_4)) (fun _ hk => hk.2) (.slice Ao21 t128.length co21)) (fun _ hk => hk.2) (.int .i64 a0_6)) (fun _ hk => ⟨hk.1.1.1.2, hk.1.1.2⟩), by repeat (first | (with_reducible first | exact HB.out | apply Zab | apply Zaa | apply Zad | refine Zac ?_ GE114.out | refine Zac ?_ GE115.out) | exact HB.out)⟩
end Go.Proofs.Ytkgjaklnbgdmiaa.P
