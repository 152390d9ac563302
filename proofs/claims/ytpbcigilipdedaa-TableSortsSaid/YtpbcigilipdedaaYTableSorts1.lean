/- Proved: the statement TableSorts. Conditions: none but those of the statement. -/
import Derived.Test.YtpbcigilipdedaaZ1
import Derived.Lib.SmallJoins
import Derived.Test.YtpbcigilipdedaaZ3
import Derived.Test.YtpbcigilipdedaaZ2
import Derived.Test.YtpbcigilipdedaaV1
import Derived.Deep.Slices
import Derived.ChangeArms
import Derived.DataReads
import Derived.SizedLaws
import Derived.Test.YtpbcigilipdedaaRows
import Derived.WalkKit
import Derived.ProofKit
import Derived.OpenShut
import Derived.ShutString
import Derived.ChangeOld
import Derived.Below

/- Whole numbers written into rows that a call has made: rows of the same lengths they stay. -/
namespace Go.Proofs.Ytpbcigilipdedaa.P
open Go.RowKit Go.Proofs.YtpbcigilipdedaaW.PrintWords Go.Proofs.YtpbcigilipdedaaW.PrintLast Go.Proofs.YtpbcigilipdedaaW.PrintMore
set_option linter.unusedVariables false
set_option linter.unusedSimpArgs false

def AllInt (cs : List Value) : Prop := ∀ u ∈ cs, ∃ z, u = Value.int .i64 z
/-- Elements that are whole numbers, whatever numbers. -/
structure Free {α : Type} (d : Kd α) : Prop where
  one : 0 < d.sz
  ints : ∀ {w base ok x cs}, d.M w base ok x cs → AllInt cs
  still : ∀ {w base ok x cs}, d.M w base ok x cs → ∀ w' base' ok', d.M w' base' ok' x cs
  any : ∀ cs : List Value, cs.length = d.sz → AllInt cs → ∃ x, ∀ w base ok, d.M w base ok x cs
theorem free_int : Free (Kd.int .i64) := by
  refine ⟨Nat.one_pos, ?_, fun h _ _ _ => h, ?_⟩
  · intro w base ok x cs h u hu
    rw [show cs = [Value.int .i64 x] from h] at hu
    exact ⟨x, by simpa using hu⟩
  · intro cs hl hA
    obtain ⟨u, rfl⟩ := List.length_eq_one_iff.1 (show cs.length = 1 from hl)
    obtain ⟨z, rfl⟩ := hA u (by simp)
    exact ⟨z, fun _ _ _ => rfl⟩
theorem free_range : Free k41 := by
  refine ⟨Nat.two_pos, ?_, fun {w base ok x cs} h w' base' ok' => by rw [k41_openM h]; exact k41_mkM w' base' ok' x, ?_⟩
  · intro w base ok x cs h u hu
    rw [k41_openM h] at hu
    simp at hu
    rcases hu with rfl | rfl
    · exact ⟨_, rfl⟩
    · exact ⟨_, rfl⟩
  · intro cs hl hA
    obtain ⟨u, v, rfl⟩ : ∃ u v, cs = [u, v] := by
      match cs, hl with
      | [u, v], _ => exact ⟨u, v, rfl⟩
    obtain ⟨z, rfl⟩ := hA u (by simp)
    obtain ⟨y, rfl⟩ := hA v (by simp)
    exact ⟨⟨z, y⟩, fun w base ok => k41_mkM w base ok ⟨z, y⟩⟩
/-- Any numbers are a row. -/
theorem Free.reps {α : Type} {d : Kd α} (hF : Free d) : ∀ (n : Nat) (cs : List Value), cs.length = n * d.sz → AllInt cs → ∃ xs : List α, xs.length = n ∧ ∀ w base ok, Reps (d.M w base ok) d.sz xs cs
  | 0, cs, hl, _ => ⟨[], rfl, fun w base ok => by
      rw [Nat.zero_mul] at hl
      rw [List.length_eq_zero_iff.1 hl]
      exact Reps.none _ _⟩
  | n + 1, cs, hl, hA => by
    rw [Nat.add_mul, Nat.one_mul] at hl
    obtain ⟨x, hx⟩ := hF.any (cs.take d.sz) (by rw [List.length_take]; omega) (fun u hu => hA u (List.mem_of_mem_take hu))
    obtain ⟨xs, hxl, hxs⟩ := Free.reps hF n (cs.drop d.sz) (by rw [List.length_drop]; omega) (fun u hu => hA u (List.mem_of_mem_drop hu))
    refine ⟨x :: xs, by simp [hxl], fun w base ok => ?_⟩
    have := Reps.cons_ (hx w base ok) (by rw [List.length_take]; omega) (hxs w base ok)
    rwa [List.take_append_drop] at this
theorem Free.all {α : Type} {d : Kd α} (hF : Free d) {w : World} {base : Nat} {ok : Nat → Prop} {xs : List α} {cs : List Value} (h : Reps (d.M w base ok) d.sz xs cs) : AllInt cs := by
  intro u hu
  obtain ⟨j, hj, rfl⟩ := List.mem_iff_getElem.1 hu
  have hl := h.1
  have hq : j / d.sz < xs.length := Nat.div_lt_of_lt_mul (by rw [Nat.mul_comm, ← hl]; exact hj)
  refine hF.ints (h.2 (j / d.sz) _ (List.getElem?_eq_getElem hq)) _ ?_
  refine List.mem_iff_getElem.2 ⟨j % d.sz, ?_, ?_⟩
  · have h1 := Nat.mod_lt j hF.one
    have h2 := Nat.div_add_mod j d.sz
    rw [Nat.mul_comm] at h2
    rw [List.length_take, List.length_drop]
    omega
  · have h2 := Nat.div_add_mod j d.sz
    rw [Nat.mul_comm] at h2
    simp only [List.getElem_take, List.getElem_drop, h2]
theorem heap_setCell_same {w : World} {h k : Nat} {cells : Array Value} {e : TypeId} {fr : Nat × Nat} (v : Value) (hb : w.heap[h]? = some (.cells cells e fr)) : (w.setCell ⟨h, k, none⟩ v).heap[h]? = some (.cells (cells.setIfInBounds k v) e fr) :=
  Go.Joins.block_setCell hb v
theorem R_spoil {α : Type} {d : Kd α} (hF : Free d) {e : Nat} {w : World} {base : Nat} {ok : Nat → Prop} {v : Value} {xs : List α} (H : d.R e w base ok v xs) (h k : Nat) (z : Int) :
    ∃ xs' : List α, xs'.length = xs.length ∧ d.R e (w.setCell ⟨h, k, none⟩ (.int .i64 z)) base ok v xs' := by
  obtain ⟨hP, inner, hown, hreps⟩ := H
  by_cases hv : v.ownBlock = some h
  · rcases hown.2 with ⟨rfl, h0⟩ | ⟨g, cap, cur, rfl, hg, hb, hn, hcap, hcs, htk⟩
    · simp [Value.ownBlock] at hv
    · obtain rfl : g = h := by simpa [Value.ownBlock] using hv
      have hlen := hreps.1
      have hA : AllInt (inner.set k (.int .i64 z)) := fun u hu => by
        rcases List.mem_or_eq_of_mem_set hu with hu | rfl
        · exact hF.all hreps u hu
        · exact ⟨z, rfl⟩
      obtain ⟨xs', hl', hr'⟩ := hF.reps xs.length (inner.set k (.int .i64 z)) (by rw [List.length_set]; exact hlen) hA
      refine ⟨xs', hl', hP, inner.set k (.int .i64 z), ⟨by rw [List.length_set, hl']; exact hown.1, .inr ⟨g, cap, cur.setIfInBounds k (.int .i64 z), by rw [hl'], hg, heap_setCell_same _ hb, by rw [hl']; exact hn, hcap, by rw [Array.size_setIfInBounds]; exact hcs, ?_⟩⟩, hr' _ _ _⟩
      rw [hl', Array.toList_setIfInBounds, List.take_set, htk]
  · refine ⟨xs, rfl, hP, inner, own_move hown (fun q hq => Below.heap_setCell w ⟨h, k, none⟩ _ q (fun e => hv (by rw [hq, e]))), hreps.imp_ (fun _ _ hp => hF.still hp _ _ _)⟩
/-- Rows in a row: a number written into one of them. -/
theorem RR_spoil {α : Type} {d : Kd α} (hF : Free d) {e E : Nat} {w : World} {base : Nat} {ok : Nat → Prop} {v : Value} {xs : List (List α)} (H : (Kd.slice e d).R E w base ok v xs) (h k : Nat) (z : Int) (hne : v.ownBlock ≠ some h) :
    ∃ xs' : List (List α), xs'.map List.length = xs.map List.length ∧ (Kd.slice e d).R E (w.setCell ⟨h, k, none⟩ (.int .i64 z)) base ok v xs' := by
  obtain ⟨hP, inner, hown, hreps⟩ := H
  have each : ∀ (xs : List (List α)) (inner : List Value), Reps ((Kd.slice e d).M w base (fun k => ok k ∧ some k ≠ v.ownBlock)) 1 xs inner → ∃ xs' : List (List α), xs'.map List.length = xs.map List.length ∧ Reps ((Kd.slice e d).M (w.setCell ⟨h, k, none⟩ (.int .i64 z)) base (fun k => ok k ∧ some k ≠ v.ownBlock)) 1 xs' inner := by
    intro xs
    induction xs with
    | nil =>
      intro inner hr
      have : inner = [] := List.length_eq_zero_iff.1 (by rw [hr.1]; simp)
      subst this
      exact ⟨[], rfl, Reps.none _ _⟩
    | cons x xs ih =>
      intro inner hr
      obtain ⟨u, inner, rfl⟩ : ∃ u t, inner = u :: t := by
        cases inner with
        | nil => have := hr.1; simp at this
        | cons u t => exact ⟨u, t, rfl⟩
      obtain ⟨u', hu, hx⟩ : (Kd.slice e d).M w base (fun k => ok k ∧ some k ≠ v.ownBlock) x [u] := by
        have := hr.2 0 x rfl
        simpa using this
      obtain rfl : u = u' := List.singleton_inj.1 hu
      have hrest : Reps ((Kd.slice e d).M w base (fun k => ok k ∧ some k ≠ v.ownBlock)) 1 xs inner := by
        refine ⟨by have := hr.1; simp at this ⊢; omega, fun j p hj => ?_⟩
        have := hr.2 (j + 1) p (by simpa using hj)
        simpa [Nat.add_mul] using this
      obtain ⟨x', hxl, hx'⟩ := R_spoil hF hx h k z
      obtain ⟨xs', hl', hr'⟩ := ih inner hrest
      exact ⟨x' :: xs', by simp [hxl, hl'], Reps.cons_ (c := [u]) ⟨u, rfl, hx'⟩ rfl hr'⟩
  obtain ⟨xs', hl', hr'⟩ := each xs inner hreps
  have hlen : xs'.length = xs.length := by have := congrArg List.length hl'; simpa using this
  refine ⟨xs', hl', hP, inner, ?_, hr'⟩
  rw [hlen]
  exact own_move hown (fun q hq => Below.heap_setCell w ⟨h, k, none⟩ _ q (fun e => hne (by rw [hq]; exact congrArg some e)))
/-- What a walk wants to know of it at one element (cell k of it, of d.sz a piece). -/
theorem RR_at {α : Type} {d : Kd α} (hF : Free d) {e E : Nat} {w : World} {base : Nat} {ok : Nat → Prop} {v : Value} {xs : List (List α)} (H : (Kd.slice e d).R E w base ok v xs) (i : Nat) (hi : i < xs.length) (k : Nat) (hk : k < xs[i].length * d.sz) :
    ∃ g c h ci, v = .slice (some ⟨g, 0, none⟩) xs.length c ∧ w.cell? ⟨g, i, none⟩ = some (.slice (some ⟨h, 0, none⟩) xs[i].length ci) ∧ xs[i].length ≤ ci ∧ base ≤ g ∧ base ≤ h ∧ (∃ u, w.cell? ⟨h, k, none⟩ = some (.int .i64 u)) ∧ w.frozen? ⟨h, k, none⟩ = false ∧ v.ownBlock ≠ some h ∧ h < w.heap.size := by
  obtain ⟨hP, inner, hown, hreps⟩ := H
  rcases hown.2 with ⟨rfl, h0⟩ | ⟨g, cap, cur, rfl, hg, hb, hn, hcap, hcs, htk⟩
  · omega
  · obtain ⟨u, hu, hP2, inner2, hown2, hreps2⟩ := hreps.2 i _ (List.getElem?_eq_getElem hi)
    rcases hown2.2 with ⟨rfl, h1⟩ | ⟨h, cap2, cur2, rfl, hg2, hb2, hn2, hcap2, hcs2, htk2⟩
    · rw [h1] at hk; omega
    · have hl1 := hreps.1
      have hl2 := hreps2.1
      have hcell : cur[i]? = some (.slice (some ⟨h, 0, none⟩) xs[i].length cap2) := by
        have h3 : (List.take ((Kd.slice e d).sz) (List.drop (i * (Kd.slice e d).sz) inner))[0]? = some (.slice (some ⟨h, 0, none⟩) xs[i].length cap2) := by rw [hu]; rfl
        rw [show (Kd.slice e d).sz = 1 from rfl, List.getElem?_take_of_lt (by omega), List.getElem?_drop, Nat.mul_one, Nat.add_zero, ← htk] at h3
        rw [List.getElem?_take_of_lt (by show i < xs.length * 1; omega), Array.getElem?_toList] at h3
        exact h3
      have hAI := hF.all hreps2
      have hk2 : k < inner2.length := by rw [hl2]; exact hk
      obtain ⟨z, hz⟩ := hAI inner2[k] (List.getElem_mem hk2)
      have hcell2 : cur2[k]? = some (.int .i64 z) := by
        have h3 : inner2[k]? = some (.int .i64 z) := by rw [List.getElem?_eq_getElem hk2, hz]
        rw [← htk2, List.getElem?_take_of_lt hk, Array.getElem?_toList] at h3
        exact h3
      refine ⟨g, cap, h, cap2, rfl, (blk_cell hb i).trans hcell, hn2, hg, hg2, ⟨z, (blk_cell hb2 k).trans hcell2⟩, by simp [World.frozen?, hb2], ?_, (Array.getElem?_eq_some_iff.1 hb2).1⟩
      intro e2
      have := (hP2 h rfl).2
      exact this e2.symm
theorem RR_head {α : Type} {d : Kd α} {e E : Nat} {w : World} {base : Nat} {ok : Nat → Prop} {v : Value} {xs : List (List α)} (H : (Kd.slice e d).R E w base ok v xs) (i : Nat) (hi : i < xs.length) :
    ∃ g c Ah ci, v = .slice (some ⟨g, 0, none⟩) xs.length c ∧ w.cell? ⟨g, i, none⟩ = some (.slice Ah xs[i].length ci) ∧ base ≤ g := by
  obtain ⟨hP, inner, hown, hreps⟩ := H
  rcases hown.2 with ⟨rfl, h0⟩ | ⟨g, cap, cur, rfl, hg, hb, hn, hcap, hcs, htk⟩
  · omega
  · have hC := (Kd.R_reads' (d := Kd.slice e d) (e := E) (base := base) (ok := ok) ⟨hP, inner, hown, hreps⟩).2.2
    obtain ⟨ad, A0, c0, hA, hc, _, _⟩ := at_slice hC i hi
    obtain rfl := Option.some.inj hA
    rw [add_zero_block] at hc
    exact ⟨g, cap, A0, c0, rfl, hc, hg⟩
end Go.Proofs.Ytpbcigilipdedaa.P

-- Written by wip/tools/px.py out of the translation. Lean checks it.
namespace Go.Proofs.Ytpbcigilipdedaa.P
open Go.RowKit Go.Proofs.YtpbcigilipdedaaW.PrintWords Go.Proofs.YtpbcigilipdedaaW.PrintLast Go.Proofs.YtpbcigilipdedaaW.PrintMore
attribute [local go_sem] max2_int min2_int max_two min_two max_three min_three max_four min_four   -- for this text's walks alone
set_option linter.unusedVariables false
set_option linter.unusedSimpArgs false

/-! ### secateurref06_Order: function 33 -/
mutual
def secateurref06_Order.l0 : Nat → List Int → List Int → Int → Option (Int)
 | 0, _, _, _ => none
 | k + 1, x0, x1, x5 => if x5 < (x0.length : Int) then (secateurref06_Order.j1 k x0 x1 x5 (decide (x5 < (x1.length : Int)))) else (secateurref06_Order.j1 k x0 x1 x5 false)
def secateurref06_Order.j1 : Nat → List Int → List Int → Int → Bool → Option (Int)
 | 0, _, _, _, _ => none
 | k + 1, x0, x1, x5, x15 => if x15 = true then (if 0 ≤ x5 then (if x5 < (x0.length : Int) then (if x5 < (x1.length : Int) then (if (rd x0 x5) < (rd x1 x5) then (some (-1)) else (if (rd x0 x5) > (rd x1 x5) then (some 1) else (secateurref06_Order.l0 k x0 x1 (wrap64 (x5 + 1))))) else (none)) else (none)) else (none)) else (if (x0.length : Int) < (x1.length : Int) then (some (-1)) else (if (x0.length : Int) > (x1.length : Int) then (some 1) else (some 0)))
end
def secateurref06_Order.f (k : Nat) (l0 : List Int) (l1 : List Int) : Option (Int) := secateurref06_Order.l0 k l0 l1 0
theorem secateurref06_Order.mono_l : ∀ k, (∀ y0 y1 y2, LeO (secateurref06_Order.l0 k y0 y1 y2) (secateurref06_Order.l0 (k + 1) y0 y1 y2)) ∧ (∀ y0 y1 y2 y3, LeO (secateurref06_Order.j1 k y0 y1 y2 y3) (secateurref06_Order.j1 (k + 1) y0 y1 y2 y3))
 | 0 => ⟨fun _ _ _ r h => by simp [secateurref06_Order.l0] at h, fun _ _ _ _ r h => by simp [secateurref06_Order.j1] at h⟩
 | k + 1 => by
  obtain ⟨ih0, ih1⟩ := secateurref06_Order.mono_l k
  refine ⟨?_, ?_⟩
  ·intro y0 y1 y2
   unfold secateurref06_Order.l0
   repeat' first
   | (with_reducible exact ih0 _ _ _)
   | (with_reducible exact ih1 _ _ _ _)
   | (with_reducible exact LeO.refl _)
   | (with_reducible exact LeO.none _)
   | (with_reducible refine LeO.ite ?_ ?_)
   | (with_reducible refine LeO.bind ?_ (fun _ => ?_))
   | exact ih0 _ _ _
   | exact ih1 _ _ _ _
   | exact LeO.none _
   | refine LeO.ite ?_ ?_
   | refine LeO.bind ?_ (fun _ => ?_)
  ·intro y0 y1 y2 y3
   unfold secateurref06_Order.j1
   repeat' first
   | (with_reducible exact ih0 _ _ _)
   | (with_reducible exact ih1 _ _ _ _)
   | (with_reducible exact LeO.refl _)
   | (with_reducible exact LeO.none _)
   | (with_reducible refine LeO.ite ?_ ?_)
   | (with_reducible refine LeO.bind ?_ (fun _ => ?_))
   | exact ih0 _ _ _
   | exact ih1 _ _ _ _
   | exact LeO.none _
   | refine LeO.ite ?_ ?_
   | refine LeO.bind ?_ (fun _ => ?_)
theorem secateurref06_Order.mono : ∀ a0 a1 k, LeO (secateurref06_Order.f k a0 a1) (secateurref06_Order.f (k + 1) a0 a1) := by
 intro a0 a1 k
 obtain ⟨ih0, ih1⟩ := secateurref06_Order.mono_l k
 unfold secateurref06_Order.f
 repeat' first
   | (with_reducible exact ih0 _ _ _)
   | (with_reducible exact ih1 _ _ _ _)
   | (with_reducible exact LeO.refl _)
   | (with_reducible exact LeO.none _)
   | (with_reducible refine LeO.ite ?_ ?_)
   | (with_reducible refine LeO.bind ?_ (fun _ => ?_))
   | exact ih0 _ _ _
   | exact ih1 _ _ _ _
   | exact LeO.none _
   | refine LeO.ite ?_ ?_
   | refine LeO.bind ?_ (fun _ => ?_)
set_option maxHeartbeats 8000000 in
set_option maxRecDepth 100000 in
theorem secateurref06_Order.calls (k : Nat) (A0 : Option Addr) (c0 : Nat) (l0 : List Int) (A1 : Option Addr) (c1 : Nat) (l1 : List Int) (r : Int) (w : World) (hr0 : Kd.C (Kd.int .i64) w A0 l0.length l0) (hc0 : l0.length ≤ c0) (hr1 : Kd.C (Kd.int .i64) w A1 l1.length l1) (hc1 : l1.length ≤ c1) (h : secateurref06_Order.f k l0 l1 = some r) :
  Calls Try.prog 33 #[.slice A0 l0.length c0, .slice A1 l1.length c1] w fun e w' => e = .returned (.int .i64 r) ∧ Drawn0 w w' := by
 have HR0 := Aside0.mk hr0
 have HC0 := Aside0.mk hc0
 clear hr0 hc0
 have HR1 := Aside0.mk hr1
 have HC1 := Aside0.mk hc1
 clear hr1 hc1
 have H : (secateurref06_Order.l0 k l0 l1 0) = some r := h
 clear h
 have H' := Aside0.mk H
 clear H
 go_enter Try.func33, Try.ntmps33
 go_wp2
 repeat (go_quiet (fail); try go_wp2)
 go_loopg [5] k (fun kq v5 w' => ∃ (x5_1 : Int), v5 = .int .i64 x5_1 ∧ Aside0 (secateurref06_Order.l0 kq l0 l1 x5_1 = some r) ∧ Aside0 (kq ≤ k) ∧ Drawn0 w w')
 case atStart => exact ⟨(0), (by first | rfl | (simp; done) | (simp [*]; done)), H', ⟨Nat.le_refl _⟩, by repeat (first | exact Drawn0.refl _ | apply Drawn0.step)⟩
 case round =>
  clear H'
  try clear c1
  try clear p2
  obtain ⟨x5_1, rfl, HA, HK1, ⟨m1, rfl⟩⟩ := hrel
  cases gk with
  | zero => exact absurd HA.out (by simp [secateurref06_Order.l0])
  | succ k1 =>
   have H := HA.out
   clear HA
   simp only [secateurref06_Order.l0] at H
   have HC3 := Aside0.mk H
   clear H
   go_upto_region 2 with (fail)
   repeat (go_quiet (fail); go_upto_region 2 with (fail))
   go_cut [15] (fun v15 wc => ∃ (kq : Nat) (x15_2 : Bool), v15 = .bool x15_2 ∧ Aside0 (secateurref06_Order.j1 kq l0 l1 x5_1 x15_2 = some r) ∧ Aside0 (kq ≤ k1) ∧ Drawn0 w wc)
   case first =>
    have H := HC3.out
    clear HC3
    by_cases c4 : x5_1 < (l0.length : Int)
    ·rw [if_pos c4] at H
     have c4b0 : decide (x5_1 < (l0.length : Int)) = true := decide_eq_true c4
     clear c4
     (first | rw [c4b0] | (simp only [i64_w, i32_w]; rw [c4b0]) | skip)
     have H' := Aside0.mk H
     clear H
     go_wp2
     repeat (go_quiet (fail); try go_wp2)
     go_meet
     case rel => exact ⟨_, (decide (x5_1 < (l1.length : Int))), (by first | rfl | (simp; done) | (simp [*]; done)), H', ⟨by have := HK1.out; first | omega | exact Nat.le_refl _⟩, by repeat (first | exact Drawn0.refl _ | apply Drawn0.step)⟩
    ·rw [if_neg c4] at H
     have c4b0 : decide (x5_1 < (l0.length : Int)) = false := decide_eq_false c4
     clear c4
     (first | rw [c4b0] | (simp only [i64_w, i32_w]; rw [c4b0]) | skip)
     have H' := Aside0.mk H
     clear H
     go_wp2
     repeat (go_quiet (fail); try go_wp2)
     go_meet
     case rel => exact ⟨_, (false), (by first | rfl | (simp; done) | (simp [*]; done)), H', ⟨by have := HK1.out; first | omega | exact Nat.le_refl _⟩, by repeat (first | exact Drawn0.refl _ | apply Drawn0.step)⟩
   case rest =>
    clear HC3
    try clear c1
    try clear p2
    try clear c3
    try clear c4
    try clear c4b0
    try clear p2
    obtain ⟨kq, x15_2, rfl, HA, HJ2, ⟨mc2, rfl⟩⟩ := hcut
    cases kq with
    | zero => exact absurd HA.out (by simp [secateurref06_Order.j1])
    | succ kj2 =>
     have H := HA.out
     clear HA
     simp only [secateurref06_Order.j1] at H
     by_cases c5 : x15_2 = true
     ·subst c5
      have H1 : (if 0 ≤ x5_1 then (if x5_1 < (l0.length : Int) then (if x5_1 < (l1.length : Int) then (if (rd l0 x5_1) < (rd l1 x5_1) then (some (-1)) else (if (rd l0 x5_1) > (rd l1 x5_1) then (some 1) else (secateurref06_Order.l0 kj2 l0 l1 (wrap64 (x5_1 + 1))))) else (none)) else (none)) else (none)) = some r := by rw [if_pos rfl] at H; exact H
      clear H
      have H := H1
      clear H1
      by_cases c6 : 0 ≤ x5_1
      ·rw [if_pos c6] at H
       have c6b0 : decide (0 ≤ x5_1) = true := decide_eq_true c6
       clear c6
       by_cases c7 : x5_1 < (l0.length : Int)
       ·rw [if_pos c7] at H
        have c7b0 : decide (x5_1 < (l0.length : Int)) = true := decide_eq_true c7
        clear c7
        by_cases c8 : x5_1 < (l1.length : Int)
        ·rw [if_pos c8] at H
         have c8b0 : decide (x5_1 < (l1.length : Int)) = true := decide_eq_true c8
         clear c8
         by_cases c9 : (rd l0 x5_1) < (rd l1 x5_1)
         ·rw [if_pos c9] at H
          have c9b0 : decide ((rd l0 x5_1) < (rd l1 x5_1)) = true := decide_eq_true c9
          clear c9
          obtain rfl := Option.some.inj H
          have p381 : 0 ≤ (x5_1 : Int) := of_decide_eq_true (by first | (with_reducible assumption) | assumption)
          have q381 : x5_1 < (l0.length : Int) := of_decide_eq_true (by first | (with_reducible assumption) | assumption)
          obtain ⟨ad381, e381, hx381_0⟩ := Kd.at_int HR0.out x5_1 p381 q381
          cases e381
          replace p381 := eq_true p381
          replace q381 := eq_true q381
          have p382 : 0 ≤ (x5_1 : Int) := of_decide_eq_true (by first | (with_reducible assumption) | assumption)
          have q382 : x5_1 < (l1.length : Int) := of_decide_eq_true (by first | (with_reducible assumption) | assumption)
          obtain ⟨ad382, e382, hx382_0⟩ := Kd.at_int HR1.out x5_1 p382 q382
          cases e382
          replace p382 := eq_true p382
          replace q382 := eq_true q382
          go_wp2
          repeat (go_quiet (fail); try go_wp2)
          go_ret
          exact ⟨by first | rfl | (simp; done) | (simp [*]; done), by repeat (first | exact Drawn0.refl _ | apply Drawn0.step)⟩
         ·rw [if_neg c9] at H
          have c9b0 : decide ((rd l0 x5_1) < (rd l1 x5_1)) = false := decide_eq_false c9
          clear c9
          by_cases c10 : (rd l0 x5_1) > (rd l1 x5_1)
          ·rw [if_pos c10] at H
           have c10b0 : decide ((rd l1 x5_1) < (rd l0 x5_1)) = true := decide_eq_true c10
           clear c10
           obtain rfl := Option.some.inj H
           have p381 : 0 ≤ (x5_1 : Int) := of_decide_eq_true (by first | (with_reducible assumption) | assumption)
           have q381 : x5_1 < (l0.length : Int) := of_decide_eq_true (by first | (with_reducible assumption) | assumption)
           obtain ⟨ad381, e381, hx381_0⟩ := Kd.at_int HR0.out x5_1 p381 q381
           cases e381
           replace p381 := eq_true p381
           replace q381 := eq_true q381
           have p382 : 0 ≤ (x5_1 : Int) := of_decide_eq_true (by first | (with_reducible assumption) | assumption)
           have q382 : x5_1 < (l1.length : Int) := of_decide_eq_true (by first | (with_reducible assumption) | assumption)
           obtain ⟨ad382, e382, hx382_0⟩ := Kd.at_int HR1.out x5_1 p382 q382
           cases e382
           replace p382 := eq_true p382
           replace q382 := eq_true q382
           have p383 : 0 ≤ (x5_1 : Int) := of_decide_eq_true (by first | (with_reducible assumption) | assumption)
           have q383 : x5_1 < (l0.length : Int) := of_decide_eq_true (by first | (with_reducible assumption) | assumption)
           obtain ⟨ad383, e383, hx383_0⟩ := Kd.at_int HR0.out x5_1 p383 q383
           obtain rfl : ad381 = ad383 := (by injection e383)
           replace p383 := eq_true p383
           replace q383 := eq_true q383
           have p384 : 0 ≤ (x5_1 : Int) := of_decide_eq_true (by first | (with_reducible assumption) | assumption)
           have q384 : x5_1 < (l1.length : Int) := of_decide_eq_true (by first | (with_reducible assumption) | assumption)
           obtain ⟨ad384, e384, hx384_0⟩ := Kd.at_int HR1.out x5_1 p384 q384
           obtain rfl : ad382 = ad384 := (by injection e384)
           replace p384 := eq_true p384
           replace q384 := eq_true q384
           go_wp2
           repeat (go_quiet (fail); try go_wp2)
           go_ret
           exact ⟨by first | rfl | (simp; done) | (simp [*]; done), by repeat (first | exact Drawn0.refl _ | apply Drawn0.step)⟩
          ·rw [if_neg c10] at H
           have c10b0 : decide ((rd l1 x5_1) < (rd l0 x5_1)) = false := decide_eq_false c10
           clear c10
           have H' := Aside0.mk H
           clear H
           have p381 : 0 ≤ (x5_1 : Int) := of_decide_eq_true (by first | (with_reducible assumption) | assumption)
           have q381 : x5_1 < (l0.length : Int) := of_decide_eq_true (by first | (with_reducible assumption) | assumption)
           obtain ⟨ad381, e381, hx381_0⟩ := Kd.at_int HR0.out x5_1 p381 q381
           cases e381
           replace p381 := eq_true p381
           replace q381 := eq_true q381
           have p382 : 0 ≤ (x5_1 : Int) := of_decide_eq_true (by first | (with_reducible assumption) | assumption)
           have q382 : x5_1 < (l1.length : Int) := of_decide_eq_true (by first | (with_reducible assumption) | assumption)
           obtain ⟨ad382, e382, hx382_0⟩ := Kd.at_int HR1.out x5_1 p382 q382
           cases e382
           replace p382 := eq_true p382
           replace q382 := eq_true q382
           have p383 : 0 ≤ (x5_1 : Int) := of_decide_eq_true (by first | (with_reducible assumption) | assumption)
           have q383 : x5_1 < (l0.length : Int) := of_decide_eq_true (by first | (with_reducible assumption) | assumption)
           obtain ⟨ad383, e383, hx383_0⟩ := Kd.at_int HR0.out x5_1 p383 q383
           obtain rfl : ad381 = ad383 := (by injection e383)
           replace p383 := eq_true p383
           replace q383 := eq_true q383
           have p384 : 0 ≤ (x5_1 : Int) := of_decide_eq_true (by first | (with_reducible assumption) | assumption)
           have q384 : x5_1 < (l1.length : Int) := of_decide_eq_true (by first | (with_reducible assumption) | assumption)
           obtain ⟨ad384, e384, hx384_0⟩ := Kd.at_int HR1.out x5_1 p384 q384
           obtain rfl : ad382 = ad384 := (by injection e384)
           replace p384 := eq_true p384
           replace q384 := eq_true q384
           go_wp2
           repeat (go_quiet (fail); try go_wp2)
           go_roundg kj2
           case measure => have := HK1.out; have := HJ2.out; omega
           case rel => exact ⟨(wrap64 (x5_1 + 1)), (by first | rfl | (simp; done) | (simp [*]; done)), H', ⟨by have := HK1.out; have := HJ2.out; omega⟩, by repeat (first | exact Drawn0.refl _ | apply Drawn0.step)⟩
        ·rw [if_neg c8] at H
         exact absurd H (by simp)
       ·rw [if_neg c7] at H
        exact absurd H (by simp)
      ·rw [if_neg c6] at H
       exact absurd H (by simp)
     ·replace c5 := Bool.eq_false_iff.mpr c5
      subst c5
      have H1 : (if (l0.length : Int) < (l1.length : Int) then (some (-1)) else (if (l0.length : Int) > (l1.length : Int) then (some 1) else (some 0))) = some r := by rw [if_neg (show ¬ (false = true) by decide)] at H; exact H
      clear H
      have H := H1
      clear H1
      by_cases c11 : (l0.length : Int) < (l1.length : Int)
      ·rw [if_pos c11] at H
       have c11b0 : decide ((l0.length : Int) < (l1.length : Int)) = true := decide_eq_true c11
       have c11b1 : decide (l0.length < l1.length) = true := decide_eq_true (Int.ofNat_lt.mp c11)
       clear c11
       obtain rfl := Option.some.inj H
       go_wp2
       repeat (go_quiet (fail); try go_wp2)
       go_ret
       exact ⟨by first | rfl | (simp; done) | (simp [*]; done), by repeat (first | exact Drawn0.refl _ | apply Drawn0.step)⟩
      ·rw [if_neg c11] at H
       have c11b0 : decide ((l0.length : Int) < (l1.length : Int)) = false := decide_eq_false c11
       have c11b1 : decide (l0.length < l1.length) = false := decide_eq_false (fun h => c11 (Int.ofNat_lt.mpr h))
       clear c11
       by_cases c12 : (l0.length : Int) > (l1.length : Int)
       ·rw [if_pos c12] at H
        have c12b0 : decide ((l1.length : Int) < (l0.length : Int)) = true := decide_eq_true c12
        have c12b1 : decide (l1.length < l0.length) = true := decide_eq_true (Int.ofNat_lt.mp c12)
        clear c12
        obtain rfl := Option.some.inj H
        go_wp2
        repeat (go_quiet (fail); try go_wp2)
        go_ret
        exact ⟨by first | rfl | (simp; done) | (simp [*]; done), by repeat (first | exact Drawn0.refl _ | apply Drawn0.step)⟩
       ·rw [if_neg c12] at H
        have c12b0 : decide ((l1.length : Int) < (l0.length : Int)) = false := decide_eq_false c12
        have c12b1 : decide (l1.length < l0.length) = false := decide_eq_false (fun h => c12 (Int.ofNat_lt.mpr h))
        clear c12
        obtain rfl := Option.some.inj H
        go_wp2
        repeat (go_quiet (fail); try go_wp2)
        go_ret
        exact ⟨by first | rfl | (simp; done) | (simp [*]; done), by repeat (first | exact Drawn0.refl _ | apply Drawn0.step)⟩

end Go.Proofs.Ytpbcigilipdedaa.P

/- secateurref09.Sorted: lists in order, each once, by putting one in after another; the rows are those that came in. -/
namespace Go.Proofs.Ytpbcigilipdedaa.P
open Go.RowKit Go.Proofs.YtpbcigilipdedaaW.PrintWords Go.Proofs.YtpbcigilipdedaaW.PrintLast Go.Proofs.YtpbcigilipdedaaW.PrintMore
set_option linter.unusedVariables false
set_option linter.unusedSimpArgs false

theorem at_fixed {w0 w : World} {A : Option Addr} {n : Nat} {xs : List (List Int)} (h : (Kd.fixed kInts w0).C w A n xs) (k : Nat) (hk : k < xs.length) :
    ∃ ad A0 c0, A = some ad ∧ w.cell? (ad.add k) = some (.slice A0 xs[k].length c0) ∧ xs[k].length ≤ c0 ∧ Kd.C (Kd.int .i64) w0 A0 xs[k].length xs[k] := by
  obtain ⟨ad, u, hA, hc, A0, c0, hu, hl, hC⟩ := at_one (d := Kd.fixed kInts w0) rfl h k hk
  obtain rfl : u = _ := List.singleton_inj.1 hu
  exact ⟨ad, A0, c0, hA, hc, hl, hC⟩
theorem fixed_K {w0 : World} {A0 : Option Addr} {c0 : Nat} {x : List Int} (hl : x.length ≤ c0) (hC : Kd.C (Kd.int .i64) w0 A0 x.length x) : kInts.K w0 x [.slice A0 x.length c0] := ⟨A0, c0, rfl, hl, hC⟩
/-- What stood fixed is read now. -/
theorem C_of_fixed {w0 w : World} {A : Option Addr} {n : Nat} {xs : List (List Int)} (hB : Below w0.heap.size w0 w) (h : (Kd.fixed kInts w0).C w A n xs) : kInts.C w A n xs :=
  ReadsRow.imp_ h (Below.refl _ w) (fun _ _ hp => kInts.K_below hB hp)

/-! ### Order -/
theorem order_l0 (a b : List Int) (ha : a.length ≤ 9223372036854775807) (hb : b.length ≤ 9223372036854775807) : ∀ (m n : Nat), n + m = a.length → n ≤ b.length → Ev (fun k => secateurref06_Order.l0 k a b (n : Int)) (lexCmp (a.drop n) (b.drop n)) := by
  have hend : ∀ n, (n = a.length ∨ n = b.length) → n ≤ a.length → n ≤ b.length → (if (a.length : Int) < (b.length : Int) then some (-1 : Int) else if (a.length : Int) > (b.length : Int) then some 1 else some 0) = some (lexCmp (a.drop n) (b.drop n)) := by
    intro n h h1 h2
    rcases h with rfl | rfl
    · rw [List.drop_of_length_le (Nat.le_refl _), lexCmp_nil]
      by_cases hlt : a.length < b.length
      · rw [if_pos (by omega), if_neg (by intro e; have := congrArg List.length e; simp at this; omega)]
      · rw [if_neg (by omega), if_neg (by omega), List.drop_of_length_le (by omega), if_pos rfl]
    · rw [List.drop_of_length_le (Nat.le_refl b.length), lexCmp_nil']
      by_cases hlt : b.length < a.length
      · rw [if_neg (by omega), if_pos (by omega), if_neg (by intro e; have := congrArg List.length e; simp at this; omega)]
      · rw [if_neg (by omega), if_neg (by omega), List.drop_of_length_le (by omega), if_pos rfl]
  intro m
  induction m with
  | zero =>
    intro n h hn
    refine Ev.step (fun k => by rw [secateurref06_Order.l0, if_neg (by omega)]) ?_
    exact Ev.step (fun k => by rw [secateurref06_Order.j1, if_neg (by simp), hend n (.inl (by omega)) (by omega) hn]) (Ev.pure _)
  | succ m ih =>
    intro n h hn
    have hna : n < a.length := by omega
    by_cases hnb : n < b.length
    · refine Ev.step (fun k => by rw [secateurref06_Order.l0, if_pos (by omega)]) ?_
      rw [List.drop_eq_getElem_cons hna, List.drop_eq_getElem_cons hnb, lexCmp_cons]
      have h1 : wrap64 ((n : Int) + 1) = ((n + 1 : Nat) : Int) := by rw [w64 (by omega) (by omega)]; omega
      refine Ev.step (fun k => by rw [secateurref06_Order.j1, if_pos (by simp; omega), if_pos (by omega), if_pos (by omega), if_pos (by omega), rd_nat a n hna, rd_nat b n hnb, h1]) ?_
      by_cases c1 : a[n] < b[n]
      · simp only [if_pos c1]
        exact Ev.pure _
      · by_cases c2 : b[n] < a[n]
        · simp only [if_neg c1, if_pos c2, gt_iff_lt]
          exact Ev.pure _
        · simp only [if_neg c1, if_neg c2, gt_iff_lt]
          exact ih (n + 1) (by omega) (by omega)
    · refine Ev.step (fun k => by rw [secateurref06_Order.l0, if_pos (by omega)]) ?_
      exact Ev.step (fun k => by rw [secateurref06_Order.j1, if_neg (by simp; omega), hend n (.inr (by omega)) (by omega) hn]) (Ev.pure _)
theorem order_ev (a b : List Int) (ha : a.length ≤ 9223372036854775807) (hb : b.length ≤ 9223372036854775807) : Ev (fun k => secateurref06_Order.f k a b) (lexCmp a b) := order_l0 a b ha hb a.length 0 (by omega) (by omega)
theorem orderL (A0 : Option Addr) (c0 : Nat) (l0 : List Int) (A1 : Option Addr) (c1 : Nat) (l1 : List Int) (w : World) (hr0 : Kd.C (Kd.int .i64) w A0 l0.length l0) (hc0 : l0.length ≤ c0) (hr1 : Kd.C (Kd.int .i64) w A1 l1.length l1) (hc1 : l1.length ≤ c1) :
    Calls Try.prog 33 #[.slice A0 l0.length c0, .slice A1 l1.length c1] w fun e w' => e = .returned (.int .i64 (lexCmp l0 l1)) ∧ ∃ q, w' = w.drewN q := by
  obtain ⟨k, hk⟩ := (order_ev l0 l1 hr0.2.1 hr1.2.1).out
  refine (secateurref06_Order.calls k A0 c0 l0 A1 c1 l1 _ w hr0 hc0 hr1 hc1 hk).mono ?_
  rintro e w' ⟨rfl, ⟨nd, rfl⟩⟩
  exact ⟨rfl, nd, rfl⟩

/-! ### The insertion, as it goes -/
/-- x is not put: so far all of 'out' was ahead of it; or it is put (or was there). -/
def InsAt (x : List Int) (out : List (List Int)) (k : Nat) (put : Bool) (next : List (List Int)) : Prop :=
  if put then insL x out = next ++ out.drop k else next = out.take k ∧ insL x out = out.take k ++ insL x (out.drop k)
theorem InsAt.start (x : List Int) (out : List (List Int)) : InsAt x out 0 false [] := by simp [InsAt]
theorem InsAt.put {x : List Int} {out : List (List Int)} {k : Nat} {next : List (List Int)} (hk : k < out.length) (h : InsAt x out k true next) : InsAt x out (k + 1) true (next ++ [out[k]]) := by
  simp only [InsAt, if_true] at h ⊢
  rw [h, List.drop_eq_getElem_cons hk]
  simp
theorem InsAt.same {x : List Int} {out : List (List Int)} {k : Nat} {next : List (List Int)} (hk : k < out.length) (h : InsAt x out k false next) (hc : lexCmp x out[k] = 0) : InsAt x out (k + 1) true (next ++ [out[k]]) := by
  simp only [InsAt, Bool.false_eq_true, if_false, if_true] at h ⊢
  obtain ⟨rfl, h⟩ := h
  have e := lexCmp_zero.1 hc
  rw [h, List.drop_eq_getElem_cons hk, ← e]
  simp [insL, lexLt_irrefl]
theorem InsAt.less {x : List Int} {out : List (List Int)} {k : Nat} {next : List (List Int)} (hk : k < out.length) (h : InsAt x out k false next) (hc : lexCmp x out[k] < 0) : InsAt x out (k + 1) true (next ++ [x] ++ [out[k]]) := by
  simp only [InsAt, Bool.false_eq_true, if_false, if_true] at h ⊢
  obtain ⟨rfl, h⟩ := h
  rw [h, List.drop_eq_getElem_cons hk]
  simp [insL, lexCmp_neg.1 hc]
theorem InsAt.more {x : List Int} {out : List (List Int)} {k : Nat} {next : List (List Int)} (hk : k < out.length) (h : InsAt x out k false next) (hc : 0 < lexCmp x out[k]) : InsAt x out (k + 1) false (next ++ [out[k]]) := by
  simp only [InsAt, Bool.false_eq_true, if_false] at h ⊢
  obtain ⟨rfl, h⟩ := h
  have h1 : ¬ lexLt x out[k] = true := fun e => by have := lexCmp_neg.2 e; omega
  have h2 : ¬ x = out[k] := fun e => by have := lexCmp_zero.2 e; omega
  refine ⟨(List.take_succ_eq_append_getElem hk).symm, ?_⟩
  rw [h, List.drop_eq_getElem_cons hk]
  have e : insL x (out[k] :: out.drop (k + 1)) = out[k] :: insL x (out.drop (k + 1)) := by rw [insL, if_neg h1, if_neg h2]
  rw [e, List.take_succ_eq_append_getElem hk, List.append_assoc]
  rfl
theorem InsAt.end1 {x : List Int} {out : List (List Int)} {next : List (List Int)} (h : InsAt x out out.length true next) : next = insL x out := by
  simp [InsAt] at h
  exact h.symm
theorem InsAt.end0 {x : List Int} {out : List (List Int)} {next : List (List Int)} (h : InsAt x out out.length false next) : next ++ [x] = insL x out := by
  simp [InsAt] at h
  rw [h.1, h.2]
  simp [insL]
/-- All put in, one after another. -/
def insAll (l : List (List Int)) : List (List Int) := l.foldl (fun acc x => insL x acc) []
theorem insAll_snoc (l : List (List Int)) (x : List Int) : insAll (l ++ [x]) = insL x (insAll l) := by simp [insAll]
theorem insAll_eq (l : List (List Int)) : insAll l = sdL l := by
  have h : ∀ (l acc : List (List Int)), SSL acc → SSL (l.foldl (fun acc x => insL x acc) acc) ∧ ∀ z, z ∈ l.foldl (fun acc x => insL x acc) acc ↔ z ∈ l ∨ z ∈ acc := by
    intro l
    induction l with
    | nil => intro acc h; exact ⟨h, fun z => by simp⟩
    | cons x l ih =>
      intro acc h
      obtain ⟨h1, h2⟩ := ih (insL x acc) (insL_ss x acc h)
      refine ⟨h1, fun z => (h2 z).trans ?_⟩
      rw [mem_insL, List.mem_cons]
      constructor
      · rintro (h | h | h)
        · exact .inl (.inr h)
        · exact .inl (.inl h)
        · exact .inr h
      · rintro ((h | h) | h)
        · exact .inr (.inl h)
        · exact .inl h
        · exact .inr (.inr h)
  obtain ⟨h1, h2⟩ := h l [] List.Pairwise.nil
  exact (sdL_eq h1 (fun z => by rw [h2 z]; simp)).symm
theorem insAll_length (l : List (List Int)) : (insAll l).length ≤ l.length := by rw [insAll_eq]; exact sdL_length l

/-! ### The walk -/
set_option maxRecDepth 100000 in
set_option maxHeartbeats 8000000 in
theorem refSortedL (A0 : Option Addr) (c0 : Nat) (l0 : List (List Int)) (w : World) (hr0 : Kd.C kInts w A0 l0.length l0) (hc0 : l0.length ≤ c0) (hl : l0.length < 1000000000) :
    Calls Try.prog 25 #[.slice A0 l0.length c0] w fun e w' => ∃ v0_ : Value, e = .returned (v0_) ∧ Kd.R (Kd.fixed kInts w) 23 w' w.heap.size (fun _ => True) v0_ (sdL l0) ∧ Below w.heap.size w w' := by
  have HR := Aside0.mk hr0
  have HB0 := Aside0.mk (Below.refl w.heap.size w)
  clear hr0
  go_enter Try.func25, Try.ntmps25
  go_wp2_with (first | ((with_reducible refine gate_dst (N := 9) rfl ?_); refine Kd.R_lit (Kd.fixed kInts w) _ 23 ?hg (N := 9) ?hd (xs := ([] : List (List Int))) (inner := []) (ok := fun _ => True) (okp := fun _ => True) ?hr ?hp (fun _ hk => hk) trivial (Below.refl w.heap.size w) (Nat.le_refl _) (by simp) ?_; (case hd => rfl); (case hg => rfl); (case hr => first | (go_simp; done) | (go_simp; rfl)); (case hp => exact (Reps.none _ _)); intro v1 w1 ho hb hg_ hnew_; have HO := Aside0.mk ho; have HB := Aside0.mk hb; clear ho hb hg_ hnew_))
  go_loopg [3, 4] l0.length (fun gg v3 s4 wr => ∃ i : Nat, i ≤ l0.length ∧ l0.length - i ≤ gg ∧ s4 = .int .i64 i ∧ Aside0 (Kd.R (Kd.fixed kInts w) 23 wr w.heap.size (fun _ => True) v3 (insAll (l0.take i))) ∧ Aside0 (Below w.heap.size w wr))
  case atStart => exact ⟨0, Nat.zero_le _, by omega, rfl, HO, HB⟩
  case round =>
    clear HO HB
    obtain ⟨i, hi, hg, rfl, HO, HB⟩ := hrel
    obtain ⟨wo, rfl⟩ : ∃ wo : World, wo = wr := ⟨_, rfl⟩
    by_cases hlt : i < l0.length
    · obtain ⟨ad, Ax, cx, rfl, hx, hcx, hCx⟩ := at_slice HR.out i hlt
      have hx0 := Aside0.mk hx
      have HX := Aside0.mk (fixed_K hcx hCx)
      have HCX := Aside0.mk hCx
      have hins : Aside0 (insAll (l0.take (i + 1)) = insL l0[i] (insAll (l0.take i))) := ⟨by rw [List.take_succ_eq_append_getElem hlt, insAll_snoc]⟩
      have hol : Aside0 ((insAll (l0.take i)).length ≤ 1000000000) := ⟨by have := insAll_length (l0.take i); rw [List.length_take] at this; omega⟩
      clear hx hCx
      generalize l0[i] = x at *
      generalize insAll (l0.take i) = out at *
      obtain ⟨Ao, co, rfl, hco, hCo⟩ := Kd.R_reads HO.out
      have HCO := Aside0.mk hCo
      clear hCo
      have hol' : out.length ≤ 9223372036854775807 := by have := hol.out; omega
      have hxb : ∀ W, Below w.heap.size w W → W.cell? (ad.add i) = some (.slice Ax x.length cx) := fun W h => (h.cell (World.block_lt_of_cell? w _ hx0.out)).trans hx0.out
      have HXB := Aside0.mk hxb
      clear hxb
      go_wp2_with (first | ((with_reducible refine gate_dst (N := 16) rfl ?_); refine Kd.R_lit (Kd.fixed kInts w) _ 23 ?hg (N := 16) ?hd (xs := ([] : List (List Int))) (inner := []) (ok := fun _ => True) (okp := fun _ => True) ?hr ?hp (fun _ hk => hk) trivial (Below.refl wo.heap.size wo) (Nat.le_refl _) (by simp) ?_; (case hd => rfl); (case hg => rfl); (case hr => first | (go_simp; done) | (go_simp; rfl)); (case hp => exact (Reps.none _ _)); intro v5 w5 ho hb hg_ hnew_; have HN := Aside0.mk ho; have HBI := Aside0.mk hb; clear ho hb hg_ hnew_))
      go_loopg [5, 6, 7] out.length (fun g2 n5 s6 s7 wr => ∃ (k : Nat) (put : Bool) (next : List (List Int)), k ≤ out.length ∧ out.length - k ≤ g2 ∧ s7 = .int .i64 k ∧ s6 = .bool put ∧ Aside0 (InsAt x out k put next) ∧ Aside0 (next.length ≤ k + 1) ∧ Aside0 (Kd.R (Kd.fixed kInts w) 23 wr wo.heap.size (fun _ => True) n5 next) ∧ Aside0 (Below wo.heap.size wo wr))
      case atStart => exact ⟨0, false, [], Nat.zero_le _, by omega, rfl, rfl, ⟨InsAt.start x out⟩, ⟨by simp⟩, HN, HBI⟩
      case round =>
        clear HN HBI
        obtain ⟨k, put, next, hk, hg2, rfl, rfl, HI, HLN, HN, HBI⟩ := hrel
        have hBw : Below w.heap.size w wr := HB.out.trans (HBI.out.mono HB.out.size)
        have hx2 := HXB.out wr hBw
        by_cases hlk : k < out.length
        · obtain ⟨ado, Ay, cy, rfl, hyo, hcy, hCy⟩ := at_fixed HCO.out k hlk
          have HYB : Aside0 (∀ W, Below wo.heap.size wo W → W.cell? (ado.add k) = some (.slice Ay out[k].length cy)) := ⟨fun W h => (h.cell (World.block_lt_of_cell? wo _ hyo)).trans hyo⟩
          clear hyo
          have hy := HYB.out wr HBI.out
          have HY := Aside0.mk (fixed_K hcy hCy)
          have HCC : Aside0 (∀ n, Calls Try.prog 33 #[.slice Ax x.length cx, .slice Ay out[k].length cy] (wr.drewN n) fun e w' => e = .returned (.int .i64 (lexCmp x out[k])) ∧ ∃ q, w' = wr.drewN q) := ⟨fun n => by
            refine (orderL Ax cx x Ay cy out[k] (wr.drewN n) (Kd.C_below (Kd.C_below HCX.out hBw) (pw_below_drewN (Below.refl _ _) n)) hcx (Kd.C_below (Kd.C_below hCy hBw) (pw_below_drewN (Below.refl _ _) n)) hcy).mono ?_
            rintro e w' ⟨rfl, q, rfl⟩
            exact ⟨rfl, n + q, by rw [World.drewN_drewN]⟩⟩
          have HIp : Aside0 (InsAt x out k true next → InsAt x out (k + 1) true (next ++ [out[k]])) := ⟨fun h => h.put hlk⟩
          have HIs : Aside0 (lexCmp x out[k] = 0 → InsAt x out k false next → InsAt x out (k + 1) true (next ++ [out[k]])) := ⟨fun e h => h.same hlk e⟩
          have HIl : Aside0 (lexCmp x out[k] < 0 → InsAt x out k false next → InsAt x out (k + 1) true (next ++ [x] ++ [out[k]])) := ⟨fun e h => h.less hlk e⟩
          have HIm : Aside0 (0 < lexCmp x out[k] → InsAt x out k false next → InsAt x out (k + 1) false (next ++ [out[k]])) := ⟨fun e h => h.more hlk e⟩
          have hs3 : lexCmp x out[k] = -1 ∨ lexCmp x out[k] = 0 ∨ lexCmp x out[k] = 1 := by
            unfold lexCmp
            split
            · exact .inl rfl
            · split
              · exact .inr (.inr rfl)
              · exact .inr (.inl rfl)
          clear hCy hBw
          generalize out[k] = y at *
          generalize lexCmp x y = s at *
          cases put with
          | true =>
            clear hs3
            go_wp2_with (fail)
            go_quiet (first | exact HCC.out _)
            go_wp2_with (first | ((with_reducible refine gate_builtin (b := .append) (xs := #[.tmp 50, .tmp 55]) rfl ?_); at_builtin; go_loud (refine Kd.R_append (Kd.fixed kInts w) (w0 := wo) wo.heap.size rfl (.tmp 50) (.tmp 55) 22 23 (.slice none 0 0) 24 rfl Try.underlying22 info23 rfl (Nat.lt_succ_self 0) (by omega) _ next y [.slice Ay y.length cy] (fun _ => True) (fun _ => False) rfl rfl ?aP (fun _ h => h.elim) ?aF ?aO ?aB ?aS ?aL ?_; (case aP => exact HY.out); (case aB => first | exact HBI.out | exact pw_below_drewN HBI.out _); (case aF => exact (fun _ _ => trivial)); (case aO => first | exact HN.out | exact Kd.R_drewN HN.out _); (case aS => first | exact HBI.out.size | exact (pw_below_drewN HBI.out _).size); (case aL => have := HLN.out; have := hol.out; (try simp only [List.length_append, List.length_cons, List.length_nil]); omega); intro v7 w7 ho2 hb2 hg2 hat2; have HN2 := Aside0.mk ho2; have HBI2 := Aside0.mk hb2; clear ho2 hb2 hg2 hat2)))
            go_roundg (out.length - (k + 1))
            case measure => omega
            case rel => exact ⟨k + 1, true, next ++ [y], by omega, by omega, by go_num, rfl, ⟨HIp.out HI.out⟩, ⟨by have := HLN.out; simp; omega⟩, HN2, HBI2⟩
          | false =>
            rcases hs3 with rfl | rfl | rfl
            rotate_left
            · skip
              go_wp2_with (fail)
              go_quiet (first | exact HCC.out _)
              go_wp2_with (first | ((with_reducible refine gate_builtin (b := .append) (xs := #[.tmp 50, .tmp 55]) rfl ?_); at_builtin; go_loud (refine Kd.R_append (Kd.fixed kInts w) (w0 := wo) wo.heap.size rfl (.tmp 50) (.tmp 55) 22 23 (.slice none 0 0) 24 rfl Try.underlying22 info23 rfl (Nat.lt_succ_self 0) (by omega) _ next y [.slice Ay y.length cy] (fun _ => True) (fun _ => False) rfl rfl ?aP (fun _ h => h.elim) ?aF ?aO ?aB ?aS ?aL ?_; (case aP => exact HY.out); (case aB => first | exact HBI.out | exact pw_below_drewN HBI.out _); (case aF => exact (fun _ _ => trivial)); (case aO => first | exact HN.out | exact Kd.R_drewN HN.out _); (case aS => first | exact HBI.out.size | exact (pw_below_drewN HBI.out _).size); (case aL => have := HLN.out; have := hol.out; (try simp only [List.length_append, List.length_cons, List.length_nil]); omega); intro v7 w7 ho2 hb2 hg2 hat2; have HN2 := Aside0.mk ho2; have HBI2 := Aside0.mk hb2; clear ho2 hb2 hg2 hat2)))
              go_roundg (out.length - (k + 1))
              case measure => omega
              case rel => exact ⟨k + 1, true, next ++ [y], by omega, by omega, by go_num, rfl, ⟨by first | exact HIs.out rfl HI.out | exact HIs.out trivial HI.out⟩, ⟨by have := HLN.out; simp; omega⟩, HN2, HBI2⟩
            rotate_left
            · · skip
                go_wp2_with (fail)
                go_quiet (first | exact HCC.out _)
                go_wp2_with (first | ((with_reducible refine gate_builtin (b := .append) (xs := #[.tmp 43, .tmp 48]) rfl ?_); at_builtin; go_loud (refine Kd.R_append (Kd.fixed kInts w) (w0 := wo) wo.heap.size rfl (.tmp 43) (.tmp 48) 22 23 (.slice none 0 0) 24 rfl Try.underlying22 info23 rfl (Nat.lt_succ_self 0) (by omega) _ next x [.slice Ax x.length cx] (fun _ => True) (fun _ => False) rfl rfl ?aP (fun _ h => h.elim) ?aF ?aO ?aB ?aS ?aL ?_; (case aP => exact HX.out); (case aB => first | exact HBI.out | exact pw_below_drewN HBI.out _); (case aF => exact (fun _ _ => trivial)); (case aO => first | exact HN.out | exact Kd.R_drewN HN.out _); (case aS => first | exact HBI.out.size | exact (pw_below_drewN HBI.out _).size); (case aL => have := HLN.out; have := hol.out; (try simp only [List.length_append, List.length_cons, List.length_nil]); omega); intro v6 w6 ho2 hb2 hg2 hat2; have hy6 := HYB.out w6 hb2; have HN1 := Aside0.mk ho2; have HBI1 := Aside0.mk hb2; clear ho2 hb2 hg2 hat2)) | ((with_reducible refine gate_builtin (b := .append) (xs := #[.tmp 50, .tmp 55]) rfl ?_); at_builtin; go_loud (refine Kd.R_append (Kd.fixed kInts w) (w0 := wo) wo.heap.size rfl (.tmp 50) (.tmp 55) 22 23 (.slice none 0 0) 24 rfl Try.underlying22 info23 rfl (Nat.lt_succ_self 0) (by omega) _ (next ++ [x]) y [.slice Ay y.length cy] (fun _ => True) (fun _ => False) rfl rfl ?aP (fun _ h => h.elim) ?aF ?aO ?aB ?aS ?aL ?_; (case aP => exact HY.out); (case aB => first | exact HBI1.out | exact pw_below_drewN HBI1.out _); (case aF => exact (fun _ _ => trivial)); (case aO => first | exact HN1.out | exact Kd.R_drewN HN1.out _); (case aS => first | exact HBI1.out.size | exact (pw_below_drewN HBI1.out _).size); (case aL => have := HLN.out; have := hol.out; (try simp only [List.length_append, List.length_cons, List.length_nil]); omega); intro v7 w7 ho2 hb2 hg2 hat2; have HN2 := Aside0.mk ho2; have HBI2 := Aside0.mk hb2; clear ho2 hb2 hg2 hat2)))
                go_roundg (out.length - (k + 1))
                case measure => omega
                case rel => exact ⟨k + 1, true, next ++ [x] ++ [y], by omega, by omega, by go_num, rfl, ⟨by first | exact HIl.out (by omega) HI.out | exact HIl.out trivial HI.out⟩, ⟨by have h_ := HI.out; simp only [InsAt, Bool.false_eq_true, if_false] at h_; have h2_ := congrArg List.length h_.1; rw [List.length_take] at h2_; simp; omega⟩, HN2, HBI2⟩
            · · skip
                go_wp2_with (fail)
                go_quiet (first | exact HCC.out _)
                go_wp2_with (first | ((with_reducible refine gate_builtin (b := .append) (xs := #[.tmp 50, .tmp 55]) rfl ?_); at_builtin; go_loud (refine Kd.R_append (Kd.fixed kInts w) (w0 := wo) wo.heap.size rfl (.tmp 50) (.tmp 55) 22 23 (.slice none 0 0) 24 rfl Try.underlying22 info23 rfl (Nat.lt_succ_self 0) (by omega) _ next y [.slice Ay y.length cy] (fun _ => True) (fun _ => False) rfl rfl ?aP (fun _ h => h.elim) ?aF ?aO ?aB ?aS ?aL ?_; (case aP => exact HY.out); (case aB => first | exact HBI.out | exact pw_below_drewN HBI.out _); (case aF => exact (fun _ _ => trivial)); (case aO => first | exact HN.out | exact Kd.R_drewN HN.out _); (case aS => first | exact HBI.out.size | exact (pw_below_drewN HBI.out _).size); (case aL => have := HLN.out; have := hol.out; (try simp only [List.length_append, List.length_cons, List.length_nil]); omega); intro v7 w7 ho2 hb2 hg2 hat2; have HN2 := Aside0.mk ho2; have HBI2 := Aside0.mk hb2; clear ho2 hb2 hg2 hat2)))
                go_roundg (out.length - (k + 1))
                case measure => omega
                case rel => exact ⟨k + 1, false, next ++ [y], by omega, by omega, by go_num, rfl, ⟨by first | exact HIm.out (by omega) HI.out | exact HIm.out trivial HI.out⟩, ⟨by have := HLN.out; simp; omega⟩, HN2, HBI2⟩
        · obtain rfl : k = out.length := by omega
          clear hBw
          cases put with
          | true =>
            go_wp2
            go_roundg (l0.length - (i + 1))
            case measure => omega
            case rel => exact ⟨i + 1, by omega, by omega, by go_num, ⟨by rw [hins.out, ← HI.out.end1]; exact Kd.R_lower HN.out HB.out.size⟩, ⟨HB.out.trans (HBI.out.mono HB.out.size)⟩⟩
          | false =>
            go_wp2_with (first | ((with_reducible refine gate_builtin (b := .append) (xs := #[.tmp 59, .tmp 64]) rfl ?_); at_builtin; go_loud (refine Kd.R_append (Kd.fixed kInts w) (w0 := wo) wo.heap.size rfl (.tmp 59) (.tmp 64) 22 23 (.slice none 0 0) 24 rfl Try.underlying22 info23 rfl (Nat.lt_succ_self 0) (by omega) _ next x [.slice Ax x.length cx] (fun _ => True) (fun _ => False) rfl rfl ?aP (fun _ h => h.elim) ?aF ?aO ?aB ?aS ?aL ?_; (case aP => exact HX.out); (case aB => first | exact HBI.out | exact pw_below_drewN HBI.out _); (case aF => exact (fun _ _ => trivial)); (case aO => first | exact HN.out | exact Kd.R_drewN HN.out _); (case aS => first | exact HBI.out.size | exact (pw_below_drewN HBI.out _).size); (case aL => have := HLN.out; have := hol.out; (try simp only [List.length_append, List.length_cons, List.length_nil]); omega); intro v7 w7 ho2 hb2 hg2 hat2; have HN2 := Aside0.mk ho2; have HBI2 := Aside0.mk hb2; clear ho2 hb2 hg2 hat2)))
            go_roundg (l0.length - (i + 1))
            case measure => omega
            case rel => exact ⟨i + 1, by omega, by omega, by go_num, ⟨by rw [hins.out, ← HI.out.end0]; exact Kd.R_lower HN2.out HB.out.size⟩, ⟨HB.out.trans (HBI2.out.mono HB.out.size)⟩⟩
    · obtain rfl : i = l0.length := by omega
      go_wp2
      go_ret
      have := HO.out
      rw [List.take_length, insAll_eq] at this
      exact ⟨_, rfl, this, HB.out⟩
def secateurref09_Sorted.f (l0 : List (List Int)) : Option (List (List Int)) := if l0.length < 1000000000 then some (sdL l0) else none
end Go.Proofs.Ytpbcigilipdedaa.P

/- TableSorts: printed by wip/tools/px.py (without the loops that write), its end by hand. -/
namespace Go.Proofs.Ytpbcigilipdedaa.P
open Go.RowKit Go.Proofs.YtpbcigilipdedaaW.PrintWords Go.Proofs.YtpbcigilipdedaaW.PrintLast Go.Proofs.YtpbcigilipdedaaW.PrintMore
attribute [local go_sem] max2_int min2_int max_two min_two max_three min_three max_four min_four   -- for this text's walks alone
set_option linter.unusedVariables false
set_option linter.unusedSimpArgs false

/-! ### secateurlaw09_TableSorts: function 4 -/
mutual
def secateurlaw09_TableSorts.j1 : Nat → List (List Int) → Option (Bool)
 | 0, _ => none
 | k + 1, x3 => (secateurref04_Nums.f k x3).bind fun t535 => ((table_Sorted.f x3).bind fun t538 => ((secateurref09_Sorted.f x3).bind fun t541 => ((secateurref04_Lists.f k t538 t541).bind fun t544 => (if t544 = true then ((secateurref04_Lists.f k x3 t535).bind fun t545 => (if t545 = true then ((secateurlaw09_fixed.f k).bind fun t546 => (some t546)) else (none))) else (none)))))
def secateurlaw09_TableSorts.l0 : Nat → List (List Int) → List (List Int) → Int → Option (Bool)
 | 0, _, _, _ => none
 | k + 1, x0, x3, x4 => if x4 < (x0.length : Int) then (if x4 < 30 then ((some (([] : List Int) : List Int)).bind fun y523 => (if 0 ≤ x4 then (if 0 ≤ (mn ((rd_L1 x0 x4).length : Int) 8) then (if (mn ((rd_L1 x0 x4).length : Int) 8) ≤ ((rd_L1 x0 x4).length : Int) then (if y523.length + ((rd_L1 x0 x4).take ((mn ((rd_L1 x0 x4).length : Int) 8) : Int).toNat).length < 17592186044416 then (if x3.length < 5864062014805 then (secateurlaw09_TableSorts.l0 k x0 (x3 ++ [(y523 ++ ((rd_L1 x0 x4).take ((mn ((rd_L1 x0 x4).length : Int) 8) : Int).toNat))]) (wrap64 (x4 + 1))) else (none)) else (none)) else (none)) else (none)) else (none))) else (secateurlaw09_TableSorts.j1 k x3)) else (secateurlaw09_TableSorts.j1 k x3)
end
def secateurlaw09_TableSorts.f (k : Nat) (l0 : List (List Int)) : Option (Bool) := secateurlaw09_TableSorts.l0 k l0 (([] : List (List Int))) 0
theorem secateurlaw09_TableSorts.mono_l : ∀ k, (∀ y0, LeO (secateurlaw09_TableSorts.j1 k y0) (secateurlaw09_TableSorts.j1 (k + 1) y0)) ∧ (∀ y0 y1 y2, LeO (secateurlaw09_TableSorts.l0 k y0 y1 y2) (secateurlaw09_TableSorts.l0 (k + 1) y0 y1 y2))
 | 0 => ⟨fun _ r h => by simp [secateurlaw09_TableSorts.j1] at h, fun _ _ _ r h => by simp [secateurlaw09_TableSorts.l0] at h⟩
 | k + 1 => by
  obtain ⟨ih0, ih1⟩ := secateurlaw09_TableSorts.mono_l k
  refine ⟨?_, ?_⟩
  ·intro y0
   unfold secateurlaw09_TableSorts.j1
   repeat' first
   | (with_reducible exact ih0 _)
   | (with_reducible exact ih1 _ _ _)
   | (with_reducible exact secateurlaw09_fixed.mono _)
   | (with_reducible exact secateurref04_Lists.mono _ _ _)
   | (with_reducible exact secateurref04_Nums.mono _ _)
   | (with_reducible exact LeO.refl _)
   | (with_reducible exact LeO.none _)
   | (with_reducible refine LeO.ite ?_ ?_)
   | (with_reducible refine LeO.bind ?_ (fun _ => ?_))
   | exact ih0 _
   | exact ih1 _ _ _
   | exact secateurlaw09_fixed.mono _
   | exact secateurref04_Lists.mono _ _ _
   | exact secateurref04_Nums.mono _ _
   | exact LeO.none _
   | refine LeO.ite ?_ ?_
   | refine LeO.bind ?_ (fun _ => ?_)
  ·intro y0 y1 y2
   unfold secateurlaw09_TableSorts.l0
   repeat' first
   | (with_reducible exact ih0 _)
   | (with_reducible exact ih1 _ _ _)
   | (with_reducible exact secateurlaw09_fixed.mono _)
   | (with_reducible exact secateurref04_Lists.mono _ _ _)
   | (with_reducible exact secateurref04_Nums.mono _ _)
   | (with_reducible exact LeO.refl _)
   | (with_reducible exact LeO.none _)
   | (with_reducible refine LeO.ite ?_ ?_)
   | (with_reducible refine LeO.bind ?_ (fun _ => ?_))
   | exact ih0 _
   | exact ih1 _ _ _
   | exact secateurlaw09_fixed.mono _
   | exact secateurref04_Lists.mono _ _ _
   | exact secateurref04_Nums.mono _ _
   | exact LeO.none _
   | refine LeO.ite ?_ ?_
   | refine LeO.bind ?_ (fun _ => ?_)
theorem secateurlaw09_TableSorts.mono : ∀ a0 k, LeO (secateurlaw09_TableSorts.f k a0) (secateurlaw09_TableSorts.f (k + 1) a0) := by
 intro a0 k
 obtain ⟨ih0, ih1⟩ := secateurlaw09_TableSorts.mono_l k
 unfold secateurlaw09_TableSorts.f
 repeat' first
   | (with_reducible exact ih0 _)
   | (with_reducible exact ih1 _ _ _)
   | (with_reducible exact secateurlaw09_fixed.mono _)
   | (with_reducible exact secateurref04_Lists.mono _ _ _)
   | (with_reducible exact secateurref04_Nums.mono _ _)
   | (with_reducible exact LeO.refl _)
   | (with_reducible exact LeO.none _)
   | (with_reducible refine LeO.ite ?_ ?_)
   | (with_reducible refine LeO.bind ?_ (fun _ => ?_))
   | exact ih0 _
   | exact ih1 _ _ _
   | exact secateurlaw09_fixed.mono _
   | exact secateurref04_Lists.mono _ _ _
   | exact secateurref04_Nums.mono _ _
   | exact LeO.none _
   | refine LeO.ite ?_ ?_
   | refine LeO.bind ?_ (fun _ => ?_)
def secateurlaw09_TableSorts.T5 : Bool × List (List Nat × List Nat) := (true, [([], []), ([], []), ([], []), ([], []), ([2, 3], [2, 3]), ([4], [4]), ([], []), ([], []), ([6, 7], [6, 7]), ([8], [8]), ([9], [9]), ([10], [10]), ([5, 11], [5, 11]), ([1, 12], [1, 12]), ([13], [13]), ([0, 14, 13], [0, 14]), ([15, 15, 0, 1, 2, 3, 4, 5, 6, 7, 8, 9, 10, 11, 12, 13, 14, 15], [0, 15])])
def secateurlaw09_TableSorts.B5 : List Nat := [0, 0, 0, 0, 12, 28, 0, 0, 192, 448, 960, 1984, 4092, 8190, 16382, 32767, 65535]
theorem secateurlaw09_TableSorts.tab5 : rtab .any (opsOf Try.f4 5) = secateurlaw09_TableSorts.T5 := by kernel_rfl
theorem secateurlaw09_TableSorts.bits5 : waitsOk secateurlaw09_TableSorts.T5.2 secateurlaw09_TableSorts.B5 = true := by kernel_rfl
set_option maxHeartbeats 8000000 in
set_option maxRecDepth 100000 in
theorem secateurlaw09_TableSorts.calls (k : Nat) (A0 : Option Addr) (c0 : Nat) (l0 : List (List Int)) (r : Bool) (w : World) (hr0 : Kd.C (Kd.slice 3 (Kd.int .i64)) w A0 l0.length l0) (hc0 : l0.length ≤ c0) (h : secateurlaw09_TableSorts.f k l0 = some r) :
  Calls Try.prog 4 #[.slice A0 l0.length c0] w fun e w' => e = .returned (.bool r) ∧ Below w.heap.size w w' := by
 have HR0 := Aside0.mk hr0
 have HC0 := Aside0.mk hc0
 clear hr0 hc0
 have HB := Aside0.mk (Below.refl w.heap.size w)
 have H : (secateurlaw09_TableSorts.l0 k l0 (([] : List (List Int))) 0) = some r := h
 clear h
 obtain ⟨y520, hy520⟩ : ∃ y_ : List (List Int), y_ = (([] : List (List Int))) := ⟨_, rfl⟩
 replace H : (secateurlaw09_TableSorts.l0 k l0 y520 0) = some r := by first | (rw [hy520]; with_reducible exact H) | (have H2_ := (Option.bind_some _ _).symm.trans H; rw [hy520]; with_reducible exact H2_) | (have H2_ := (Option.bind_some _ _).symm.trans H; with_reducible exact H2_) | with_reducible exact H | (rw [hy520]; exact H) | exact H
 have Ny520 := Aside0.mk hy520
 clear hy520
 have HC2 := Aside0.mk H
 clear H
 go_enter Try.func4, Try.ntmps4
 go_upto_block 0 with (first | ((with_reducible refine gate_dst (N := 9) rfl ?_); refine Kd.S_lit (Kd.slice 3 (Kd.int .i64)) _ 23 ?hg (N := 9) ?hd (xs := ([] : List (List Int))) (inner := []) (ok := fun _ => True) (okp := fun _ => True) ?hr ?hp (fun _ hk => hk) trivial (Below.refl _ _) (Nat.le_refl _) (by simp) ?_; (case hd => rfl); (case hg => rfl); (case hr => first | (go_simp; done) | (go_simp; rfl)); (case hp => exact (Reps.none _ _)); intro v521 w3 ho4 hb hg_ hnew_; clear hg_ hnew_; (first | rw [← Ny520.out] at ho4 | (simp only [Int.reduceToNat] at ho4; rw [← Ny520.out] at ho4)); have n0_ := Aside0.mk (Kd.S_lower ho4 (below_size (by repeat (first | (with_reducible first | exact HB.out | apply below_alloc | apply pw_below_drewN | apply below_drew1) | exact HB.out)))); have n1_ := Aside0.mk (below_step (by repeat (first | (with_reducible first | exact HB.out | apply below_alloc | apply pw_below_drewN | apply below_drew1) | exact HB.out)) hb); clear HB; have HO522 := n0_; have HB := n1_; clear n0_ n1_; clear hb ho4))
 (try simp only [Act.put, List.setIfInBounds_toArray, List.set_cons_zero, List.set_cons_succ])
 go_cut [3] (fun v3 wc => ∃ (kq : Nat) (x3_1 : List (List Int)), Aside0 (secateurlaw09_TableSorts.j1 kq x3_1 = some r) ∧ Aside0 (kq ≤ k) ∧ Aside0 (Kd.S (Kd.slice 3 (Kd.int .i64)) 23 wc w.heap.size (fun _ => True) v3 x3_1) ∧ Aside0 (Below w.heap.size w wc))
 case first =>
  have H := HC2.out
  clear HC2
  have H' := Aside0.mk H
  clear H
  go_wp2
  go_loopg [3, 4] k (fun kq v3 v4 w' => ∃ (x3_1 : List (List Int)) (x4_1 : Int), v4 = .int .i64 x4_1 ∧ Aside0 (secateurlaw09_TableSorts.l0 kq l0 x3_1 x4_1 = some r) ∧ Aside0 (kq ≤ k) ∧ Aside0 (Kd.S (Kd.slice 3 (Kd.int .i64)) 23 w' w.heap.size (fun _ => True) v3 x3_1) ∧ Aside0 (Below w.heap.size w w'))
  case atStart => exact ⟨(y520), (0), (by first | rfl | (simp; done) | (simp [*]; done)), H', ⟨Nat.le_refl _⟩, ⟨by (with_reducible repeat (first | apply Kd.S_alloc | apply Kd.S_drewN | apply Kd.S_drew)); exact HO522.out⟩, ⟨by repeat (first | (with_reducible first | exact HB.out | apply below_alloc | apply pw_below_drewN | apply below_drew1) | exact HB.out)⟩⟩
  case round =>
   clear H'
   try clear p2
   try clear c4
   obtain ⟨x3_1, x4_1, rfl, HA, HK1, HO_3, HB⟩ := hrel
   cases gk with
   | zero => exact absurd HA.out (by simp [secateurlaw09_TableSorts.l0])
   | succ k1 =>
    have H := HA.out
    clear HA
    simp only [secateurlaw09_TableSorts.l0] at H
    by_cases c5 : x4_1 < (l0.length : Int)
    ·rw [if_pos c5] at H
     have c5b0 : decide (x4_1 < (l0.length : Int)) = true := decide_eq_true c5
     clear c5
     (first | rw [c5b0] | (simp only [i64_w, i32_w]; rw [c5b0]) | skip)
     by_cases c6 : x4_1 < 30
     ·rw [if_pos c6] at H
      have c6b0 : decide (x4_1 < 30) = true := decide_eq_true c6
      clear c6
      obtain ⟨y523, hy523⟩ : ∃ y_ : List Int, y_ = (([] : List Int)) := ⟨_, rfl⟩
      replace H : (if 0 ≤ x4_1 then (if 0 ≤ (mn ((rd_L1 l0 x4_1).length : Int) 8) then (if (mn ((rd_L1 l0 x4_1).length : Int) 8) ≤ ((rd_L1 l0 x4_1).length : Int) then (if y523.length + ((rd_L1 l0 x4_1).take ((mn ((rd_L1 l0 x4_1).length : Int) 8) : Int).toNat).length < 17592186044416 then (if x3_1.length < 5864062014805 then (secateurlaw09_TableSorts.l0 k1 l0 (x3_1 ++ [(y523 ++ ((rd_L1 l0 x4_1).take ((mn ((rd_L1 l0 x4_1).length : Int) 8) : Int).toNat))]) (wrap64 (x4_1 + 1))) else (none)) else (none)) else (none)) else (none)) else (none)) = some r := by first | (rw [hy523]; with_reducible exact H) | (have H2_ := (Option.bind_some _ _).symm.trans H; rw [hy523]; with_reducible exact H2_) | (have H2_ := (Option.bind_some _ _).symm.trans H; with_reducible exact H2_) | with_reducible exact H | (rw [hy523]; exact H) | exact H
      have Ny523 := Aside0.mk hy523
      clear hy523
      by_cases c7 : 0 ≤ x4_1
      ·rw [if_pos c7] at H
       have c7b0 : decide (0 ≤ x4_1) = true := decide_eq_true c7
       clear c7
       obtain ⟨ji8, hji8⟩ : ∃ j_ : Int, (mn ((rd_L1 l0 x4_1).length : Int) 8) = j_ := ⟨_, rfl⟩
       replace H : (if 0 ≤ (ji8) then (if (ji8) ≤ ((rd_L1 l0 x4_1).length : Int) then (if y523.length + ((rd_L1 l0 x4_1).take ((ji8) : Int).toNat).length < 17592186044416 then (if x3_1.length < 5864062014805 then (secateurlaw09_TableSorts.l0 k1 l0 (x3_1 ++ [(y523 ++ ((rd_L1 l0 x4_1).take ((ji8) : Int).toNat))]) (wrap64 (x4_1 + 1))) else (none)) else (none)) else (none)) else (none)) = some r := by first | (rw [hji8] at H; exact H) | (simp only [hji8] at H ⊢; exact H)
       have hji8_ : (if 8 < ((rd_L1 l0 x4_1).length : Int) then 8 else ((rd_L1 l0 x4_1).length : Int)) = ji8 := hji8
       by_cases c9 : 0 ≤ (ji8)
       ·rw [if_pos c9] at H
        have c9b0 := eq_true c9
        have c9b1 : decide (0 ≤ (ji8)) = true := decide_eq_true c9
        clear c9
        by_cases c10 : (ji8) ≤ ((rd_L1 l0 x4_1).length : Int)
        ·rw [if_pos c10] at H
         have c10b0 := eq_true c10
         have c10b1 : decide ((ji8) ≤ ((rd_L1 l0 x4_1).length : Int)) = true := decide_eq_true c10
         clear c10
         by_cases c11 : y523.length + ((rd_L1 l0 x4_1).take ((ji8) : Int).toNat).length < 17592186044416
         ·rw [if_pos c11] at H
          have LMc11 := Aside0.mk c11
          clear c11
          obtain ⟨y529, hy529⟩ : ∃ y_ : List Int, y_ = (y523 ++ ((rd_L1 l0 x4_1).take ((ji8) : Int).toNat)) := ⟨_, rfl⟩
          replace H : (if x3_1.length < 5864062014805 then (secateurlaw09_TableSorts.l0 k1 l0 (x3_1 ++ [y529]) (wrap64 (x4_1 + 1))) else (none)) = some r := by first | (rw [hy529]; with_reducible exact H) | (have H2_ := (Option.bind_some _ _).symm.trans H; rw [hy529]; with_reducible exact H2_) | (have H2_ := (Option.bind_some _ _).symm.trans H; with_reducible exact H2_) | with_reducible exact H | (rw [hy529]; exact H) | exact H
          have Ny529 := Aside0.mk hy529
          clear hy529
          by_cases c12 : x3_1.length < 5864062014805
          ·rw [if_pos c12] at H
           have LMc12 := Aside0.mk c12
           clear c12
           obtain ⟨y532, hy532⟩ : ∃ y_ : List (List Int), y_ = (x3_1 ++ [y529]) := ⟨_, rfl⟩
           replace H : (secateurlaw09_TableSorts.l0 k1 l0 y532 (wrap64 (x4_1 + 1))) = some r := by first | (rw [hy532]; with_reducible exact H) | (have H2_ := (Option.bind_some _ _).symm.trans H; rw [hy532]; with_reducible exact H2_) | (have H2_ := (Option.bind_some _ _).symm.trans H; with_reducible exact H2_) | with_reducible exact H | (rw [hy532]; exact H) | exact H
           have Ny532 := Aside0.mk hy532
           clear hy532
           have H' := Aside0.mk H
           clear H
           try go_wp2
           have n0_ := Aside0.mk (Kd.S_drew HO_3.out)
           have n1_ := Aside0.mk (below_drew1 HB.out)
           clear HO_3
           clear HB
           have HO_3 := n0_
           have HB := n1_
           clear n0_ n1_
           have p526 : 0 ≤ (x4_1 : Int) := of_decide_eq_true (by first | (with_reducible assumption) | assumption)
           have q526 : x4_1 < (l0.length : Int) := of_decide_eq_true (by first | (with_reducible assumption) | assumption)
           obtain ⟨ad526, A526_0, c526_0, e526, hx526_0, hl526_0, hi526_0⟩ := at_L1 HR0.out x4_1 p526 q526
           have hw526_0 := hx526_0
           cases e526
           replace hx526_0 := (HB.out.cell (World.block_lt_of_cell? w _ hx526_0)).trans hx526_0
           have HR526_0 := Aside0.mk hi526_0
           have HC526_0 := Aside0.mk hl526_0
           clear hi526_0 hl526_0
           replace p526 := eq_true p526
           replace q526 := eq_true q526
           have p527 : 0 ≤ (x4_1 : Int) := of_decide_eq_true (by first | (with_reducible assumption) | assumption)
           have q527 : x4_1 < (l0.length : Int) := of_decide_eq_true (by first | (with_reducible assumption) | assumption)
           obtain ⟨ad527, A527_0, c527_0, e527, hx527_0, hl527_0, hi527_0⟩ := at_L1 HR0.out x4_1 p527 q527
           have hw527_0 := hx527_0
           obtain rfl : ad526 = ad527 := (by injection e527)
           replace hx527_0 := (HB.out.cell (World.block_lt_of_cell? w _ hx527_0)).trans hx527_0
           have HR527_0 := Aside0.mk hi527_0
           have HC527_0 := Aside0.mk hl527_0
           clear hi527_0 hl527_0
           replace p527 := eq_true p527
           replace q527 := eq_true q527
           have ea_ := Option.some.inj (hx526_0.symm.trans hx527_0)
           injection ea_ with ea_ en_ ec_
           subst ea_
           subst ec_
           clear en_
           obtain ⟨i014, hi014, _, hsz14, _⟩ := info_parts info3
           obtain ⟨hcut14, hA14, hC14⟩ := print_take_of (P := Try.prog) (Value.int .i64) 0 23 3 .i64 Try.underlying23 hi014 hsz14 A526_0 c526_0 (rd_L1 l0 x4_1) (ji8) (of_decide_eq_true (by first | (with_reducible assumption) | assumption)) (of_decide_eq_true (by first | (with_reducible assumption) | assumption)) HC526_0.out
           have HR528 := Aside0.mk (Kd.C_of_reads (h1 := fun _ => rfl) (hA14 _ (Kd.reads_of_C HR526_0.out)))
           have HC528 := Aside0.mk hC14
           clear hA14 hC14 hi014 hsz14
           refine start_ (n := 17) (S := fun w' => w'.cell? (ad526.add (x4_1).toNat) = some (.slice A526_0 (rd_L1 l0 x4_1).length c526_0) ∧ w'.cell? (ad526.add (x4_1).toNat) = some (.slice A526_0 (rd_L1 l0 x4_1).length c526_0)) (ds := []) #[false, false, false, false, false, false, false, false, false, false, false, false, false, false, false, false, false] (by kernel_rfl) rfl rfl ⟨((HB.out.cell (World.block_lt_of_cell? w _ hw526_0)).trans hw526_0), ((HB.out.cell (World.block_lt_of_cell? w _ hw527_0)).trans hw527_0)⟩ (fun hHeld => ?_); refine with_tabW secateurlaw09_TableSorts.tab5 secateurlaw09_TableSorts.bits5 (fun HT_ HW_ => ?_)
           generalize wr.drew = w13 at HO_3 HB HR526_0 HR527_0 HR528 hx526_0 hx527_0 hHeld ⊢
           refine pure_ (i := 0) (N := some 20) (v := ?_) (a' := ?_) #[true, false, false, false, false, false, false, false, false, false, false, false, false, false, false, false, false] rfl rfl (any_of HT_.out (by kernel_rfl)) (fun _ _ _ h => h) (Or.inl ⟨by rfl, ?_⟩) ?_ ?_
           rotate_left
           ·intro w'
            go_simp
            with_reducible rfl
           rotate_left
           ·simp only [Act.put, List.setIfInBounds_toArray, List.set_cons_zero, List.set_cons_succ, i64_w, i32_w]
            rfl
           refine pure_ (i := 2) (N := some 22) (v := ?_) (a' := ?_) #[true, false, true, false, false, false, false, false, false, false, false, false, false, false, false, false, false] rfl rfl (any_of HT_.out (by kernel_rfl)) (fun _ _ _ h => h) (Or.inl ⟨by rfl, ?_⟩) ?_ ?_
           rotate_left
           ·intro w'
            go_simp
            with_reducible rfl
           rotate_left
           ·simp only [Act.put, List.setIfInBounds_toArray, List.set_cons_zero, List.set_cons_succ, i64_w, i32_w]
            rfl
           refine pure_ (i := 3) (N := some 23) (v := ?_) (a' := ?_) #[true, false, true, true, false, false, false, false, false, false, false, false, false, false, false, false, false] rfl rfl (any_of HT_.out (by kernel_rfl)) (fun _ _ _ h => h) (Or.inl ⟨by rfl, ?_⟩) ?_ ?_
           rotate_left
           ·intro w'
            go_simp
            with_reducible rfl
           rotate_left
           ·simp only [Act.put, List.setIfInBounds_toArray, List.set_cons_zero, List.set_cons_succ, i64_w, i32_w]
            rfl
           refine pure_ (i := 4) (N := some 24) (v := ?_) (a' := ?_) #[true, false, true, true, true, false, false, false, false, false, false, false, false, false, false, false, false] rfl rfl (any_of HT_.out (by kernel_rfl)) (fun _ _ _ h => h) (Or.inl ⟨by rfl, ?_⟩) ?_ ?_
           rotate_left
           ·intro w'
            go_simp
            with_reducible rfl
           rotate_left
           ·simp only [Act.put, List.setIfInBounds_toArray, List.set_cons_zero, List.set_cons_succ, i64_w, i32_w]
            rfl
           refine pure_ (i := 6) (N := some 26) (v := ?_) (a' := ?_) #[true, false, true, true, true, false, true, false, false, false, false, false, false, false, false, false, false] rfl rfl (any_of HT_.out (by kernel_rfl)) (fun _ _ _ h => h) (Or.inl ⟨by rfl, ?_⟩) ?_ ?_
           rotate_left
           ·intro w'
            go_simp
            with_reducible rfl
           rotate_left
           ·simp only [Act.put, List.setIfInBounds_toArray, List.set_cons_zero, List.set_cons_succ, i64_w, i32_w]
            rfl
           refine pure_ (i := 7) (N := some 27) (v := ?_) (a' := ?_) #[true, false, true, true, true, false, true, true, false, false, false, false, false, false, false, false, false] rfl rfl (any_of HT_.out (by kernel_rfl)) (fun _ _ _ h => h) (Or.inl ⟨by rfl, ?_⟩) ?_ ?_
           rotate_left
           ·intro w'
            go_simp
            with_reducible rfl
           rotate_left
           ·simp only [Act.put, List.setIfInBounds_toArray, List.set_cons_zero, List.set_cons_succ, i64_w, i32_w]
            rfl
           refine pure_ (i := 8) (N := some 28) (v := ?_) (a' := ?_) #[true, false, true, true, true, false, true, true, true, false, false, false, false, false, false, false, false] rfl rfl (any_of HT_.out (by kernel_rfl)) (fun _ _ _ h => h) (Or.inl ⟨by rfl, ?_⟩) ?_ ?_
           rotate_left
           ·intro w'
            go_simp
            with_reducible rfl
           rotate_left
           ·simp only [Act.put, List.setIfInBounds_toArray, List.set_cons_zero, List.set_cons_succ, i64_w, i32_w]
            rfl
           refine take_ (i := 5) (N := some 25) (v := ?_) (a' := ?_) #[true, false, true, true, true, true, true, true, true, false, false, false, false, false, false, false, false] rfl rfl (take_ofW HT_.out HW_.out (by kernel_rfl)) (fun _ _ _ h => h) (Or.inl ⟨by rfl, ?_⟩) hHeld ?_ ?_
           rotate_left
           ·rintro w' ⟨s0, s1⟩
            go_simp
            with_reducible rfl
           rotate_left
           ·simp only [Act.put, List.setIfInBounds_toArray, List.set_cons_zero, List.set_cons_succ, i64_w, i32_w]
            rfl
           refine take_ (i := 9) (N := some 29) (v := ?_) (a' := ?_) #[true, false, true, true, true, true, true, true, true, true, false, false, false, false, false, false, false] rfl rfl (take_ofW HT_.out HW_.out (by kernel_rfl)) (fun _ _ _ h => h) (Or.inl ⟨by rfl, ?_⟩) hHeld ?_ ?_
           rotate_left
           ·rintro w' ⟨s0, s1⟩
            go_simp
            with_reducible rfl
           rotate_left
           ·simp only [Act.put, List.setIfInBounds_toArray, List.set_cons_zero, List.set_cons_succ, i64_w, i32_w]
            rfl
           refine pure_ (i := 10) (N := some 30) (v := ?_) (a' := ?_) #[true, false, true, true, true, true, true, true, true, true, true, false, false, false, false, false, false] rfl rfl (any_of HT_.out (by kernel_rfl)) (fun _ _ _ h => h) (Or.inl ⟨by rfl, ?_⟩) ?_ ?_
           rotate_left
           ·intro w'
            go_simp
            with_reducible rfl
           rotate_left
           ·simp only [Act.put, List.setIfInBounds_toArray, List.set_cons_zero, List.set_cons_succ, i64_w, i32_w]
            rfl
           refine pure_ (i := 11) (N := some 31) (v := ?_) (a' := ?_) #[true, false, true, true, true, true, true, true, true, true, true, true, false, false, false, false, false] rfl rfl (any_of HT_.out (by kernel_rfl)) (fun _ _ _ h => h) (Or.inl ⟨by rfl, ?_⟩) ?_ ?_
           rotate_left
           ·intro w'
            go_simp
            with_reducible rfl
           rotate_left
           ·simp only [Act.put, List.setIfInBounds_toArray, List.set_cons_zero, List.set_cons_succ, i64_w, i32_w]
            rfl
           refine pure_ (i := 12) (N := some 32) (v := ?_) (a' := ?_) #[true, false, true, true, true, true, true, true, true, true, true, true, true, false, false, false, false] rfl rfl (any_of HT_.out (by kernel_rfl)) (fun _ _ _ h => h) (Or.inl ⟨by rfl, ?_⟩) ?_ ?_
           rotate_left
           ·intro w'
            go_simp
            with_reducible rfl
           rotate_left
           ·simp only [Act.put, List.setIfInBounds_toArray, List.set_cons_zero, List.set_cons_succ, i64_w, i32_w]
            rfl
           refine one_ (i := 1) (N := some 21) #[true, true, true, true, true, true, true, true, true, true, true, true, true, false, false, false, false] rfl rfl (one_of HT_.out (by kernel_rfl)) (by decide) (fun K hK => ?_)
           refine Kd.R_lit_step (Kd.int .i64) _ 3 ?hg (N := 21) ?hd (xs := ([] : List Int)) (inner := []) (ok := fun _ => True) (okp := fun _ => True) ?hr ?hp (fun _ hk => hk) trivial (Below.refl _ _) (Nat.le_refl _) (by simp) ?_; (case hd => rfl); (case hg => rfl); (case hr => first | (go_simp; done) | (go_simp; rfl)); (case hp => exact (Reps.none _ _))
           intro v524 w15 ho16 hb hg_ hnew_
           clear hg_ hnew_
           (first | rw [← Ny523.out] at ho16 | (simp only [Int.reduceToNat] at ho16; rw [← Ny523.out] at ho16))
           have n0_ := Aside0.mk (Kd.S_elder' (by (with_reducible repeat (first | apply Kd.S_alloc | apply Kd.S_drewN | apply Kd.S_drew)); exact HO_3.out) (Kd.R_base ho16) hb)
           have n1_ := Aside0.mk (Kd.R_lower ho16 (below_size (by repeat (first | (with_reducible first | exact HB.out | apply below_alloc | apply pw_below_drewN | apply below_drew1) | exact HB.out))))
           have n2_ := Aside0.mk (below_step (by repeat (first | (with_reducible first | exact HB.out | apply below_alloc | apply pw_below_drewN | apply below_drew1) | exact HB.out)) hb)
           clear HO_3
           clear HB
           have HO_3 := n0_
           have HO525 := n1_
           have HB := n2_
           clear n0_ n1_ n2_
           clear hb ho16
           refine hK.out _ _ ⟨((HB.out.cell (World.block_lt_of_cell? w _ hw526_0)).trans hw526_0), ((HB.out.cell (World.block_lt_of_cell? w _ hw527_0)).trans hw527_0)⟩ (fun hHeld => ?_)
           clear hK K
           refine norm_ (a' := ?_) ?_ ?_
           rotate_left
           ·show Act.put _ (some 21) _ = _
            simp only [Act.put, List.setIfInBounds_toArray, List.set_cons_zero, List.set_cons_succ, i64_w, i32_w]
            rfl
           refine one_ (i := 13) (N := some 33) #[true, true, true, true, true, true, true, true, true, true, true, true, true, true, false, false, false] rfl rfl (one_of HT_.out (by kernel_rfl)) (by decide) (fun K hK => ?_)
           refine Kd.R_append_rows_step (Kd.int .i64) (w0 := w) w.heap.size (by rfl) (.tmp 21) (.tmp 32) 23 3 (.int .i64 0) 8 rfl Try.underlying23 info3 rfl (by decide) (by omega) v524 y523 ((rd_L1 l0 x4_1).take ((ji8) : Int).toNat) _ _ _ (fun _ => True) (fun _ => False) rfl rfl ?aO ?aR (fun _ _ h => h) (fun _ h => h.elim) ?aF ?aB ?aS ?aL ?_
           (case aR => first | (have q_ := (Kd.C_below HR528.out HB.out); rw [show ((rd_L1 l0 x4_1).take ((ji8) : Int).toNat).length = (ji8).toNat from (by rw [List.length_take]; have h_ : ((ji8) : Int) ≤ ((rd_L1 l0 x4_1).length : Int) := of_decide_eq_true (by first | (with_reducible assumption) | assumption); omega)] at q_; exact q_) | (rw [← show ((rd_L1 l0 x4_1).take ((ji8) : Int).toNat).length = (ji8).toNat from (by rw [List.length_take]; have h_ : ((ji8) : Int) ≤ ((rd_L1 l0 x4_1).length : Int) := of_decide_eq_true (by first | (with_reducible assumption) | assumption); omega)]; repeat (first | exact (Kd.C_below HR528.out HB.out) | (with_reducible refine Kd.C_alloc ?_ _) | (with_reducible refine Kd.C_drewN ?_ _) | (with_reducible refine Kd.C_drew ?_))) | (repeat (first | exact (Kd.C_below HR528.out HB.out) | (with_reducible refine Kd.C_alloc ?_ _) | (with_reducible refine Kd.C_drewN ?_ _) | (with_reducible refine Kd.C_drew ?_))))
           (case aB => exact (by repeat (first | (with_reducible first | exact HB.out | apply below_alloc | apply pw_below_drewN | apply below_drew1) | exact HB.out)))
           (case aF => exact (fun _ _ => trivial))
           (case aO => exact (by (with_reducible repeat (first | apply Kd.R_alloc | apply Kd.R_drewN | apply Kd.R_drew)); exact HO525.out))
           (case aS => exact (below_size (by repeat (first | (with_reducible first | exact HB.out | apply below_alloc | apply pw_below_drewN | apply below_drew1) | exact HB.out))))
           (case aL => have := LMc11.out; have hlx_ := (show ((rd_L1 l0 x4_1).take ((ji8) : Int).toNat).length = (ji8).toNat from (by rw [List.length_take]; have h_ : ((ji8) : Int) ≤ ((rd_L1 l0 x4_1).length : Int) := of_decide_eq_true (by first | (with_reducible assumption) | assumption); omega)); omega)
           intro v530 w17 ho hb hg hat
           rw [← Ny529.out] at ho
           have n0_ := Aside0.mk (Kd.S_after (ok := (fun _ => True)) (by (with_reducible repeat (first | apply Kd.S_alloc | apply Kd.S_drewN | apply Kd.S_drew)); exact HO_3.out) hg hat)
           have n1_ := Aside0.mk (hb)
           have n2_ := Aside0.mk (ho)
           clear HO_3
           clear HB
           clear HO525
           have HO_3 := n0_
           have HB := n1_
           have HO531 := n2_
           clear n0_ n1_ n2_
           clear ho hb hg hat
           obtain ⟨Ao19, co19, eo19⟩ := Kd.R_slice HO531.out
           (first | subst eo19 | (injection eo19 with f1_ f2_ f3_; have f4_ := f1_.symm; have f5_ := f3_.symm; clear f1_ f2_ f3_; subst f4_; subst f5_))
           refine hK.out _ _ ⟨((HB.out.cell (World.block_lt_of_cell? w _ hw526_0)).trans hw526_0), ((HB.out.cell (World.block_lt_of_cell? w _ hw527_0)).trans hw527_0)⟩ (fun hHeld => ?_)
           clear hK K
           refine norm_ (a' := ?_) ?_ ?_
           rotate_left
           ·show Act.put _ (some 33) _ = _
            simp only [Act.put, List.setIfInBounds_toArray, List.set_cons_zero, List.set_cons_succ, i64_w, i32_w]
            rfl
           refine one_ (i := 14) (N := some 34) #[true, true, true, true, true, true, true, true, true, true, true, true, true, true, true, false, false] rfl rfl (one_of HT_.out (by kernel_rfl)) (by decide) (fun K hK => ?_)
           refine value_ (w1 := ?_) (v := ?_) (by rfl) rfl ?_ ?_
           rotate_left 2
           ·go_simp
            constructor
            ·rfl
            ·rfl
           refine hK.out _ _ ⟨(World.cell?_alloc_lt _ _ _ (World.block_lt_of_cell? _ _ (((HB.out.cell (World.block_lt_of_cell? w _ hw526_0)).trans hw526_0)))).trans (((HB.out.cell (World.block_lt_of_cell? w _ hw526_0)).trans hw526_0)), (World.cell?_alloc_lt _ _ _ (World.block_lt_of_cell? _ _ (((HB.out.cell (World.block_lt_of_cell? w _ hw527_0)).trans hw527_0)))).trans (((HB.out.cell (World.block_lt_of_cell? w _ hw527_0)).trans hw527_0))⟩ (fun hHeld => ?_)
           clear hK K
           refine norm_ (a' := ?_) ?_ ?_
           rotate_left
           ·show Act.put _ (some 34) _ = _
            simp only [Act.put, List.setIfInBounds_toArray, List.set_cons_zero, List.set_cons_succ, i64_w, i32_w]
            rfl
           refine one_ (i := 15) (N := some 35) #[true, true, true, true, true, true, true, true, true, true, true, true, true, true, true, true, false] rfl rfl (one_of HT_.out (by kernel_rfl)) (by decide) (fun K hK => ?_)
           refine Kd.S_append_step (Kd.slice 3 (Kd.int .i64)) (w0 := w) w.heap.size (by rfl) (.tmp 20) (.tmp 34) 22 23 (.slice none 0 0) 24 rfl Try.underlying22 info23 rfl (by decide) (by omega) u3 x3_1 y529 [.slice Ao19 y529.length co19] (fun _ => True) (fun k_ => some k_ = (.slice Ao19 y529.length co19 : Value).ownBlock) rfl rfl ?aP (fun k_ hk_ => ((Kd.R_mono (ok' := fun k_ => ((fun _ => True)) k_ ∧ some k_ ≠ (u3 : Value).ownBlock) (Kd.R_apart' (HO531.out) (Kd.S_typed HO_3.out) (by decide)) (fun k_ hk => ⟨trivial, hk.2⟩))).1 k_ hk_.symm) ?aF ?aO ?aB ?aS ?aL ?_
           (case aP => exact Kd.M_row (Kd.R_mono (Kd.R_tight rfl (Kd.R_mono (ok' := fun k_ => ((fun _ => True)) k_ ∧ some k_ ≠ (u3 : Value).ownBlock) (Kd.R_apart' (HO531.out) (Kd.S_typed HO_3.out) (by decide)) (fun k_ hk => ⟨trivial, hk.2⟩))) (fun _ h_ => h_)))
           (case aB => exact (by repeat (first | (with_reducible first | exact HB.out | apply below_alloc | apply pw_below_drewN | apply below_drew1) | exact HB.out)))
           (case aF => exact (fun _ _ => trivial))
           (case aO => exact (by (with_reducible repeat (first | apply Kd.S_alloc | apply Kd.S_drewN | apply Kd.S_drew)); exact Kd.S_mono HO_3.out (fun k_ hk => ⟨trivial, fun e_ => hk.2 e_⟩)))
           (case aS => exact (below_size (by repeat (first | (with_reducible first | exact HB.out | apply below_alloc | apply pw_below_drewN | apply below_drew1) | exact HB.out))))
           (case aL => have := LMc12.out; omega)
           intro v533 w18 ho hb hg hat
           rw [← Ny532.out] at ho
           have n0_ := Aside0.mk (hb)
           have n1_ := Aside0.mk (ho)
           clear HB
           clear HO_3
           clear HO531
           have HB := n0_
           have HO534 := n1_
           clear n0_ n1_
           clear ho hb hg hat
           refine hK.out _ _ ⟨((HB.out.cell (World.block_lt_of_cell? w _ hw526_0)).trans hw526_0), ((HB.out.cell (World.block_lt_of_cell? w _ hw527_0)).trans hw527_0)⟩ (fun hHeld => ?_)
           clear hK K
           refine norm_ (a' := ?_) ?_ ?_
           rotate_left
           ·show Act.put _ (some 35) _ = _
            simp only [Act.put, List.setIfInBounds_toArray, List.set_cons_zero, List.set_cons_succ, i64_w, i32_w]
            rfl
           refine pure_ (i := 16) (N := some 3) (v := ?_) (a' := ?_) #[true, true, true, true, true, true, true, true, true, true, true, true, true, true, true, true, true] rfl rfl (any_of HT_.out (by kernel_rfl)) (fun _ _ _ h => h) (Or.inl ⟨by rfl, ?_⟩) ?_ ?_
           rotate_left
           ·intro w'
            go_simp
            with_reducible rfl
           rotate_left
           ·simp only [Act.put, List.setIfInBounds_toArray, List.set_cons_zero, List.set_cons_succ, i64_w, i32_w]
            rfl
           refine done_ (done_of HT_.out (by kernel_rfl)) ?_
           try go_wp2
           go_roundg k1
           case measure => have := HK1.out; omega
           case rel => exact ⟨(y532), (wrap64 (x4_1 + 1)), (by first | rfl | (simp; done) | (simp [*]; done)), H', ⟨by have := HK1.out; omega⟩, ⟨by (with_reducible repeat (first | apply Kd.S_alloc | apply Kd.S_drewN | apply Kd.S_drew)); exact HO534.out⟩, ⟨by repeat (first | (with_reducible first | exact HB.out | apply below_alloc | apply pw_below_drewN | apply below_drew1) | exact HB.out)⟩⟩
          ·rw [if_neg c12] at H
           exact absurd H (by simp)
         ·rw [if_neg c11] at H
          exact absurd H (by simp)
        ·rw [if_neg c10] at H
         exact absurd H (by simp)
       ·rw [if_neg c9] at H
        exact absurd H (by simp)
      ·rw [if_neg c7] at H
       exact absurd H (by simp)
     ·rw [if_neg c6] at H
      have c6b0 : decide (x4_1 < 30) = false := decide_eq_false c6
      clear c6
      have H' := Aside0.mk H
      clear H
      go_wp2
      go_meet
      case rel => exact ⟨_, (x3_1), H', ⟨by have := HK1.out; first | omega | exact Nat.le_refl _⟩, ⟨by (with_reducible repeat (first | apply Kd.S_alloc | apply Kd.S_drewN | apply Kd.S_drew)); exact HO_3.out⟩, ⟨by repeat (first | (with_reducible first | exact HB.out | apply below_alloc | apply pw_below_drewN | apply below_drew1) | exact HB.out)⟩⟩
    ·rw [if_neg c5] at H
     have c5b0 : decide (x4_1 < (l0.length : Int)) = false := decide_eq_false c5
     clear c5
     (first | rw [c5b0] | (simp only [i64_w, i32_w]; rw [c5b0]) | skip)
     have H' := Aside0.mk H
     clear H
     go_wp2
     go_meet
     case rel => exact ⟨_, (x3_1), H', ⟨by have := HK1.out; first | omega | exact Nat.le_refl _⟩, ⟨by (with_reducible repeat (first | apply Kd.S_alloc | apply Kd.S_drewN | apply Kd.S_drew)); exact HO_3.out⟩, ⟨by repeat (first | (with_reducible first | exact HB.out | apply below_alloc | apply pw_below_drewN | apply below_drew1) | exact HB.out)⟩⟩
 case rest =>
  clear HC2
  try clear c1
  try clear p2
  try clear c4
  try clear c5
  try clear c5b0
  try clear p5
  try clear q5
  try clear hx5
  try clear c6
  try clear c6b0
  try clear p6
  try clear c7
  try clear c7b0
  try clear c9
  try clear c9b0
  try clear c9b1
  try clear c10
  try clear c10b0
  try clear c10b1
  try clear c11
  try clear c12
  try clear hx526_0
  try clear hx527_0
  try clear p2
  try clear p526
  try clear p527
  try clear q526
  try clear q527
  obtain ⟨kq, x3_1, HA, HJ1, HO_3, HB⟩ := hcut
  cases kq with
  | zero => exact absurd HA.out (by simp [secateurlaw09_TableSorts.j1])
  | succ kj1 =>
   have H := HA.out
   clear HA
   simp only [secateurlaw09_TableSorts.j1] at H
   replace H := Option.bind_eq_some_iff.mp H
   obtain ⟨t535, A200, H⟩ := H
   replace H : ((table_Sorted.f x3_1).bind fun t538 => ((secateurref09_Sorted.f x3_1).bind fun t541 => ((secateurref04_Lists.f kj1 t538 t541).bind fun t544 => (if t544 = true then ((secateurref04_Lists.f kj1 x3_1 t535).bind fun t545 => (if t545 = true then ((secateurlaw09_fixed.f kj1).bind fun t546 => (some t546)) else (none))) else (none))))) = some r := H
   have A20 := Aside0.mk A200
   clear A200
   replace H := Option.bind_eq_some_iff.mp H
   obtain ⟨t538, A210, H⟩ := H
   replace H : ((secateurref09_Sorted.f x3_1).bind fun t541 => ((secateurref04_Lists.f kj1 t538 t541).bind fun t544 => (if t544 = true then ((secateurref04_Lists.f kj1 x3_1 t535).bind fun t545 => (if t545 = true then ((secateurlaw09_fixed.f kj1).bind fun t546 => (some t546)) else (none))) else (none)))) = some r := H
   have A21 := Aside0.mk A210
   clear A210
   replace H := Option.bind_eq_some_iff.mp H
   obtain ⟨t541, A220, H⟩ := H
   replace H : ((secateurref04_Lists.f kj1 t538 t541).bind fun t544 => (if t544 = true then ((secateurref04_Lists.f kj1 x3_1 t535).bind fun t545 => (if t545 = true then ((secateurlaw09_fixed.f kj1).bind fun t546 => (some t546)) else (none))) else (none))) = some r := H
   have A22 := Aside0.mk A220
   clear A220
   replace H := Option.bind_eq_some_iff.mp H
   obtain ⟨t544, A230, H⟩ := H
   replace H : (if t544 = true then ((secateurref04_Lists.f kj1 x3_1 t535).bind fun t545 => (if t545 = true then ((secateurlaw09_fixed.f kj1).bind fun t546 => (some t546)) else (none))) else (none)) = some r := H
   have A23 := Aside0.mk A230
   clear A230
   by_cases c24 : t544 = true
   ·subst c24
    have H1 : ((secateurref04_Lists.f kj1 x3_1 t535).bind fun t545 => (if t545 = true then ((secateurlaw09_fixed.f kj1).bind fun t546 => (some t546)) else (none))) = some r := by rw [if_pos rfl] at H; exact H
    clear H
    have H := H1
    clear H1
    replace H := Option.bind_eq_some_iff.mp H
    obtain ⟨t545, A250, H⟩ := H
    replace H : (if t545 = true then ((secateurlaw09_fixed.f kj1).bind fun t546 => (some t546)) else (none)) = some r := H
    have A25 := Aside0.mk A250
    clear A250
    by_cases c26 : t545 = true
    ·subst c26
     have H1 : ((secateurlaw09_fixed.f kj1).bind fun t546 => (some t546)) = some r := by rw [if_pos rfl] at H; exact H
     clear H
     have H := H1
     clear H1
     replace H := Option.bind_eq_some_iff.mp H
     obtain ⟨t546, A270, H⟩ := H
     replace H : (some t546) = some r := H
     have A27 := Aside0.mk A270
     clear A270
     obtain rfl := Option.some.inj H
     obtain ⟨Ao28, co28, eo28⟩ := Kd.S_slice HO_3.out
     subst eo28
     have hm := Aside0.mk (Kd.S_reads' HO_3.out).2.2
     have hcm := (Kd.S_reads' HO_3.out).2.1
     have hlen : x3_1.length < 1000000000 := by
      have h_ := A21.out
      unfold table_Sorted.f at h_
      split at h_
      · assumption
      · cases h_
     have e41 : t541 = sdL x3_1 := by
      have h_ := A22.out
      unfold secateurref09_Sorted.f at h_
      rw [if_pos hlen] at h_
      exact (Option.some.inj h_).symm
     subst e41
     clear A22 HO_3
     go_wp2_with (first | (go_at_call 17; go_loud (refine (secateurref04_Nums.calls kj1 _ _ x3_1 t535 _ hm.out hcm A20.out).mono ?_; rintro e W1 ⟨v1, rfl, hS1, hb1⟩; obtain ⟨A1, c1, rfl, hcl1, hC1⟩ := Kd.S_reads hS1; have HC1 := Aside0.mk hC1; have HB1 := Aside0.mk hb1; clear hS1 hC1 hb1)) | (go_at_call 24; go_loud (refine (table_Sorted.calls _ _ x3_1 t538 _ (Kd.C_below hm.out HB1.out) hcm A21.out).mono ?_; rintro e W2 ⟨v2, rfl, hS2, hb2⟩; obtain ⟨A2, c2, rfl, hcl2, hC2⟩ := Kd.S_reads hS2; have HS2 := Aside0.mk (Kd.S_R hS2); have HC2 := Aside0.mk hC2; have HB2 := Aside0.mk hb2; clear hS2 hC2 hb2)) | (go_at_call 25; go_loud (refine (refSortedL _ _ x3_1 _ (Kd.C_below (Kd.C_below hm.out HB1.out) HB2.out) hcm hlen).mono ?_; rintro e W3 ⟨v3, rfl, hR3, hb3⟩; obtain ⟨A3, c3, rfl, hcl3, hC3⟩ := Kd.R_reads hR3; have HC3 := Aside0.mk (C_of_fixed hb3 hC3); have HB3 := Aside0.mk hb3; clear hR3 hC3 hb3)) | (go_at_call 22; go_loud (refine (secateurref04_Lists.calls kj1 _ _ t538 _ _ (sdL x3_1) true _ (Kd.C_below HC2.out HB3.out) hcl2 HC3.out hcl3 A23.out).mono ?_; rintro e W4 ⟨rfl, hdr⟩; have HB4 := Aside0.mk hdr.below; clear hdr)))
     have HR := Aside0.mk (Kd.R_below (Kd.R_below HS2.out HB3.out) HB4.out)
     have HBW := Aside0.mk (((HB2.out.trans (HB3.out.mono HB2.out.size)).trans (HB4.out.mono (Nat.le_trans HB2.out.size HB3.out.size))))
     have HB0 := Aside0.mk (HB.out.trans (HB1.out.mono HB.out.size))
     clear HC2 HS2 HB2 HB3 HB4 HC3 A23 A21 A20
     obtain ⟨ls, hls⟩ : ∃ ls, ls = t538.map List.length := ⟨_, rfl⟩
     have hn : ls.length = t538.length := by rw [hls]; simp
     have HLS := Aside0.mk hls.symm
     clear hls
     have hnm : t538.length ≤ 9223372036854775807 := by
      have h_ := (Kd.R_reads' HR.out).2.2.2.1
      exact h_
     generalize hNN : t538.length = n at HR hn hnm ⊢
     clear hNN
     go_loopg [7] n (fun gg s7 wr => ∃ (i : Nat) (xs : List (List Int)), i ≤ n ∧ n - i ≤ gg ∧ s7 = .int .i64 i ∧ Aside0 (xs.map List.length = ls) ∧ Aside0 (Kd.R kInts 23 wr W1.heap.size (fun _ => True) (.slice A2 n c2) xs) ∧ Aside0 (Below W1.heap.size W1 wr))
     case atStart => exact ⟨0, t538, Nat.zero_le _, by omega, rfl, HLS, HR, HBW⟩
     case round =>
      clear HR HBW HLS
      obtain ⟨i, xs, hi, hg, rfl, HL, HR, HBW⟩ := hrel
      obtain ⟨wo, rfl⟩ : ∃ wo : World, wo = wr := ⟨_, rfl⟩
      have hxl : xs.length = n := by have h_ := congrArg List.length HL.out; simp at h_; omega
      by_cases hlt : i < n
      · obtain ⟨g, cg, Ah, ci, hv, hx, hbg⟩ := RR_head HR.out i (by omega)
        injection hv with hA2 hlq hcg
        clear hlq
        subst hA2
        subst hcg
        have hli : i < ls.length := by omega
        clear hx
        go_wp2
        go_loopg [8] ls[i] (fun g2 s8 wr => ∃ (k : Nat) (xs2 : List (List Int)), k ≤ ls[i] ∧ ls[i] - k ≤ g2 ∧ s8 = .int .i64 k ∧ Aside0 (xs2.map List.length = ls) ∧ Aside0 (Kd.R kInts 23 wr W1.heap.size (fun _ => True) (.slice (some ⟨g, 0, none⟩) n c2) xs2) ∧ Aside0 (Below W1.heap.size W1 wr))
        case atStart => exact ⟨0, xs, Nat.zero_le _, by omega, rfl, HL, HR, HBW⟩
        case round =>
         clear HL HR HBW
         obtain ⟨k, xs2, hk, hg2, rfl, HL, HR, HBW⟩ := hrel
         have hxl2 : xs2.length = n := by have h_ := congrArg List.length HL.out; simp at h_; omega
         have hxi : i < xs2.length := by omega
         have hlen2 : xs2[i].length = ls[i] := by simp only [← HL.out]; simp
         have hcap : ls[i] ≤ 9223372036854775807 := by
          have h_ := at_slice (Kd.R_reads' HR.out).2.2 i hxi
          obtain ⟨_, _, _, _, _, _, hC_⟩ := h_
          have := hC_.2.1
          omega
         by_cases hlk : k < ls[i]
         · obtain ⟨g', c', h', ci', hv', hx', hci', _, hbh, ⟨u, hcu⟩, hfr, hne, hlt'⟩ := RR_at free_int HR.out i hxi k (by rw [hlen2]; show k < ls[i] * 1; omega)
           injection hv' with hg' hlq hcq
           clear hlq hcq
           obtain rfl : g = g' := by injection hg' with hg'; injection hg'
           clear hg'
           rw [hlen2] at hx' hci'
           have HSP := Aside0.mk (RR_spoil free_int HR.out h' k 99 hne)
           have HBS := Aside0.mk (below_set (j := k) (v := .int .i64 99) HBW.out hbh)
           clear hne
           generalize ls[i] = li at *
           go_wp2
           go_roundg (li - (k + 1))
           case measure => omega
           case rel => obtain ⟨xs3, hl3, hr3⟩ := HSP.out; exact ⟨k + 1, xs3, by omega, by omega, by go_num, ⟨hl3.trans HL.out⟩, ⟨hr3⟩, HBS⟩
         · obtain rfl : k = ls[i] := by omega
           obtain ⟨g', c', Ah', ci', hv', hx', _⟩ := RR_head HR.out i hxi
           injection hv' with hg' hlq hcq
           clear hlq hcq
           obtain rfl : g = g' := by injection hg' with hg'; injection hg'
           clear hg'
           rw [hlen2] at hx'
           go_wp2
           go_roundg (n - (i + 1))
           case measure => omega
           case rel => exact ⟨i + 1, xs2, by omega, by omega, by go_num, HL, HR, HBW⟩
      · obtain rfl : i = n := by omega
        have hm2 := Aside0.mk (Kd.C_below (Kd.C_below hm.out HB1.out) HBW.out)
        have hC1 := Aside0.mk (Kd.C_below HC1.out HBW.out)
        have hBend := Aside0.mk (HB0.out.trans (HBW.out.mono HB0.out.size))
        go_wp2_with (first | (go_at_call 22; go_loud (refine (secateurref04_Lists.calls kj1 _ _ x3_1 _ _ t535 true _ hm2.out hcm hC1.out hcl1 A25.out).mono ?_; rintro e W4 ⟨rfl, hdr⟩; have HB4 := Aside0.mk hdr.below; clear hdr)) | (go_at_call 15; go_loud (refine (secateurlaw09_fixed.calls kj1 _ _ A27.out).mono ?_; rintro e W5 ⟨rfl, hb5⟩)))
        go_ret
        exact ⟨rfl, (hBend.out.trans (HB4.out.mono hBend.out.size)).trans (hb5.mono (Nat.le_trans hBend.out.size HB4.out.size))⟩
    ·replace c26 := Bool.eq_false_iff.mpr c26
     subst c26
     have H1 : (none) = some r := by rw [if_neg (show ¬ (false = true) by decide)] at H; exact H
     clear H
     have H := H1
     clear H1
     exact absurd H (by simp)
   ·replace c24 := Bool.eq_false_iff.mpr c24
    subst c24
    have H1 : (none) = some r := by rw [if_neg (show ¬ (false = true) by decide)] at H; exact H
    clear H
    have H := H1
    clear H1
    exact absurd H (by simp)

end Go.Proofs.Ytpbcigilipdedaa.P

/- TableSorts: the plain law. -/
namespace Go.Proofs.Ytpbcigilipdedaa.P
open Go.RowKit Go.Proofs.YtpbcigilipdedaaW.PrintWords Go.Proofs.YtpbcigilipdedaaW.PrintLast Go.Proofs.YtpbcigilipdedaaW.PrintMore
set_option linter.unusedVariables false
set_option linter.unusedSimpArgs false

theorem sorts_j1 (a : List (List Int)) (ha : a.length ≤ 30) (ia : ∀ x ∈ a, x.length ≤ 8) : Ev (fun k => secateurlaw09_TableSorts.j1 k a) true := by
  have la := sdL_length a
  refine Ev.step (fun k => by rw [secateurlaw09_TableSorts.j1]) ?_
  refine Ev.bind (ref_Copy a (by omega) (fun x hx => by have := ia x hx; omega)) ?_
  refine Ev.eq (fun k => by rw [sorted_some (l := a) (by omega) (fun x hx => by have := ia x hx; omega), Option.bind_some, secateurref09_Sorted.f, if_pos (by omega), Option.bind_some]) ?_
  refine Ev.bind (ref_Lists_eq rfl (by omega) (fun x hx => by have := sd_in ia x hx; omega)) (Ev.ite_pos rfl ?_)
  exact Ev.bind (ref_Lists_eq rfl (by omega) (fun x hx => by have := ia x hx; omega)) (Ev.ite_pos rfl (Ev.bind (Ev.pure true) (Ev.pure true)))
theorem sorts_l0 (l0 : List (List Int)) : ∀ (m n : Nat), n + m = min l0.length 30 → Ev (fun k => secateurlaw09_TableSorts.l0 k l0 (cutL n 8 l0) (n : Int)) true := by
  have last : ∀ n, n = min l0.length 30 → Ev (fun k => secateurlaw09_TableSorts.j1 k (cutL n 8 l0)) true := fun n hn =>
    sorts_j1 (cutL n 8 l0) (Nat.le_trans (cutL_length n 8 l0) (by omega)) (fun x hx => cutL_in hx)
  intro m
  induction m with
  | zero =>
    intro n h
    by_cases hlt : n < l0.length
    · exact Ev.step (fun k => by rw [secateurlaw09_TableSorts.l0, if_pos (by omega), if_neg (by omega)]) (last n (by omega))
    · exact Ev.step (fun k => by rw [secateurlaw09_TableSorts.l0, if_neg (by omega)]) (last n (by omega))
  | succ m ih =>
    intro n h
    have hn : n < l0.length := by omega
    have hstep := ih (n + 1) (by omega)
    have e := cutL_step (m := 8) hn
    have hlen := cutL_length n 8 l0
    have e2 : mn (l0[n].length : Int) 8 = ((min l0[n].length 8 : Nat) : Int) := mn_len (m := 8)
    rw [e] at hstep
    simp only [Int.cast_ofNat_Int] at hstep
    refine Ev.step (fun k => by rw [secateurlaw09_TableSorts.l0, if_pos (by omega), if_pos (by omega), Option.bind_some, if_pos (by omega), rdL_nat l0 n hn, if_pos (by rw [e2]; omega), if_pos (by rw [e2]; omega), if_pos (by simp; omega), if_pos (by omega), w1 (by omega)]) hstep
theorem law_TableSorts (A0 : Option Addr) (c0 : Nat) (l0 : List (List Int)) (W : World) (hC0 : kInts.C W A0 l0.length l0) (hc0 : l0.length ≤ c0) (ok0 : l0.length * 24 ≤ 140737488351232 ∧ ∀ x ∈ l0, x.length * 8 ≤ 140737488351232 ∧ ∀ y ∈ x, (Lit.int .i64 y).wf = true) :
    Calls Try.prog 4 #[.slice A0 l0.length c0] W fun e W' => e = .returned (.bool true) ∧ Below W.heap.size W W' := by
  obtain ⟨k, hk⟩ := (sorts_l0 l0 (min l0.length 30) 0 (by omega)).out
  exact secateurlaw09_TableSorts.calls k A0 c0 l0 true W hC0 hc0 hk
end Go.Proofs.Ytpbcigilipdedaa.P

/- What a datum of a statement's arguments holds: a number, a text, a row, a struct, whatever is nested: its cells read as a value of the kind; and how long its rows are at most (by the weight of the whole). -/
namespace Go.Proofs.Ytpbcigilipdedaa.P
open Go.RowKit Go.ChangeShapes Go.WideShapes Go.Proofs.YtpbcigilipdedaaW.PrintWords
set_option linter.unusedVariables false

/-- Whatever reads as a datum of type t is a value of kind d, of which ok is true. -/
structure OpensZ {α : Type} (P : Program) (d : Kd α) (ok : α → Prop) (t : TypeId) : Prop where
  out : ∀ {H : Type} (enc : TypeId × Value → H) (w : World) (base : Nat) (sp : Nat → Bool) (held : Bool) (fuel : Nat) (cs : List Value) (x : DataW H × List MemPlace),
    DataW.trod enc P w base sp held fuel t cs = some x → (∀ n ∈ x.1.weights P t, n ≤ reachBytes) → ∃ v : α, d.K w v cs ∧ ok v
theorem OpensZ.int {P : Program} {t : TypeId} {k : IntKind} (ht : P.underlying t = some (.int k)) : OpensZ P (Kd.int k) (fun n => (Lit.int k n).wf = true) t := by
  refine ⟨?_⟩
  intro H enc w base sp held fuel cs x h hz
  obtain ⟨n, rfl, rfl, hw⟩ := DataW.trod_int ht h
  exact ⟨n, rfl, hw⟩
theorem OpensZ.bool {P : Program} {t : TypeId} (ht : P.underlying t = some .bool) : OpensZ P Kd.bool (fun _ => True) t := by
  refine ⟨?_⟩
  intro H enc w base sp held fuel cs x h hz
  obtain ⟨b, rfl, rfl⟩ := DataW.trod_bool ht h
  exact ⟨b, rfl, trivial⟩
theorem OpensZ.string {P : Program} {t : TypeId} (ht : P.underlying t = some .string) : OpensZ P Kd.string (fun s => s.size ≤ maxLen) t := by
  refine ⟨?_⟩
  intro H enc w base sp held fuel cs x h hz
  obtain ⟨s, rfl, rfl, hs⟩ := DataW.trod_string ht h
  exact ⟨s, rfl, hs⟩
theorem OpensZ.iso {α β : Type} {P : Program} {d : Kd α} {ok : α → Prop} {t : TypeId} (h : OpensZ P d ok t) (f : β → α) (g : α → β) (hfg : ∀ a, f (g a) = a) : OpensZ P (Kd.iso d f) (fun b => ok (f b)) t := by
  refine ⟨?_⟩
  intro H enc w base sp held fuel cs x hx hz
  obtain ⟨v, hK, hok⟩ := h.out enc w base sp held fuel cs x hx hz
  exact ⟨g v, by show d.K w (f (g v)) cs; rw [hfg]; exact hK, by show ok (f (g v)); rw [hfg]; exact hok⟩
theorem weights_slice {H : Type} {P : Program} {t e : TypeId} (ht : P.underlying t = some (.slice e)) {el sp : List (DataW H)} : (DataW.slice el sp : DataW H).weights P t = (el.length + sp.length) * P.bytesOf e :: (DataW.weightsAll P e el ++ DataW.weightsAll P e sp) := by simp [DataW.weights, ht]
theorem weights_agg {H : Type} {P : Program} {t : TypeId} {fs : Array Field} (ht : P.underlying t = some (.struct fs)) {ps : List (DataW H)} : (DataW.agg ps : DataW H).weights P t = DataW.weightsEach P (fs.toList.map (·.type)) ps := by simp [DataW.weights, ht]
theorem mem_weightsAll {H : Type} {P : Program} {e : TypeId} {d : DataW H} : ∀ {l : List (DataW H)}, d ∈ l → ∀ {n : Nat}, n ∈ d.weights P e → n ∈ DataW.weightsAll P e l
  | x :: l, hd, n, hn => by
    simp only [DataW.weightsAll, List.mem_append]
    rcases List.mem_cons.1 hd with rfl | hd
    · exact .inl hn
    · exact .inr (mem_weightsAll hd hn)
theorem choose_list {α : Type} {n : Nat} {R : Nat → α → Prop} (h : ∀ i, i < n → ∃ a, R i a) : ∃ l : List α, l.length = n ∧ ∀ i (hi : i < l.length), R i l[i] := by
  induction n with
  | zero => exact ⟨[], rfl, fun i hi => absurd hi (by simp)⟩
  | succ n ih =>
    obtain ⟨l, hl, hR⟩ := ih (fun i hi => h i (by omega))
    obtain ⟨a, ha⟩ := h n (by omega)
    refine ⟨l ++ [a], by simp [hl], fun i hi => ?_⟩
    rcases Nat.lt_or_ge i l.length with hlt | hge
    · rw [List.getElem_append_left hlt]
      exact hR i hlt
    · have : i = l.length := by simp at hi; omega
      subst this
      rw [List.getElem_append_right (by omega)]
      simpa [hl] using ha
theorem addr_add (a : Addr) (i j : Nat) : (a.add i).add j = a.add (i + j) := by
  by_cases h : i = 0
  · subst h; simp [Addr.add]
  · by_cases h2 : j = 0
    · subst h2; simp [Addr.add]
    · simp [Addr.add, h, h2, Nat.add_assoc]
theorem OpensZ.row {α : Type} {P : Program} {d : Kd α} {ok : α → Prop} {t e : TypeId} {B : Nat} (ht : P.underlying t = some (.slice e)) (hc : P.cellsOf e = d.sz) (hB : P.bytesOf e = B) (h : OpensZ P d ok e) :
    OpensZ P (Kd.slice e d) (fun l => l.length * B ≤ 140737488351232 ∧ ∀ x ∈ l, ok x) t := by
  refine ⟨?_⟩
  intro H enc w base sp held fuel cs x hx hz
  rcases Go.Deep.open_slice ht hx with ⟨rfl, rfl⟩ | ⟨a, len, cap, m, n, D, Pl, rfl, hb, hl, hm, hmm, rfl, he⟩
  · exact ⟨[], ⟨none, 0, rfl, Nat.le_refl _, rfl, by simp, fun h => absurd h (by simp)⟩, by simp, fun x hx => by simp at hx⟩
  · have hlm : len ≤ m := by rw [hmm]; split <;> omega
    have each : ∀ i, i < len → ∃ v : α, ok v ∧ ∃ c, c.length = d.sz ∧ d.K w v c ∧ ∀ j u, c[j]? = some u → w.cell? (a.add (i * d.sz + j)) = some u := fun i hi => by
      obtain ⟨cs', h1, h2⟩ := he i (by omega)
      obtain ⟨v, hK, hok⟩ := h.out enc w base sp held n cs' _ h2 (fun q hq => hz q (by
        rw [weights_slice ht]
        refine List.mem_cons_of_mem _ (List.mem_append_left _ (mem_weightsAll (d := D i) (List.mem_map.2 ⟨i, List.mem_range.2 hi, rfl⟩) hq))))
      obtain ⟨_, hlen, hcell⟩ := World.cells?_some h1
      rw [hc] at hlen hcell
      refine ⟨v, hok, cs', hlen, hK, fun j u hu => ?_⟩
      have hj : j < d.sz := by rw [← hlen]; exact (List.getElem?_eq_some_iff.1 hu).1
      have := hcell j hj
      rw [hu] at this
      rw [← this, addr_add]
    obtain ⟨l, hll, hR⟩ := choose_list each
    have hmax : cap ≤ 9223372036854775807 := by unfold maxLen at hm; exact hm
    refine ⟨l, ⟨some a, cap, by rw [hll], by omega, rfl, by omega, fun _ => ⟨a, rfl, fun j p hp => ?_⟩⟩, ?_, fun x hx => ?_⟩
    · obtain ⟨hj, rfl⟩ := List.getElem?_eq_some_iff.1 hp
      obtain ⟨_, c, h1, h2, h3⟩ := hR j hj
      exact ⟨c, h1, h2, h3⟩
    · have h3 := hz ((len + (m - len)) * P.bytesOf e) (by rw [weights_slice ht]; simp)
      rw [hB] at h3
      rw [hll]
      exact Nat.le_trans (Nat.mul_le_mul_right _ (by omega)) h3
    · obtain ⟨i, hi, rfl⟩ := List.mem_iff_getElem.1 hx
      exact (hR i hi).1
/-- The fields from an offset on. -/
structure OpensZF {α : Type} (P : Program) (d : Kd α) (ok : α → Prop) (fs : List Field) (off : Nat) : Prop where
  out : ∀ {H : Type} (enc : TypeId × Value → H) (w : World) (base : Nat) (sp : Nat → Bool) (held : Bool) (fuel : Nat) (cs : List Value), cs.length = off + d.sz →
    (∀ f ∈ fs, ∃ x, DataW.trod enc P w base sp held fuel f.type ((cs.drop f.offset).take (P.cellsOf f.type)) = some x ∧ ∀ n ∈ x.1.weights P f.type, n ≤ reachBytes) → ∃ v : α, d.K w v (cs.drop off) ∧ ok v
theorem OpensZF.last {α : Type} {P : Program} {d : Kd α} {ok : α → Prop} {f : Field} {off : Nat} (ho : f.offset = off) (hc : P.cellsOf f.type = d.sz) (h : OpensZ P d ok f.type) : OpensZF P d ok [f] off := by
  refine ⟨?_⟩
  intro H enc w base sp held fuel cs hl hf
  obtain ⟨x, hx, hz⟩ := hf f (by simp)
  rw [ho, hc, List.take_of_length_le (by simp; omega)] at hx
  exact h.out enc w base sp held fuel _ x hx hz
theorem OpensZF.cons {α β : Type} {P : Program} {d : Kd α} {ok : α → Prop} {d' : Kd β} {ok' : β → Prop} {f : Field} {fs : List Field} {off : Nat} (ho : f.offset = off) (hc : P.cellsOf f.type = d.sz) (h : OpensZ P d ok f.type) (h' : OpensZF P d' ok' fs (off + d.sz)) :
    OpensZF P (Kd.pair d d') (fun z => ok z.1 ∧ ok' z.2) (f :: fs) off := by
  refine ⟨?_⟩
  intro H enc w base sp held fuel cs hl hf
  have hl' : cs.length = off + (d.sz + d'.sz) := hl
  obtain ⟨x, hx, hz⟩ := hf f (by simp)
  obtain ⟨v, hK, hok⟩ := h.out enc w base sp held fuel _ x hx hz
  obtain ⟨v', hK', hok'⟩ := h'.out enc w base sp held fuel cs (by omega) (fun g hg => hf g (List.mem_cons_of_mem _ hg))
  rw [ho, hc] at hK
  refine ⟨(v, v'), ⟨(cs.drop off).take d.sz, cs.drop (off + d.sz), ?_, hK, hK'⟩, hok, hok'⟩
  rw [← List.drop_drop, List.take_append_drop]
theorem OpensZ.struct {α : Type} {P : Program} {d : Kd α} {ok : α → Prop} {t : TypeId} {fs : List Field} (ht : P.underlying t = some (.struct fs.toArray)) (hc : P.cellsOf t = d.sz) (h : OpensZF P d ok fs 0) : OpensZ P d ok t := by
  refine ⟨?_⟩
  intro H enc w base sp held fuel cs x hx hz
  obtain ⟨xs, n, rfl, rfl, hl, hxl, hf⟩ := DataW.trod_struct ht hx
  have := h.out enc w base sp held n cs (by omega) (fun f hf' => by
    obtain ⟨i, hi, rfl⟩ := List.mem_iff_getElem.1 hf'
    have := hf i fs[i] (by simp [hi])
    have hix : i < xs.length := by simp at hxl; omega
    rw [List.getElem?_eq_getElem hix] at this
    refine ⟨xs[i], by simpa using this, fun q hq => hz q ?_⟩
    rw [weights_agg ht]
    exact DataW.weights_mem_each (j := i) (t := fs[i].type) (d := xs[i].1) (by simp [hi]) (by simp [hix]) q hq)
  simpa using this
/-- A slice that is an argument. -/
theorem OpensZ.arg {α H : Type} {P : Program} {d : Kd α} {ok : List α → Prop} {e t : TypeId} (h : OpensZ P (Kd.slice e d) ok t) {enc : TypeId × Value → H} {w : World} {base : Nat} {sp : Nat → Bool} {held : Bool} {A : Option Addr} {len cap : Nat} {dt : DataW H} {ps : List MemPlace}
    (hT : DataW.Trod enc P w base sp held t (.slice A len cap) dt ps) (hz : ∀ n ∈ dt.weights P t, n ≤ reachBytes) : ∃ l : List α, l.length = len ∧ l.length ≤ cap ∧ d.C w A l.length l ∧ ok l := by
  obtain ⟨fuel, hf⟩ := hT
  obtain ⟨l, ⟨A', c, hcs, hl, hC⟩, hok⟩ := h.out enc w base sp held fuel _ _ hf hz
  simp [Value.cells] at hcs
  obtain ⟨rfl, rfl, rfl⟩ := hcs
  exact ⟨l, rfl, hl, hC, hok⟩
theorem each_weights {H : Type} {P : Program} {ts : List TypeId} {ds : List (DataW H)} (h : (DataW.weightsEach P ts ds).all (· ≤ reachBytes) = true) {j : Nat} {t : TypeId} {d : DataW H} (ht : ts[j]? = some t) (hd : ds[j]? = some d) : ∀ n ∈ d.weights P t, n ≤ reachBytes := fun n hn => by
  have := List.all_eq_true.1 h n (DataW.weights_mem_each ht hd n hn)
  simpa using this
end Go.Proofs.Ytpbcigilipdedaa.P

namespace Go.Proofs.Ytpbcigilipdedaa.tableSorts
open Go.ChangeShapes Go.WideShapes Go.ChangeAt Go.RowKit
open Go.ChangeMaps (open_string shut_string)
open Go.Proofs.Ytpbcigilipdedaa.P
open Go.Proofs.YtpbcigilipdedaaW.PrintWords
set_option linter.unusedVariables false
theorem own : ownKnob Try.prog.godebug = none := by kernel_rfl
theorem laidOut : laidOutB Try.prog = true := by kernel_rfl
theorem o_int : OpensZ Try.prog (Kd.int .i64) (fun n => (Lit.int .i64 n).wf = true) 3 := OpensZ.int Try.underlying3
theorem o_Lint : OpensZ Try.prog (Kd.slice 3 (Kd.int .i64)) (fun l => (List.length l * 8 ≤ 140737488351232 ∧ ∀ y1_ ∈ l, (Lit.int .i64 y1_).wf = true)) 23 := OpensZ.row Try.underlying23 (by kernel_rfl) (by kernel_rfl) o_int
theorem o_LLint : OpensZ Try.prog (Kd.slice 23 (Kd.slice 3 (Kd.int .i64))) (fun l => (List.length l * 24 ≤ 140737488351232 ∧ ∀ y1_ ∈ l, (List.length y1_ * 8 ≤ 140737488351232 ∧ ∀ y2_ ∈ y1_, (Lit.int .i64 y2_).wf = true))) 22 := OpensZ.row Try.underlying22 (by kernel_rfl) (by kernel_rfl) o_Lint
set_option maxRecDepth 100000 in
theorem lifted (os : Os) (started : os.Started) (H : Type) (enc : TypeId × Value → H) :
  ReturnsInHanded {} Try.checked os 4 .any (Rows.tableSortsSpec.pre6 enc Try.prog Try.f4 Rows.tableSortsRow.domain false) (Rows.tableSortsSpec.post enc Try.prog Try.f4 false true false false) := by
 refine returnsInHanded_of_change_sized (C := Try.checked) own started (by kernel_rfl) Try.func4
  (ChangeSpec.witness6 (enc := enc) (C := Try.checked) false ⟨#[], #[.slice none 0 0], []⟩ 8 (by kernel_rfl) (by kernel_rfl) (by kernel_rfl) (by kernel_rfl)) ?_
 intro W base args ds gs before hval0 hW hcnd hsz0 _
 have hsz : (DataW.weightsEach Try.prog (Try.f4.params.toList ++ Rows.tableSortsSpec.plain.varTypes Try.prog) (ds ++ gs)).all (· ≤ reachBytes) = true := hsz0
 have hval : ∀ (j : Nat) t v, Try.f4.params[j]? = some t → args[j]? = some v → Value.okWide Try.prog W .any base t v := hval0
 have hW' := hW
 obtain ⟨p, q, hA0, hV, rfl, hfz, hnd⟩ := hW
 have hA : DataW.TrodAll enc Try.prog W 0 (fun _ => true) true Try.f4.params.toList args.toList ds p := hA0
 rw [Try.params4] at hA hval hsz
 obtain ⟨v0, vs0, d0, ds0, p0, q0, hargs, rfl, rfl, h0, r0⟩ := trodAll_cons hA
 obtain ⟨rfl, rfl, rfl⟩ := trodAll_nil r0
 obtain rfl : args = #[v0] := by cases args; simp_all
 obtain ⟨rfl, rfl⟩ := trodVars_none hV
 have k0 := h0
 have lt0 : ∀ x ∈ p0, x.block < W.heap.size := by obtain ⟨m, hm⟩ := k0; exact DataW.trod_lt m _ _ _ hm
 obtain ⟨A0, len0, c0, rfl⟩ := okWide_slice Try.underlying22 (hval 0 22 v0 rfl rfl)
 obtain ⟨x0, rfl, hc0, hC0, ok0⟩ := OpensZ.arg o_LLint h0 (each_weights hsz (j := 0) (t := 22) rfl rfl)
 clear hA0 hval0 hsz0 hsz
 refine (P.law_TableSorts A0 c0 x0 W hC0 hc0 ok0).mono fun e W' ⟨he, bel⟩ => ?_
 subst he
 exact ⟨_, rfl, _, _, _, [], _, [], hW', trodAll_mk1 (shut_bool Try.underlying4 _), (trodAll_cons_mk (Below.trod laidOut (by kernel_rfl) (of_decide_eq_true (by kernel_rfl)) k0 bel lt0) trodAll_mk0), rfl, bel.frame _, fun h => by cases h⟩
theorem over : Rows.tableSortsRow.holds Try.pinned (OpenSpec.ofChange Rows.tableSortsSpec) :=
 OpenClaim.holds_of_wide 4 Try.f4 rfl rfl rfl rfl rfl rfl rfl ⟨rfl, rfl, rfl, rfl, rfl⟩ rfl rfl rfl rfl rfl (by kernel_rfl) Try.func4 (by kernel_rfl)
  (of_decide_eq_true (by kernel_rfl)) (by unfold Func.isWrapper; first | (rw [if_pos (by decide +kernel)]; kernel_rfl) | (rw [if_neg (by decide +kernel)]; exact ⟨rfl, rfl⟩))
  (fun os started H enc _ => lifted os started H enc)
theorem proved : Rows.TableSortsSaid := over
end Go.Proofs.Ytpbcigilipdedaa.tableSorts
namespace Go.Proofs.Ytpbcigilipdedaa
/-- The row, under a short name, for the claim. -/
theorem tableSorts_holds : Rows.TableSortsSaid := tableSorts.proved
end Go.Proofs.Ytpbcigilipdedaa
