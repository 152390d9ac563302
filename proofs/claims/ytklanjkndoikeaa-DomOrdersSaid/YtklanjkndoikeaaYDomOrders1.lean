/- Proved: the statement DomOrders. Conditions: none but those of the statement. -/
import Derived.Test.YtklanjkndoikeaaZ1
import Derived.Lib.SliceRun
import Derived.Test.YtklanjkndoikeaaZ2
import Derived.Shelf.SlSortCmp.WholeK
import Derived.Shelf.SlSortCmp.NoneTotal
import Derived.Sort.OwnSortedInts
import Derived.Test.YtklanjkndoikeaaZ3
import Derived.Test.YtklanjkndoikeaaRows
import Derived.WalkKit
import Derived.ProofKit
import Derived.OpenShut
import Derived.ShutString
import Derived.ChangeOld
import Derived.Below
import Derived.SizedLaws
import Derived.Test.YtklanjkndoikeaaV1

/- slices.Clone of ranges. -/
namespace Go.Proofs.Ytklanjkndoikeaa.P
open Go.RowKit Go.Proofs.YtklanjkndoikeaaW.PrintWords Go.Proofs.YtklanjkndoikeaaW.PrintLast Go.Proofs.YtklanjkndoikeaaW.PrintMore
set_option linter.unusedVariables false
set_option linter.unusedSimpArgs false

def cloneR.f (l0 : List S52) : Option (List S52) := if l0.length < 8796093022208 then some l0 else none
set_option maxRecDepth 100000 in
set_option maxHeartbeats 2000000 in
theorem cloneR.calls (A0 : Option Addr) (c0 : Nat) (l0 : List S52) (r : List S52) (w : World) (hr0 : Kd.C k52 w A0 l0.length l0) (hc0 : l0.length ≤ c0) (h : cloneR.f l0 = some r) :
    Calls Try.prog 60 #[.slice A0 l0.length c0] w fun e w' => ∃ v0_ : Value, e = .returned (v0_) ∧ Kd.R k52 52 w' w.heap.size (fun _ => True) v0_ r ∧ Below w.heap.size w w' := by
  have hu := Try.underlying52
  have q22 : ∀ (w : World) (a : Option Addr) (n c n' c' : Nat), (binOp .eql 22 (.slice a n c) (.slice none n' c')).run Try.prog w = .ok (.bool a.isNone) w := fun w a n c n' c' => Lib.run_eql_slice_nil w _ _ a n c n' c' Try.underlying22
  unfold cloneR.f at h
  split at h
  case isFalse => cases h
  case isTrue hl =>
    obtain rfl := Option.some.inj h
    have HL := Aside0.mk hl
    clear h hl
    have HR := Aside0.mk hr0
    have hlen : l0.length ≤ 9223372036854775807 := hr0.2.1
    cases A0 with
    | none =>
      have h0 : l0 = [] := by
        rcases Nat.eq_zero_or_pos l0.length with h | h
        · exact List.length_eq_zero_iff.1 h
        · obtain ⟨ad, e, _⟩ := hr0.2.2 h; cases e
      subst h0
      clear hr0
      go_enter Try.func60, Try.ntmps60
      go_wp2
      go_ret
      exact ⟨_, rfl, Kd.R_nil _ _ _ _ _, Below.refl _ _⟩
    | some ad =>
      clear hr0
      have HB := Aside0.mk (Below.refl w.heap.size w)
      go_enter Try.func60, Try.ntmps60
      go_wp2_with (first | ((with_reducible refine gate_dst (N := 5) rfl ?_); refine Kd.R_lit k52 _ 52 ?hg (N := 5) ?hd (xs := ([] : List S52)) (inner := []) (ok := fun _ => True) (okp := fun _ => True) ?hr ?hp (fun _ hk => hk) trivial (Below.refl w.heap.size w) (Nat.le_refl _) (by simp) ?_; (case hd => rfl); (case hg => rfl); (case hr => first | (go_simp; done) | (go_simp; rfl)); (case hp => exact (Reps.none _ _)); intro v1 w1 ho hb hg_ hnew_; have HO := Aside0.mk ho; have HB := Aside0.mk hb; clear ho hb hg_ hnew_) | ((with_reducible refine gate_builtin (b := .append) (xs := #[.tmp 5, .tmp 6]) rfl ?_); at_builtin; go_loud (refine Kd.R_append_rows k52 (Rr := k52.K w1) (w0 := w) w.heap.size rfl (.tmp 5) (.tmp 6) 22 52 (.agg #[(.int .i64 0), (.int .i64 0)]) 16 rfl Try.underlying22 info52 rfl (by decide) (by omega) v1 ([] : List S52) l0 _ _ _ (fun _ => True) (fun _ => False) rfl rfl ?aO ?aR ?aK (fun _ h => h.elim) ?aF ?aB ?aS ?aL ?_; (case aR => exact Kd.C_below HR.out HB.out); (case aK => intro x cs h; have e_ := k52_open h; subst e_; exact k52_mkM _ _ _ x); (case aB => exact HB.out); (case aF => exact (fun _ _ => trivial)); (case aO => exact HO.out); (case aS => exact HB.out.size); (case aL => have := HL.out; simp; omega); intro v2 w2 ho2 hb2 hg hat; have HO2 := Aside0.mk ho2; have HB2 := Aside0.mk hb2; clear ho2 hb2 hg hat)))
      go_ret
      exact ⟨_, rfl, by simpa using HO2.out, HB2.out⟩
end Go.Proofs.Ytklanjkndoikeaa.P

/- slices.SortFunc of ranges by their least values (dom.Join's closure). -/
namespace Go.Proofs.Ytklanjkndoikeaa.P
open Go.RowKit Go.Shelf Go.Proofs.YtklanjkndoikeaaW.PrintWords Go.Proofs.YtklanjkndoikeaaW.PrintLast Go.Proofs.YtklanjkndoikeaaW.PrintMore
set_option linter.unusedVariables false
set_option linter.unusedSimpArgs false

def okLo (x : S52) : Prop := -1152921504606846976 ≤ x.f0 ∧ x.f0 ≤ 1152921504606846976
instance (x : S52) : Decidable (okLo x) := inferInstanceAs (Decidable (_ ∧ _))
structure SubLo where
  r : S52
  ok : okLo r
instance : Inhabited SubLo := ⟨⟨⟨0, 0⟩, by constructor <;> decide⟩⟩
def encLo (x : SubLo) : List Value := [.int .i64 x.r.f0, .int .i64 x.r.f1]
def cfLo (x y : SubLo) : Int := x.r.f0 - y.r.f0
theorem ltLo (x y : SubLo) : ltOf cfLo x y = decide (x.r.f0 < y.r.f0) := by
  unfold ltOf cfLo
  exact decide_eq_decide.2 (by omega)
theorem swoLo : Go.Sort.SWO (ltOf cfLo) := by
  refine ⟨fun x => ?_, fun x y z h1 h2 => ?_, fun x y z h1 h2 => ?_⟩
  · rw [ltLo]; simp
  · rw [ltLo, decide_eq_true_iff] at *; omega
  · rw [ltLo, decide_eq_false_iff_not] at *; omega
def toLo (x : S52) : SubLo := if h : okLo x then ⟨x, h⟩ else default
theorem toLo_val {x : S52} (h : okLo x) : (toLo x).r = x := by unfold toLo; rw [dif_pos h]
/-- What comes of the sort. -/
def sortedLo (l : List S52) : Array SubLo := Go.Sort.pdq (ltOf cfLo) (l.map toLo).toArray 0 (l.map toLo).toArray.size (Go.Lib.bitLen (l.map toLo).toArray.size) true true
def sortLo.f (l : List S52) : Option (List S52) :=
  if (l.all fun x => decide (okLo x)) = true then (if l.length < 1000000000000 then some ((sortedLo l).toList.map (·.r)) else none) else none
theorem sortedLo_size (l : List S52) : (sortedLo l).size = l.length := by
  have h := Go.Sort.pdq_sorts (ltOf cfLo) swoLo (l.map toLo).toArray 0 (l.map toLo).toArray.size (Go.Lib.bitLen (l.map toLo).toArray.size) true true (Nat.zero_le _) (Nat.le_refl _) (Or.inl rfl)
  have h1 := h.1.1
  unfold sortedLo
  rw [h1]
  simp
theorem loPred (x y : SubLo) (W : World) : Calls Try.prog 62 #[.agg #[.int .i64 x.r.f0, .int .i64 x.r.f1], .agg #[.int .i64 y.r.f0, .int .i64 y.r.f1]] W fun e w' => e = .returned (.int .i64 (cfLo x y)) ∧ ∃ q os', w' = Go.Sort.grow (W.drewN q) os' := by
  obtain ⟨x, hx1, hx2⟩ := x
  obtain ⟨y, hy1, hy2⟩ := y
  have hw : wrap64 (x.f0 - y.f0) = x.f0 - y.f0 := by unfold wrap64; omega
  have hw' : IntKind.i64.wrap (x.f0 - y.f0) = x.f0 - y.f0 := (i64_w _).trans hw
  show Calls Try.prog 62 #[.agg #[.int .i64 x.f0, .int .i64 x.f1], .agg #[.int .i64 y.f0, .int .i64 y.f1]] W fun e w' => e = .returned (.int .i64 (x.f0 - y.f0)) ∧ ∃ q os', w' = Go.Sort.grow (W.drewN q) os'
  clear hx1 hx2 hy1 hy2
  go_enter Try.func62, Try.ntmps62
  go_wp2
  go_ret
  refine ⟨by first | rfl | (simp [hw']; done) | (simp [hw]; done), 0, #[.cells #[.int .i64 x.f0, .int .i64 x.f1] 52, .cells #[.int .i64 y.f0, .int .i64 y.f1] 52], ?_⟩
  rw [Go.Sort.alloc_eq_grow, Go.Sort.alloc_eq_grow, Go.Sort.grow_grow]
  rfl

/-! ### The row -/
theorem flat_get (d : Array SubLo) (j : Nat) (h : j < d.size * 2) : (Go.Sort.flatK encLo 2 d)[j]! = (encLo d[j / 2]!)[j % 2]! := Go.Sort.get_flatK encLo 2 d j h
theorem rows_flat (w : World) (base : Nat) (ok : Nat → Prop) (l : List S52) (hok : ∀ x ∈ l, okLo x) (inner : List Value) (h : Reps (k52.M w base ok) 2 l inner) : inner = (Go.Sort.flatK encLo 2 (l.map toLo).toArray).toList := by
  have hl : inner.length = l.length * 2 := h.1
  refine List.ext_getElem (by simp [hl]) (fun j h1 h2 => ?_)
  have hj : j / 2 < l.length := by omega
  have hm := k52_openM (h.2 (j / 2) _ (List.getElem?_eq_getElem hj))
  have hj2 : j < (l.map toLo).toArray.size * 2 := by simp; omega
  have e1 : (Go.Sort.flatK encLo 2 (l.map toLo).toArray).toList[j] = (encLo (toLo l[j / 2]))[j % 2]! := by
    have := flat_get (l.map toLo).toArray j hj2
    rw [getElem!_pos _ j (by simp; omega)] at this
    rw [Array.getElem_toList, this, getElem!_pos _ (j / 2) (by simp; omega)]
    simp
  have e2 : inner[j] = ([Value.int .i64 l[j / 2].f0, .int .i64 l[j / 2].f1] : List Value)[j % 2]! := by
    rw [← hm]
    have : j = j / 2 * 2 + j % 2 := by omega
    rw [getElem!_pos _ (j % 2) (by simp; omega)]
    simp
    congr 1
  rw [e1, e2, encLo, toLo_val (hok _ (List.getElem_mem hj))]
theorem rows_flat' (w : World) (base : Nat) (ok : Nat → Prop) (d : Array SubLo) : Reps (k52.M w base ok) 2 (d.toList.map (·.r)) (Go.Sort.flatK encLo 2 d).toList := by
  refine ⟨by simp, fun j p hp => ?_⟩
  obtain ⟨hj, rfl⟩ := List.getElem?_eq_some_iff.1 hp
  have hj' : j < d.size := by simpa using hj
  have e : (((Go.Sort.flatK encLo 2 d).toList.drop (j * 2)).take 2) = encLo d[j] := by
    refine List.ext_getElem (by simp [encLo]; omega) (fun i h1 h2 => ?_)
    have hi : i < 2 := by simpa [encLo] using h2
    have := flat_get d (j * 2 + i) (by omega)
    rw [getElem!_pos _ (j * 2 + i) (by simp; omega), getElem!_pos _ ((j * 2 + i) / 2) (by omega), getElem!_pos _ ((j * 2 + i) % 2) (by simp [encLo]; omega)] at this
    simp only [List.getElem_take, List.getElem_drop, Array.getElem_toList]
    rw [this]
    have e3 : (j * 2 + i) / 2 = j := by omega
    have e4 : (j * 2 + i) % 2 = i := by omega
    simp only [e3, e4]
  have e5 : (d.toList.map (·.r))[j] = d[j].r := by simp
  show k52.M w base ok _ (((Go.Sort.flatK encLo 2 d).toList.drop (j * 2)).take 2)
  rw [e, e5]
  exact k52_mkM w base ok (d[j].r)
theorem heap_sortedV {w : World} {g n : Nat} {os : Array Obj} {cur : Array Value} {e : TypeId} {fr : Nat × Nat} (F : Array Value) (hb : w.heap[g]? = some (.cells cur e fr)) :
    (Go.Sort.grow (Go.Sort.putRow id (Go.Sort.ahead w n) g 0 F) os).heap[g]? = some (.cells (Go.Sort.putCells id 0 F cur) e fr) := by
  have hg : g < w.heap.size := (Array.getElem?_eq_some_iff.1 hb).1
  rw [Go.Sort.heap_grow_old _ _ (by simpa using hg)]
  simp [Go.Sort.putRow, Go.Sort.mapBlock, Go.Sort.ahead, Array.getElem?_modify, hb, Go.Sort.onCells]
theorem grownBy_sortedV {w : World} {g n : Nat} {os : Array Obj} (F : Array Value) : w.grownBy (Go.Sort.grow (Go.Sort.putRow id (Go.Sort.ahead w n) g 0 F) os) (some g) := by
  refine ⟨rfl, rfl, rfl, by simp, fun k hk hne => ?_⟩
  rw [Go.Sort.heap_grow_old _ _ (by simpa using hk)]
  have : g ≠ k := fun e => hne (by rw [e])
  simp [Go.Sort.putRow, Go.Sort.mapBlock, Go.Sort.ahead, Array.getElem?_modify, this]
theorem take_putCellsV (cur F : Array Value) (h : F.size ≤ cur.size) : (Go.Sort.putCells id 0 F cur).toList.take F.size = F.toList := by
  apply List.ext_getElem?
  intro j
  by_cases hj : j < F.size
  · rw [List.getElem?_take_of_lt hj, Array.getElem?_toList]
    simp [Go.Sort.putCells, hj, show j < cur.size by omega]
  · rw [List.getElem?_take_eq_none (by omega), List.getElem?_eq_none (by simp; omega)]
set_option maxHeartbeats 2000000 in
theorem sortLo.calls (P0_ : Nat → Prop) (u9000_ : Value) (l0 : List S52) (r : List S52) (w0 w : World) (hB : Below w0.heap.size w0 w) (ho0 : Kd.R k52 52 w w0.heap.size P0_ u9000_ l0) (h : sortLo.f l0 = some r) :
    Calls Try.prog 61 #[u9000_, .func (.func 62) #[] #[]] w fun e w' => e = .returned (.tuple #[]) ∧ Kd.R k52 52 w' w0.heap.size P0_ u9000_ r ∧ Below w0.heap.size w0 w' ∧ Kept w w' (fun k_ => P0_ k_) := by
  unfold sortLo.f at h
  split at h
  case isFalse => cases h
  case isTrue hall =>
    split at h
    case isFalse => cases h
    case isTrue hlen =>
      obtain rfl := Option.some.inj h
      have hok : ∀ x ∈ l0, okLo x := fun x hx => by simpa using List.all_eq_true.1 hall x hx
      have hsz := sortedLo_size l0
      obtain ⟨hP, inner, hown, hreps⟩ := ho0
      have hin := rows_flat w w0.heap.size _ l0 hok inner hreps
      rcases hown.2 with ⟨rfl, h0⟩ | ⟨g, cap, cur, rfl, hg, hb, hn, hcap, hcs, htk⟩
      · have hl : l0 = [] := List.length_eq_zero_iff.1 h0
        subst hl
        refine (AnyF.slices_SortFunc_none lsortF none 0 _ w).mono ?_
        rintro e w' ⟨rfl, rfl⟩
        have hr : ((sortedLo []).toList.map (·.r)) = [] := by
          have : (sortedLo []).size = 0 := hsz
          apply List.length_eq_zero_iff.1
          simpa using this
        rw [hr]
        exact ⟨rfl, Kd.R_nil _ _ _ _ _, hB, Kept.refl _ _⟩
      · have hgl : g < w.heap.size := (Array.getElem?_eq_some_iff.1 hb).1
        have hds : (l0.map toLo).toArray.size = l0.length := by simp
        have hil : inner.length = l0.length * 2 := hreps.1
        have hfs : (Go.Sort.flatK encLo 2 (l0.map toLo).toArray).size = l0.length * 2 := by rw [Go.Sort.size_flatK, hds]
        have hH : Go.Sort.HoldsK encLo 2 w g 0 (l0.map toLo).toArray := by
          intro j hj
          rw [hfs] at hj
          refine ⟨?_, by simp [World.frozen?, hb]⟩
          have h1 : (cur.toList.take (l0.length * 2))[j]? = inner[j]? := by rw [← htk]; rfl
          rw [List.getElem?_take_of_lt hj, hin, Array.getElem?_toList, Array.getElem?_toList] at h1
          have h2 := Array.getElem?_eq_getElem (xs := Go.Sort.flatK encLo 2 (l0.map toLo).toArray) (i := j) (by rw [hfs]; exact hj)
          rw [h2] at h1
          simp only [World.cell?, hb, Nat.zero_add]
          simp only [Option.isSome_none, Bool.false_eq_true, if_false]
          rw [h1, getElem!_pos _ j (by rw [hfs]; exact hj)]
          rfl
        have hc := AnyQ.slices_SortFunc_eq lsortF 2 Try.isAgg52 Try.sizeOf52 encLo (fun _ => rfl) (fun x v hv => by simp [encLo] at hv; rcases hv with rfl | rfl <;> rfl) cfLo swoLo 62 #[] g 0 cap (l0.map toLo).toArray w
          (enters_of Try.func62 (by kernel_rfl) rfl) (fun m os dk hs x y => loPred x y _) hH hgl (by rw [hds]; omega)
        rw [hds] at hc
        refine Calls.mono (P := Try.prog) (f := 61) hc ?_
        rintro e w' ⟨rfl, n, os, rfl⟩
        have hD : Go.Sort.pdq (ltOf cfLo) (l0.map toLo).toArray 0 l0.length (Go.Lib.bitLen l0.length) true true = sortedLo l0 := by unfold sortedLo; rw [hds]
        rw [hD]
        have hF : (Go.Sort.flatK encLo 2 (sortedLo l0)).size = l0.length * 2 := by rw [Go.Sort.size_flatK, hsz]
        have hgr := grownBy_sortedV (w := w) (g := g) (n := n) (os := os) (Go.Sort.flatK encLo 2 (sortedLo l0))
        refine ⟨rfl, ⟨hP, (Go.Sort.flatK encLo 2 (sortedLo l0)).toList, ⟨by simp [hsz]; rfl, .inr ⟨g, cap, Go.Sort.putCells id 0 (Go.Sort.flatK encLo 2 (sortedLo l0)) cur, by simp [hsz], hg, heap_sortedV _ hb, by simp [hsz]; exact hn, hcap, by simp [Go.Sort.putCells]; exact hcs, ?_⟩⟩, rows_flat' _ _ _ _⟩, hB.grown hgr hB.size (fun k e => by cases e; exact hg), Kept.of_grown hgr (Kept.refl _ _) (fun k e => .inl (hP k (by simpa [Value.ownBlock] using e)))⟩
        have hsz2 : ((sortedLo l0).toList.map (·.r)).length * 2 = (Go.Sort.flatK encLo 2 (sortedLo l0)).size := by rw [hF]; simp [hsz]
        show (Go.Sort.putCells id 0 (Go.Sort.flatK encLo 2 (sortedLo l0)) cur).toList.take (((sortedLo l0).toList.map (·.r)).length * 2) = _
        rw [hsz2]
        exact take_putCellsV _ _ (by rw [hF, hcs]; show l0.length * 2 ≤ cap * 2; omega)
end Go.Proofs.Ytklanjkndoikeaa.P

-- Written by wip/tools/px.py out of the translation. Lean checks it.
namespace Go.Proofs.Ytklanjkndoikeaa.P
open Go.RowKit Go.Proofs.YtklanjkndoikeaaW.PrintWords Go.Proofs.YtklanjkndoikeaaW.PrintLast Go.Proofs.YtklanjkndoikeaaW.PrintMore
attribute [local go_sem] max2_int min2_int max_two min_two max_three min_three max_four min_four   -- for this text's walks alone
set_option linter.unusedVariables false
set_option linter.unusedSimpArgs false

/-! ### dom_Join: function 38 -/
def dom_Join.l0 : Nat → List (S52) → List (S52) → Int → Int → Option ((List (S52)))
 | 0, _, _, _, _ => none
 | k + 1, x6, x16, x17, x18 => if x18 < x17 then (if 0 ≤ x18 then (if x18 < (x16.length : Int) then (if (x6.length : Int) > 0 then (if 0 ≤ (wrap64 ((x6.length : Int) - 1)) then (if (wrap64 ((x6.length : Int) - 1)) < (x6.length : Int) then (if ((rd_T52 x16 x18).f0) ≤ (wrap64 (((rd_T52 x6 (wrap64 ((x6.length : Int) - 1))).f1) + 1)) then (dom_Join.l0 k (x6.set ((wrap64 ((x6.length : Int) - 1)) : Int).toNat (⟨(rd_T52 x6 (wrap64 ((x6.length : Int) - 1))).f0, mx ((rd_T52 x6 (wrap64 ((x6.length : Int) - 1))).f1) ((rd_T52 x16 x18).f1)⟩ : S52)) x16 x17 (wrap64 (x18 + 1))) else (if x6.length < 8796093022208 then (dom_Join.l0 k (x6 ++ [(⟨(rd_T52 x16 x18).f0, (rd_T52 x16 x18).f1⟩ : S52)]) x16 x17 (wrap64 (x18 + 1))) else (none))) else (none)) else (none)) else (if x6.length < 8796093022208 then (dom_Join.l0 k (x6 ++ [(⟨(rd_T52 x16 x18).f0, (rd_T52 x16 x18).f1⟩ : S52)]) x16 x17 (wrap64 (x18 + 1))) else (none))) else (none)) else (none)) else (some x6)
def dom_Join.f (k : Nat) (l0 : List (S52)) (l1 : List (S52)) : Option ((List (S52))) := (cloneR.f l0).bind fun t475 => (if t475.length + l1.length < 8796093022208 then ((some (t475 ++ l1 : List (S52))).bind fun y478 => ((sortLo.f y478).bind fun t481 => (dom_Join.l0 k ([] : List (S52)) t481 (y478.length : Int) 0))) else (none))
theorem dom_Join.mono_l : ∀ k, (∀ y0 y1 y2 y3, LeO (dom_Join.l0 k y0 y1 y2 y3) (dom_Join.l0 (k + 1) y0 y1 y2 y3))
 | 0 => fun _ _ _ _ r h => by simp [dom_Join.l0] at h
 | k + 1 => by
  have ih0 := dom_Join.mono_l k
  ·intro y0 y1 y2 y3
   unfold dom_Join.l0
   repeat' first
   | (with_reducible exact ih0 _ _ _ _)
   | (with_reducible exact LeO.refl _)
   | (with_reducible exact LeO.none _)
   | (with_reducible refine LeO.ite ?_ ?_)
   | (with_reducible refine LeO.bind ?_ (fun _ => ?_))
   | exact ih0 _ _ _ _
   | exact LeO.none _
   | refine LeO.ite ?_ ?_
   | refine LeO.bind ?_ (fun _ => ?_)
theorem dom_Join.mono : ∀ a0 a1 k, LeO (dom_Join.f k a0 a1) (dom_Join.f (k + 1) a0 a1) := by
 intro a0 a1 k
 have ih0 := dom_Join.mono_l k
 unfold dom_Join.f
 repeat' first
   | (with_reducible exact ih0 _ _ _ _)
   | (with_reducible exact LeO.refl _)
   | (with_reducible exact LeO.none _)
   | (with_reducible refine LeO.ite ?_ ?_)
   | (with_reducible refine LeO.bind ?_ (fun _ => ?_))
   | exact ih0 _ _ _ _
   | exact LeO.none _
   | refine LeO.ite ?_ ?_
   | refine LeO.bind ?_ (fun _ => ?_)
def dom_Join.T8 : Bool × List (List Nat × List Nat) := (true, [([], []), ([0], [0]), ([1], [1]), ([2], [2]), ([3, 2], [2, 3]), ([2], [2]), ([2], [2]), ([6, 2], [2, 6]), ([5, 7, 2], [2, 5, 7]), ([8, 2], [2, 8]), ([9, 2], [2, 9]), ([10, 2], [2, 10]), ([4, 11, 2], [2, 4, 11]), ([2, 12], [2, 12])])
def dom_Join.B8 : List Nat := [0, 1, 3, 7, 15, 7, 7, 71, 231, 487, 999, 2023, 4095, 8191]
theorem dom_Join.tab8 : rtab .any (opsOf Try.f38 8) = dom_Join.T8 := by kernel_rfl
theorem dom_Join.bits8 : waitsOk dom_Join.T8.2 dom_Join.B8 = true := by kernel_rfl
def dom_Join.T9 : Bool × List (List Nat × List Nat) := (true, [([], []), ([], []), ([1], [1]), ([], []), ([], []), ([4], [4]), ([3, 5], [3, 5]), ([6], [6]), ([7], [7]), ([], []), ([9], [9]), ([8, 10], [8, 10]), ([0, 2, 0, 1, 2, 3, 4, 5, 6, 7, 8, 9, 10, 11], [0, 2]), ([12, 0, 1, 2, 3, 4, 5, 6, 7, 8, 9, 10, 11], [12]), ([13, 11, 0, 1, 2, 3, 4, 5, 6, 7, 8, 9, 10, 11], [11, 13])])
def dom_Join.B9 : List Nat := [0, 0, 2, 0, 0, 16, 56, 120, 248, 0, 512, 2040, 4095, 8191, 16383]
theorem dom_Join.tab9 : rtab .any (opsOf Try.f38 9) = dom_Join.T9 := by kernel_rfl
theorem dom_Join.bits9 : waitsOk dom_Join.T9.2 dom_Join.B9 = true := by kernel_rfl
set_option maxHeartbeats 8000000 in
set_option maxRecDepth 100000 in
theorem dom_Join.calls (k : Nat) (A0 : Option Addr) (c0 : Nat) (l0 : List (S52)) (A1 : Option Addr) (c1 : Nat) (l1 : List (S52)) (r : List (S52)) (w : World) (hr0 : Kd.C k52 w A0 l0.length l0) (hc0 : l0.length ≤ c0) (hr1 : Kd.C k52 w A1 l1.length l1) (hc1 : l1.length ≤ c1) (h : dom_Join.f k l0 l1 = some r) :
  Calls Try.prog 38 #[.slice A0 l0.length c0, .slice A1 l1.length c1] w fun e w' => ∃ v0_ : Value, e = .returned (v0_) ∧ Kd.R k52 52 w' w.heap.size (fun _ => True) v0_ r ∧ Below w.heap.size w w' := by
 have hu52 := Try.underlying52
 have HR0 := Aside0.mk hr0
 have HC0 := Aside0.mk hc0
 clear hr0 hc0
 have HR1 := Aside0.mk hr1
 have HC1 := Aside0.mk hc1
 clear hr1 hc1
 have HB := Aside0.mk (Below.refl w.heap.size w)
 have H : ((cloneR.f l0).bind fun t475 => (if t475.length + l1.length < 8796093022208 then ((some (t475 ++ l1 : List (S52))).bind fun y478 => ((sortLo.f y478).bind fun t481 => (dom_Join.l0 k ([] : List (S52)) t481 (y478.length : Int) 0))) else (none))) = some r := h
 clear h
 replace H := Option.bind_eq_some_iff.mp H
 obtain ⟨t475, A30, H⟩ := H
 replace H : (if t475.length + l1.length < 8796093022208 then ((some (t475 ++ l1 : List (S52))).bind fun y478 => ((sortLo.f y478).bind fun t481 => (dom_Join.l0 k ([] : List (S52)) t481 (y478.length : Int) 0))) else (none)) = some r := H
 have A3 := Aside0.mk A30
 clear A30
 by_cases c4 : t475.length + l1.length < 8796093022208
 ·rw [if_pos c4] at H
  have LMc4 := Aside0.mk c4
  clear c4
  obtain ⟨y478, hy478⟩ : ∃ y_ : List (S52), y_ = (t475 ++ l1) := ⟨_, rfl⟩
  replace H : ((sortLo.f y478).bind fun t481 => (dom_Join.l0 k ([] : List (S52)) t481 (y478.length : Int) 0)) = some r := by first | (rw [hy478]; with_reducible exact H) | (have H2_ := (Option.bind_some _ _).symm.trans H; rw [hy478]; with_reducible exact H2_) | (have H2_ := (Option.bind_some _ _).symm.trans H; with_reducible exact H2_) | with_reducible exact H | (rw [hy478]; exact H) | exact H
  have Ny478 := Aside0.mk hy478
  clear hy478
  replace H := Option.bind_eq_some_iff.mp H
  obtain ⟨t481, A50, H⟩ := H
  replace H : (dom_Join.l0 k ([] : List (S52)) t481 (y478.length : Int) 0) = some r := H
  have A5 := Aside0.mk A50
  clear A50
  have H' := Aside0.mk H
  clear H
  go_enter Try.func38, Try.ntmps38
  go_wp2_with (first | ((with_reducible refine gate_callee (f := 60) rfl ?_); refine goesL_ (some 11) rfl rfl Try.func60 (by kernel_rfl) rfl #[.slice A0 l0.length c0] rfl (by (try simp only [List.map_toArray, List.map_cons, List.map_nil]); first | done | rfl | (simp only [List.length_drop, List.length_take]; rfl)) ?_; (with_reducible refine (cloneR.calls _ _ l0 t475 _ ?side1 ?side2 A3.out).mono ?_); (case side1 => repeat (first | exact HR0.out | (with_reducible refine Kd.C_alloc ?_ _) | (with_reducible refine Kd.C_drewN ?_ _) | (with_reducible refine Kd.C_drew ?_))); (case side2 => exact HC0.out); rintro e w6 ⟨v476, rfl, ho0, hb⟩; refine ⟨_, rfl, ?_⟩; have n0_ := Aside0.mk (Kd.R_lower ho0 (below_size (by repeat (first | (with_reducible first | exact HB.out | apply below_alloc | apply pw_below_drewN | apply below_drew1) | exact HB.out)))); have n1_ := Aside0.mk (below_step (by repeat (first | (with_reducible first | exact HB.out | apply below_alloc | apply pw_below_drewN | apply below_drew1) | exact HB.out)) hb); clear HB; have HO477 := n0_; have HB := n1_; clear n0_ n1_; (try clear hb); (try clear hb2); (try clear hk); (try clear hi); (try clear ho0)) | ((with_reducible refine gate_builtin (b := .append) (xs := #[.tmp 11, .tmp 12]) rfl ?_); at_builtin; refine Kd.R_append_rows k52 (w0 := w) w.heap.size rfl (.tmp 11) (.tmp 12) 22 52 (.agg #[(.int .i64 0), (.int .i64 0)]) 16 rfl Try.underlying22 info52 rfl (by decide) (by omega) v476 t475 l1 _ _ _ (fun _ => True) (fun _ => False) rfl rfl ?aO ?aR (fun _ _ h => h) (fun _ h => h.elim) ?aF ?aB ?aS ?aL ?_; (case aR => repeat (first | exact (Kd.C_below HR1.out HB.out) | (with_reducible refine Kd.C_alloc ?_ _) | (with_reducible refine Kd.C_drewN ?_ _) | (with_reducible refine Kd.C_drew ?_))); (case aB => exact (by repeat (first | (with_reducible first | exact HB.out | apply below_alloc | apply pw_below_drewN | apply below_drew1) | exact HB.out))); (case aF => exact (fun _ _ => trivial)); (case aO => exact (by (with_reducible repeat (first | apply Kd.R_alloc | apply Kd.R_drewN | apply Kd.R_drew)); exact HO477.out)); (case aS => exact (below_size (by repeat (first | (with_reducible first | exact HB.out | apply below_alloc | apply pw_below_drewN | apply below_drew1) | exact HB.out)))); (case aL => have := LMc4.out; omega); intro v479 w7 ho hb hg hat; rw [← Ny478.out] at ho; have n0_ := Aside0.mk (hb); have n1_ := Aside0.mk (ho); clear HB; clear HO477; have HB := n0_; have HO480 := n1_; clear n0_ n1_; clear ho hb hg hat; obtain ⟨Ao8, co8, eo8⟩ := Kd.R_slice HO480.out; subst eo8) | ((with_reducible refine gate_callee (f := 61) rfl ?_); refine goesL_ (some 15) rfl rfl Try.func61 (by kernel_rfl) rfl #[.slice Ao8 y478.length co8, .func (.func 62) #[] #[]] rfl (by (try simp only [List.map_toArray, List.map_cons, List.map_nil]); first | done | rfl | (simp only [List.length_drop, List.length_take]; rfl)) ?_; (with_reducible refine (sortLo.calls (fun k_ => some k_ = (.slice Ao8 y478.length co8 : Value).ownBlock) (.slice Ao8 y478.length co8) y478 t481 w _ ?side1 ?side2 A5.out).mono ?_); (case side1 => repeat (first | (with_reducible first | exact HB.out | apply below_alloc | apply pw_below_drewN | apply below_drew1) | exact HB.out)); (case side2 => exact Kd.R_tight rfl HO480.out); rintro e w9 ⟨rfl, hy0, hb, hkp⟩; refine ⟨_, rfl, ?_⟩; have n0_ := Aside0.mk (Kd.R_reok rfl hy0 (fun k_ e_ => HO480.out.1 k_ e_)); have n1_ := Aside0.mk (hb); clear HO480; clear HB; have HO480 := n0_; have HB := n1_; clear n0_ n1_; (try clear hb); (try clear hkp); (try clear hy0)))
  go_loopg [6, 18] k (fun kq v6 v18 w' => ∃ (x6_1 : List (S52)) (x16_1 : List (S52)) (x18_1 : Int), v18 = .int .i64 x18_1 ∧ Aside0 (dom_Join.l0 kq x6_1 x16_1 (y478.length : Int) x18_1 = some r) ∧ Aside0 (kq ≤ k) ∧ Aside0 (Kd.R k52 52 w' w.heap.size (fun k_ => some k_ ≠ ((.slice Ao8 y478.length co8) : Value).ownBlock) v6 x6_1) ∧ Aside0 (Kd.R k52 52 w' w.heap.size (fun k_ => some k_ ≠ (v6 : Value).ownBlock) (.slice Ao8 y478.length co8) x16_1) ∧ Aside0 (Below w.heap.size w w'))
  case atStart => exact ⟨(([] : List (S52))), (t481), (0), (by first | rfl | (simp; done) | (simp [*]; done)), H', ⟨Nat.le_refl _⟩, ⟨by first | exact Kd.R_nil _ _ _ _ _ | exact Kd.N_nil _ _ _ _ _ | exact Kd.V_nil _ _ _ _ _ | exact Kd.Q_nil _ _ _ _ _ | exact Kd.S_nil _ _ _ _ _⟩, ⟨by (with_reducible repeat (first | apply Kd.R_alloc | apply Kd.R_drewN | apply Kd.R_drew)); exact Kd.R_mono HO480.out (fun _ hk => (by simp [Value.ownBlock]))⟩, ⟨by repeat (first | (with_reducible first | exact HB.out | apply below_alloc | apply pw_below_drewN | apply below_drew1) | exact HB.out)⟩⟩
  case round =>
   clear H'
   try clear c1
   try clear p2
   try clear c3
   try clear c4
   try clear c6
   obtain ⟨x6_1, x16_1, x18_1, rfl, HA, HK1, HO_6, HO_16, HB⟩ := hrel
   have hl16_1 := (Kd.R_reads' HO_16.out).1
   rw [hl16_1] at HO_16
   (try simp only [hl16_1])
   (try simp only [hl16_1] at HO_6)
   cases gk with
   | zero => exact absurd HA.out (by simp [dom_Join.l0])
   | succ k1 =>
    have H := HA.out
    clear HA
    simp only [dom_Join.l0] at H
    by_cases c10 : x18_1 < (y478.length : Int)
    ·rw [if_pos c10] at H
     have c10b0 : decide (x18_1 < (y478.length : Int)) = true := decide_eq_true c10
     have c10b0_l : decide (x18_1 < (x16_1.length : Int)) = true := by first | (rw [← hl16_1]; exact c10b0) | exact c10b0
     clear c10
     by_cases c11 : 0 ≤ x18_1
     ·rw [if_pos c11] at H
      have c11b0 : decide (0 ≤ x18_1) = true := decide_eq_true c11
      clear c11
      by_cases c12 : x18_1 < (x16_1.length : Int)
      ·rw [if_pos c12] at H
       have c12b0 : decide (x18_1 < (x16_1.length : Int)) = true := decide_eq_true c12
       clear c12
       by_cases c13 : (x6_1.length : Int) > 0
       ·rw [if_pos c13] at H
        have c13b0 : decide (0 < (x6_1.length : Int)) = true := decide_eq_true c13
        have c13b1 : decide (0 < x6_1.length) = true := decide_eq_true (by omega)
        clear c13
        obtain ⟨ji14, hji14⟩ : ∃ j_ : Int, (wrap64 ((x6_1.length : Int) - 1)) = j_ := ⟨_, rfl⟩
        replace H : (if 0 ≤ (ji14) then (if (ji14) < (x6_1.length : Int) then (if ((rd_T52 x16_1 x18_1).f0) ≤ (wrap64 (((rd_T52 x6_1 (ji14)).f1) + 1)) then (dom_Join.l0 k1 (x6_1.set ((ji14) : Int).toNat (⟨(rd_T52 x6_1 (ji14)).f0, mx ((rd_T52 x6_1 (ji14)).f1) ((rd_T52 x16_1 x18_1).f1)⟩ : S52)) x16_1 (y478.length : Int) (wrap64 (x18_1 + 1))) else (if x6_1.length < 8796093022208 then (dom_Join.l0 k1 (x6_1 ++ [(⟨(rd_T52 x16_1 x18_1).f0, (rd_T52 x16_1 x18_1).f1⟩ : S52)]) x16_1 (y478.length : Int) (wrap64 (x18_1 + 1))) else (none))) else (none)) else (none)) = some r := by first | (rw [hji14] at H; exact H) | (simp only [hji14] at H ⊢; exact H)
        have hji14w : (IntKind.i64.wrap ((x6_1.length : Int) - 1)) = ji14 := (i64_w _).trans hji14
        by_cases c15 : 0 ≤ (ji14)
        ·rw [if_pos c15] at H
         have c15b0 : decide (0 ≤ (ji14)) = true := decide_eq_true c15
         clear c15
         by_cases c16 : (ji14) < (x6_1.length : Int)
         ·rw [if_pos c16] at H
          have c16b0 : decide ((ji14) < (x6_1.length : Int)) = true := decide_eq_true c16
          clear c16
          by_cases c17 : ((rd_T52 x16_1 x18_1).f0) ≤ (wrap64 (((rd_T52 x6_1 (ji14)).f1) + 1))
          ·rw [if_pos c17] at H
           have c17b0 : decide (((rd_T52 x16_1 x18_1).f0) ≤ (wrap64 (((rd_T52 x6_1 (ji14)).f1) + 1))) = true := decide_eq_true c17
           clear c17
           obtain ⟨ji18, hji18⟩ : ∃ j_ : Int, (mx ((rd_T52 x6_1 (ji14)).f1) ((rd_T52 x16_1 x18_1).f1)) = j_ := ⟨_, rfl⟩
           replace H : (dom_Join.l0 k1 (x6_1.set ((ji14) : Int).toNat (⟨(rd_T52 x6_1 (ji14)).f0, ji18⟩ : S52)) x16_1 (y478.length : Int) (wrap64 (x18_1 + 1))) = some r := by first | (rw [hji18] at H; exact H) | (simp only [hji18] at H ⊢; exact H)
           have hji18_ : (if ((rd_T52 x6_1 (ji14)).f1) < ((rd_T52 x16_1 x18_1).f1) then ((rd_T52 x16_1 x18_1).f1) else ((rd_T52 x6_1 (ji14)).f1)) = ji18 := hji18
           obtain ⟨y486, hy486⟩ : ∃ y_ : List (S52), y_ = (x6_1.set ((ji14) : Int).toNat (⟨(rd_T52 x6_1 (ji14)).f0, ji18⟩ : S52)) := ⟨_, rfl⟩
           replace H : (dom_Join.l0 k1 y486 x16_1 (y478.length : Int) (wrap64 (x18_1 + 1))) = some r := by first | (rw [hy486]; with_reducible exact H) | (have H2_ := (Option.bind_some _ _).symm.trans H; rw [hy486]; with_reducible exact H2_) | (have H2_ := (Option.bind_some _ _).symm.trans H; with_reducible exact H2_) | with_reducible exact H | (rw [hy486]; exact H) | exact H
           have Ny486 := Aside0.mk hy486
           clear hy486
           have H' := Aside0.mk H
           clear H
           have p482 : 0 ≤ (x18_1 : Int) := of_decide_eq_true (by first | (with_reducible assumption) | assumption)
           have q482 : x18_1 < (x16_1.length : Int) := of_decide_eq_true (by first | (with_reducible assumption) | assumption)
           obtain ⟨ad482, e482, hx482_0, hx482_1⟩ := at_T52 (Kd.R_reads' HO_16.out).2.2 x18_1 p482 q482
           cases e482
           replace p482 := eq_true p482
           replace q482 := eq_true q482
           try go_wp2_with (first | ((with_reducible refine gate_dst (N := 8) rfl ?_); refine box_event ?hg (N := 8) ?hd (cs := #[.int .i64 0, .int .i64 0]) (t := 52) ?hr ?_; (case hd => rfl); (case hg => rfl); (case hr => first | (go_simp; done) | (go_simp; rfl)); intro gb483 hg w20 hbox hb; have n0_ := Aside0.mk (Kd.R_below (Kd.R_elderB (by (with_reducible repeat (first | apply Kd.R_alloc | apply Kd.R_drewN | apply Kd.R_drew)); exact HO_6.out) gb483 (Nat.le_of_eq hg.symm)) hb); have n1_ := Aside0.mk (Kd.R_below (Kd.R_elderB (by (with_reducible repeat (first | apply Kd.R_alloc | apply Kd.R_drewN | apply Kd.R_drew)); exact HO_16.out) gb483 (Nat.le_of_eq hg.symm)) hb); have n2_ := Aside0.mk (below_step (by repeat (first | (with_reducible first | exact HB.out | apply below_alloc | apply pw_below_drewN | apply below_drew1) | exact HB.out)) hb); have n3_ := Aside0.mk (hbox); have n4_ := Aside0.mk ((by rw [hg]; exact (below_size (by repeat (first | (with_reducible first | exact HB.out | apply below_alloc | apply pw_below_drewN | apply below_drew1) | exact HB.out))) : w.heap.size ≤ gb483)); have n5_ := Aside0.mk ((by rw [hg]; exact (below_size (by repeat (first | (with_reducible first | exact HB.out | apply below_alloc | apply pw_below_drewN | apply below_drew1) | exact HB.out))) : w.heap.size ≤ gb483)); clear HO_6; clear HO_16; clear HB; have HO_6 := n0_; have HO_16 := n1_; have HB := n2_; have BK483 := n3_; have GW483 := n4_; have GE483 := n5_; clear n0_ n1_ n2_ n3_ n4_ n5_; clear hb hbox hg; have hcz21_0 : w20.cell? ⟨gb483, 0, none⟩ = some (.int .i64 0) := (blk_cell BK483.out 0).trans rfl; have hcz21_1 : w20.cell? ⟨gb483, 1, none⟩ = some (.int .i64 0) := (blk_cell BK483.out 1).trans rfl; have hfz21_0 := blk_frozen BK483.out 0; have hfz21_1 := blk_frozen BK483.out 1; obtain ⟨Ao22, co22, eo22⟩ := Kd.R_slice HO_6.out; subst eo22))
           have n0_ : Aside0 (Kd.R k52 52 ((w20.setCell ⟨gb483, 0, none⟩ (.int .i64 ((rd_T52 x16_1 x18_1).f0))).setCell ⟨gb483, 1, none⟩ (.int .i64 ((rd_T52 x16_1 x18_1).f1))) w.heap.size (fun k_ => some k_ ≠ (.slice (some ad482) x16_1.length co8 : Value).ownBlock ∧ k_ ≠ gb483) (.slice Ao22 x6_1.length co22) x6_1) := ⟨by (with_reducible repeat (first | apply Kd.R_alloc | apply Kd.R_drewN | apply Kd.R_drew)); exact Kd.R_mono (Kd.R_far (p := ⟨gb483, 1, none⟩) (Kd.R_far (p := ⟨gb483, 0, none⟩) (Kd.R_mono HO_6.out (fun k_ hk => (⟨hk, hk.2⟩ : _ ∧ k_ ≠ gb483))) (fun _ hk => hk.2) (.int .i64 ((rd_T52 x16_1 x18_1).f0))) (fun _ hk => hk.2) (.int .i64 ((rd_T52 x16_1 x18_1).f1))) (fun _ hk => ⟨hk.1.1, hk.1.2⟩)⟩
           have n1_ : Aside0 (Kd.R k52 52 ((w20.setCell ⟨gb483, 0, none⟩ (.int .i64 ((rd_T52 x16_1 x18_1).f0))).setCell ⟨gb483, 1, none⟩ (.int .i64 ((rd_T52 x16_1 x18_1).f1))) w.heap.size (fun k_ => some k_ ≠ (.slice Ao22 x6_1.length co22 : Value).ownBlock ∧ k_ ≠ gb483) (.slice (some ad482) x16_1.length co8) x16_1) := ⟨by (with_reducible repeat (first | apply Kd.R_alloc | apply Kd.R_drewN | apply Kd.R_drew)); exact Kd.R_mono (Kd.R_far (p := ⟨gb483, 1, none⟩) (Kd.R_far (p := ⟨gb483, 0, none⟩) (Kd.R_mono HO_16.out (fun k_ hk => (⟨hk, hk.2⟩ : _ ∧ k_ ≠ gb483))) (fun _ hk => hk.2) (.int .i64 ((rd_T52 x16_1 x18_1).f0))) (fun _ hk => hk.2) (.int .i64 ((rd_T52 x16_1 x18_1).f1))) (fun _ hk => ⟨hk.1.1, hk.1.2⟩)⟩
           have n2_ : Aside0 (((w20.setCell ⟨gb483, 0, none⟩ (.int .i64 ((rd_T52 x16_1 x18_1).f0))).setCell ⟨gb483, 1, none⟩ (.int .i64 ((rd_T52 x16_1 x18_1).f1))).heap[gb483]? = some (.cells #[.int .i64 ((rd_T52 x16_1 x18_1).f0), .int .i64 ((rd_T52 x16_1 x18_1).f1)] 52 (0, 0))) := ⟨by (with_reducible repeat (first | refine blk_drewN ?_ _ | refine blk_drew ?_ | refine blk_alloc ?_ _)); refine blk_put (cs := #[.int .i64 ((rd_T52 x16_1 x18_1).f0), .int .i64 0]) ?_ 1 _ rfl; (with_reducible repeat (first | refine blk_drewN ?_ _ | refine blk_drew ?_ | refine blk_alloc ?_ _)); refine blk_put (cs := #[.int .i64 0, .int .i64 0]) ?_ 0 _ rfl; (with_reducible repeat (first | refine blk_drewN ?_ _ | refine blk_drew ?_ | refine blk_alloc ?_ _)); exact BK483.out⟩
           have n3_ : Aside0 (Below w.heap.size w ((w20.setCell ⟨gb483, 0, none⟩ (.int .i64 ((rd_T52 x16_1 x18_1).f0))).setCell ⟨gb483, 1, none⟩ (.int .i64 ((rd_T52 x16_1 x18_1).f1)))) := ⟨by repeat (first | (with_reducible first | exact HB.out | apply below_alloc | apply pw_below_drewN | apply below_drew1 | refine below_set ?_ GE483.out) | exact HB.out)⟩
           (try clear HO_6)
           (try clear HO_16)
           (try clear BK483)
           (try clear HB)
           generalize ((w20.setCell ⟨gb483, 0, none⟩ (.int .i64 ((rd_T52 x16_1 x18_1).f0))).setCell ⟨gb483, 1, none⟩ (.int .i64 ((rd_T52 x16_1 x18_1).f1))) = w23 at n0_ n1_ n2_ n3_ ⊢
           have HO_6 := n0_
           have HO_16 := n1_
           have BK483 := n2_
           have HB := n3_
           clear n0_ n1_ n2_ n3_
           have n0_ := Aside0.mk (Kd.R_drew HO_6.out)
           have n1_ := Aside0.mk (Kd.R_drew HO_16.out)
           have n2_ := Aside0.mk (blk_drew BK483.out)
           have n3_ := Aside0.mk (below_drew1 HB.out)
           clear HO_6
           clear HO_16
           clear BK483
           clear HB
           have HO_6 := n0_
           have HO_16 := n1_
           have BK483 := n2_
           have HB := n3_
           clear n0_ n1_ n2_ n3_
           have p484 : 0 ≤ ((ji14) : Int) := of_decide_eq_true (by first | (with_reducible assumption) | assumption)
           have q484 : (ji14) < (x6_1.length : Int) := of_decide_eq_true (by first | (with_reducible assumption) | assumption)
           obtain ⟨ad484, e484, hx484_0, hx484_1⟩ := at_T52 (Kd.R_reads' HO_6.out).2.2 (ji14) p484 q484
           cases e484
           replace p484 := eq_true p484
           replace q484 := eq_true q484
           refine start_ (n := 14) (S := fun w' => w'.cell? ⟨gb483, 0, none⟩ = some (.int .i64 ((rd_T52 x16_1 x18_1).f0)) ∧ w'.cell? ⟨gb483, 1, none⟩ = some (.int .i64 ((rd_T52 x16_1 x18_1).f1)) ∧ w'.cell? (ad484.add (((ji14)).toNat * 2)) = some (.int .i64 ((rd_T52 x6_1 (ji14)).f0)) ∧ w'.cell? ⟨(ad484.add (((ji14)).toNat * 2)).block, (ad484.add (((ji14)).toNat * 2)).off + 1, none⟩ = some (.int .i64 ((rd_T52 x6_1 (ji14)).f1))) (ds := []) #[false, false, false, false, false, false, false, false, false, false, false, false, false, false] (by kernel_rfl) rfl rfl ⟨(blk_cell BK483.out 0).trans rfl, (blk_cell BK483.out 1).trans rfl, hx484_0, hx484_1⟩ (fun hHeld => ?_); refine with_tabW dom_Join.tab8 dom_Join.bits8 (fun HT_ HW_ => ?_)
           generalize w23.drew = w24 at HO_6 HO_16 BK483 HB hx484_0 hx484_1 hHeld ⊢
           refine pure_ (i := 0) (N := some 24) (v := ?_) (a' := ?_) #[true, false, false, false, false, false, false, false, false, false, false, false, false, false] rfl rfl (any_of HT_.out (by kernel_rfl)) (fun _ _ _ h => h) (Or.inl ⟨by rfl, ?_⟩) ?_ ?_
           rotate_left
           ·intro w'
            go_simp
            with_reducible rfl
           rotate_left
           ·simp only [Act.put, List.setIfInBounds_toArray, List.set_cons_zero, List.set_cons_succ, i64_w, i32_w]
            rfl
           refine pure_ (i := 1) (N := some 25) (v := ?_) (a' := ?_) #[true, true, false, false, false, false, false, false, false, false, false, false, false, false] rfl rfl (any_of HT_.out (by kernel_rfl)) (fun _ _ _ h => h) (Or.inl ⟨by rfl, ?_⟩) ?_ ?_
           rotate_left
           ·intro w'
            go_simp
            with_reducible rfl
           rotate_left
           ·simp only [Act.put, List.setIfInBounds_toArray, List.set_cons_zero, List.set_cons_succ, i64_w, i32_w]
            rfl
           refine pure_ (i := 2) (N := some 26) (v := ?_) (a' := ?_) #[true, true, true, false, false, false, false, false, false, false, false, false, false, false] rfl rfl (any_of HT_.out (by kernel_rfl)) (fun _ _ _ h => h) (Or.inl ⟨by rfl, ?_⟩) ?_ ?_
           rotate_left
           ·intro w'
            go_simp
            with_reducible rfl
           rotate_left
           ·simp only [Act.put, List.setIfInBounds_toArray, List.set_cons_zero, List.set_cons_succ, i64_w, i32_w]
            rfl
           refine pure_ (i := 3) (N := some 27) (v := ?_) (a' := ?_) #[true, true, true, true, false, false, false, false, false, false, false, false, false, false] rfl rfl (any_of HT_.out (by kernel_rfl)) (fun _ _ _ h => h) (Or.inl ⟨by rfl, ?_⟩) ?_ ?_
           rotate_left
           ·intro w'
            go_simp
            with_reducible rfl
           rotate_left
           ·simp only [Act.put, List.setIfInBounds_toArray, List.set_cons_zero, List.set_cons_succ, i64_w, i32_w]
            rfl
           refine pure_ (i := 5) (N := some 29) (v := ?_) (a' := ?_) #[true, true, true, true, false, true, false, false, false, false, false, false, false, false] rfl rfl (any_of HT_.out (by kernel_rfl)) (fun _ _ _ h => h) (Or.inl ⟨by rfl, ?_⟩) ?_ ?_
           rotate_left
           ·intro w'
            go_simp
            with_reducible rfl
           rotate_left
           ·simp only [Act.put, List.setIfInBounds_toArray, List.set_cons_zero, List.set_cons_succ, i64_w, i32_w]
            rfl
           refine pure_ (i := 6) (N := some 30) (v := ?_) (a' := ?_) #[true, true, true, true, false, true, true, false, false, false, false, false, false, false] rfl rfl (any_of HT_.out (by kernel_rfl)) (fun _ _ _ h => h) (Or.inl ⟨by rfl, ?_⟩) ?_ ?_
           rotate_left
           ·intro w'
            go_simp
            with_reducible rfl
           rotate_left
           ·simp only [Act.put, List.setIfInBounds_toArray, List.set_cons_zero, List.set_cons_succ, i64_w, i32_w]
            rfl
           refine pure_ (i := 7) (N := some 31) (v := ?_) (a' := ?_) #[true, true, true, true, false, true, true, true, false, false, false, false, false, false] rfl rfl (any_of HT_.out (by kernel_rfl)) (fun _ _ _ h => h) (Or.inl ⟨by rfl, ?_⟩) ?_ ?_
           rotate_left
           ·intro w'
            go_simp
            with_reducible rfl
           rotate_left
           ·simp only [Act.put, List.setIfInBounds_toArray, List.set_cons_zero, List.set_cons_succ, i64_w, i32_w]
            rfl
           refine pure_ (i := 8) (N := some 32) (v := ?_) (a' := ?_) #[true, true, true, true, false, true, true, true, true, false, false, false, false, false] rfl rfl (any_of HT_.out (by kernel_rfl)) (fun _ _ _ h => h) (Or.inl ⟨by rfl, ?_⟩) ?_ ?_
           rotate_left
           ·intro w'
            go_simp
            with_reducible rfl
           rotate_left
           ·simp only [Act.put, List.setIfInBounds_toArray, List.set_cons_zero, List.set_cons_succ, i64_w, i32_w]
            rfl
           refine pure_ (i := 9) (N := some 33) (v := ?_) (a' := ?_) #[true, true, true, true, false, true, true, true, true, true, false, false, false, false] rfl rfl (any_of HT_.out (by kernel_rfl)) (fun _ _ _ h => h) (Or.inl ⟨by rfl, ?_⟩) ?_ ?_
           rotate_left
           ·intro w'
            go_simp
            with_reducible rfl
           rotate_left
           ·simp only [Act.put, List.setIfInBounds_toArray, List.set_cons_zero, List.set_cons_succ, i64_w, i32_w]
            rfl
           refine take_ (i := 4) (N := some 28) (v := ?_) (a' := ?_) #[true, true, true, true, true, true, true, true, true, true, false, false, false, false] rfl rfl (take_ofW HT_.out HW_.out (by kernel_rfl)) (fun _ _ _ h => h) (Or.inl ⟨by rfl, ?_⟩) hHeld ?_ ?_
           rotate_left
           ·rintro w' ⟨s0, s1, s2, s3⟩
            go_simp
            with_reducible rfl
           rotate_left
           ·simp only [Act.put, List.setIfInBounds_toArray, List.set_cons_zero, List.set_cons_succ, i64_w, i32_w]
            rfl
           refine take_ (i := 10) (N := some 34) (v := ?_) (a' := ?_) #[true, true, true, true, true, true, true, true, true, true, true, false, false, false] rfl rfl (take_ofW HT_.out HW_.out (by kernel_rfl)) (fun _ _ _ h => h) (Or.inl ⟨by rfl, ?_⟩) hHeld ?_ ?_
           rotate_left
           ·rintro w' ⟨s0, s1, s2, s3⟩
            go_simp
            with_reducible rfl
           rotate_left
           ·simp only [Act.put, List.setIfInBounds_toArray, List.set_cons_zero, List.set_cons_succ, i64_w, i32_w]
            rfl
           refine pure_ (i := 11) (N := some 35) (v := ?_) (a' := ?_) #[true, true, true, true, true, true, true, true, true, true, true, true, false, false] rfl rfl (any_of HT_.out (by kernel_rfl)) (fun _ _ _ h => h) (Or.inl ⟨by rfl, ?_⟩) ?_ ?_
           rotate_left
           ·intro w'
            go_simp
            with_reducible rfl
           rotate_left
           ·simp only [Act.put, List.setIfInBounds_toArray, List.set_cons_zero, List.set_cons_succ, i64_w, i32_w]
            rfl
           refine pure_ (i := 12) (N := some 36) (v := ?_) (a' := ?_) #[true, true, true, true, true, true, true, true, true, true, true, true, true, false] rfl rfl (any_of HT_.out (by kernel_rfl)) (fun _ _ _ h => h) (Or.inl ⟨by rfl, ?_⟩) ?_ ?_
           rotate_left
           ·intro w'
            go_simp
            with_reducible rfl
           rotate_left
           ·simp only [Act.put, List.setIfInBounds_toArray, List.set_cons_zero, List.set_cons_succ, i64_w, i32_w]
            rfl
           refine pure_ (i := 13) (N := some 37) (v := ?_) (a' := ?_) #[true, true, true, true, true, true, true, true, true, true, true, true, true, true] rfl rfl (any_of HT_.out (by kernel_rfl)) (fun _ _ _ h => h) (Or.inl ⟨by rfl, ?_⟩) ?_ ?_
           rotate_left
           ·intro w'
            go_simp
            with_reducible rfl
           rotate_left
           ·simp only [Act.put, List.setIfInBounds_toArray, List.set_cons_zero, List.set_cons_succ, i64_w, i32_w]
            rfl
           refine done_ (done_of HT_.out (by kernel_rfl)) ?_
           try go_wp2
           have n0_ := Aside0.mk (Kd.R_drew HO_6.out)
           have n1_ := Aside0.mk (Kd.R_drew HO_16.out)
           have n2_ := Aside0.mk (blk_drew BK483.out)
           have n3_ := Aside0.mk (below_drew1 HB.out)
           clear HO_6
           clear HO_16
           clear BK483
           clear HB
           have HO_6 := n0_
           have HO_16 := n1_
           have BK483 := n2_
           have HB := n3_
           clear n0_ n1_ n2_ n3_
           have p485 : 0 ≤ ((ji14) : Int) := of_decide_eq_true (by first | (with_reducible assumption) | assumption)
           have q485 : (ji14) < (x6_1.length : Int) := of_decide_eq_true (by first | (with_reducible assumption) | assumption)
           obtain ⟨ad485, e485, hx485_0, hx485_1⟩ := at_T52 (Kd.R_reads' HO_6.out).2.2 (ji14) p485 q485
           obtain rfl : ad484 = ad485 := (by injection e485)
           replace p485 := eq_true p485
           replace q485 := eq_true q485
           have p19 : 0 ≤ ((ji14) : Int) := of_decide_eq_true (by first | (with_reducible assumption) | assumption)
           have q19 : ((ji14) : Int) < ((x6_1.length : Int) : Int) := of_decide_eq_true (by first | (with_reducible assumption) | assumption)
           obtain ⟨go19, co19, eo19, gb19, gl19, cl19, HG19⟩ := Kd.R_form HO_6.out (by omega)
           (first | cases eo19 | (injection eo19 with ea_ en_ ec_; (first | subst ea_ | (injection ea_ with ea_; subst ea_)); subst ec_; clear en_))
           have GB19 := Aside0.mk gb19
           have GG19 := Aside0.mk HG19
           clear gb19 gl19 HG19
           (first | simp only [add_plain] at hx484_0 | skip)
           (first | simp only [add_plain] at hx484_1 | skip)
           (first | simp only [add_plain] at hx485_0 | skip)
           (first | simp only [add_plain] at hx485_1 | skip)
           obtain ⟨ce19, hcl19, hM19, hcc19, hfr19⟩ := Kd.R_elem HO_6.out z52 ((ji14) : Int) p19 q19
           obtain rfl := k52_openM hM19
           have hx19_0 : World.cell? _ ⟨go19, ((ji14) : Int).toNat * 2, none⟩ = some (.int .i64 ((rd_T52 x6_1 (ji14)).f0)) := hcc19 0 _ rfl
           have hx19_1 : World.cell? _ ⟨go19, ((ji14) : Int).toNat * 2 + 1, none⟩ = some (.int .i64 ((rd_T52 x6_1 (ji14)).f1)) := hcc19 1 _ rfl
           have hf19_0 : World.frozen? _ ⟨go19, ((ji14) : Int).toNat * 2, none⟩ = false := hfr19 0
           have hf19_1 : World.frozen? _ ⟨go19, ((ji14) : Int).toNat * 2 + 1, none⟩ = false := hfr19 1
           clear hcl19 hcc19 hfr19 hM19
           replace p19 := eq_true p19
           replace q19 := eq_true q19
           obtain ⟨ce26, hcl26, hM26, hcc26, hfr26⟩ := Kd.R_elem HO_6.out z52 ((ji14) : Int) (of_decide_eq_true (by first | (with_reducible assumption) | assumption)) (by have h_ : ((ji14) : Int) < ((x6_1.length : Int) : Int) := of_decide_eq_true (by first | (with_reducible assumption) | assumption); first | exact h_ | (have e_ := (Kd.R_reads' HO_6.out).1; omega) | simpa using h_)
           obtain rfl := k52_openM hM26
           have HP26 := (Kd.R_seg HO_6.out ((ji14) : Int) (of_decide_eq_true (by first | (with_reducible assumption) | assumption)) (by have h_ : ((ji14) : Int) < ((x6_1.length : Int) : Int) := of_decide_eq_true (by first | (with_reducible assumption) | assumption); first | exact h_ | (have e_ := (Kd.R_reads' HO_6.out).1; omega) | simpa using h_) (seg := [.int .i64 ji18]) (j := 1) hcl26 hcc26 (show 2 ≤ 2 from by decide) (x' := (⟨(rd_T52 x6_1 (ji14)).f0, ji18⟩ : S52)) (k52_mkM _ _ _ (⟨(rd_T52 x6_1 (ji14)).f0, ji18⟩ : S52) ) (fun _ hk => hk)).1
           rw [← Ny486.out] at HP26
           have HQ26 := Aside0.mk HP26
           clear hcl26 hcc26 hfr26 hM26 HP26
           refine start_ (n := 15) (S := fun w' => w'.cell? ⟨gb483, 0, none⟩ = some (.int .i64 ((rd_T52 x16_1 x18_1).f0)) ∧ w'.cell? ⟨gb483, 1, none⟩ = some (.int .i64 ((rd_T52 x16_1 x18_1).f1)) ∧ w'.cell? ⟨go19, ((ji14) : Int).toNat * 2, none⟩ = some (.int .i64 ((rd_T52 x6_1 (ji14)).f0)) ∧ w'.cell? ⟨go19, ((ji14) : Int).toNat * 2 + 1, none⟩ = some (.int .i64 ((rd_T52 x6_1 (ji14)).f1))) (ds := [14]) #[false, false, false, false, false, false, false, false, false, false, false, false, false, false, false] (by kernel_rfl) rfl rfl ⟨(blk_cell BK483.out 0).trans rfl, (blk_cell BK483.out 1).trans rfl, hx19_0, hx19_1⟩ (fun hHeld => ?_); refine with_tabW dom_Join.tab9 dom_Join.bits9 (fun HT_ HW_ => ?_)
           generalize w24.drew = w25 at HO_6 HO_16 BK483 HB GG19 HQ26 hf19_0 hf19_1 hx19_0 hx19_1 hx484_0 hx484_1 hx485_0 hx485_1 hHeld ⊢
           refine pure_ (i := 0) (N := some 38) (v := ?_) (a' := ?_) #[true, false, false, false, false, false, false, false, false, false, false, false, false, false, false] rfl rfl (any_of HT_.out (by kernel_rfl)) (fun _ _ _ h => h) (Or.inl ⟨by rfl, ?_⟩) ?_ ?_
           rotate_left
           ·intro w'
            go_simp
            with_reducible rfl
           rotate_left
           ·simp only [Act.put, List.setIfInBounds_toArray, List.set_cons_zero, List.set_cons_succ, i64_w, i32_w]
            rfl
           refine pure_ (i := 1) (N := some 39) (v := ?_) (a' := ?_) #[true, true, false, false, false, false, false, false, false, false, false, false, false, false, false] rfl rfl (any_of HT_.out (by kernel_rfl)) (fun _ _ _ h => h) (Or.inl ⟨by rfl, ?_⟩) ?_ ?_
           rotate_left
           ·intro w'
            go_simp
            with_reducible rfl
           rotate_left
           ·simp only [Act.put, List.setIfInBounds_toArray, List.set_cons_zero, List.set_cons_succ, i64_w, i32_w]
            rfl
           refine pure_ (i := 2) (N := some 40) (v := ?_) (a' := ?_) #[true, true, true, false, false, false, false, false, false, false, false, false, false, false, false] rfl rfl (any_of HT_.out (by kernel_rfl)) (fun _ _ _ h => h) (Or.inl ⟨by rfl, ?_⟩) ?_ ?_
           rotate_left
           ·intro w'
            go_simp
            with_reducible rfl
           rotate_left
           ·simp only [Act.put, List.setIfInBounds_toArray, List.set_cons_zero, List.set_cons_succ, i64_w, i32_w]
            rfl
           refine pure_ (i := 3) (N := some 41) (v := ?_) (a' := ?_) #[true, true, true, true, false, false, false, false, false, false, false, false, false, false, false] rfl rfl (any_of HT_.out (by kernel_rfl)) (fun _ _ _ h => h) (Or.inl ⟨by rfl, ?_⟩) ?_ ?_
           rotate_left
           ·intro w'
            go_simp
            with_reducible rfl
           rotate_left
           ·simp only [Act.put, List.setIfInBounds_toArray, List.set_cons_zero, List.set_cons_succ, i64_w, i32_w]
            rfl
           refine pure_ (i := 4) (N := some 42) (v := ?_) (a' := ?_) #[true, true, true, true, true, false, false, false, false, false, false, false, false, false, false] rfl rfl (any_of HT_.out (by kernel_rfl)) (fun _ _ _ h => h) (Or.inl ⟨by rfl, ?_⟩) ?_ ?_
           rotate_left
           ·intro w'
            go_simp
            with_reducible rfl
           rotate_left
           ·simp only [Act.put, List.setIfInBounds_toArray, List.set_cons_zero, List.set_cons_succ, i64_w, i32_w]
            rfl
           refine pure_ (i := 5) (N := some 43) (v := ?_) (a' := ?_) #[true, true, true, true, true, true, false, false, false, false, false, false, false, false, false] rfl rfl (any_of HT_.out (by kernel_rfl)) (fun _ _ _ h => h) (Or.inl ⟨by rfl, ?_⟩) ?_ ?_
           rotate_left
           ·intro w'
            go_simp
            with_reducible rfl
           rotate_left
           ·simp only [Act.put, List.setIfInBounds_toArray, List.set_cons_zero, List.set_cons_succ, i64_w, i32_w]
            rfl
           refine pure_ (i := 6) (N := some 44) (v := ?_) (a' := ?_) #[true, true, true, true, true, true, true, false, false, false, false, false, false, false, false] rfl rfl (any_of HT_.out (by kernel_rfl)) (fun _ _ _ h => h) (Or.inl ⟨by rfl, ?_⟩) ?_ ?_
           rotate_left
           ·intro w'
            go_simp
            with_reducible rfl
           rotate_left
           ·simp only [Act.put, List.setIfInBounds_toArray, List.set_cons_zero, List.set_cons_succ, i64_w, i32_w]
            rfl
           refine pure_ (i := 7) (N := some 45) (v := ?_) (a' := ?_) #[true, true, true, true, true, true, true, true, false, false, false, false, false, false, false] rfl rfl (any_of HT_.out (by kernel_rfl)) (fun _ _ _ h => h) (Or.inl ⟨by rfl, ?_⟩) ?_ ?_
           rotate_left
           ·intro w'
            go_simp
            with_reducible rfl
           rotate_left
           ·simp only [Act.put, List.setIfInBounds_toArray, List.set_cons_zero, List.set_cons_succ, i64_w, i32_w]
            rfl
           refine pure_ (i := 9) (N := some 47) (v := ?_) (a' := ?_) #[true, true, true, true, true, true, true, true, false, true, false, false, false, false, false] rfl rfl (any_of HT_.out (by kernel_rfl)) (fun _ _ _ h => h) (Or.inl ⟨by rfl, ?_⟩) ?_ ?_
           rotate_left
           ·intro w'
            go_simp
            with_reducible rfl
           rotate_left
           ·simp only [Act.put, List.setIfInBounds_toArray, List.set_cons_zero, List.set_cons_succ, i64_w, i32_w]
            rfl
           refine take_ (i := 8) (N := some 46) (v := ?_) (a' := ?_) #[true, true, true, true, true, true, true, true, true, true, false, false, false, false, false] rfl rfl (take_ofW HT_.out HW_.out (by kernel_rfl)) (fun _ _ _ h => h) (Or.inl ⟨by rfl, ?_⟩) hHeld ?_ ?_
           rotate_left
           ·rintro w' ⟨s0, s1, s2, s3⟩
            go_simp
            with_reducible rfl
           rotate_left
           ·simp only [Act.put, List.setIfInBounds_toArray, List.set_cons_zero, List.set_cons_succ, i64_w, i32_w]
            rfl
           refine take_ (i := 10) (N := some 48) (v := ?_) (a' := ?_) #[true, true, true, true, true, true, true, true, true, true, true, false, false, false, false] rfl rfl (take_ofW HT_.out HW_.out (by kernel_rfl)) (fun _ _ _ h => h) (Or.inl ⟨by rfl, ?_⟩) hHeld ?_ ?_
           rotate_left
           ·rintro w' ⟨s0, s1, s2, s3⟩
            go_simp
            with_reducible rfl
           rotate_left
           ·simp only [Act.put, List.setIfInBounds_toArray, List.set_cons_zero, List.set_cons_succ, i64_w, i32_w]
            rfl
           refine pure_ (i := 11) (N := some 49) (v := ?_) (a' := ?_) #[true, true, true, true, true, true, true, true, true, true, true, true, false, false, false] rfl rfl (any_of HT_.out (by kernel_rfl)) (fun _ _ _ h => h) (Or.inl ⟨by rfl, ?_⟩) ?_ ?_
           rotate_left
           ·intro w'
            go_simp
            with_reducible rfl
           rotate_left
           ·simp only [Act.put, List.setIfInBounds_toArray, List.set_cons_zero, List.set_cons_succ, i64_w, i32_w]
            rfl
           refine pure_ (i := 12) (N := some 50) (v := ?_) (a' := ?_) #[true, true, true, true, true, true, true, true, true, true, true, true, true, false, false] rfl rfl (any_of HT_.out (by kernel_rfl)) (fun _ _ _ h => h) (Or.inl ⟨by rfl, ?_⟩) ?_ ?_
           rotate_left
           ·intro w'
            go_simp
            with_reducible rfl
           rotate_left
           ·simp only [Act.put, List.setIfInBounds_toArray, List.set_cons_zero, List.set_cons_succ, i64_w, i32_w]
            rfl
           refine pure_ (i := 13) (N := some 51) (v := ?_) (a' := ?_) #[true, true, true, true, true, true, true, true, true, true, true, true, true, true, false] rfl rfl (any_of HT_.out (by kernel_rfl)) (fun _ _ _ h => h) (Or.inl ⟨by rfl, ?_⟩) ?_ ?_
           rotate_left
           ·intro w'
            go_simp
            with_reducible rfl
           rotate_left
           ·simp only [Act.put, List.setIfInBounds_toArray, List.set_cons_zero, List.set_cons_succ, i64_w, i32_w]
            rfl
           refine last_ (i := 14) (N := none) #[true, true, true, true, true, true, true, true, true, true, true, true, true, true, true] rfl rfl (one_of HT_.out (by kernel_rfl)) (by decide) (fun K hK => ?_)
           refine skip_ (w1 := ?_) (by rfl) rfl ?_ ?_
           rotate_left
           ·go_simp
            rfl
           refine hK.out _ _ ?_
           clear hK K
           refine done_ (done_of HT_.out (by kernel_rfl)) ?_
           try go_wp2
           (try simp only [← hl16_1])
           go_roundg k1
           case measure => have := HK1.out; omega
           case rel => exact ⟨(y486), (x16_1), (wrap64 (x18_1 + 1)), (by first | rfl | (simp; done) | (simp [*]; done)), H', ⟨by have := HK1.out; omega⟩, ⟨by (try simp only [hl16_1]); (with_reducible repeat (first | apply Kd.R_alloc | apply Kd.R_drewN | apply Kd.R_drew)); exact Kd.R_mono HQ26.out (fun _ hk => hk.1)⟩, ⟨by (try simp only [hl16_1]); (with_reducible repeat (first | apply Kd.R_alloc | apply Kd.R_drewN | apply Kd.R_drew)); exact Kd.R_mono (Kd.R_far (p := ⟨go19, ((ji14) : Int).toNat * 2 + 1, none⟩) (Kd.R_mono HO_16.out (fun k_ hk => (⟨hk, fun e_ => hk.1 (by rw [e_]; rfl)⟩ : _ ∧ k_ ≠ go19))) (fun _ hk => hk.2) (.int .i64 ji18)) (fun _ hk => hk.1.1)⟩, ⟨by repeat (first | (with_reducible first | exact HB.out | apply below_alloc | apply pw_below_drewN | apply below_drew1 | refine below_set ?_ GB19.out | refine below_set ?_ GE483.out) | exact HB.out)⟩⟩
          ·rw [if_neg c17] at H
           have c17b0 : decide (((rd_T52 x16_1 x18_1).f0) ≤ (wrap64 (((rd_T52 x6_1 (ji14)).f1) + 1))) = false := decide_eq_false c17
           clear c17
           by_cases c27 : x6_1.length < 8796093022208
           ·rw [if_pos c27] at H
            have LMc27 := Aside0.mk c27
            clear c27
            obtain ⟨y487, hy487⟩ : ∃ y_ : List (S52), y_ = (x6_1 ++ [(⟨(rd_T52 x16_1 x18_1).f0, (rd_T52 x16_1 x18_1).f1⟩ : S52)]) := ⟨_, rfl⟩
            replace H : (dom_Join.l0 k1 y487 x16_1 (y478.length : Int) (wrap64 (x18_1 + 1))) = some r := by first | (rw [hy487]; with_reducible exact H) | (have H2_ := (Option.bind_some _ _).symm.trans H; rw [hy487]; with_reducible exact H2_) | (have H2_ := (Option.bind_some _ _).symm.trans H; with_reducible exact H2_) | with_reducible exact H | (rw [hy487]; exact H) | exact H
            have Ny487 := Aside0.mk hy487
            clear hy487
            have H' := Aside0.mk H
            clear H
            have p482 : 0 ≤ (x18_1 : Int) := of_decide_eq_true (by first | (with_reducible assumption) | assumption)
            have q482 : x18_1 < (x16_1.length : Int) := of_decide_eq_true (by first | (with_reducible assumption) | assumption)
            obtain ⟨ad482, e482, hx482_0, hx482_1⟩ := at_T52 (Kd.R_reads' HO_16.out).2.2 x18_1 p482 q482
            cases e482
            replace p482 := eq_true p482
            replace q482 := eq_true q482
            try go_wp2_with (first | ((with_reducible refine gate_dst (N := 8) rfl ?_); refine box_event ?hg (N := 8) ?hd (cs := #[.int .i64 0, .int .i64 0]) (t := 52) ?hr ?_; (case hd => rfl); (case hg => rfl); (case hr => first | (go_simp; done) | (go_simp; rfl)); intro gb483 hg w28 hbox hb; have n0_ := Aside0.mk (Kd.R_below (Kd.R_elderB (by (with_reducible repeat (first | apply Kd.R_alloc | apply Kd.R_drewN | apply Kd.R_drew)); exact HO_6.out) gb483 (Nat.le_of_eq hg.symm)) hb); have n1_ := Aside0.mk (Kd.R_below (Kd.R_elderB (by (with_reducible repeat (first | apply Kd.R_alloc | apply Kd.R_drewN | apply Kd.R_drew)); exact HO_16.out) gb483 (Nat.le_of_eq hg.symm)) hb); have n2_ := Aside0.mk (below_step (by repeat (first | (with_reducible first | exact HB.out | apply below_alloc | apply pw_below_drewN | apply below_drew1) | exact HB.out)) hb); have n3_ := Aside0.mk (hbox); have n4_ := Aside0.mk ((by rw [hg]; exact (below_size (by repeat (first | (with_reducible first | exact HB.out | apply below_alloc | apply pw_below_drewN | apply below_drew1) | exact HB.out))) : w.heap.size ≤ gb483)); have n5_ := Aside0.mk ((by rw [hg]; exact (below_size (by repeat (first | (with_reducible first | exact HB.out | apply below_alloc | apply pw_below_drewN | apply below_drew1) | exact HB.out))) : w.heap.size ≤ gb483)); clear HO_6; clear HO_16; clear HB; have HO_6 := n0_; have HO_16 := n1_; have HB := n2_; have BK483 := n3_; have GW483 := n4_; have GE483 := n5_; clear n0_ n1_ n2_ n3_ n4_ n5_; clear hb hbox hg; have hcz29_0 : w28.cell? ⟨gb483, 0, none⟩ = some (.int .i64 0) := (blk_cell BK483.out 0).trans rfl; have hcz29_1 : w28.cell? ⟨gb483, 1, none⟩ = some (.int .i64 0) := (blk_cell BK483.out 1).trans rfl; have hfz29_0 := blk_frozen BK483.out 0; have hfz29_1 := blk_frozen BK483.out 1; obtain ⟨Ao30, co30, eo30⟩ := Kd.R_slice HO_6.out; subst eo30))
            have n0_ : Aside0 (Kd.R k52 52 ((w28.setCell ⟨gb483, 0, none⟩ (.int .i64 ((rd_T52 x16_1 x18_1).f0))).setCell ⟨gb483, 1, none⟩ (.int .i64 ((rd_T52 x16_1 x18_1).f1))) w.heap.size (fun k_ => some k_ ≠ (.slice (some ad482) x16_1.length co8 : Value).ownBlock ∧ k_ ≠ gb483) (.slice Ao30 x6_1.length co30) x6_1) := ⟨by (with_reducible repeat (first | apply Kd.R_alloc | apply Kd.R_drewN | apply Kd.R_drew)); exact Kd.R_mono (Kd.R_far (p := ⟨gb483, 1, none⟩) (Kd.R_far (p := ⟨gb483, 0, none⟩) (Kd.R_mono HO_6.out (fun k_ hk => (⟨hk, hk.2⟩ : _ ∧ k_ ≠ gb483))) (fun _ hk => hk.2) (.int .i64 ((rd_T52 x16_1 x18_1).f0))) (fun _ hk => hk.2) (.int .i64 ((rd_T52 x16_1 x18_1).f1))) (fun _ hk => ⟨hk.1.1, hk.1.2⟩)⟩
            have n1_ : Aside0 (Kd.R k52 52 ((w28.setCell ⟨gb483, 0, none⟩ (.int .i64 ((rd_T52 x16_1 x18_1).f0))).setCell ⟨gb483, 1, none⟩ (.int .i64 ((rd_T52 x16_1 x18_1).f1))) w.heap.size (fun k_ => some k_ ≠ (.slice Ao30 x6_1.length co30 : Value).ownBlock ∧ k_ ≠ gb483) (.slice (some ad482) x16_1.length co8) x16_1) := ⟨by (with_reducible repeat (first | apply Kd.R_alloc | apply Kd.R_drewN | apply Kd.R_drew)); exact Kd.R_mono (Kd.R_far (p := ⟨gb483, 1, none⟩) (Kd.R_far (p := ⟨gb483, 0, none⟩) (Kd.R_mono HO_16.out (fun k_ hk => (⟨hk, hk.2⟩ : _ ∧ k_ ≠ gb483))) (fun _ hk => hk.2) (.int .i64 ((rd_T52 x16_1 x18_1).f0))) (fun _ hk => hk.2) (.int .i64 ((rd_T52 x16_1 x18_1).f1))) (fun _ hk => ⟨hk.1.1, hk.1.2⟩)⟩
            have n2_ : Aside0 (((w28.setCell ⟨gb483, 0, none⟩ (.int .i64 ((rd_T52 x16_1 x18_1).f0))).setCell ⟨gb483, 1, none⟩ (.int .i64 ((rd_T52 x16_1 x18_1).f1))).heap[gb483]? = some (.cells #[.int .i64 ((rd_T52 x16_1 x18_1).f0), .int .i64 ((rd_T52 x16_1 x18_1).f1)] 52 (0, 0))) := ⟨by (with_reducible repeat (first | refine blk_drewN ?_ _ | refine blk_drew ?_ | refine blk_alloc ?_ _)); refine blk_put (cs := #[.int .i64 ((rd_T52 x16_1 x18_1).f0), .int .i64 0]) ?_ 1 _ rfl; (with_reducible repeat (first | refine blk_drewN ?_ _ | refine blk_drew ?_ | refine blk_alloc ?_ _)); refine blk_put (cs := #[.int .i64 0, .int .i64 0]) ?_ 0 _ rfl; (with_reducible repeat (first | refine blk_drewN ?_ _ | refine blk_drew ?_ | refine blk_alloc ?_ _)); exact BK483.out⟩
            have n3_ : Aside0 (Below w.heap.size w ((w28.setCell ⟨gb483, 0, none⟩ (.int .i64 ((rd_T52 x16_1 x18_1).f0))).setCell ⟨gb483, 1, none⟩ (.int .i64 ((rd_T52 x16_1 x18_1).f1)))) := ⟨by repeat (first | (with_reducible first | exact HB.out | apply below_alloc | apply pw_below_drewN | apply below_drew1 | refine below_set ?_ GE483.out) | exact HB.out)⟩
            (try clear HO_6)
            (try clear HO_16)
            (try clear BK483)
            (try clear HB)
            generalize ((w28.setCell ⟨gb483, 0, none⟩ (.int .i64 ((rd_T52 x16_1 x18_1).f0))).setCell ⟨gb483, 1, none⟩ (.int .i64 ((rd_T52 x16_1 x18_1).f1))) = w31 at n0_ n1_ n2_ n3_ ⊢
            have HO_6 := n0_
            have HO_16 := n1_
            have BK483 := n2_
            have HB := n3_
            clear n0_ n1_ n2_ n3_
            have n0_ := Aside0.mk (Kd.R_drew HO_6.out)
            have n1_ := Aside0.mk (Kd.R_drew HO_16.out)
            have n2_ := Aside0.mk (blk_drew BK483.out)
            have n3_ := Aside0.mk (below_drew1 HB.out)
            clear HO_6
            clear HO_16
            clear BK483
            clear HB
            have HO_6 := n0_
            have HO_16 := n1_
            have BK483 := n2_
            have HB := n3_
            clear n0_ n1_ n2_ n3_
            have p484 : 0 ≤ ((ji14) : Int) := of_decide_eq_true (by first | (with_reducible assumption) | assumption)
            have q484 : (ji14) < (x6_1.length : Int) := of_decide_eq_true (by first | (with_reducible assumption) | assumption)
            obtain ⟨ad484, e484, hx484_0, hx484_1⟩ := at_T52 (Kd.R_reads' HO_6.out).2.2 (ji14) p484 q484
            cases e484
            replace p484 := eq_true p484
            replace q484 := eq_true q484
            refine start_ (n := 14) (S := fun w' => w'.cell? ⟨gb483, 0, none⟩ = some (.int .i64 ((rd_T52 x16_1 x18_1).f0)) ∧ w'.cell? ⟨gb483, 1, none⟩ = some (.int .i64 ((rd_T52 x16_1 x18_1).f1)) ∧ w'.cell? (ad484.add (((ji14)).toNat * 2)) = some (.int .i64 ((rd_T52 x6_1 (ji14)).f0)) ∧ w'.cell? ⟨(ad484.add (((ji14)).toNat * 2)).block, (ad484.add (((ji14)).toNat * 2)).off + 1, none⟩ = some (.int .i64 ((rd_T52 x6_1 (ji14)).f1))) (ds := []) #[false, false, false, false, false, false, false, false, false, false, false, false, false, false] (by kernel_rfl) rfl rfl ⟨(blk_cell BK483.out 0).trans rfl, (blk_cell BK483.out 1).trans rfl, hx484_0, hx484_1⟩ (fun hHeld => ?_); refine with_tabW dom_Join.tab8 dom_Join.bits8 (fun HT_ HW_ => ?_)
            generalize w31.drew = w32 at HO_6 HO_16 BK483 HB hx484_0 hx484_1 hHeld ⊢
            refine pure_ (i := 0) (N := some 24) (v := ?_) (a' := ?_) #[true, false, false, false, false, false, false, false, false, false, false, false, false, false] rfl rfl (any_of HT_.out (by kernel_rfl)) (fun _ _ _ h => h) (Or.inl ⟨by rfl, ?_⟩) ?_ ?_
            rotate_left
            ·intro w'
             go_simp
             with_reducible rfl
            rotate_left
            ·simp only [Act.put, List.setIfInBounds_toArray, List.set_cons_zero, List.set_cons_succ, i64_w, i32_w]
             rfl
            refine pure_ (i := 1) (N := some 25) (v := ?_) (a' := ?_) #[true, true, false, false, false, false, false, false, false, false, false, false, false, false] rfl rfl (any_of HT_.out (by kernel_rfl)) (fun _ _ _ h => h) (Or.inl ⟨by rfl, ?_⟩) ?_ ?_
            rotate_left
            ·intro w'
             go_simp
             with_reducible rfl
            rotate_left
            ·simp only [Act.put, List.setIfInBounds_toArray, List.set_cons_zero, List.set_cons_succ, i64_w, i32_w]
             rfl
            refine pure_ (i := 2) (N := some 26) (v := ?_) (a' := ?_) #[true, true, true, false, false, false, false, false, false, false, false, false, false, false] rfl rfl (any_of HT_.out (by kernel_rfl)) (fun _ _ _ h => h) (Or.inl ⟨by rfl, ?_⟩) ?_ ?_
            rotate_left
            ·intro w'
             go_simp
             with_reducible rfl
            rotate_left
            ·simp only [Act.put, List.setIfInBounds_toArray, List.set_cons_zero, List.set_cons_succ, i64_w, i32_w]
             rfl
            refine pure_ (i := 3) (N := some 27) (v := ?_) (a' := ?_) #[true, true, true, true, false, false, false, false, false, false, false, false, false, false] rfl rfl (any_of HT_.out (by kernel_rfl)) (fun _ _ _ h => h) (Or.inl ⟨by rfl, ?_⟩) ?_ ?_
            rotate_left
            ·intro w'
             go_simp
             with_reducible rfl
            rotate_left
            ·simp only [Act.put, List.setIfInBounds_toArray, List.set_cons_zero, List.set_cons_succ, i64_w, i32_w]
             rfl
            refine pure_ (i := 5) (N := some 29) (v := ?_) (a' := ?_) #[true, true, true, true, false, true, false, false, false, false, false, false, false, false] rfl rfl (any_of HT_.out (by kernel_rfl)) (fun _ _ _ h => h) (Or.inl ⟨by rfl, ?_⟩) ?_ ?_
            rotate_left
            ·intro w'
             go_simp
             with_reducible rfl
            rotate_left
            ·simp only [Act.put, List.setIfInBounds_toArray, List.set_cons_zero, List.set_cons_succ, i64_w, i32_w]
             rfl
            refine pure_ (i := 6) (N := some 30) (v := ?_) (a' := ?_) #[true, true, true, true, false, true, true, false, false, false, false, false, false, false] rfl rfl (any_of HT_.out (by kernel_rfl)) (fun _ _ _ h => h) (Or.inl ⟨by rfl, ?_⟩) ?_ ?_
            rotate_left
            ·intro w'
             go_simp
             with_reducible rfl
            rotate_left
            ·simp only [Act.put, List.setIfInBounds_toArray, List.set_cons_zero, List.set_cons_succ, i64_w, i32_w]
             rfl
            refine pure_ (i := 7) (N := some 31) (v := ?_) (a' := ?_) #[true, true, true, true, false, true, true, true, false, false, false, false, false, false] rfl rfl (any_of HT_.out (by kernel_rfl)) (fun _ _ _ h => h) (Or.inl ⟨by rfl, ?_⟩) ?_ ?_
            rotate_left
            ·intro w'
             go_simp
             with_reducible rfl
            rotate_left
            ·simp only [Act.put, List.setIfInBounds_toArray, List.set_cons_zero, List.set_cons_succ, i64_w, i32_w]
             rfl
            refine pure_ (i := 8) (N := some 32) (v := ?_) (a' := ?_) #[true, true, true, true, false, true, true, true, true, false, false, false, false, false] rfl rfl (any_of HT_.out (by kernel_rfl)) (fun _ _ _ h => h) (Or.inl ⟨by rfl, ?_⟩) ?_ ?_
            rotate_left
            ·intro w'
             go_simp
             with_reducible rfl
            rotate_left
            ·simp only [Act.put, List.setIfInBounds_toArray, List.set_cons_zero, List.set_cons_succ, i64_w, i32_w]
             rfl
            refine pure_ (i := 9) (N := some 33) (v := ?_) (a' := ?_) #[true, true, true, true, false, true, true, true, true, true, false, false, false, false] rfl rfl (any_of HT_.out (by kernel_rfl)) (fun _ _ _ h => h) (Or.inl ⟨by rfl, ?_⟩) ?_ ?_
            rotate_left
            ·intro w'
             go_simp
             with_reducible rfl
            rotate_left
            ·simp only [Act.put, List.setIfInBounds_toArray, List.set_cons_zero, List.set_cons_succ, i64_w, i32_w]
             rfl
            refine take_ (i := 4) (N := some 28) (v := ?_) (a' := ?_) #[true, true, true, true, true, true, true, true, true, true, false, false, false, false] rfl rfl (take_ofW HT_.out HW_.out (by kernel_rfl)) (fun _ _ _ h => h) (Or.inl ⟨by rfl, ?_⟩) hHeld ?_ ?_
            rotate_left
            ·rintro w' ⟨s0, s1, s2, s3⟩
             go_simp
             with_reducible rfl
            rotate_left
            ·simp only [Act.put, List.setIfInBounds_toArray, List.set_cons_zero, List.set_cons_succ, i64_w, i32_w]
             rfl
            refine take_ (i := 10) (N := some 34) (v := ?_) (a' := ?_) #[true, true, true, true, true, true, true, true, true, true, true, false, false, false] rfl rfl (take_ofW HT_.out HW_.out (by kernel_rfl)) (fun _ _ _ h => h) (Or.inl ⟨by rfl, ?_⟩) hHeld ?_ ?_
            rotate_left
            ·rintro w' ⟨s0, s1, s2, s3⟩
             go_simp
             with_reducible rfl
            rotate_left
            ·simp only [Act.put, List.setIfInBounds_toArray, List.set_cons_zero, List.set_cons_succ, i64_w, i32_w]
             rfl
            refine pure_ (i := 11) (N := some 35) (v := ?_) (a' := ?_) #[true, true, true, true, true, true, true, true, true, true, true, true, false, false] rfl rfl (any_of HT_.out (by kernel_rfl)) (fun _ _ _ h => h) (Or.inl ⟨by rfl, ?_⟩) ?_ ?_
            rotate_left
            ·intro w'
             go_simp
             with_reducible rfl
            rotate_left
            ·simp only [Act.put, List.setIfInBounds_toArray, List.set_cons_zero, List.set_cons_succ, i64_w, i32_w]
             rfl
            refine pure_ (i := 12) (N := some 36) (v := ?_) (a' := ?_) #[true, true, true, true, true, true, true, true, true, true, true, true, true, false] rfl rfl (any_of HT_.out (by kernel_rfl)) (fun _ _ _ h => h) (Or.inl ⟨by rfl, ?_⟩) ?_ ?_
            rotate_left
            ·intro w'
             go_simp
             with_reducible rfl
            rotate_left
            ·simp only [Act.put, List.setIfInBounds_toArray, List.set_cons_zero, List.set_cons_succ, i64_w, i32_w]
             rfl
            refine pure_ (i := 13) (N := some 37) (v := ?_) (a' := ?_) #[true, true, true, true, true, true, true, true, true, true, true, true, true, true] rfl rfl (any_of HT_.out (by kernel_rfl)) (fun _ _ _ h => h) (Or.inl ⟨by rfl, ?_⟩) ?_ ?_
            rotate_left
            ·intro w'
             go_simp
             with_reducible rfl
            rotate_left
            ·simp only [Act.put, List.setIfInBounds_toArray, List.set_cons_zero, List.set_cons_succ, i64_w, i32_w]
             rfl
            refine done_ (done_of HT_.out (by kernel_rfl)) ?_
            have hcz33_0 : w32.cell? ⟨gb483, 0, none⟩ = some (.int .i64 ((rd_T52 x16_1 x18_1).f0)) := (blk_cell BK483.out 0).trans rfl
            have hcz33_1 : w32.cell? ⟨gb483, 1, none⟩ = some (.int .i64 ((rd_T52 x16_1 x18_1).f1)) := (blk_cell BK483.out 1).trans rfl
            have hfz33_0 := blk_frozen BK483.out 0
            have hfz33_1 := blk_frozen BK483.out 1
            try go_wp2_with (first | ((with_reducible refine gate_builtin (b := .append) (xs := #[.tmp 52, .tmp 54]) rfl ?_); at_builtin; refine Kd.R_append k52 (w0 := w) w.heap.size rfl (.tmp 52) (.tmp 54) 22 52 (.agg #[(.int .i64 0), (.int .i64 0)]) 16 rfl Try.underlying22 info52 rfl (by decide) (by omega) (.slice (some ad484) x6_1.length co30) x6_1 (⟨(rd_T52 x16_1 x18_1).f0, (rd_T52 x16_1 x18_1).f1⟩ : S52) [.int .i64 ((rd_T52 x16_1 x18_1).f0), .int .i64 ((rd_T52 x16_1 x18_1).f1)] (fun k_ => some k_ ≠ (.slice (some ad482) x16_1.length co8 : Value).ownBlock ∧ k_ ≠ gb483) (fun _ => False) rfl rfl ?aP (fun _ hk => hk.elim) ?aF ?aO ?aB ?aS ?aL ?_; (case aP => exact k52_mkM _ _ _ (⟨(rd_T52 x16_1 x18_1).f0, (rd_T52 x16_1 x18_1).f1⟩ : S52)); (case aB => exact (by repeat (first | (with_reducible first | exact HB.out | apply below_alloc | apply pw_below_drewN | apply below_drew1 | refine below_set ?_ GE483.out) | exact HB.out))); (case aF => exact (fun k_ hk => ⟨Kd.fresh' (Kd.R_lt (by (with_reducible repeat (first | apply Kd.R_alloc | apply Kd.R_drewN | apply Kd.R_drew)); exact HO_16.out)) k_ hk, Kd.freshB (g := gb483) (o := .cells #[.int .i64 ((rd_T52 x16_1 x18_1).f0), .int .i64 ((rd_T52 x16_1 x18_1).f1)] 52 (0, 0)) (by (with_reducible repeat (first | refine blk_drewN ?_ _ | refine blk_drew ?_ | refine blk_alloc ?_ _)); exact BK483.out) k_ hk⟩)); (case aO => exact (by (with_reducible repeat (first | apply Kd.R_alloc | apply Kd.R_drewN | apply Kd.R_drew)); exact HO_6.out)); (case aS => exact (below_size (by repeat (first | (with_reducible first | exact HB.out | apply below_alloc | apply pw_below_drewN | apply below_drew1 | refine below_set ?_ GE483.out) | exact HB.out)))); (case aL => have := LMc27.out; omega); intro v488 w34 ho hb hg hat; rw [← Ny487.out] at ho; have n0_ := Aside0.mk (Kd.R_after (ok := (fun k_ => k_ ≠ gb483)) (by (with_reducible repeat (first | apply Kd.R_alloc | apply Kd.R_drewN | apply Kd.R_drew)); exact Kd.R_mono HO_16.out (fun _ hk => ⟨hk.2, hk.1⟩)) hg hat); have n1_ := Aside0.mk (blk_grown (g := gb483) (o := .cells #[.int .i64 ((rd_T52 x16_1 x18_1).f0), .int .i64 ((rd_T52 x16_1 x18_1).f1)] 52 (0, 0)) (by (with_reducible repeat (first | refine blk_drewN ?_ _ | refine blk_drew ?_ | refine blk_alloc ?_ _)); exact BK483.out) hg (Kd.R_away HO_6.out (fun _ hk => hk.2))); have n2_ := Aside0.mk (hb); have n3_ := Aside0.mk (ho); clear HO_16; clear BK483; clear HB; clear HO_6; have HO_16 := n0_; have BK483 := n1_; have HB := n2_; have HO489 := n3_; clear n0_ n1_ n2_ n3_; clear ho hb hg hat))
            (try simp only [← hl16_1])
            go_roundg k1
            case measure => have := HK1.out; omega
            case rel => exact ⟨(y487), (x16_1), (wrap64 (x18_1 + 1)), (by first | rfl | (simp; done) | (simp [*]; done)), H', ⟨by have := HK1.out; omega⟩, ⟨by (try simp only [hl16_1]); (with_reducible repeat (first | apply Kd.R_alloc | apply Kd.R_drewN | apply Kd.R_drew)); exact Kd.R_mono HO489.out (fun _ hk => hk.1)⟩, ⟨by (try simp only [hl16_1]); (with_reducible repeat (first | apply Kd.R_alloc | apply Kd.R_drewN | apply Kd.R_drew)); exact Kd.R_mono HO_16.out (fun _ hk => hk.2)⟩, ⟨by repeat (first | (with_reducible first | exact HB.out | apply below_alloc | apply pw_below_drewN | apply below_drew1 | refine below_set ?_ GE483.out) | exact HB.out)⟩⟩
           ·rw [if_neg c27] at H
            exact absurd H (by simp)
         ·rw [if_neg c16] at H
          exact absurd H (by simp)
        ·rw [if_neg c15] at H
         exact absurd H (by simp)
       ·rw [if_neg c13] at H
        have c13b0 : decide (0 < (x6_1.length : Int)) = false := decide_eq_false c13
        have c13b1 : decide (0 < x6_1.length) = false := decide_eq_false (by omega)
        clear c13
        by_cases c35 : x6_1.length < 8796093022208
        ·rw [if_pos c35] at H
         have LMc35 := Aside0.mk c35
         clear c35
         obtain ⟨y490, hy490⟩ : ∃ y_ : List (S52), y_ = (x6_1 ++ [(⟨(rd_T52 x16_1 x18_1).f0, (rd_T52 x16_1 x18_1).f1⟩ : S52)]) := ⟨_, rfl⟩
         replace H : (dom_Join.l0 k1 y490 x16_1 (y478.length : Int) (wrap64 (x18_1 + 1))) = some r := by first | (rw [hy490]; with_reducible exact H) | (have H2_ := (Option.bind_some _ _).symm.trans H; rw [hy490]; with_reducible exact H2_) | (have H2_ := (Option.bind_some _ _).symm.trans H; with_reducible exact H2_) | with_reducible exact H | (rw [hy490]; exact H) | exact H
         have Ny490 := Aside0.mk hy490
         clear hy490
         have H' := Aside0.mk H
         clear H
         have p482 : 0 ≤ (x18_1 : Int) := of_decide_eq_true (by first | (with_reducible assumption) | assumption)
         have q482 : x18_1 < (x16_1.length : Int) := of_decide_eq_true (by first | (with_reducible assumption) | assumption)
         obtain ⟨ad482, e482, hx482_0, hx482_1⟩ := at_T52 (Kd.R_reads' HO_16.out).2.2 x18_1 p482 q482
         cases e482
         replace p482 := eq_true p482
         replace q482 := eq_true q482
         try go_wp2_with (first | ((with_reducible refine gate_dst (N := 8) rfl ?_); refine box_event ?hg (N := 8) ?hd (cs := #[.int .i64 0, .int .i64 0]) (t := 52) ?hr ?_; (case hd => rfl); (case hg => rfl); (case hr => first | (go_simp; done) | (go_simp; rfl)); intro gb483 hg w36 hbox hb; have n0_ := Aside0.mk (Kd.R_below (Kd.R_elderB (by (with_reducible repeat (first | apply Kd.R_alloc | apply Kd.R_drewN | apply Kd.R_drew)); exact HO_6.out) gb483 (Nat.le_of_eq hg.symm)) hb); have n1_ := Aside0.mk (Kd.R_below (Kd.R_elderB (by (with_reducible repeat (first | apply Kd.R_alloc | apply Kd.R_drewN | apply Kd.R_drew)); exact HO_16.out) gb483 (Nat.le_of_eq hg.symm)) hb); have n2_ := Aside0.mk (below_step (by repeat (first | (with_reducible first | exact HB.out | apply below_alloc | apply pw_below_drewN | apply below_drew1) | exact HB.out)) hb); have n3_ := Aside0.mk (hbox); have n4_ := Aside0.mk ((by rw [hg]; exact (below_size (by repeat (first | (with_reducible first | exact HB.out | apply below_alloc | apply pw_below_drewN | apply below_drew1) | exact HB.out))) : w.heap.size ≤ gb483)); have n5_ := Aside0.mk ((by rw [hg]; exact (below_size (by repeat (first | (with_reducible first | exact HB.out | apply below_alloc | apply pw_below_drewN | apply below_drew1) | exact HB.out))) : w.heap.size ≤ gb483)); clear HO_6; clear HO_16; clear HB; have HO_6 := n0_; have HO_16 := n1_; have HB := n2_; have BK483 := n3_; have GW483 := n4_; have GE483 := n5_; clear n0_ n1_ n2_ n3_ n4_ n5_; clear hb hbox hg; have hcz37_0 : w36.cell? ⟨gb483, 0, none⟩ = some (.int .i64 0) := (blk_cell BK483.out 0).trans rfl; have hcz37_1 : w36.cell? ⟨gb483, 1, none⟩ = some (.int .i64 0) := (blk_cell BK483.out 1).trans rfl; have hfz37_0 := blk_frozen BK483.out 0; have hfz37_1 := blk_frozen BK483.out 1; obtain ⟨Ao38, co38, eo38⟩ := Kd.R_slice HO_6.out; subst eo38))
         have n0_ : Aside0 (Kd.R k52 52 ((w36.setCell ⟨gb483, 0, none⟩ (.int .i64 ((rd_T52 x16_1 x18_1).f0))).setCell ⟨gb483, 1, none⟩ (.int .i64 ((rd_T52 x16_1 x18_1).f1))) w.heap.size (fun k_ => some k_ ≠ (.slice (some ad482) x16_1.length co8 : Value).ownBlock ∧ k_ ≠ gb483) (.slice Ao38 x6_1.length co38) x6_1) := ⟨by (with_reducible repeat (first | apply Kd.R_alloc | apply Kd.R_drewN | apply Kd.R_drew)); exact Kd.R_mono (Kd.R_far (p := ⟨gb483, 1, none⟩) (Kd.R_far (p := ⟨gb483, 0, none⟩) (Kd.R_mono HO_6.out (fun k_ hk => (⟨hk, hk.2⟩ : _ ∧ k_ ≠ gb483))) (fun _ hk => hk.2) (.int .i64 ((rd_T52 x16_1 x18_1).f0))) (fun _ hk => hk.2) (.int .i64 ((rd_T52 x16_1 x18_1).f1))) (fun _ hk => ⟨hk.1.1, hk.1.2⟩)⟩
         have n1_ : Aside0 (Kd.R k52 52 ((w36.setCell ⟨gb483, 0, none⟩ (.int .i64 ((rd_T52 x16_1 x18_1).f0))).setCell ⟨gb483, 1, none⟩ (.int .i64 ((rd_T52 x16_1 x18_1).f1))) w.heap.size (fun k_ => some k_ ≠ (.slice Ao38 x6_1.length co38 : Value).ownBlock ∧ k_ ≠ gb483) (.slice (some ad482) x16_1.length co8) x16_1) := ⟨by (with_reducible repeat (first | apply Kd.R_alloc | apply Kd.R_drewN | apply Kd.R_drew)); exact Kd.R_mono (Kd.R_far (p := ⟨gb483, 1, none⟩) (Kd.R_far (p := ⟨gb483, 0, none⟩) (Kd.R_mono HO_16.out (fun k_ hk => (⟨hk, hk.2⟩ : _ ∧ k_ ≠ gb483))) (fun _ hk => hk.2) (.int .i64 ((rd_T52 x16_1 x18_1).f0))) (fun _ hk => hk.2) (.int .i64 ((rd_T52 x16_1 x18_1).f1))) (fun _ hk => ⟨hk.1.1, hk.1.2⟩)⟩
         have n2_ : Aside0 (((w36.setCell ⟨gb483, 0, none⟩ (.int .i64 ((rd_T52 x16_1 x18_1).f0))).setCell ⟨gb483, 1, none⟩ (.int .i64 ((rd_T52 x16_1 x18_1).f1))).heap[gb483]? = some (.cells #[.int .i64 ((rd_T52 x16_1 x18_1).f0), .int .i64 ((rd_T52 x16_1 x18_1).f1)] 52 (0, 0))) := ⟨by (with_reducible repeat (first | refine blk_drewN ?_ _ | refine blk_drew ?_ | refine blk_alloc ?_ _)); refine blk_put (cs := #[.int .i64 ((rd_T52 x16_1 x18_1).f0), .int .i64 0]) ?_ 1 _ rfl; (with_reducible repeat (first | refine blk_drewN ?_ _ | refine blk_drew ?_ | refine blk_alloc ?_ _)); refine blk_put (cs := #[.int .i64 0, .int .i64 0]) ?_ 0 _ rfl; (with_reducible repeat (first | refine blk_drewN ?_ _ | refine blk_drew ?_ | refine blk_alloc ?_ _)); exact BK483.out⟩
         have n3_ : Aside0 (Below w.heap.size w ((w36.setCell ⟨gb483, 0, none⟩ (.int .i64 ((rd_T52 x16_1 x18_1).f0))).setCell ⟨gb483, 1, none⟩ (.int .i64 ((rd_T52 x16_1 x18_1).f1)))) := ⟨by repeat (first | (with_reducible first | exact HB.out | apply below_alloc | apply pw_below_drewN | apply below_drew1 | refine below_set ?_ GE483.out) | exact HB.out)⟩
         (try clear HO_6)
         (try clear HO_16)
         (try clear BK483)
         (try clear HB)
         generalize ((w36.setCell ⟨gb483, 0, none⟩ (.int .i64 ((rd_T52 x16_1 x18_1).f0))).setCell ⟨gb483, 1, none⟩ (.int .i64 ((rd_T52 x16_1 x18_1).f1))) = w39 at n0_ n1_ n2_ n3_ ⊢
         have HO_6 := n0_
         have HO_16 := n1_
         have BK483 := n2_
         have HB := n3_
         clear n0_ n1_ n2_ n3_
         have n0_ := Aside0.mk (Kd.R_drew HO_6.out)
         have n1_ := Aside0.mk (Kd.R_drew HO_16.out)
         have n2_ := Aside0.mk (blk_drew BK483.out)
         have n3_ := Aside0.mk (below_drew1 HB.out)
         clear HO_6
         clear HO_16
         clear BK483
         clear HB
         have HO_6 := n0_
         have HO_16 := n1_
         have BK483 := n2_
         have HB := n3_
         clear n0_ n1_ n2_ n3_
         refine start_ (n := 14) (S := fun w' => True) (ds := []) #[false, false, false, false, false, false, false, false, false, false, false, false, false, false] (by kernel_rfl) rfl rfl trivial (fun hHeld => ?_); refine with_tabW dom_Join.tab8 dom_Join.bits8 (fun HT_ HW_ => ?_)
         generalize w39.drew = w40 at HO_6 HO_16 BK483 HB hHeld ⊢
         refine pure_ (i := 0) (N := some 24) (v := ?_) (a' := ?_) #[true, false, false, false, false, false, false, false, false, false, false, false, false, false] rfl rfl (any_of HT_.out (by kernel_rfl)) (fun _ _ _ h => h) (Or.inl ⟨by rfl, ?_⟩) ?_ ?_
         rotate_left
         ·intro w'
          go_simp
          with_reducible rfl
         rotate_left
         ·simp only [Act.put, List.setIfInBounds_toArray, List.set_cons_zero, List.set_cons_succ, i64_w, i32_w]
          rfl
         refine pure_ (i := 1) (N := some 25) (v := ?_) (a' := ?_) #[true, true, false, false, false, false, false, false, false, false, false, false, false, false] rfl rfl (any_of HT_.out (by kernel_rfl)) (fun _ _ _ h => h) (Or.inl ⟨by rfl, ?_⟩) ?_ ?_
         rotate_left
         ·intro w'
          go_simp
          with_reducible rfl
         rotate_left
         ·simp only [Act.put, List.setIfInBounds_toArray, List.set_cons_zero, List.set_cons_succ, i64_w, i32_w]
          rfl
         refine pure_ (i := 2) (N := some 26) (v := ?_) (a' := ?_) #[true, true, true, false, false, false, false, false, false, false, false, false, false, false] rfl rfl (any_of HT_.out (by kernel_rfl)) (fun _ _ _ h => h) (Or.inl ⟨by rfl, ?_⟩) ?_ ?_
         rotate_left
         ·intro w'
          go_simp
          with_reducible rfl
         rotate_left
         ·simp only [Act.put, List.setIfInBounds_toArray, List.set_cons_zero, List.set_cons_succ, i64_w, i32_w]
          rfl
         refine pure_ (i := 3) (N := some 27) (v := undef) (a' := ?_) #[true, true, true, true, false, false, false, false, false, false, false, false, false, false] rfl rfl (any_of HT_.out (by kernel_rfl)) (fun _ _ _ h => h) (Or.inr ⟨by rfl, rfl⟩) ?_ ?_
         rotate_left
         ·simp only [Act.put, List.setIfInBounds_toArray, List.set_cons_zero, List.set_cons_succ, i64_w, i32_w]
          rfl
         refine pure_ (i := 4) (N := some 28) (v := undef) (a' := ?_) #[true, true, true, true, true, false, false, false, false, false, false, false, false, false] rfl rfl (any_of HT_.out (by kernel_rfl)) (fun _ _ _ h => h) (Or.inr ⟨by rfl, rfl⟩) ?_ ?_
         rotate_left
         ·simp only [Act.put, List.setIfInBounds_toArray, List.set_cons_zero, List.set_cons_succ, i64_w, i32_w]
          rfl
         refine pure_ (i := 5) (N := some 29) (v := undef) (a' := ?_) #[true, true, true, true, true, true, false, false, false, false, false, false, false, false] rfl rfl (any_of HT_.out (by kernel_rfl)) (fun _ _ _ h => h) (Or.inr ⟨by rfl, rfl⟩) ?_ ?_
         rotate_left
         ·simp only [Act.put, List.setIfInBounds_toArray, List.set_cons_zero, List.set_cons_succ, i64_w, i32_w]
          rfl
         refine pure_ (i := 6) (N := some 30) (v := undef) (a' := ?_) #[true, true, true, true, true, true, true, false, false, false, false, false, false, false] rfl rfl (any_of HT_.out (by kernel_rfl)) (fun _ _ _ h => h) (Or.inr ⟨by rfl, rfl⟩) ?_ ?_
         rotate_left
         ·simp only [Act.put, List.setIfInBounds_toArray, List.set_cons_zero, List.set_cons_succ, i64_w, i32_w]
          rfl
         refine pure_ (i := 7) (N := some 31) (v := undef) (a' := ?_) #[true, true, true, true, true, true, true, true, false, false, false, false, false, false] rfl rfl (any_of HT_.out (by kernel_rfl)) (fun _ _ _ h => h) (Or.inr ⟨by rfl, rfl⟩) ?_ ?_
         rotate_left
         ·simp only [Act.put, List.setIfInBounds_toArray, List.set_cons_zero, List.set_cons_succ, i64_w, i32_w]
          rfl
         refine pure_ (i := 8) (N := some 32) (v := undef) (a' := ?_) #[true, true, true, true, true, true, true, true, true, false, false, false, false, false] rfl rfl (any_of HT_.out (by kernel_rfl)) (fun _ _ _ h => h) (Or.inr ⟨by rfl, rfl⟩) ?_ ?_
         rotate_left
         ·simp only [Act.put, List.setIfInBounds_toArray, List.set_cons_zero, List.set_cons_succ, i64_w, i32_w]
          rfl
         refine pure_ (i := 9) (N := some 33) (v := undef) (a' := ?_) #[true, true, true, true, true, true, true, true, true, true, false, false, false, false] rfl rfl (any_of HT_.out (by kernel_rfl)) (fun _ _ _ h => h) (Or.inr ⟨by rfl, rfl⟩) ?_ ?_
         rotate_left
         ·simp only [Act.put, List.setIfInBounds_toArray, List.set_cons_zero, List.set_cons_succ, i64_w, i32_w]
          rfl
         refine pure_ (i := 10) (N := some 34) (v := undef) (a' := ?_) #[true, true, true, true, true, true, true, true, true, true, true, false, false, false] rfl rfl (any_of HT_.out (by kernel_rfl)) (fun _ _ _ h => h) (Or.inr ⟨by rfl, rfl⟩) ?_ ?_
         rotate_left
         ·simp only [Act.put, List.setIfInBounds_toArray, List.set_cons_zero, List.set_cons_succ, i64_w, i32_w]
          rfl
         refine pure_ (i := 11) (N := some 35) (v := undef) (a' := ?_) #[true, true, true, true, true, true, true, true, true, true, true, true, false, false] rfl rfl (any_of HT_.out (by kernel_rfl)) (fun _ _ _ h => h) (Or.inr ⟨by rfl, rfl⟩) ?_ ?_
         rotate_left
         ·simp only [Act.put, List.setIfInBounds_toArray, List.set_cons_zero, List.set_cons_succ, i64_w, i32_w]
          rfl
         refine pure_ (i := 12) (N := some 36) (v := undef) (a' := ?_) #[true, true, true, true, true, true, true, true, true, true, true, true, true, false] rfl rfl (any_of HT_.out (by kernel_rfl)) (fun _ _ _ h => h) (Or.inr ⟨by rfl, rfl⟩) ?_ ?_
         rotate_left
         ·simp only [Act.put, List.setIfInBounds_toArray, List.set_cons_zero, List.set_cons_succ, i64_w, i32_w]
          rfl
         refine pure_ (i := 13) (N := some 37) (v := ?_) (a' := ?_) #[true, true, true, true, true, true, true, true, true, true, true, true, true, true] rfl rfl (any_of HT_.out (by kernel_rfl)) (fun _ _ _ h => h) (Or.inl ⟨by rfl, ?_⟩) ?_ ?_
         rotate_left
         ·intro w'
          go_simp
          with_reducible rfl
         rotate_left
         ·simp only [Act.put, List.setIfInBounds_toArray, List.set_cons_zero, List.set_cons_succ, i64_w, i32_w]
          rfl
         refine done_ (done_of HT_.out (by kernel_rfl)) ?_
         have hcz41_0 : w40.cell? ⟨gb483, 0, none⟩ = some (.int .i64 ((rd_T52 x16_1 x18_1).f0)) := (blk_cell BK483.out 0).trans rfl
         have hcz41_1 : w40.cell? ⟨gb483, 1, none⟩ = some (.int .i64 ((rd_T52 x16_1 x18_1).f1)) := (blk_cell BK483.out 1).trans rfl
         have hfz41_0 := blk_frozen BK483.out 0
         have hfz41_1 := blk_frozen BK483.out 1
         try go_wp2_with (first | ((with_reducible refine gate_builtin (b := .append) (xs := #[.tmp 52, .tmp 54]) rfl ?_); at_builtin; refine Kd.R_append k52 (w0 := w) w.heap.size rfl (.tmp 52) (.tmp 54) 22 52 (.agg #[(.int .i64 0), (.int .i64 0)]) 16 rfl Try.underlying22 info52 rfl (by decide) (by omega) (.slice Ao38 x6_1.length co38) x6_1 (⟨(rd_T52 x16_1 x18_1).f0, (rd_T52 x16_1 x18_1).f1⟩ : S52) [.int .i64 ((rd_T52 x16_1 x18_1).f0), .int .i64 ((rd_T52 x16_1 x18_1).f1)] (fun k_ => some k_ ≠ (.slice (some ad482) x16_1.length co8 : Value).ownBlock ∧ k_ ≠ gb483) (fun _ => False) rfl rfl ?aP (fun _ hk => hk.elim) ?aF ?aO ?aB ?aS ?aL ?_; (case aP => exact k52_mkM _ _ _ (⟨(rd_T52 x16_1 x18_1).f0, (rd_T52 x16_1 x18_1).f1⟩ : S52)); (case aB => exact (by repeat (first | (with_reducible first | exact HB.out | apply below_alloc | apply pw_below_drewN | apply below_drew1 | refine below_set ?_ GE483.out) | exact HB.out))); (case aF => exact (fun k_ hk => ⟨Kd.fresh' (Kd.R_lt (by (with_reducible repeat (first | apply Kd.R_alloc | apply Kd.R_drewN | apply Kd.R_drew)); exact HO_16.out)) k_ hk, Kd.freshB (g := gb483) (o := .cells #[.int .i64 ((rd_T52 x16_1 x18_1).f0), .int .i64 ((rd_T52 x16_1 x18_1).f1)] 52 (0, 0)) (by (with_reducible repeat (first | refine blk_drewN ?_ _ | refine blk_drew ?_ | refine blk_alloc ?_ _)); exact BK483.out) k_ hk⟩)); (case aO => exact (by (with_reducible repeat (first | apply Kd.R_alloc | apply Kd.R_drewN | apply Kd.R_drew)); exact HO_6.out)); (case aS => exact (below_size (by repeat (first | (with_reducible first | exact HB.out | apply below_alloc | apply pw_below_drewN | apply below_drew1 | refine below_set ?_ GE483.out) | exact HB.out)))); (case aL => have := LMc35.out; omega); intro v491 w42 ho hb hg hat; rw [← Ny490.out] at ho; have n0_ := Aside0.mk (Kd.R_after (ok := (fun k_ => k_ ≠ gb483)) (by (with_reducible repeat (first | apply Kd.R_alloc | apply Kd.R_drewN | apply Kd.R_drew)); exact Kd.R_mono HO_16.out (fun _ hk => ⟨hk.2, hk.1⟩)) hg hat); have n1_ := Aside0.mk (blk_grown (g := gb483) (o := .cells #[.int .i64 ((rd_T52 x16_1 x18_1).f0), .int .i64 ((rd_T52 x16_1 x18_1).f1)] 52 (0, 0)) (by (with_reducible repeat (first | refine blk_drewN ?_ _ | refine blk_drew ?_ | refine blk_alloc ?_ _)); exact BK483.out) hg (Kd.R_away HO_6.out (fun _ hk => hk.2))); have n2_ := Aside0.mk (hb); have n3_ := Aside0.mk (ho); clear HO_16; clear BK483; clear HB; clear HO_6; have HO_16 := n0_; have BK483 := n1_; have HB := n2_; have HO492 := n3_; clear n0_ n1_ n2_ n3_; clear ho hb hg hat))
         (try simp only [← hl16_1])
         go_roundg k1
         case measure => have := HK1.out; omega
         case rel => exact ⟨(y490), (x16_1), (wrap64 (x18_1 + 1)), (by first | rfl | (simp; done) | (simp [*]; done)), H', ⟨by have := HK1.out; omega⟩, ⟨by (try simp only [hl16_1]); (with_reducible repeat (first | apply Kd.R_alloc | apply Kd.R_drewN | apply Kd.R_drew)); exact Kd.R_mono HO492.out (fun _ hk => hk.1)⟩, ⟨by (try simp only [hl16_1]); (with_reducible repeat (first | apply Kd.R_alloc | apply Kd.R_drewN | apply Kd.R_drew)); exact Kd.R_mono HO_16.out (fun _ hk => hk.2)⟩, ⟨by repeat (first | (with_reducible first | exact HB.out | apply below_alloc | apply pw_below_drewN | apply below_drew1 | refine below_set ?_ GE483.out) | exact HB.out)⟩⟩
        ·rw [if_neg c35] at H
         exact absurd H (by simp)
      ·rw [if_neg c12] at H
       exact absurd H (by simp)
     ·rw [if_neg c11] at H
      exact absurd H (by simp)
    ·rw [if_neg c10] at H
     have c10b0 : decide (x18_1 < (y478.length : Int)) = false := decide_eq_false c10
     have c10b0_l : decide (x18_1 < (x16_1.length : Int)) = false := by first | (rw [← hl16_1]; exact c10b0) | exact c10b0
     clear c10
     obtain rfl := Option.some.inj H
     go_wp2
     go_ret
     exact ⟨_, by first | rfl | (simp [errW_none, errW_some] <;> rfl) | (simp [*, errW_none, errW_some] <;> rfl), by (with_reducible repeat (first | apply Kd.R_alloc | apply Kd.R_drewN | apply Kd.R_drew)); exact Kd.R_mono HO_6.out (fun _ hk => trivial), by repeat (first | (with_reducible first | exact HB.out | apply below_alloc | apply pw_below_drewN | apply below_drew1) | exact HB.out)⟩
 ·rw [if_neg c4] at H
  exact absurd H (by simp)

end Go.Proofs.Ytklanjkndoikeaa.P

-- Written by wip/tools/px.py out of the translation. Lean checks it.
namespace Go.Proofs.Ytklanjkndoikeaa.P
open Go.RowKit Go.Proofs.YtklanjkndoikeaaW.PrintWords Go.Proofs.YtklanjkndoikeaaW.PrintLast Go.Proofs.YtklanjkndoikeaaW.PrintMore
attribute [local go_sem] max2_int min2_int max_two min_two max_three min_three max_four min_four   -- for this text's walks alone
set_option linter.unusedVariables false
set_option linter.unusedSimpArgs false

/-! ### dom_Minus: function 39 -/
mutual
def dom_Minus.l0 : Nat → List (S52) → List (S52) → List (S52) → Int → Int → Option ((List (S52)))
 | 0, _, _, _, _, _ => none
 | k + 1, x1, x5, x10, x11, x12 => if x12 < x11 then (if 0 ≤ x12 then (if x12 < (x10.length : Int) then (dom_Minus.l1 k x1 x5 x10 x11 x12 x1 (x1.length : Int) 0 ((rd_T52 x10 x12).f0) ((rd_T52 x10 x12).f1)) else (none)) else (none)) else (some x5)
def dom_Minus.l1 : Nat → List (S52) → List (S52) → List (S52) → Int → Int → List (S52) → Int → Int → Int → Int → Option ((List (S52)))
 | 0, _, _, _, _, _, _, _, _, _, _ => none
 | k + 1, x1, x5, x10, x11, x12, x16, x17, x18, x547000, x547001 => if x18 < x17 then (if 0 ≤ x18 then (if x18 < (x16.length : Int) then (if ((rd_T52 x16 x18).f1) < x547000 then (dom_Minus.j2 k x1 x5 x10 x11 x12 x16 x17 x18 true x547000 x547001 ((rd_T52 x16 x18).f0) ((rd_T52 x16 x18).f1)) else (dom_Minus.j2 k x1 x5 x10 x11 x12 x16 x17 x18 (decide (((rd_T52 x16 x18).f0) > x547001)) x547000 x547001 ((rd_T52 x16 x18).f0) ((rd_T52 x16 x18).f1))) else (none)) else (none)) else (if x547000 ≤ x547001 then (if x5.length < 8796093022208 then (dom_Minus.l0 k x1 (x5 ++ [(⟨x547000, x547001⟩ : S52)]) x10 x11 (wrap64 (x12 + 1))) else (none)) else (dom_Minus.l0 k x1 x5 x10 x11 (wrap64 (x12 + 1))))
def dom_Minus.j2 : Nat → List (S52) → List (S52) → List (S52) → Int → Int → List (S52) → Int → Int → Bool → Int → Int → Int → Int → Option ((List (S52)))
 | 0, _, _, _, _, _, _, _, _, _, _, _, _, _ => none
 | k + 1, x1, x5, x10, x11, x12, x16, x17, x18, x33, x547000, x547001, x552000, x552001 => if x33 = true then (dom_Minus.l1 k x1 x5 x10 x11 x12 x16 x17 (wrap64 (x18 + 1)) x547000 x547001) else (if x552000 > x547000 then (if x5.length < 8796093022208 then (dom_Minus.l1 k x1 (x5 ++ [(⟨x547000, wrap64 (x552000 - 1)⟩ : S52)]) x10 x11 x12 x16 x17 (wrap64 (x18 + 1)) (wrap64 (x552001 + 1)) x547001) else (none)) else (dom_Minus.l1 k x1 x5 x10 x11 x12 x16 x17 (wrap64 (x18 + 1)) (wrap64 (x552001 + 1)) x547001))
end
def dom_Minus.f (k : Nat) (l0 : List (S52)) (l1 : List (S52)) : Option ((List (S52))) := dom_Minus.l0 k l1 ([] : List (S52)) l0 (l0.length : Int) 0
theorem dom_Minus.mono_l : ∀ k, (∀ y0 y1 y2 y3 y4, LeO (dom_Minus.l0 k y0 y1 y2 y3 y4) (dom_Minus.l0 (k + 1) y0 y1 y2 y3 y4)) ∧ (∀ y0 y1 y2 y3 y4 y5 y6 y7 y8 y9, LeO (dom_Minus.l1 k y0 y1 y2 y3 y4 y5 y6 y7 y8 y9) (dom_Minus.l1 (k + 1) y0 y1 y2 y3 y4 y5 y6 y7 y8 y9)) ∧ (∀ y0 y1 y2 y3 y4 y5 y6 y7 y8 y9 y10 y11 y12, LeO (dom_Minus.j2 k y0 y1 y2 y3 y4 y5 y6 y7 y8 y9 y10 y11 y12) (dom_Minus.j2 (k + 1) y0 y1 y2 y3 y4 y5 y6 y7 y8 y9 y10 y11 y12))
 | 0 => ⟨fun _ _ _ _ _ r h => by simp [dom_Minus.l0] at h, fun _ _ _ _ _ _ _ _ _ _ r h => by simp [dom_Minus.l1] at h, fun _ _ _ _ _ _ _ _ _ _ _ _ _ r h => by simp [dom_Minus.j2] at h⟩
 | k + 1 => by
  obtain ⟨ih0, ih1, ih2⟩ := dom_Minus.mono_l k
  refine ⟨?_, ?_, ?_⟩
  ·intro y0 y1 y2 y3 y4
   unfold dom_Minus.l0
   repeat' first
   | (with_reducible exact ih0 _ _ _ _ _)
   | (with_reducible exact ih1 _ _ _ _ _ _ _ _ _ _)
   | (with_reducible exact ih2 _ _ _ _ _ _ _ _ _ _ _ _ _)
   | (with_reducible exact LeO.refl _)
   | (with_reducible exact LeO.none _)
   | (with_reducible refine LeO.ite ?_ ?_)
   | (with_reducible refine LeO.bind ?_ (fun _ => ?_))
   | exact ih0 _ _ _ _ _
   | exact ih1 _ _ _ _ _ _ _ _ _ _
   | exact ih2 _ _ _ _ _ _ _ _ _ _ _ _ _
   | exact LeO.none _
   | refine LeO.ite ?_ ?_
   | refine LeO.bind ?_ (fun _ => ?_)
  ·intro y0 y1 y2 y3 y4 y5 y6 y7 y8 y9
   unfold dom_Minus.l1
   repeat' first
   | (with_reducible exact ih0 _ _ _ _ _)
   | (with_reducible exact ih1 _ _ _ _ _ _ _ _ _ _)
   | (with_reducible exact ih2 _ _ _ _ _ _ _ _ _ _ _ _ _)
   | (with_reducible exact LeO.refl _)
   | (with_reducible exact LeO.none _)
   | (with_reducible refine LeO.ite ?_ ?_)
   | (with_reducible refine LeO.bind ?_ (fun _ => ?_))
   | exact ih0 _ _ _ _ _
   | exact ih1 _ _ _ _ _ _ _ _ _ _
   | exact ih2 _ _ _ _ _ _ _ _ _ _ _ _ _
   | exact LeO.none _
   | refine LeO.ite ?_ ?_
   | refine LeO.bind ?_ (fun _ => ?_)
  ·intro y0 y1 y2 y3 y4 y5 y6 y7 y8 y9 y10 y11 y12
   unfold dom_Minus.j2
   repeat' first
   | (with_reducible exact ih0 _ _ _ _ _)
   | (with_reducible exact ih1 _ _ _ _ _ _ _ _ _ _)
   | (with_reducible exact ih2 _ _ _ _ _ _ _ _ _ _ _ _ _)
   | (with_reducible exact LeO.refl _)
   | (with_reducible exact LeO.none _)
   | (with_reducible refine LeO.ite ?_ ?_)
   | (with_reducible refine LeO.bind ?_ (fun _ => ?_))
   | exact ih0 _ _ _ _ _
   | exact ih1 _ _ _ _ _ _ _ _ _ _
   | exact ih2 _ _ _ _ _ _ _ _ _ _ _ _ _
   | exact LeO.none _
   | refine LeO.ite ?_ ?_
   | refine LeO.bind ?_ (fun _ => ?_)
theorem dom_Minus.mono : ∀ a0 a1 k, LeO (dom_Minus.f k a0 a1) (dom_Minus.f (k + 1) a0 a1) := by
 intro a0 a1 k
 obtain ⟨ih0, ih1, ih2⟩ := dom_Minus.mono_l k
 unfold dom_Minus.f
 repeat' first
   | (with_reducible exact ih0 _ _ _ _ _)
   | (with_reducible exact ih1 _ _ _ _ _ _ _ _ _ _)
   | (with_reducible exact ih2 _ _ _ _ _ _ _ _ _ _ _ _ _)
   | (with_reducible exact LeO.refl _)
   | (with_reducible exact LeO.none _)
   | (with_reducible refine LeO.ite ?_ ?_)
   | (with_reducible refine LeO.bind ?_ (fun _ => ?_))
   | exact ih0 _ _ _ _ _
   | exact ih1 _ _ _ _ _ _ _ _ _ _
   | exact ih2 _ _ _ _ _ _ _ _ _ _ _ _ _
   | exact LeO.none _
   | refine LeO.ite ?_ ?_
   | refine LeO.bind ?_ (fun _ => ?_)
set_option maxHeartbeats 8000000 in
set_option maxRecDepth 100000 in
theorem dom_Minus.calls (k : Nat) (A0 : Option Addr) (c0 : Nat) (l0 : List (S52)) (A1 : Option Addr) (c1 : Nat) (l1 : List (S52)) (r : List (S52)) (w : World) (hr0 : Kd.C k52 w A0 l0.length l0) (hc0 : l0.length ≤ c0) (hr1 : Kd.C k52 w A1 l1.length l1) (hc1 : l1.length ≤ c1) (h : dom_Minus.f k l0 l1 = some r) :
  Calls Try.prog 39 #[.slice A0 l0.length c0, .slice A1 l1.length c1] w fun e w' => ∃ v0_ : Value, e = .returned (v0_) ∧ Kd.R k52 52 w' w.heap.size (fun _ => True) v0_ r ∧ Below w.heap.size w w' := by
 have hu52 := Try.underlying52
 have HR0 := Aside0.mk hr0
 have HC0 := Aside0.mk hc0
 clear hr0 hc0
 have HR1 := Aside0.mk hr1
 have HC1 := Aside0.mk hc1
 clear hr1 hc1
 have HB := Aside0.mk (Below.refl w.heap.size w)
 have H : (dom_Minus.l0 k l1 ([] : List (S52)) l0 (l0.length : Int) 0) = some r := h
 clear h
 have H' := Aside0.mk H
 clear H
 go_enter Try.func39, Try.ntmps39
 go_wp2
 go_loopg [5, 12] k (fun kq v5 v12 w' => ∃ (x5_1 : List (S52)) (x12_1 : Int), v12 = .int .i64 x12_1 ∧ Aside0 (dom_Minus.l0 kq l1 x5_1 l0 (l0.length : Int) x12_1 = some r) ∧ Aside0 (kq ≤ k) ∧ Aside0 (Kd.R k52 52 w' w.heap.size (fun _ => True) v5 x5_1) ∧ Aside0 (Below w.heap.size w w'))
 case atStart => exact ⟨(([] : List (S52))), (0), (by first | rfl | (simp; done) | (simp [*]; done)), H', ⟨Nat.le_refl _⟩, ⟨by first | exact Kd.R_nil _ _ _ _ _ | exact Kd.N_nil _ _ _ _ _ | exact Kd.V_nil _ _ _ _ _ | exact Kd.Q_nil _ _ _ _ _ | exact Kd.S_nil _ _ _ _ _⟩, ⟨by repeat (first | (with_reducible first | exact HB.out | apply below_alloc | apply pw_below_drewN | apply below_drew1) | exact HB.out)⟩⟩
 case round =>
  clear H'
  try clear c1
  try clear p2
  obtain ⟨x5_1, x12_1, rfl, HA, HK1, HO_5, HB⟩ := hrel
  cases gk with
  | zero => exact absurd HA.out (by simp [dom_Minus.l0])
  | succ k1 =>
   have H := HA.out
   clear HA
   simp only [dom_Minus.l0] at H
   by_cases c3 : x12_1 < (l0.length : Int)
   ·rw [if_pos c3] at H
    have c3b0 : decide (x12_1 < (l0.length : Int)) = true := decide_eq_true c3
    clear c3
    by_cases c4 : 0 ≤ x12_1
    ·rw [if_pos c4] at H
     have c4b0 : decide (0 ≤ x12_1) = true := decide_eq_true c4
     clear c4
     by_cases c5 : x12_1 < (l0.length : Int)
     ·rw [if_pos c5] at H
      have c5b0 : decide (x12_1 < (l0.length : Int)) = true := decide_eq_true c5
      clear c5
      have H' := Aside0.mk H
      clear H
      have p545 : 0 ≤ (x12_1 : Int) := of_decide_eq_true (by first | (with_reducible assumption) | assumption)
      have q545 : x12_1 < (l0.length : Int) := of_decide_eq_true (by first | (with_reducible assumption) | assumption)
      obtain ⟨ad545, e545, hx545_0, hx545_1⟩ := at_T52 HR0.out x12_1 p545 q545
      cases e545
      replace hx545_0 := (HB.out.cell (World.block_lt_of_cell? w _ hx545_0)).trans hx545_0
      replace hx545_1 := (HB.out.cell (World.block_lt_of_cell? w _ hx545_1)).trans hx545_1
      replace p545 := eq_true p545
      replace q545 := eq_true q545
      go_wp2_with (first | ((with_reducible refine gate_dst (N := 7) rfl ?_); refine box_event ?hg (N := 7) ?hd (cs := #[.int .i64 0, .int .i64 0]) (t := 52) ?hr ?_; (case hd => rfl); (case hg => rfl); (case hr => first | (go_simp; done) | (go_simp; rfl)); intro gb546 hg w6 hbox hb; have n0_ := Aside0.mk (Kd.R_below (Kd.R_elderB (by (with_reducible repeat (first | apply Kd.R_alloc | apply Kd.R_drewN | apply Kd.R_drew)); exact HO_5.out) gb546 (Nat.le_of_eq hg.symm)) hb); have n1_ := Aside0.mk (below_step (by repeat (first | (with_reducible first | exact HB.out | apply below_alloc | apply pw_below_drewN | apply below_drew1) | exact HB.out)) hb); have n2_ := Aside0.mk (hbox); have n3_ := Aside0.mk ((by rw [hg]; exact (below_size (by repeat (first | (with_reducible first | exact HB.out | apply below_alloc | apply pw_below_drewN | apply below_drew1) | exact HB.out))) : w.heap.size ≤ gb546)); have n4_ := Aside0.mk ((by rw [hg]; exact (below_size (by repeat (first | (with_reducible first | exact HB.out | apply below_alloc | apply pw_below_drewN | apply below_drew1) | exact HB.out))) : w.heap.size ≤ gb546)); clear HO_5; clear HB; have HO_5 := n0_; have HB := n1_; have BK546 := n2_; have GW546 := n3_; have GE546 := n4_; clear n0_ n1_ n2_ n3_ n4_; clear hb hbox hg; have hcz7_0 : w6.cell? ⟨gb546, 0, none⟩ = some (.int .i64 0) := (blk_cell BK546.out 0).trans rfl; have hcz7_1 : w6.cell? ⟨gb546, 1, none⟩ = some (.int .i64 0) := (blk_cell BK546.out 1).trans rfl; have hfz7_0 := blk_frozen BK546.out 0; have hfz7_1 := blk_frozen BK546.out 1))
      go_loopg [5, 18] k1 (fun kq v5 v18 w' => ∃ (x5_2 : List (S52)) (x18_2 : Int) (x547000_2 : Int), v18 = .int .i64 x18_2 ∧ Aside0 (dom_Minus.l1 kq l1 x5_2 l0 (l0.length : Int) x12_1 l1 (l1.length : Int) x18_2 x547000_2 ((rd_T52 l0 x12_1).f1) = some r) ∧ Aside0 (kq ≤ k1) ∧ Aside0 (Kd.R k52 52 w' w.heap.size (fun k_ => k_ ≠ gb546) v5 x5_2) ∧ Aside0 (w'.heap[gb546]? = some (.cells #[.int .i64 x547000_2, .int .i64 ((rd_T52 l0 x12_1).f1)] 52 (0, 0))) ∧ Aside0 (Below w.heap.size w w'))
      case atStart => exact ⟨(x5_1), (0), ((rd_T52 l0 x12_1).f0), (by first | rfl | (simp; done) | (simp [*]; done)), H', ⟨Nat.le_refl _⟩, ⟨by (with_reducible repeat (first | apply Kd.R_alloc | apply Kd.R_drewN | apply Kd.R_drew)); exact Kd.R_mono (Kd.R_far (p := ⟨gb546, 1, none⟩) (Kd.R_far (p := ⟨gb546, 0, none⟩) (Kd.R_mono HO_5.out (fun k_ hk => (⟨hk, hk.2⟩ : _ ∧ k_ ≠ gb546))) (fun _ hk => hk.2) (.int .i64 ((rd_T52 l0 x12_1).f0))) (fun _ hk => hk.2) (.int .i64 ((rd_T52 l0 x12_1).f1))) (fun _ hk => hk.1.2)⟩, ⟨by (with_reducible repeat (first | refine blk_drewN ?_ _ | refine blk_drew ?_ | refine blk_alloc ?_ _)); refine blk_put (cs := #[.int .i64 ((rd_T52 l0 x12_1).f0), .int .i64 0]) ?_ 1 _ rfl; (with_reducible repeat (first | refine blk_drewN ?_ _ | refine blk_drew ?_ | refine blk_alloc ?_ _)); refine blk_put (cs := #[.int .i64 0, .int .i64 0]) ?_ 0 _ rfl; (with_reducible repeat (first | refine blk_drewN ?_ _ | refine blk_drew ?_ | refine blk_alloc ?_ _)); exact BK546.out⟩, ⟨by repeat (first | (with_reducible first | exact HB.out | apply below_alloc | apply pw_below_drewN | apply below_drew1 | refine below_set ?_ GE546.out) | exact HB.out)⟩⟩
      case round =>
       clear H'
       try clear c1
       try clear p2
       try clear c3
       try clear c3b0
       try clear c4
       try clear c4b0
       try clear c5
       try clear c5b0
       try clear p5
       try clear q5
       try clear hx5
       try clear hcz7_0
       try clear hcz7_1
       try clear hfz7_0
       try clear hfz7_1
       try clear hx545_0
       try clear hx545_1
       try clear p2
       try clear p545
       try clear q545
       obtain ⟨x5_2, x18_2, x547000_2, rfl, HA, HK2, HO_5, BK546, HB⟩ := hrel
       cases gk with
       | zero => exact absurd HA.out (by simp [dom_Minus.l1])
       | succ k2 =>
        have H := HA.out
        clear HA
        simp only [dom_Minus.l1] at H
        by_cases c8 : x18_2 < (l1.length : Int)
        ·rw [if_pos c8] at H
         have c8b0 : decide (x18_2 < (l1.length : Int)) = true := decide_eq_true c8
         clear c8
         by_cases c9 : 0 ≤ x18_2
         ·rw [if_pos c9] at H
          have c9b0 : decide (0 ≤ x18_2) = true := decide_eq_true c9
          clear c9
          by_cases c10 : x18_2 < (l1.length : Int)
          ·rw [if_pos c10] at H
           have c10b0 : decide (x18_2 < (l1.length : Int)) = true := decide_eq_true c10
           clear c10
           have HC11 := Aside0.mk H
           clear H
           have p550 : 0 ≤ (x18_2 : Int) := of_decide_eq_true (by first | (with_reducible assumption) | assumption)
           have q550 : x18_2 < (l1.length : Int) := of_decide_eq_true (by first | (with_reducible assumption) | assumption)
           obtain ⟨ad550, e550, hx550_0, hx550_1⟩ := at_T52 HR1.out x18_2 p550 q550
           cases e550
           replace hx550_0 := (HB.out.cell (World.block_lt_of_cell? w _ hx550_0)).trans hx550_0
           replace hx550_1 := (HB.out.cell (World.block_lt_of_cell? w _ hx550_1)).trans hx550_1
           replace p550 := eq_true p550
           replace q550 := eq_true q550
           go_upto_region 8 with (first | ((with_reducible refine gate_dst (N := 9) rfl ?_); refine box_event ?hg (N := 9) ?hd (cs := #[.int .i64 0, .int .i64 0]) (t := 52) ?hr ?_; (case hd => rfl); (case hg => rfl); (case hr => first | (go_simp; done) | (go_simp; rfl)); intro gb551 hg w12 hbox hb; have n0_ := Aside0.mk (Kd.R_below (Kd.R_elderB (by (with_reducible repeat (first | apply Kd.R_alloc | apply Kd.R_drewN | apply Kd.R_drew)); exact HO_5.out) gb551 (Nat.le_of_eq hg.symm)) hb); have n1_ := Aside0.mk (blk_below (g := gb546) (o := .cells #[.int .i64 x547000_2, .int .i64 ((rd_T52 l0 x12_1).f1)] 52 (0, 0)) (by (with_reducible repeat (first | refine blk_drewN ?_ _ | refine blk_drew ?_ | refine blk_alloc ?_ _)); exact BK546.out) hb); have n2_ := Aside0.mk (below_step (by repeat (first | (with_reducible first | exact HB.out | apply below_alloc | apply pw_below_drewN | apply below_drew1 | refine below_set ?_ GE546.out) | exact HB.out)) hb); have n3_ := Aside0.mk (hbox); have n4_ := Aside0.mk ((by rw [hg]; exact (below_size (by repeat (first | (with_reducible first | exact HB.out | apply below_alloc | apply pw_below_drewN | apply below_drew1 | refine below_set ?_ GE546.out) | exact HB.out))) : w.heap.size ≤ gb551)); have n5_ := Aside0.mk ((by rw [hg]; exact (below_size (by repeat (first | (with_reducible first | exact HB.out | apply below_alloc | apply pw_below_drewN | apply below_drew1 | refine below_set ?_ GE546.out) | exact HB.out))) : w.heap.size ≤ gb551)); have n6_ := Aside0.mk ((by rw [hg]; exact Nat.ne_of_lt (blk_lt (g := gb546) (o := .cells #[.int .i64 x547000_2, .int .i64 ((rd_T52 l0 x12_1).f1)] 52 (0, 0)) (by (with_reducible repeat (first | refine blk_drewN ?_ _ | refine blk_drew ?_ | refine blk_alloc ?_ _)); exact BK546.out)) : gb546 ≠ gb551)); have n7_ := Aside0.mk ((by rw [hg]; exact Nat.ne_of_gt (blk_lt (g := gb546) (o := .cells #[.int .i64 x547000_2, .int .i64 ((rd_T52 l0 x12_1).f1)] 52 (0, 0)) (by (with_reducible repeat (first | refine blk_drewN ?_ _ | refine blk_drew ?_ | refine blk_alloc ?_ _)); exact BK546.out)) : gb551 ≠ gb546)); clear HO_5; clear BK546; clear HB; have HO_5 := n0_; have BK546 := n1_; have HB := n2_; have BK551 := n3_; have GW551 := n4_; have GE551 := n5_; have NB546_551 := n6_; have NB551_546 := n7_; clear n0_ n1_ n2_ n3_ n4_ n5_ n6_ n7_; clear hb hbox hg; have hnb13 := NB551_546.out; have hnc13 := NB546_551.out; have hcz14_0 : w12.cell? ⟨gb551, 0, none⟩ = some (.int .i64 0) := (blk_cell BK551.out 0).trans rfl; have hcz14_1 : w12.cell? ⟨gb551, 1, none⟩ = some (.int .i64 0) := (blk_cell BK551.out 1).trans rfl; have hfz14_0 := blk_frozen BK551.out 0; have hfz14_1 := blk_frozen BK551.out 1))
           (try simp only [Act.put, List.setIfInBounds_toArray, List.set_cons_zero, List.set_cons_succ])
           go_cut [33] (fun v33 wc => ∃ (kq : Nat) (x33_10 : Bool), v33 = .bool x33_10 ∧ Aside0 (dom_Minus.j2 kq l1 x5_2 l0 (l0.length : Int) x12_1 l1 (l1.length : Int) x18_2 x33_10 x547000_2 ((rd_T52 l0 x12_1).f1) ((rd_T52 l1 x18_2).f0) ((rd_T52 l1 x18_2).f1) = some r) ∧ Aside0 (kq ≤ k2) ∧ Aside0 (Kd.R k52 52 wc w.heap.size (fun k_ => k_ ≠ gb546 ∧ k_ ≠ gb551) u5 x5_2) ∧ Aside0 (wc.heap[gb546]? = some (.cells #[.int .i64 x547000_2, .int .i64 ((rd_T52 l0 x12_1).f1)] 52 (0, 0))) ∧ Aside0 (wc.heap[gb551]? = some (.cells #[.int .i64 ((rd_T52 l1 x18_2).f0), .int .i64 ((rd_T52 l1 x18_2).f1)] 52 (0, 0))) ∧ Aside0 (Below w.heap.size w wc))
           case first =>
            have H := HC11.out
            clear HC11
            by_cases c15 : ((rd_T52 l1 x18_2).f1) < x547000_2
            ·rw [if_pos c15] at H
             have c15b0 : decide (((rd_T52 l1 x18_2).f1) < x547000_2) = true := decide_eq_true c15
             clear c15
             (first | rw [c15b0] | (simp only [i64_w, i32_w]; rw [c15b0]) | skip)
             have H' := Aside0.mk H
             clear H
             have hnb16 := NB551_546.out
             have hnc16 := NB546_551.out
             have hcz17_0 : w12.cell? ⟨gb551, 0, none⟩ = some (.int .i64 0) := (blk_cell BK551.out 0).trans rfl
             have hcz17_1 : w12.cell? ⟨gb551, 1, none⟩ = some (.int .i64 0) := (blk_cell BK551.out 1).trans rfl
             have hfz17_0 := blk_frozen BK551.out 0
             have hfz17_1 := blk_frozen BK551.out 1
             have hcz18_0 : w12.cell? ⟨gb546, 0, none⟩ = some (.int .i64 x547000_2) := (blk_cell BK546.out 0).trans rfl
             have hcz18_1 : w12.cell? ⟨gb546, 1, none⟩ = some (.int .i64 ((rd_T52 l0 x12_1).f1)) := (blk_cell BK546.out 1).trans rfl
             have hfz18_0 := blk_frozen BK546.out 0
             have hfz18_1 := blk_frozen BK546.out 1
             go_wp2
             go_meet
             case rel => exact ⟨_, (true), (by first | rfl | (simp; done) | (simp [*]; done)), H', ⟨by have := HK1.out; have := HK2.out; first | omega | exact Nat.le_refl _⟩, ⟨by (with_reducible repeat (first | apply Kd.R_alloc | apply Kd.R_drewN | apply Kd.R_drew)); exact Kd.R_mono (Kd.R_far (p := ⟨gb551, 1, none⟩) (Kd.R_far (p := ⟨gb551, 0, none⟩) (Kd.R_mono HO_5.out (fun k_ hk => (⟨hk, hk.2⟩ : _ ∧ k_ ≠ gb551))) (fun _ hk => hk.2) (.int .i64 ((rd_T52 l1 x18_2).f0))) (fun _ hk => hk.2) (.int .i64 ((rd_T52 l1 x18_2).f1))) (fun _ hk => ⟨hk.1.1, hk.1.2⟩)⟩, ⟨by (with_reducible repeat (first | refine blk_drewN ?_ _ | refine blk_drew ?_ | refine blk_alloc ?_ _)); refine blk_far ?_ NB546_551.out _; (with_reducible repeat (first | refine blk_drewN ?_ _ | refine blk_drew ?_ | refine blk_alloc ?_ _)); refine blk_far ?_ NB546_551.out _; (with_reducible repeat (first | refine blk_drewN ?_ _ | refine blk_drew ?_ | refine blk_alloc ?_ _)); exact BK546.out⟩, ⟨by (with_reducible repeat (first | refine blk_drewN ?_ _ | refine blk_drew ?_ | refine blk_alloc ?_ _)); refine blk_put (cs := #[.int .i64 ((rd_T52 l1 x18_2).f0), .int .i64 0]) ?_ 1 _ rfl; (with_reducible repeat (first | refine blk_drewN ?_ _ | refine blk_drew ?_ | refine blk_alloc ?_ _)); refine blk_put (cs := #[.int .i64 0, .int .i64 0]) ?_ 0 _ rfl; (with_reducible repeat (first | refine blk_drewN ?_ _ | refine blk_drew ?_ | refine blk_alloc ?_ _)); exact BK551.out⟩, ⟨by repeat (first | (with_reducible first | exact HB.out | apply below_alloc | apply pw_below_drewN | apply below_drew1 | refine below_set ?_ GE546.out | refine below_set ?_ GE551.out) | exact HB.out)⟩⟩
            ·rw [if_neg c15] at H
             have c15b0 : decide (((rd_T52 l1 x18_2).f1) < x547000_2) = false := decide_eq_false c15
             clear c15
             (first | rw [c15b0] | (simp only [i64_w, i32_w]; rw [c15b0]) | skip)
             have H' := Aside0.mk H
             clear H
             have hnb19 := NB551_546.out
             have hnc19 := NB546_551.out
             have hcz20_0 : w12.cell? ⟨gb551, 0, none⟩ = some (.int .i64 0) := (blk_cell BK551.out 0).trans rfl
             have hcz20_1 : w12.cell? ⟨gb551, 1, none⟩ = some (.int .i64 0) := (blk_cell BK551.out 1).trans rfl
             have hfz20_0 := blk_frozen BK551.out 0
             have hfz20_1 := blk_frozen BK551.out 1
             have hcz21_0 : w12.cell? ⟨gb546, 0, none⟩ = some (.int .i64 x547000_2) := (blk_cell BK546.out 0).trans rfl
             have hcz21_1 : w12.cell? ⟨gb546, 1, none⟩ = some (.int .i64 ((rd_T52 l0 x12_1).f1)) := (blk_cell BK546.out 1).trans rfl
             have hfz21_0 := blk_frozen BK546.out 0
             have hfz21_1 := blk_frozen BK546.out 1
             go_wp2
             go_meet
             case rel => exact ⟨_, (decide (((rd_T52 l1 x18_2).f0) > ((rd_T52 l0 x12_1).f1))), (by first | rfl | (simp; done) | (simp [*]; done)), H', ⟨by have := HK1.out; have := HK2.out; first | omega | exact Nat.le_refl _⟩, ⟨by (with_reducible repeat (first | apply Kd.R_alloc | apply Kd.R_drewN | apply Kd.R_drew)); exact Kd.R_mono (Kd.R_far (p := ⟨gb551, 1, none⟩) (Kd.R_far (p := ⟨gb551, 0, none⟩) (Kd.R_mono HO_5.out (fun k_ hk => (⟨hk, hk.2⟩ : _ ∧ k_ ≠ gb551))) (fun _ hk => hk.2) (.int .i64 ((rd_T52 l1 x18_2).f0))) (fun _ hk => hk.2) (.int .i64 ((rd_T52 l1 x18_2).f1))) (fun _ hk => ⟨hk.1.1, hk.1.2⟩)⟩, ⟨by (with_reducible repeat (first | refine blk_drewN ?_ _ | refine blk_drew ?_ | refine blk_alloc ?_ _)); refine blk_far ?_ NB546_551.out _; (with_reducible repeat (first | refine blk_drewN ?_ _ | refine blk_drew ?_ | refine blk_alloc ?_ _)); refine blk_far ?_ NB546_551.out _; (with_reducible repeat (first | refine blk_drewN ?_ _ | refine blk_drew ?_ | refine blk_alloc ?_ _)); exact BK546.out⟩, ⟨by (with_reducible repeat (first | refine blk_drewN ?_ _ | refine blk_drew ?_ | refine blk_alloc ?_ _)); refine blk_put (cs := #[.int .i64 ((rd_T52 l1 x18_2).f0), .int .i64 0]) ?_ 1 _ rfl; (with_reducible repeat (first | refine blk_drewN ?_ _ | refine blk_drew ?_ | refine blk_alloc ?_ _)); refine blk_put (cs := #[.int .i64 0, .int .i64 0]) ?_ 0 _ rfl; (with_reducible repeat (first | refine blk_drewN ?_ _ | refine blk_drew ?_ | refine blk_alloc ?_ _)); exact BK551.out⟩, ⟨by repeat (first | (with_reducible first | exact HB.out | apply below_alloc | apply pw_below_drewN | apply below_drew1 | refine below_set ?_ GE546.out | refine below_set ?_ GE551.out) | exact HB.out)⟩⟩
           case rest =>
            clear HC11
            try clear c1
            try clear p2
            try clear c3
            try clear c3b0
            try clear c4
            try clear c4b0
            try clear c5
            try clear c5b0
            try clear p5
            try clear q5
            try clear hx5
            try clear c8
            try clear c8b0
            try clear c9
            try clear c9b0
            try clear c10
            try clear c10b0
            try clear c13
            try clear c15
            try clear c15b0
            try clear c16
            try clear c19
            try clear hcz14_0
            try clear hcz14_1
            try clear hcz17_0
            try clear hcz17_1
            try clear hcz18_0
            try clear hcz18_1
            try clear hcz20_0
            try clear hcz20_1
            try clear hcz21_0
            try clear hcz21_1
            try clear hcz7_0
            try clear hcz7_1
            try clear hfz14_0
            try clear hfz14_1
            try clear hfz17_0
            try clear hfz17_1
            try clear hfz18_0
            try clear hfz18_1
            try clear hfz20_0
            try clear hfz20_1
            try clear hfz21_0
            try clear hfz21_1
            try clear hfz7_0
            try clear hfz7_1
            try clear hx545_0
            try clear hx545_1
            try clear hx550_0
            try clear hx550_1
            try clear p2
            try clear p5
            try clear p545
            try clear p550
            try clear q5
            try clear q545
            try clear q550
            obtain ⟨kq, x33_10, rfl, HA, HJ10, HO_5, BK546, BK551, HB⟩ := hcut
            cases kq with
            | zero => exact absurd HA.out (by simp [dom_Minus.j2])
            | succ kj10 =>
             have H := HA.out
             clear HA
             simp only [dom_Minus.j2] at H
             by_cases c22 : x33_10 = true
             ·subst c22
              have H1 : (dom_Minus.l1 kj10 l1 x5_2 l0 (l0.length : Int) x12_1 l1 (l1.length : Int) (wrap64 (x18_2 + 1)) x547000_2 ((rd_T52 l0 x12_1).f1)) = some r := by rw [if_pos rfl] at H; exact H
              clear H
              have H := H1
              clear H1
              have H' := Aside0.mk H
              clear H
              go_wp2
              go_roundg kj10
              case measure => have := HK1.out; have := HK2.out; have := HJ10.out; omega
              case rel => exact ⟨(x5_2), (wrap64 (x18_2 + 1)), (x547000_2), (by first | rfl | (simp; done) | (simp [*]; done)), H', ⟨by have := HK1.out; have := HK2.out; have := HJ10.out; omega⟩, ⟨by (with_reducible repeat (first | apply Kd.R_alloc | apply Kd.R_drewN | apply Kd.R_drew)); exact Kd.R_mono HO_5.out (fun _ hk => hk.1)⟩, ⟨by (with_reducible repeat (first | refine blk_drewN ?_ _ | refine blk_drew ?_ | refine blk_alloc ?_ _)); exact BK546.out⟩, ⟨by repeat (first | (with_reducible first | exact HB.out | apply below_alloc | apply pw_below_drewN | apply below_drew1 | refine below_set ?_ GE546.out | refine below_set ?_ GE551.out) | exact HB.out)⟩⟩
             ·replace c22 := Bool.eq_false_iff.mpr c22
              subst c22
              have H1 : (if ((rd_T52 l1 x18_2).f0) > x547000_2 then (if x5_2.length < 8796093022208 then (dom_Minus.l1 kj10 l1 (x5_2 ++ [(⟨x547000_2, wrap64 (((rd_T52 l1 x18_2).f0) - 1)⟩ : S52)]) l0 (l0.length : Int) x12_1 l1 (l1.length : Int) (wrap64 (x18_2 + 1)) (wrap64 (((rd_T52 l1 x18_2).f1) + 1)) ((rd_T52 l0 x12_1).f1)) else (none)) else (dom_Minus.l1 kj10 l1 x5_2 l0 (l0.length : Int) x12_1 l1 (l1.length : Int) (wrap64 (x18_2 + 1)) (wrap64 (((rd_T52 l1 x18_2).f1) + 1)) ((rd_T52 l0 x12_1).f1))) = some r := by rw [if_neg (show ¬ (false = true) by decide)] at H; exact H
              clear H
              have H := H1
              clear H1
              by_cases c23 : ((rd_T52 l1 x18_2).f0) > x547000_2
              ·rw [if_pos c23] at H
               have c23b0 : decide (x547000_2 < ((rd_T52 l1 x18_2).f0)) = true := decide_eq_true c23
               clear c23
               by_cases c24 : x5_2.length < 8796093022208
               ·rw [if_pos c24] at H
                have LMc24 := Aside0.mk c24
                clear c24
                obtain ⟨y552, hy552⟩ : ∃ y_ : List (S52), y_ = (x5_2 ++ [(⟨x547000_2, wrap64 (((rd_T52 l1 x18_2).f0) - 1)⟩ : S52)]) := ⟨_, rfl⟩
                replace H : (dom_Minus.l1 kj10 l1 y552 l0 (l0.length : Int) x12_1 l1 (l1.length : Int) (wrap64 (x18_2 + 1)) (wrap64 (((rd_T52 l1 x18_2).f1) + 1)) ((rd_T52 l0 x12_1).f1)) = some r := by first | (rw [hy552]; with_reducible exact H) | (have H2_ := (Option.bind_some _ _).symm.trans H; rw [hy552]; with_reducible exact H2_) | (have H2_ := (Option.bind_some _ _).symm.trans H; with_reducible exact H2_) | with_reducible exact H | (rw [hy552]; exact H) | exact H
                have Ny552 := Aside0.mk hy552
                clear hy552
                have H' := Aside0.mk H
                clear H
                have hnb25 := NB551_546.out
                have hnc25 := NB546_551.out
                have hcz26_0 : wc.cell? ⟨gb551, 0, none⟩ = some (.int .i64 ((rd_T52 l1 x18_2).f0)) := (blk_cell BK551.out 0).trans rfl
                have hcz26_1 : wc.cell? ⟨gb551, 1, none⟩ = some (.int .i64 ((rd_T52 l1 x18_2).f1)) := (blk_cell BK551.out 1).trans rfl
                have hfz26_0 := blk_frozen BK551.out 0
                have hfz26_1 := blk_frozen BK551.out 1
                have hcz27_0 : wc.cell? ⟨gb546, 0, none⟩ = some (.int .i64 x547000_2) := (blk_cell BK546.out 0).trans rfl
                have hcz27_1 : wc.cell? ⟨gb546, 1, none⟩ = some (.int .i64 ((rd_T52 l0 x12_1).f1)) := (blk_cell BK546.out 1).trans rfl
                have hfz27_0 := blk_frozen BK546.out 0
                have hfz27_1 := blk_frozen BK546.out 1
                go_wp2_with (first | ((with_reducible refine gate_builtin (b := .append) (xs := #[.tmp 39, .tmp 46]) rfl ?_); at_builtin; refine Kd.R_append k52 (w0 := w) w.heap.size rfl (.tmp 39) (.tmp 46) 22 52 (.agg #[(.int .i64 0), (.int .i64 0)]) 16 rfl Try.underlying22 info52 rfl (by decide) (by omega) u5 x5_2 (⟨x547000_2, wrap64 (((rd_T52 l1 x18_2).f0) - 1)⟩ : S52) [.int .i64 x547000_2, .int .i64 (wrap64 (((rd_T52 l1 x18_2).f0) - 1))] (fun k_ => k_ ≠ gb546 ∧ k_ ≠ gb551) (fun _ => False) rfl rfl ?aP (fun _ hk => hk.elim) ?aF ?aO ?aB ?aS ?aL ?_; (case aP => exact k52_mkM _ _ _ (⟨x547000_2, wrap64 (((rd_T52 l1 x18_2).f0) - 1)⟩ : S52)); (case aB => exact (by repeat (first | (with_reducible first | exact HB.out | apply below_alloc | apply pw_below_drewN | apply below_drew1 | refine below_set ?_ GE546.out | refine below_set ?_ GE551.out) | exact HB.out))); (case aF => exact (fun k_ hk => ⟨Kd.freshB (g := gb546) (o := .cells #[.int .i64 x547000_2, .int .i64 ((rd_T52 l0 x12_1).f1)] 52 (0, 0)) (by (with_reducible repeat (first | refine blk_drewN ?_ _ | refine blk_drew ?_ | refine blk_alloc ?_ _)); exact BK546.out) k_ hk, Kd.freshB (g := gb551) (o := .cells #[.int .i64 ((rd_T52 l1 x18_2).f0), .int .i64 ((rd_T52 l1 x18_2).f1)] 52 (0, 0)) (by (with_reducible repeat (first | refine blk_drewN ?_ _ | refine blk_drew ?_ | refine blk_alloc ?_ _)); exact BK551.out) k_ hk⟩)); (case aO => exact (by (with_reducible repeat (first | apply Kd.R_alloc | apply Kd.R_drewN | apply Kd.R_drew)); exact HO_5.out)); (case aS => exact (below_size (by repeat (first | (with_reducible first | exact HB.out | apply below_alloc | apply pw_below_drewN | apply below_drew1 | refine below_set ?_ GE546.out | refine below_set ?_ GE551.out) | exact HB.out)))); (case aL => have := LMc24.out; omega); intro v553 w28 ho hb hg hat; rw [← Ny552.out] at ho; have n0_ := Aside0.mk (blk_grown (g := gb546) (o := .cells #[.int .i64 x547000_2, .int .i64 ((rd_T52 l0 x12_1).f1)] 52 (0, 0)) (by (with_reducible repeat (first | refine blk_drewN ?_ _ | refine blk_drew ?_ | refine blk_alloc ?_ _)); exact BK546.out) hg (Kd.R_away HO_5.out (fun _ hk => hk.1))); have n1_ := Aside0.mk (blk_grown (g := gb551) (o := .cells #[.int .i64 ((rd_T52 l1 x18_2).f0), .int .i64 ((rd_T52 l1 x18_2).f1)] 52 (0, 0)) (by (with_reducible repeat (first | refine blk_drewN ?_ _ | refine blk_drew ?_ | refine blk_alloc ?_ _)); exact BK551.out) hg (Kd.R_away HO_5.out (fun _ hk => hk.2))); have n2_ := Aside0.mk (hb); have n3_ := Aside0.mk (ho); clear BK546; clear BK551; clear HB; clear HO_5; have BK546 := n0_; have BK551 := n1_; have HB := n2_; have HO554 := n3_; clear n0_ n1_ n2_ n3_; clear ho hb hg hat; have hcz29_0 : w28.cell? ⟨gb551, 0, none⟩ = some (.int .i64 ((rd_T52 l1 x18_2).f0)) := (blk_cell BK551.out 0).trans rfl; have hcz29_1 : w28.cell? ⟨gb551, 1, none⟩ = some (.int .i64 ((rd_T52 l1 x18_2).f1)) := (blk_cell BK551.out 1).trans rfl; have hfz29_0 := blk_frozen BK551.out 0; have hfz29_1 := blk_frozen BK551.out 1; have hcz30_0 : w28.cell? ⟨gb546, 0, none⟩ = some (.int .i64 x547000_2) := (blk_cell BK546.out 0).trans rfl; have hcz30_1 : w28.cell? ⟨gb546, 1, none⟩ = some (.int .i64 ((rd_T52 l0 x12_1).f1)) := (blk_cell BK546.out 1).trans rfl; have hfz30_0 := blk_frozen BK546.out 0; have hfz30_1 := blk_frozen BK546.out 1))
                go_roundg kj10
                case measure => have := HK1.out; have := HK2.out; have := HJ10.out; omega
                case rel => exact ⟨(y552), (wrap64 (x18_2 + 1)), (wrap64 (((rd_T52 l1 x18_2).f1) + 1)), (by first | rfl | (simp; done) | (simp [*]; done)), H', ⟨by have := HK1.out; have := HK2.out; have := HJ10.out; omega⟩, ⟨by (with_reducible repeat (first | apply Kd.R_alloc | apply Kd.R_drewN | apply Kd.R_drew)); exact Kd.R_mono (Kd.R_far (p := ⟨gb546, 0, none⟩) (Kd.R_mono HO554.out (fun k_ hk => (⟨hk, hk.1⟩ : _ ∧ k_ ≠ gb546))) (fun _ hk => hk.2) (.int .i64 (wrap64 (((rd_T52 l1 x18_2).f1) + 1)))) (fun _ hk => hk.1.1)⟩, ⟨by (with_reducible repeat (first | refine blk_drewN ?_ _ | refine blk_drew ?_ | refine blk_alloc ?_ _)); refine blk_put (cs := #[.int .i64 x547000_2, .int .i64 ((rd_T52 l0 x12_1).f1)]) ?_ 0 _ rfl; (with_reducible repeat (first | refine blk_drewN ?_ _ | refine blk_drew ?_ | refine blk_alloc ?_ _)); exact BK546.out⟩, ⟨by repeat (first | (with_reducible first | exact HB.out | apply below_alloc | apply pw_below_drewN | apply below_drew1 | refine below_set ?_ GE546.out | refine below_set ?_ GE551.out) | exact HB.out)⟩⟩
               ·rw [if_neg c24] at H
                exact absurd H (by simp)
              ·rw [if_neg c23] at H
               have c23b0 : decide (x547000_2 < ((rd_T52 l1 x18_2).f0)) = false := decide_eq_false c23
               clear c23
               have H' := Aside0.mk H
               clear H
               have hnb31 := NB551_546.out
               have hnc31 := NB546_551.out
               have hcz32_0 : wc.cell? ⟨gb551, 0, none⟩ = some (.int .i64 ((rd_T52 l1 x18_2).f0)) := (blk_cell BK551.out 0).trans rfl
               have hcz32_1 : wc.cell? ⟨gb551, 1, none⟩ = some (.int .i64 ((rd_T52 l1 x18_2).f1)) := (blk_cell BK551.out 1).trans rfl
               have hfz32_0 := blk_frozen BK551.out 0
               have hfz32_1 := blk_frozen BK551.out 1
               have hcz33_0 : wc.cell? ⟨gb546, 0, none⟩ = some (.int .i64 x547000_2) := (blk_cell BK546.out 0).trans rfl
               have hcz33_1 : wc.cell? ⟨gb546, 1, none⟩ = some (.int .i64 ((rd_T52 l0 x12_1).f1)) := (blk_cell BK546.out 1).trans rfl
               have hfz33_0 := blk_frozen BK546.out 0
               have hfz33_1 := blk_frozen BK546.out 1
               go_wp2
               go_roundg kj10
               case measure => have := HK1.out; have := HK2.out; have := HJ10.out; omega
               case rel => exact ⟨(x5_2), (wrap64 (x18_2 + 1)), (wrap64 (((rd_T52 l1 x18_2).f1) + 1)), (by first | rfl | (simp; done) | (simp [*]; done)), H', ⟨by have := HK1.out; have := HK2.out; have := HJ10.out; omega⟩, ⟨by (with_reducible repeat (first | apply Kd.R_alloc | apply Kd.R_drewN | apply Kd.R_drew)); exact Kd.R_mono (Kd.R_far (p := ⟨gb546, 0, none⟩) (Kd.R_mono HO_5.out (fun k_ hk => (⟨hk, hk.1⟩ : _ ∧ k_ ≠ gb546))) (fun _ hk => hk.2) (.int .i64 (wrap64 (((rd_T52 l1 x18_2).f1) + 1)))) (fun _ hk => hk.1.1)⟩, ⟨by (with_reducible repeat (first | refine blk_drewN ?_ _ | refine blk_drew ?_ | refine blk_alloc ?_ _)); refine blk_put (cs := #[.int .i64 x547000_2, .int .i64 ((rd_T52 l0 x12_1).f1)]) ?_ 0 _ rfl; (with_reducible repeat (first | refine blk_drewN ?_ _ | refine blk_drew ?_ | refine blk_alloc ?_ _)); exact BK546.out⟩, ⟨by repeat (first | (with_reducible first | exact HB.out | apply below_alloc | apply pw_below_drewN | apply below_drew1 | refine below_set ?_ GE546.out | refine below_set ?_ GE551.out) | exact HB.out)⟩⟩
          ·rw [if_neg c10] at H
           exact absurd H (by simp)
         ·rw [if_neg c9] at H
          exact absurd H (by simp)
        ·rw [if_neg c8] at H
         have c8b0 : decide (x18_2 < (l1.length : Int)) = false := decide_eq_false c8
         clear c8
         by_cases c34 : x547000_2 ≤ ((rd_T52 l0 x12_1).f1)
         ·rw [if_pos c34] at H
          have c34b0 : decide (x547000_2 ≤ ((rd_T52 l0 x12_1).f1)) = true := decide_eq_true c34
          clear c34
          by_cases c35 : x5_2.length < 8796093022208
          ·rw [if_pos c35] at H
           have LMc35 := Aside0.mk c35
           clear c35
           obtain ⟨y547, hy547⟩ : ∃ y_ : List (S52), y_ = (x5_2 ++ [(⟨x547000_2, ((rd_T52 l0 x12_1).f1)⟩ : S52)]) := ⟨_, rfl⟩
           replace H : (dom_Minus.l0 k2 l1 y547 l0 (l0.length : Int) (wrap64 (x12_1 + 1))) = some r := by first | (rw [hy547]; with_reducible exact H) | (have H2_ := (Option.bind_some _ _).symm.trans H; rw [hy547]; with_reducible exact H2_) | (have H2_ := (Option.bind_some _ _).symm.trans H; with_reducible exact H2_) | with_reducible exact H | (rw [hy547]; exact H) | exact H
           have Ny547 := Aside0.mk hy547
           clear hy547
           have H' := Aside0.mk H
           clear H
           have hcz36_0 : wr.cell? ⟨gb546, 0, none⟩ = some (.int .i64 x547000_2) := (blk_cell BK546.out 0).trans rfl
           have hcz36_1 : wr.cell? ⟨gb546, 1, none⟩ = some (.int .i64 ((rd_T52 l0 x12_1).f1)) := (blk_cell BK546.out 1).trans rfl
           have hfz36_0 := blk_frozen BK546.out 0
           have hfz36_1 := blk_frozen BK546.out 1
           go_wp2_with (first | ((with_reducible refine gate_builtin (b := .append) (xs := #[.tmp 58, .tmp 60]) rfl ?_); at_builtin; refine Kd.R_append k52 (w0 := w) w.heap.size rfl (.tmp 58) (.tmp 60) 22 52 (.agg #[(.int .i64 0), (.int .i64 0)]) 16 rfl Try.underlying22 info52 rfl (by decide) (by omega) u5 x5_2 (⟨x547000_2, ((rd_T52 l0 x12_1).f1)⟩ : S52) [.int .i64 x547000_2, .int .i64 ((rd_T52 l0 x12_1).f1)] (fun k_ => k_ ≠ gb546) (fun _ => False) rfl rfl ?aP (fun _ hk => hk.elim) ?aF ?aO ?aB ?aS ?aL ?_; (case aP => exact k52_mkM _ _ _ (⟨x547000_2, ((rd_T52 l0 x12_1).f1)⟩ : S52)); (case aB => exact (by repeat (first | (with_reducible first | exact HB.out | apply below_alloc | apply pw_below_drewN | apply below_drew1 | refine below_set ?_ GE546.out) | exact HB.out))); (case aF => exact (fun k_ hk => Kd.freshB (g := gb546) (o := .cells #[.int .i64 x547000_2, .int .i64 ((rd_T52 l0 x12_1).f1)] 52 (0, 0)) (by (with_reducible repeat (first | refine blk_drewN ?_ _ | refine blk_drew ?_ | refine blk_alloc ?_ _)); exact BK546.out) k_ hk)); (case aO => exact (by (with_reducible repeat (first | apply Kd.R_alloc | apply Kd.R_drewN | apply Kd.R_drew)); exact HO_5.out)); (case aS => exact (below_size (by repeat (first | (with_reducible first | exact HB.out | apply below_alloc | apply pw_below_drewN | apply below_drew1 | refine below_set ?_ GE546.out) | exact HB.out)))); (case aL => have := LMc35.out; omega); intro v548 w37 ho hb hg hat; rw [← Ny547.out] at ho; have n0_ := Aside0.mk (blk_grown (g := gb546) (o := .cells #[.int .i64 x547000_2, .int .i64 ((rd_T52 l0 x12_1).f1)] 52 (0, 0)) (by (with_reducible repeat (first | refine blk_drewN ?_ _ | refine blk_drew ?_ | refine blk_alloc ?_ _)); exact BK546.out) hg (Kd.R_away HO_5.out (fun _ hk => hk))); have n1_ := Aside0.mk (hb); have n2_ := Aside0.mk (ho); clear BK546; clear HB; clear HO_5; have BK546 := n0_; have HB := n1_; have HO549 := n2_; clear n0_ n1_ n2_; clear ho hb hg hat))
           go_roundg k2
           case measure => have := HK1.out; have := HK2.out; omega
           case rel => exact ⟨(y547), (wrap64 (x12_1 + 1)), (by first | rfl | (simp; done) | (simp [*]; done)), H', ⟨by have := HK1.out; have := HK2.out; omega⟩, ⟨by (with_reducible repeat (first | apply Kd.R_alloc | apply Kd.R_drewN | apply Kd.R_drew)); exact Kd.R_mono HO549.out (fun _ hk => trivial)⟩, ⟨by repeat (first | (with_reducible first | exact HB.out | apply below_alloc | apply pw_below_drewN | apply below_drew1 | refine below_set ?_ GE546.out) | exact HB.out)⟩⟩
          ·rw [if_neg c35] at H
           exact absurd H (by simp)
         ·rw [if_neg c34] at H
          have c34b0 : decide (x547000_2 ≤ ((rd_T52 l0 x12_1).f1)) = false := decide_eq_false c34
          clear c34
          have H' := Aside0.mk H
          clear H
          have hcz38_0 : wr.cell? ⟨gb546, 0, none⟩ = some (.int .i64 x547000_2) := (blk_cell BK546.out 0).trans rfl
          have hcz38_1 : wr.cell? ⟨gb546, 1, none⟩ = some (.int .i64 ((rd_T52 l0 x12_1).f1)) := (blk_cell BK546.out 1).trans rfl
          have hfz38_0 := blk_frozen BK546.out 0
          have hfz38_1 := blk_frozen BK546.out 1
          go_wp2
          go_roundg k2
          case measure => have := HK1.out; have := HK2.out; omega
          case rel => exact ⟨(x5_2), (wrap64 (x12_1 + 1)), (by first | rfl | (simp; done) | (simp [*]; done)), H', ⟨by have := HK1.out; have := HK2.out; omega⟩, ⟨by (with_reducible repeat (first | apply Kd.R_alloc | apply Kd.R_drewN | apply Kd.R_drew)); exact Kd.R_mono HO_5.out (fun _ hk => trivial)⟩, ⟨by repeat (first | (with_reducible first | exact HB.out | apply below_alloc | apply pw_below_drewN | apply below_drew1 | refine below_set ?_ GE546.out) | exact HB.out)⟩⟩
     ·rw [if_neg c5] at H
      exact absurd H (by simp)
    ·rw [if_neg c4] at H
     exact absurd H (by simp)
   ·rw [if_neg c3] at H
    have c3b0 : decide (x12_1 < (l0.length : Int)) = false := decide_eq_false c3
    clear c3
    obtain rfl := Option.some.inj H
    go_wp2
    go_ret
    exact ⟨_, by first | rfl | (simp [errW_none, errW_some] <;> rfl) | (simp [*, errW_none, errW_some] <;> rfl), by (with_reducible repeat (first | apply Kd.R_alloc | apply Kd.R_drewN | apply Kd.R_drew)); exact HO_5.out, by repeat (first | (with_reducible first | exact HB.out | apply below_alloc | apply pw_below_drewN | apply below_drew1) | exact HB.out)⟩

end Go.Proofs.Ytklanjkndoikeaa.P

-- Written by wip/tools/px.py out of the translation. Lean checks it.
namespace Go.Proofs.Ytklanjkndoikeaa.P
open Go.RowKit Go.Proofs.YtklanjkndoikeaaW.PrintWords Go.Proofs.YtklanjkndoikeaaW.PrintLast Go.Proofs.YtklanjkndoikeaaW.PrintMore
attribute [local go_sem] max2_int min2_int max_two min_two max_three min_three max_four min_four   -- for this text's walks alone
set_option linter.unusedVariables false
set_option linter.unusedSimpArgs false

/-! ### secateurlaw02_DomOrders: function 11 -/
def secateurlaw02_DomOrders.f (k : Nat) (l0 : List Int) (l1 : List Int) (a2 : Int) : Option (Bool) := (secateurlaw02_Small.f k l0).bind fun t703 => ((secateurlaw02_Small.f k l1).bind fun t706 => ((dom_Cut.f k t703 (-1000) (Int.tmod a2 300)).bind fun t709 => ((dom_Cut.f k t703 (wrap64 ((Int.tmod a2 300) + 1)) 1000).bind fun t712 => ((dom_Meet.f k t703 t706).bind fun t715 => ((dom_Meet.f k t706 t703).bind fun t718 => ((dom_Same.f k t715 t718).bind fun t721 => (if t721 = true then ((dom_Join.f k t703 t706).bind fun t722 => ((dom_Join.f k t706 t703).bind fun t725 => ((dom_Same.f k t722 t725).bind fun t728 => (if t728 = true then ((dom_Join.f k t709 t712).bind fun t729 => ((dom_Same.f k t729 t703).bind fun t732 => (if t732 = true then ((dom_Size.f k t709).bind fun t733 => ((dom_Size.f k t712).bind fun t734 => ((dom_Size.f k t703).bind fun t735 => (if (wrap64 (t733 + t734)) = t735 then ((dom_Minus.f k t703 t703).bind fun t736 => ((dom_Same.f k t736 ([] : List (S52))).bind fun t739 => (if t739 = true then ((dom_Meet.f k t703 t703).bind fun t740 => ((dom_Same.f k t740 t703).bind fun t743 => (if t743 = true then ((secateurlaw02_fixed.f k).bind fun t744 => (some t744)) else (none)))) else (none)))) else (none))))) else (none)))) else (none))))) else (none))))))))
theorem secateurlaw02_DomOrders.mono : ∀ a0 a1 a2 k, LeO (secateurlaw02_DomOrders.f k a0 a1 a2) (secateurlaw02_DomOrders.f (k + 1) a0 a1 a2) := by
 intro a0 a1 a2 k
 unfold secateurlaw02_DomOrders.f
 repeat' first
   | (with_reducible exact dom_Cut.mono _ _ _ _)
   | (with_reducible exact dom_Join.mono _ _ _)
   | (with_reducible exact dom_Meet.mono _ _ _)
   | (with_reducible exact dom_Minus.mono _ _ _)
   | (with_reducible exact dom_Same.mono _ _ _)
   | (with_reducible exact dom_Size.mono _ _)
   | (with_reducible exact secateurlaw02_Small.mono _ _)
   | (with_reducible exact secateurlaw02_fixed.mono _)
   | (with_reducible exact LeO.refl _)
   | (with_reducible exact LeO.none _)
   | (with_reducible refine LeO.ite ?_ ?_)
   | (with_reducible refine LeO.bind ?_ (fun _ => ?_))
   | exact dom_Cut.mono _ _ _ _
   | exact dom_Join.mono _ _ _
   | exact dom_Meet.mono _ _ _
   | exact dom_Minus.mono _ _ _
   | exact dom_Same.mono _ _ _
   | exact dom_Size.mono _ _
   | exact secateurlaw02_Small.mono _ _
   | exact secateurlaw02_fixed.mono _
   | exact LeO.none _
   | refine LeO.ite ?_ ?_
   | refine LeO.bind ?_ (fun _ => ?_)
set_option maxHeartbeats 8000000 in
set_option maxRecDepth 100000 in
theorem secateurlaw02_DomOrders.calls (k : Nat) (A0 : Option Addr) (c0 : Nat) (l0 : List Int) (A1 : Option Addr) (c1 : Nat) (l1 : List Int) (a2 : Int) (r : Bool) (w : World) (hr0 : Kd.C (Kd.int .i64) w A0 l0.length l0) (hc0 : l0.length ≤ c0) (hr1 : Kd.C (Kd.int .i64) w A1 l1.length l1) (hc1 : l1.length ≤ c1) (h : secateurlaw02_DomOrders.f k l0 l1 a2 = some r) :
  Calls Try.prog 11 #[.slice A0 l0.length c0, .slice A1 l1.length c1, .int .i64 a2] w fun e w' => e = .returned (.bool r) ∧ Below w.heap.size w w' := by
 have HR0 := Aside0.mk hr0
 have HC0 := Aside0.mk hc0
 clear hr0 hc0
 have HR1 := Aside0.mk hr1
 have HC1 := Aside0.mk hc1
 clear hr1 hc1
 have HB := Aside0.mk (Below.refl w.heap.size w)
 have H : ((secateurlaw02_Small.f k l0).bind fun t703 => ((secateurlaw02_Small.f k l1).bind fun t706 => ((dom_Cut.f k t703 (-1000) (Int.tmod a2 300)).bind fun t709 => ((dom_Cut.f k t703 (wrap64 ((Int.tmod a2 300) + 1)) 1000).bind fun t712 => ((dom_Meet.f k t703 t706).bind fun t715 => ((dom_Meet.f k t706 t703).bind fun t718 => ((dom_Same.f k t715 t718).bind fun t721 => (if t721 = true then ((dom_Join.f k t703 t706).bind fun t722 => ((dom_Join.f k t706 t703).bind fun t725 => ((dom_Same.f k t722 t725).bind fun t728 => (if t728 = true then ((dom_Join.f k t709 t712).bind fun t729 => ((dom_Same.f k t729 t703).bind fun t732 => (if t732 = true then ((dom_Size.f k t709).bind fun t733 => ((dom_Size.f k t712).bind fun t734 => ((dom_Size.f k t703).bind fun t735 => (if (wrap64 (t733 + t734)) = t735 then ((dom_Minus.f k t703 t703).bind fun t736 => ((dom_Same.f k t736 ([] : List (S52))).bind fun t739 => (if t739 = true then ((dom_Meet.f k t703 t703).bind fun t740 => ((dom_Same.f k t740 t703).bind fun t743 => (if t743 = true then ((secateurlaw02_fixed.f k).bind fun t744 => (some t744)) else (none)))) else (none)))) else (none))))) else (none)))) else (none))))) else (none))))))))) = some r := h
 clear h
 replace H := Option.bind_eq_some_iff.mp H
 obtain ⟨t703, A40, H⟩ := H
 replace H : ((secateurlaw02_Small.f k l1).bind fun t706 => ((dom_Cut.f k t703 (-1000) (Int.tmod a2 300)).bind fun t709 => ((dom_Cut.f k t703 (wrap64 ((Int.tmod a2 300) + 1)) 1000).bind fun t712 => ((dom_Meet.f k t703 t706).bind fun t715 => ((dom_Meet.f k t706 t703).bind fun t718 => ((dom_Same.f k t715 t718).bind fun t721 => (if t721 = true then ((dom_Join.f k t703 t706).bind fun t722 => ((dom_Join.f k t706 t703).bind fun t725 => ((dom_Same.f k t722 t725).bind fun t728 => (if t728 = true then ((dom_Join.f k t709 t712).bind fun t729 => ((dom_Same.f k t729 t703).bind fun t732 => (if t732 = true then ((dom_Size.f k t709).bind fun t733 => ((dom_Size.f k t712).bind fun t734 => ((dom_Size.f k t703).bind fun t735 => (if (wrap64 (t733 + t734)) = t735 then ((dom_Minus.f k t703 t703).bind fun t736 => ((dom_Same.f k t736 ([] : List (S52))).bind fun t739 => (if t739 = true then ((dom_Meet.f k t703 t703).bind fun t740 => ((dom_Same.f k t740 t703).bind fun t743 => (if t743 = true then ((secateurlaw02_fixed.f k).bind fun t744 => (some t744)) else (none)))) else (none)))) else (none))))) else (none)))) else (none))))) else (none)))))))) = some r := H
 have A4 := Aside0.mk A40
 clear A40
 replace H := Option.bind_eq_some_iff.mp H
 obtain ⟨t706, A50, H⟩ := H
 replace H : ((dom_Cut.f k t703 (-1000) (Int.tmod a2 300)).bind fun t709 => ((dom_Cut.f k t703 (wrap64 ((Int.tmod a2 300) + 1)) 1000).bind fun t712 => ((dom_Meet.f k t703 t706).bind fun t715 => ((dom_Meet.f k t706 t703).bind fun t718 => ((dom_Same.f k t715 t718).bind fun t721 => (if t721 = true then ((dom_Join.f k t703 t706).bind fun t722 => ((dom_Join.f k t706 t703).bind fun t725 => ((dom_Same.f k t722 t725).bind fun t728 => (if t728 = true then ((dom_Join.f k t709 t712).bind fun t729 => ((dom_Same.f k t729 t703).bind fun t732 => (if t732 = true then ((dom_Size.f k t709).bind fun t733 => ((dom_Size.f k t712).bind fun t734 => ((dom_Size.f k t703).bind fun t735 => (if (wrap64 (t733 + t734)) = t735 then ((dom_Minus.f k t703 t703).bind fun t736 => ((dom_Same.f k t736 ([] : List (S52))).bind fun t739 => (if t739 = true then ((dom_Meet.f k t703 t703).bind fun t740 => ((dom_Same.f k t740 t703).bind fun t743 => (if t743 = true then ((secateurlaw02_fixed.f k).bind fun t744 => (some t744)) else (none)))) else (none)))) else (none))))) else (none)))) else (none))))) else (none))))))) = some r := H
 have A5 := Aside0.mk A50
 clear A50
 replace H := Option.bind_eq_some_iff.mp H
 obtain ⟨t709, A60, H⟩ := H
 replace H : ((dom_Cut.f k t703 (wrap64 ((Int.tmod a2 300) + 1)) 1000).bind fun t712 => ((dom_Meet.f k t703 t706).bind fun t715 => ((dom_Meet.f k t706 t703).bind fun t718 => ((dom_Same.f k t715 t718).bind fun t721 => (if t721 = true then ((dom_Join.f k t703 t706).bind fun t722 => ((dom_Join.f k t706 t703).bind fun t725 => ((dom_Same.f k t722 t725).bind fun t728 => (if t728 = true then ((dom_Join.f k t709 t712).bind fun t729 => ((dom_Same.f k t729 t703).bind fun t732 => (if t732 = true then ((dom_Size.f k t709).bind fun t733 => ((dom_Size.f k t712).bind fun t734 => ((dom_Size.f k t703).bind fun t735 => (if (wrap64 (t733 + t734)) = t735 then ((dom_Minus.f k t703 t703).bind fun t736 => ((dom_Same.f k t736 ([] : List (S52))).bind fun t739 => (if t739 = true then ((dom_Meet.f k t703 t703).bind fun t740 => ((dom_Same.f k t740 t703).bind fun t743 => (if t743 = true then ((secateurlaw02_fixed.f k).bind fun t744 => (some t744)) else (none)))) else (none)))) else (none))))) else (none)))) else (none))))) else (none)))))) = some r := H
 have A6 := Aside0.mk A60
 clear A60
 replace H := Option.bind_eq_some_iff.mp H
 obtain ⟨t712, A70, H⟩ := H
 replace H : ((dom_Meet.f k t703 t706).bind fun t715 => ((dom_Meet.f k t706 t703).bind fun t718 => ((dom_Same.f k t715 t718).bind fun t721 => (if t721 = true then ((dom_Join.f k t703 t706).bind fun t722 => ((dom_Join.f k t706 t703).bind fun t725 => ((dom_Same.f k t722 t725).bind fun t728 => (if t728 = true then ((dom_Join.f k t709 t712).bind fun t729 => ((dom_Same.f k t729 t703).bind fun t732 => (if t732 = true then ((dom_Size.f k t709).bind fun t733 => ((dom_Size.f k t712).bind fun t734 => ((dom_Size.f k t703).bind fun t735 => (if (wrap64 (t733 + t734)) = t735 then ((dom_Minus.f k t703 t703).bind fun t736 => ((dom_Same.f k t736 ([] : List (S52))).bind fun t739 => (if t739 = true then ((dom_Meet.f k t703 t703).bind fun t740 => ((dom_Same.f k t740 t703).bind fun t743 => (if t743 = true then ((secateurlaw02_fixed.f k).bind fun t744 => (some t744)) else (none)))) else (none)))) else (none))))) else (none)))) else (none))))) else (none))))) = some r := H
 have A7 := Aside0.mk A70
 clear A70
 replace H := Option.bind_eq_some_iff.mp H
 obtain ⟨t715, A80, H⟩ := H
 replace H : ((dom_Meet.f k t706 t703).bind fun t718 => ((dom_Same.f k t715 t718).bind fun t721 => (if t721 = true then ((dom_Join.f k t703 t706).bind fun t722 => ((dom_Join.f k t706 t703).bind fun t725 => ((dom_Same.f k t722 t725).bind fun t728 => (if t728 = true then ((dom_Join.f k t709 t712).bind fun t729 => ((dom_Same.f k t729 t703).bind fun t732 => (if t732 = true then ((dom_Size.f k t709).bind fun t733 => ((dom_Size.f k t712).bind fun t734 => ((dom_Size.f k t703).bind fun t735 => (if (wrap64 (t733 + t734)) = t735 then ((dom_Minus.f k t703 t703).bind fun t736 => ((dom_Same.f k t736 ([] : List (S52))).bind fun t739 => (if t739 = true then ((dom_Meet.f k t703 t703).bind fun t740 => ((dom_Same.f k t740 t703).bind fun t743 => (if t743 = true then ((secateurlaw02_fixed.f k).bind fun t744 => (some t744)) else (none)))) else (none)))) else (none))))) else (none)))) else (none))))) else (none)))) = some r := H
 have A8 := Aside0.mk A80
 clear A80
 replace H := Option.bind_eq_some_iff.mp H
 obtain ⟨t718, A90, H⟩ := H
 replace H : ((dom_Same.f k t715 t718).bind fun t721 => (if t721 = true then ((dom_Join.f k t703 t706).bind fun t722 => ((dom_Join.f k t706 t703).bind fun t725 => ((dom_Same.f k t722 t725).bind fun t728 => (if t728 = true then ((dom_Join.f k t709 t712).bind fun t729 => ((dom_Same.f k t729 t703).bind fun t732 => (if t732 = true then ((dom_Size.f k t709).bind fun t733 => ((dom_Size.f k t712).bind fun t734 => ((dom_Size.f k t703).bind fun t735 => (if (wrap64 (t733 + t734)) = t735 then ((dom_Minus.f k t703 t703).bind fun t736 => ((dom_Same.f k t736 ([] : List (S52))).bind fun t739 => (if t739 = true then ((dom_Meet.f k t703 t703).bind fun t740 => ((dom_Same.f k t740 t703).bind fun t743 => (if t743 = true then ((secateurlaw02_fixed.f k).bind fun t744 => (some t744)) else (none)))) else (none)))) else (none))))) else (none)))) else (none))))) else (none))) = some r := H
 have A9 := Aside0.mk A90
 clear A90
 replace H := Option.bind_eq_some_iff.mp H
 obtain ⟨t721, A100, H⟩ := H
 replace H : (if t721 = true then ((dom_Join.f k t703 t706).bind fun t722 => ((dom_Join.f k t706 t703).bind fun t725 => ((dom_Same.f k t722 t725).bind fun t728 => (if t728 = true then ((dom_Join.f k t709 t712).bind fun t729 => ((dom_Same.f k t729 t703).bind fun t732 => (if t732 = true then ((dom_Size.f k t709).bind fun t733 => ((dom_Size.f k t712).bind fun t734 => ((dom_Size.f k t703).bind fun t735 => (if (wrap64 (t733 + t734)) = t735 then ((dom_Minus.f k t703 t703).bind fun t736 => ((dom_Same.f k t736 ([] : List (S52))).bind fun t739 => (if t739 = true then ((dom_Meet.f k t703 t703).bind fun t740 => ((dom_Same.f k t740 t703).bind fun t743 => (if t743 = true then ((secateurlaw02_fixed.f k).bind fun t744 => (some t744)) else (none)))) else (none)))) else (none))))) else (none)))) else (none))))) else (none)) = some r := H
 have A10 := Aside0.mk A100
 clear A100
 by_cases c11 : t721 = true
 ·subst c11
  have H1 : ((dom_Join.f k t703 t706).bind fun t722 => ((dom_Join.f k t706 t703).bind fun t725 => ((dom_Same.f k t722 t725).bind fun t728 => (if t728 = true then ((dom_Join.f k t709 t712).bind fun t729 => ((dom_Same.f k t729 t703).bind fun t732 => (if t732 = true then ((dom_Size.f k t709).bind fun t733 => ((dom_Size.f k t712).bind fun t734 => ((dom_Size.f k t703).bind fun t735 => (if (wrap64 (t733 + t734)) = t735 then ((dom_Minus.f k t703 t703).bind fun t736 => ((dom_Same.f k t736 ([] : List (S52))).bind fun t739 => (if t739 = true then ((dom_Meet.f k t703 t703).bind fun t740 => ((dom_Same.f k t740 t703).bind fun t743 => (if t743 = true then ((secateurlaw02_fixed.f k).bind fun t744 => (some t744)) else (none)))) else (none)))) else (none))))) else (none)))) else (none))))) = some r := by rw [if_pos rfl] at H; exact H
  clear H
  have H := H1
  clear H1
  replace H := Option.bind_eq_some_iff.mp H
  obtain ⟨t722, A120, H⟩ := H
  replace H : ((dom_Join.f k t706 t703).bind fun t725 => ((dom_Same.f k t722 t725).bind fun t728 => (if t728 = true then ((dom_Join.f k t709 t712).bind fun t729 => ((dom_Same.f k t729 t703).bind fun t732 => (if t732 = true then ((dom_Size.f k t709).bind fun t733 => ((dom_Size.f k t712).bind fun t734 => ((dom_Size.f k t703).bind fun t735 => (if (wrap64 (t733 + t734)) = t735 then ((dom_Minus.f k t703 t703).bind fun t736 => ((dom_Same.f k t736 ([] : List (S52))).bind fun t739 => (if t739 = true then ((dom_Meet.f k t703 t703).bind fun t740 => ((dom_Same.f k t740 t703).bind fun t743 => (if t743 = true then ((secateurlaw02_fixed.f k).bind fun t744 => (some t744)) else (none)))) else (none)))) else (none))))) else (none)))) else (none)))) = some r := H
  have A12 := Aside0.mk A120
  clear A120
  replace H := Option.bind_eq_some_iff.mp H
  obtain ⟨t725, A130, H⟩ := H
  replace H : ((dom_Same.f k t722 t725).bind fun t728 => (if t728 = true then ((dom_Join.f k t709 t712).bind fun t729 => ((dom_Same.f k t729 t703).bind fun t732 => (if t732 = true then ((dom_Size.f k t709).bind fun t733 => ((dom_Size.f k t712).bind fun t734 => ((dom_Size.f k t703).bind fun t735 => (if (wrap64 (t733 + t734)) = t735 then ((dom_Minus.f k t703 t703).bind fun t736 => ((dom_Same.f k t736 ([] : List (S52))).bind fun t739 => (if t739 = true then ((dom_Meet.f k t703 t703).bind fun t740 => ((dom_Same.f k t740 t703).bind fun t743 => (if t743 = true then ((secateurlaw02_fixed.f k).bind fun t744 => (some t744)) else (none)))) else (none)))) else (none))))) else (none)))) else (none))) = some r := H
  have A13 := Aside0.mk A130
  clear A130
  replace H := Option.bind_eq_some_iff.mp H
  obtain ⟨t728, A140, H⟩ := H
  replace H : (if t728 = true then ((dom_Join.f k t709 t712).bind fun t729 => ((dom_Same.f k t729 t703).bind fun t732 => (if t732 = true then ((dom_Size.f k t709).bind fun t733 => ((dom_Size.f k t712).bind fun t734 => ((dom_Size.f k t703).bind fun t735 => (if (wrap64 (t733 + t734)) = t735 then ((dom_Minus.f k t703 t703).bind fun t736 => ((dom_Same.f k t736 ([] : List (S52))).bind fun t739 => (if t739 = true then ((dom_Meet.f k t703 t703).bind fun t740 => ((dom_Same.f k t740 t703).bind fun t743 => (if t743 = true then ((secateurlaw02_fixed.f k).bind fun t744 => (some t744)) else (none)))) else (none)))) else (none))))) else (none)))) else (none)) = some r := H
  have A14 := Aside0.mk A140
  clear A140
  by_cases c15 : t728 = true
  ·subst c15
   have H1 : ((dom_Join.f k t709 t712).bind fun t729 => ((dom_Same.f k t729 t703).bind fun t732 => (if t732 = true then ((dom_Size.f k t709).bind fun t733 => ((dom_Size.f k t712).bind fun t734 => ((dom_Size.f k t703).bind fun t735 => (if (wrap64 (t733 + t734)) = t735 then ((dom_Minus.f k t703 t703).bind fun t736 => ((dom_Same.f k t736 ([] : List (S52))).bind fun t739 => (if t739 = true then ((dom_Meet.f k t703 t703).bind fun t740 => ((dom_Same.f k t740 t703).bind fun t743 => (if t743 = true then ((secateurlaw02_fixed.f k).bind fun t744 => (some t744)) else (none)))) else (none)))) else (none))))) else (none)))) = some r := by rw [if_pos rfl] at H; exact H
   clear H
   have H := H1
   clear H1
   replace H := Option.bind_eq_some_iff.mp H
   obtain ⟨t729, A160, H⟩ := H
   replace H : ((dom_Same.f k t729 t703).bind fun t732 => (if t732 = true then ((dom_Size.f k t709).bind fun t733 => ((dom_Size.f k t712).bind fun t734 => ((dom_Size.f k t703).bind fun t735 => (if (wrap64 (t733 + t734)) = t735 then ((dom_Minus.f k t703 t703).bind fun t736 => ((dom_Same.f k t736 ([] : List (S52))).bind fun t739 => (if t739 = true then ((dom_Meet.f k t703 t703).bind fun t740 => ((dom_Same.f k t740 t703).bind fun t743 => (if t743 = true then ((secateurlaw02_fixed.f k).bind fun t744 => (some t744)) else (none)))) else (none)))) else (none))))) else (none))) = some r := H
   have A16 := Aside0.mk A160
   clear A160
   replace H := Option.bind_eq_some_iff.mp H
   obtain ⟨t732, A170, H⟩ := H
   replace H : (if t732 = true then ((dom_Size.f k t709).bind fun t733 => ((dom_Size.f k t712).bind fun t734 => ((dom_Size.f k t703).bind fun t735 => (if (wrap64 (t733 + t734)) = t735 then ((dom_Minus.f k t703 t703).bind fun t736 => ((dom_Same.f k t736 ([] : List (S52))).bind fun t739 => (if t739 = true then ((dom_Meet.f k t703 t703).bind fun t740 => ((dom_Same.f k t740 t703).bind fun t743 => (if t743 = true then ((secateurlaw02_fixed.f k).bind fun t744 => (some t744)) else (none)))) else (none)))) else (none))))) else (none)) = some r := H
   have A17 := Aside0.mk A170
   clear A170
   by_cases c18 : t732 = true
   ·subst c18
    have H1 : ((dom_Size.f k t709).bind fun t733 => ((dom_Size.f k t712).bind fun t734 => ((dom_Size.f k t703).bind fun t735 => (if (wrap64 (t733 + t734)) = t735 then ((dom_Minus.f k t703 t703).bind fun t736 => ((dom_Same.f k t736 ([] : List (S52))).bind fun t739 => (if t739 = true then ((dom_Meet.f k t703 t703).bind fun t740 => ((dom_Same.f k t740 t703).bind fun t743 => (if t743 = true then ((secateurlaw02_fixed.f k).bind fun t744 => (some t744)) else (none)))) else (none)))) else (none))))) = some r := by rw [if_pos rfl] at H; exact H
    clear H
    have H := H1
    clear H1
    replace H := Option.bind_eq_some_iff.mp H
    obtain ⟨t733, A190, H⟩ := H
    replace H : ((dom_Size.f k t712).bind fun t734 => ((dom_Size.f k t703).bind fun t735 => (if (wrap64 (t733 + t734)) = t735 then ((dom_Minus.f k t703 t703).bind fun t736 => ((dom_Same.f k t736 ([] : List (S52))).bind fun t739 => (if t739 = true then ((dom_Meet.f k t703 t703).bind fun t740 => ((dom_Same.f k t740 t703).bind fun t743 => (if t743 = true then ((secateurlaw02_fixed.f k).bind fun t744 => (some t744)) else (none)))) else (none)))) else (none)))) = some r := H
    have A19 := Aside0.mk A190
    clear A190
    replace H := Option.bind_eq_some_iff.mp H
    obtain ⟨t734, A200, H⟩ := H
    replace H : ((dom_Size.f k t703).bind fun t735 => (if (wrap64 (t733 + t734)) = t735 then ((dom_Minus.f k t703 t703).bind fun t736 => ((dom_Same.f k t736 ([] : List (S52))).bind fun t739 => (if t739 = true then ((dom_Meet.f k t703 t703).bind fun t740 => ((dom_Same.f k t740 t703).bind fun t743 => (if t743 = true then ((secateurlaw02_fixed.f k).bind fun t744 => (some t744)) else (none)))) else (none)))) else (none))) = some r := H
    have A20 := Aside0.mk A200
    clear A200
    replace H := Option.bind_eq_some_iff.mp H
    obtain ⟨t735, A210, H⟩ := H
    replace H : (if (wrap64 (t733 + t734)) = t735 then ((dom_Minus.f k t703 t703).bind fun t736 => ((dom_Same.f k t736 ([] : List (S52))).bind fun t739 => (if t739 = true then ((dom_Meet.f k t703 t703).bind fun t740 => ((dom_Same.f k t740 t703).bind fun t743 => (if t743 = true then ((secateurlaw02_fixed.f k).bind fun t744 => (some t744)) else (none)))) else (none)))) else (none)) = some r := H
    have A21 := Aside0.mk A210
    clear A210
    by_cases c22 : (wrap64 (t733 + t734)) = t735
    ·rw [if_pos c22] at H
     have c22b0 : ((wrap64 (t733 + t734)) == t735) = true := beq_iff_eq.mpr c22
     have c22b1 : ((wrap64 (t733 + t734)) != t735) = false := bne_eq_false_iff_eq.mpr c22
     clear c22
     replace H := Option.bind_eq_some_iff.mp H
     obtain ⟨t736, A230, H⟩ := H
     replace H : ((dom_Same.f k t736 ([] : List (S52))).bind fun t739 => (if t739 = true then ((dom_Meet.f k t703 t703).bind fun t740 => ((dom_Same.f k t740 t703).bind fun t743 => (if t743 = true then ((secateurlaw02_fixed.f k).bind fun t744 => (some t744)) else (none)))) else (none))) = some r := H
     have A23 := Aside0.mk A230
     clear A230
     replace H := Option.bind_eq_some_iff.mp H
     obtain ⟨t739, A240, H⟩ := H
     replace H : (if t739 = true then ((dom_Meet.f k t703 t703).bind fun t740 => ((dom_Same.f k t740 t703).bind fun t743 => (if t743 = true then ((secateurlaw02_fixed.f k).bind fun t744 => (some t744)) else (none)))) else (none)) = some r := H
     have A24 := Aside0.mk A240
     clear A240
     by_cases c25 : t739 = true
     ·subst c25
      have H1 : ((dom_Meet.f k t703 t703).bind fun t740 => ((dom_Same.f k t740 t703).bind fun t743 => (if t743 = true then ((secateurlaw02_fixed.f k).bind fun t744 => (some t744)) else (none)))) = some r := by rw [if_pos rfl] at H; exact H
      clear H
      have H := H1
      clear H1
      replace H := Option.bind_eq_some_iff.mp H
      obtain ⟨t740, A260, H⟩ := H
      replace H : ((dom_Same.f k t740 t703).bind fun t743 => (if t743 = true then ((secateurlaw02_fixed.f k).bind fun t744 => (some t744)) else (none))) = some r := H
      have A26 := Aside0.mk A260
      clear A260
      replace H := Option.bind_eq_some_iff.mp H
      obtain ⟨t743, A270, H⟩ := H
      replace H : (if t743 = true then ((secateurlaw02_fixed.f k).bind fun t744 => (some t744)) else (none)) = some r := H
      have A27 := Aside0.mk A270
      clear A270
      by_cases c28 : t743 = true
      ·subst c28
       have H1 : ((secateurlaw02_fixed.f k).bind fun t744 => (some t744)) = some r := by rw [if_pos rfl] at H; exact H
       clear H
       have H := H1
       clear H1
       replace H := Option.bind_eq_some_iff.mp H
       obtain ⟨t744, A290, H⟩ := H
       replace H : (some t744) = some r := H
       have A29 := Aside0.mk A290
       clear A290
       obtain rfl := Option.some.inj H
       go_enter Try.func11, Try.ntmps11
       go_wp2_with (first | ((with_reducible refine gate_callee (f := 20) rfl ?_); refine goesL_ (some 13) rfl rfl Try.func20 (by kernel_rfl) rfl #[.slice A0 l0.length c0] rfl (by (try simp only [List.map_toArray, List.map_cons, List.map_nil]); first | done | rfl | (simp only [List.length_drop, List.length_take]; rfl)) ?_; (with_reducible refine (secateurlaw02_Small.calls k _ _ l0 t703 _ ?side1 ?side2 A4.out).mono ?_); (case side1 => repeat (first | exact HR0.out | (with_reducible refine Kd.C_alloc ?_ _) | (with_reducible refine Kd.C_drewN ?_ _) | (with_reducible refine Kd.C_drew ?_))); (case side2 => exact HC0.out); rintro e w30 ⟨v704, rfl, ho0, hb⟩; refine ⟨_, rfl, ?_⟩; have n0_ := Aside0.mk (Kd.R_lower ho0 (below_size (by repeat (first | (with_reducible first | exact HB.out | apply below_alloc | apply pw_below_drewN | apply below_drew1) | exact HB.out)))); have n1_ := Aside0.mk (below_step (by repeat (first | (with_reducible first | exact HB.out | apply below_alloc | apply pw_below_drewN | apply below_drew1) | exact HB.out)) hb); clear HB; have HO705 := n0_; have HB := n1_; clear n0_ n1_; (try clear hb); (try clear hb2); (try clear hk); (try clear hi); (try clear ho0)) | ((with_reducible refine gate_callee (f := 20) rfl ?_); refine goesL_ (some 15) rfl rfl Try.func20 (by kernel_rfl) rfl #[.slice A1 l1.length c1] rfl (by (try simp only [List.map_toArray, List.map_cons, List.map_nil]); first | done | rfl | (simp only [List.length_drop, List.length_take]; rfl)) ?_; (with_reducible refine (secateurlaw02_Small.calls k _ _ l1 t706 _ ?side1 ?side2 A5.out).mono ?_); (case side1 => repeat (first | exact (Kd.C_below HR1.out HB.out) | (with_reducible refine Kd.C_alloc ?_ _) | (with_reducible refine Kd.C_drewN ?_ _) | (with_reducible refine Kd.C_drew ?_))); (case side2 => exact HC1.out); rintro e w31 ⟨v707, rfl, ho0, hb⟩; refine ⟨_, rfl, ?_⟩; have n0_ := Aside0.mk (Kd.R_elder' (by (with_reducible repeat (first | apply Kd.R_alloc | apply Kd.R_drewN | apply Kd.R_drew)); exact HO705.out) (Kd.R_base ho0) hb); have n1_ := Aside0.mk (Kd.R_lower (Kd.R_new' ho0 (Kd.R_lt (by (with_reducible repeat (first | apply Kd.R_alloc | apply Kd.R_drewN | apply Kd.R_drew)); exact HO705.out))) (below_size (by repeat (first | (with_reducible first | exact HB.out | apply below_alloc | apply pw_below_drewN | apply below_drew1) | exact HB.out)))); have n2_ := Aside0.mk (below_step (by repeat (first | (with_reducible first | exact HB.out | apply below_alloc | apply pw_below_drewN | apply below_drew1) | exact HB.out)) hb); clear HO705; clear HB; have HO705 := n0_; have HO708 := n1_; have HB := n2_; clear n0_ n1_ n2_; (try clear hb); (try clear hb2); (try clear hk); (try clear hi); (try clear ho0); obtain ⟨Ao32, co32, eo32⟩ := Kd.R_slice HO705.out; subst eo32) | ((with_reducible refine gate_callee (f := 40) rfl ?_); refine goesL_ (some 20) rfl rfl Try.func40 (by kernel_rfl) rfl #[.slice Ao32 t703.length co32, .int .i64 (-1000), .int .i64 (Int.tmod a2 300)] rfl (by (try simp only [List.map_toArray, List.map_cons, List.map_nil]); first | done | rfl | (simp only [List.length_drop, List.length_take]; rfl)) ?_; (with_reducible refine (dom_Cut.calls k _ _ t703 (-1000) (Int.tmod a2 300) t709 _ ?side1 ?side2 A6.out).mono ?_); (case side1 => repeat (first | exact (Kd.R_reads' HO705.out).2.2 | (with_reducible refine Kd.C_alloc ?_ _) | (with_reducible refine Kd.C_drewN ?_ _) | (with_reducible refine Kd.C_drew ?_))); (case side2 => exact (Kd.R_reads' HO705.out).2.1); rintro e w33 ⟨v710, rfl, ho0, hb⟩; refine ⟨_, rfl, ?_⟩; have n0_ := Aside0.mk (Kd.R_elder' (by (with_reducible repeat (first | apply Kd.R_alloc | apply Kd.R_drewN | apply Kd.R_drew)); exact HO705.out) (Kd.R_base ho0) hb); have n1_ := Aside0.mk (Kd.R_elder' (by (with_reducible repeat (first | apply Kd.R_alloc | apply Kd.R_drewN | apply Kd.R_drew)); exact HO708.out) (Kd.R_base ho0) hb); have n2_ := Aside0.mk (Kd.R_lower (Kd.R_new' (Kd.R_new' ho0 (Kd.R_lt (by (with_reducible repeat (first | apply Kd.R_alloc | apply Kd.R_drewN | apply Kd.R_drew)); exact HO705.out))) (Kd.R_lt (by (with_reducible repeat (first | apply Kd.R_alloc | apply Kd.R_drewN | apply Kd.R_drew)); exact HO708.out))) (below_size (by repeat (first | (with_reducible first | exact HB.out | apply below_alloc | apply pw_below_drewN | apply below_drew1) | exact HB.out)))); have n3_ := Aside0.mk (below_step (by repeat (first | (with_reducible first | exact HB.out | apply below_alloc | apply pw_below_drewN | apply below_drew1) | exact HB.out)) hb); clear HO705; clear HO708; clear HB; have HO705 := n0_; have HO708 := n1_; have HO711 := n2_; have HB := n3_; clear n0_ n1_ n2_ n3_; (try clear hb); (try clear hb2); (try clear hk); (try clear hi); (try clear ho0)) | ((with_reducible refine gate_callee (f := 40) rfl ?_); refine goesL_ (some 24) rfl rfl Try.func40 (by kernel_rfl) rfl #[.slice Ao32 t703.length co32, .int .i64 (wrap64 ((Int.tmod a2 300) + 1)), .int .i64 1000] rfl (by (try simp only [List.map_toArray, List.map_cons, List.map_nil]); first | done | rfl | (simp only [List.length_drop, List.length_take]; rfl)) ?_; (with_reducible refine (dom_Cut.calls k _ _ t703 (wrap64 ((Int.tmod a2 300) + 1)) 1000 t712 _ ?side1 ?side2 A7.out).mono ?_); (case side1 => repeat (first | exact (Kd.R_reads' HO705.out).2.2 | (with_reducible refine Kd.C_alloc ?_ _) | (with_reducible refine Kd.C_drewN ?_ _) | (with_reducible refine Kd.C_drew ?_))); (case side2 => exact (Kd.R_reads' HO705.out).2.1); rintro e w34 ⟨v713, rfl, ho0, hb⟩; refine ⟨_, rfl, ?_⟩; have n0_ := Aside0.mk (Kd.R_elder' (by (with_reducible repeat (first | apply Kd.R_alloc | apply Kd.R_drewN | apply Kd.R_drew)); exact HO705.out) (Kd.R_base ho0) hb); have n1_ := Aside0.mk (Kd.R_elder' (by (with_reducible repeat (first | apply Kd.R_alloc | apply Kd.R_drewN | apply Kd.R_drew)); exact HO708.out) (Kd.R_base ho0) hb); have n2_ := Aside0.mk (Kd.R_elder' (by (with_reducible repeat (first | apply Kd.R_alloc | apply Kd.R_drewN | apply Kd.R_drew)); exact HO711.out) (Kd.R_base ho0) hb); have n3_ := Aside0.mk (Kd.R_lower (Kd.R_new' (Kd.R_new' (Kd.R_new' ho0 (Kd.R_lt (by (with_reducible repeat (first | apply Kd.R_alloc | apply Kd.R_drewN | apply Kd.R_drew)); exact HO705.out))) (Kd.R_lt (by (with_reducible repeat (first | apply Kd.R_alloc | apply Kd.R_drewN | apply Kd.R_drew)); exact HO708.out))) (Kd.R_lt (by (with_reducible repeat (first | apply Kd.R_alloc | apply Kd.R_drewN | apply Kd.R_drew)); exact HO711.out))) (below_size (by repeat (first | (with_reducible first | exact HB.out | apply below_alloc | apply pw_below_drewN | apply below_drew1) | exact HB.out)))); have n4_ := Aside0.mk (below_step (by repeat (first | (with_reducible first | exact HB.out | apply below_alloc | apply pw_below_drewN | apply below_drew1) | exact HB.out)) hb); clear HO705; clear HO708; clear HO711; clear HB; have HO705 := n0_; have HO708 := n1_; have HO711 := n2_; have HO714 := n3_; have HB := n4_; clear n0_ n1_ n2_ n3_ n4_; (try clear hb); (try clear hb2); (try clear hk); (try clear hi); (try clear ho0); obtain ⟨Ao35, co35, eo35⟩ := Kd.R_slice HO708.out; subst eo35) | ((with_reducible refine gate_callee (f := 37) rfl ?_); refine goesL_ (some 27) rfl rfl Try.func37 (by kernel_rfl) rfl #[.slice Ao32 t703.length co32, .slice Ao35 t706.length co35] rfl (by (try simp only [List.map_toArray, List.map_cons, List.map_nil]); first | done | rfl | (simp only [List.length_drop, List.length_take]; rfl)) ?_; (with_reducible refine (dom_Meet.calls k _ _ t703 _ _ t706 t715 _ ?side1 ?side2 ?side3 ?side4 A8.out).mono ?_); (case side1 => repeat (first | exact (Kd.R_reads' HO705.out).2.2 | (with_reducible refine Kd.C_alloc ?_ _) | (with_reducible refine Kd.C_drewN ?_ _) | (with_reducible refine Kd.C_drew ?_))); (case side2 => exact (Kd.R_reads' HO705.out).2.1); (case side3 => repeat (first | exact (Kd.R_reads' HO708.out).2.2 | (with_reducible refine Kd.C_alloc ?_ _) | (with_reducible refine Kd.C_drewN ?_ _) | (with_reducible refine Kd.C_drew ?_))); (case side4 => exact (Kd.R_reads' HO708.out).2.1); rintro e w36 ⟨v716, rfl, ho0, hb⟩; refine ⟨_, rfl, ?_⟩; have n0_ := Aside0.mk (Kd.R_elder' (by (with_reducible repeat (first | apply Kd.R_alloc | apply Kd.R_drewN | apply Kd.R_drew)); exact HO705.out) (Kd.R_base ho0) hb); have n1_ := Aside0.mk (Kd.R_elder' (by (with_reducible repeat (first | apply Kd.R_alloc | apply Kd.R_drewN | apply Kd.R_drew)); exact HO708.out) (Kd.R_base ho0) hb); have n2_ := Aside0.mk (Kd.R_elder' (by (with_reducible repeat (first | apply Kd.R_alloc | apply Kd.R_drewN | apply Kd.R_drew)); exact HO711.out) (Kd.R_base ho0) hb); have n3_ := Aside0.mk (Kd.R_elder' (by (with_reducible repeat (first | apply Kd.R_alloc | apply Kd.R_drewN | apply Kd.R_drew)); exact HO714.out) (Kd.R_base ho0) hb); have n4_ := Aside0.mk (Kd.R_lower (Kd.R_new' (Kd.R_new' (Kd.R_new' (Kd.R_new' ho0 (Kd.R_lt (by (with_reducible repeat (first | apply Kd.R_alloc | apply Kd.R_drewN | apply Kd.R_drew)); exact HO705.out))) (Kd.R_lt (by (with_reducible repeat (first | apply Kd.R_alloc | apply Kd.R_drewN | apply Kd.R_drew)); exact HO708.out))) (Kd.R_lt (by (with_reducible repeat (first | apply Kd.R_alloc | apply Kd.R_drewN | apply Kd.R_drew)); exact HO711.out))) (Kd.R_lt (by (with_reducible repeat (first | apply Kd.R_alloc | apply Kd.R_drewN | apply Kd.R_drew)); exact HO714.out))) (below_size (by repeat (first | (with_reducible first | exact HB.out | apply below_alloc | apply pw_below_drewN | apply below_drew1) | exact HB.out)))); have n5_ := Aside0.mk (below_step (by repeat (first | (with_reducible first | exact HB.out | apply below_alloc | apply pw_below_drewN | apply below_drew1) | exact HB.out)) hb); clear HO705; clear HO708; clear HO711; clear HO714; clear HB; have HO705 := n0_; have HO708 := n1_; have HO711 := n2_; have HO714 := n3_; have HO717 := n4_; have HB := n5_; clear n0_ n1_ n2_ n3_ n4_ n5_; (try clear hb); (try clear hb2); (try clear hk); (try clear hi); (try clear ho0)) | ((with_reducible refine gate_callee (f := 37) rfl ?_); refine goesL_ (some 30) rfl rfl Try.func37 (by kernel_rfl) rfl #[.slice Ao35 t706.length co35, .slice Ao32 t703.length co32] rfl (by (try simp only [List.map_toArray, List.map_cons, List.map_nil]); first | done | rfl | (simp only [List.length_drop, List.length_take]; rfl)) ?_; (with_reducible refine (dom_Meet.calls k _ _ t706 _ _ t703 t718 _ ?side1 ?side2 ?side3 ?side4 A9.out).mono ?_); (case side1 => repeat (first | exact (Kd.R_reads' HO708.out).2.2 | (with_reducible refine Kd.C_alloc ?_ _) | (with_reducible refine Kd.C_drewN ?_ _) | (with_reducible refine Kd.C_drew ?_))); (case side2 => exact (Kd.R_reads' HO708.out).2.1); (case side3 => repeat (first | exact (Kd.R_reads' HO705.out).2.2 | (with_reducible refine Kd.C_alloc ?_ _) | (with_reducible refine Kd.C_drewN ?_ _) | (with_reducible refine Kd.C_drew ?_))); (case side4 => exact (Kd.R_reads' HO705.out).2.1); rintro e w37 ⟨v719, rfl, ho0, hb⟩; refine ⟨_, rfl, ?_⟩; have n0_ := Aside0.mk (Kd.R_elder' (by (with_reducible repeat (first | apply Kd.R_alloc | apply Kd.R_drewN | apply Kd.R_drew)); exact HO705.out) (Kd.R_base ho0) hb); have n1_ := Aside0.mk (Kd.R_elder' (by (with_reducible repeat (first | apply Kd.R_alloc | apply Kd.R_drewN | apply Kd.R_drew)); exact HO708.out) (Kd.R_base ho0) hb); have n2_ := Aside0.mk (Kd.R_elder' (by (with_reducible repeat (first | apply Kd.R_alloc | apply Kd.R_drewN | apply Kd.R_drew)); exact HO711.out) (Kd.R_base ho0) hb); have n3_ := Aside0.mk (Kd.R_elder' (by (with_reducible repeat (first | apply Kd.R_alloc | apply Kd.R_drewN | apply Kd.R_drew)); exact HO714.out) (Kd.R_base ho0) hb); have n4_ := Aside0.mk (Kd.R_elder' (by (with_reducible repeat (first | apply Kd.R_alloc | apply Kd.R_drewN | apply Kd.R_drew)); exact HO717.out) (Kd.R_base ho0) hb); have n5_ := Aside0.mk (Kd.R_lower (Kd.R_new' (Kd.R_new' (Kd.R_new' (Kd.R_new' (Kd.R_new' ho0 (Kd.R_lt (by (with_reducible repeat (first | apply Kd.R_alloc | apply Kd.R_drewN | apply Kd.R_drew)); exact HO705.out))) (Kd.R_lt (by (with_reducible repeat (first | apply Kd.R_alloc | apply Kd.R_drewN | apply Kd.R_drew)); exact HO708.out))) (Kd.R_lt (by (with_reducible repeat (first | apply Kd.R_alloc | apply Kd.R_drewN | apply Kd.R_drew)); exact HO711.out))) (Kd.R_lt (by (with_reducible repeat (first | apply Kd.R_alloc | apply Kd.R_drewN | apply Kd.R_drew)); exact HO714.out))) (Kd.R_lt (by (with_reducible repeat (first | apply Kd.R_alloc | apply Kd.R_drewN | apply Kd.R_drew)); exact HO717.out))) (below_size (by repeat (first | (with_reducible first | exact HB.out | apply below_alloc | apply pw_below_drewN | apply below_drew1) | exact HB.out)))); have n6_ := Aside0.mk (below_step (by repeat (first | (with_reducible first | exact HB.out | apply below_alloc | apply pw_below_drewN | apply below_drew1) | exact HB.out)) hb); clear HO705; clear HO708; clear HO711; clear HO714; clear HO717; clear HB; have HO705 := n0_; have HO708 := n1_; have HO711 := n2_; have HO714 := n3_; have HO717 := n4_; have HO720 := n5_; have HB := n6_; clear n0_ n1_ n2_ n3_ n4_ n5_ n6_; (try clear hb); (try clear hb2); (try clear hk); (try clear hi); (try clear ho0); obtain ⟨Ao38, co38, eo38⟩ := Kd.R_slice HO717.out; subst eo38; obtain ⟨Ao39, co39, eo39⟩ := Kd.R_slice HO720.out; subst eo39) | ((with_reducible refine gate_callee (f := 35) rfl ?_); refine goesL_ (some 31) rfl rfl Try.func35 (by kernel_rfl) rfl #[.slice Ao38 t715.length co38, .slice Ao39 t718.length co39] rfl (by (try simp only [List.map_toArray, List.map_cons, List.map_nil]); first | done | rfl | (simp only [List.length_drop, List.length_take]; rfl)) ?_; (with_reducible refine (dom_Same.calls k _ _ t715 _ _ t718 true _ ?side1 ?side2 ?side3 ?side4 A10.out).mono ?_); (case side1 => repeat (first | exact (Kd.R_reads' HO717.out).2.2 | (with_reducible refine Kd.C_alloc ?_ _) | (with_reducible refine Kd.C_drewN ?_ _) | (with_reducible refine Kd.C_drew ?_))); (case side2 => exact (Kd.R_reads' HO717.out).2.1); (case side3 => repeat (first | exact (Kd.R_reads' HO720.out).2.2 | (with_reducible refine Kd.C_alloc ?_ _) | (with_reducible refine Kd.C_drewN ?_ _) | (with_reducible refine Kd.C_drew ?_))); (case side4 => exact (Kd.R_reads' HO720.out).2.1); rintro e w' ⟨rfl, ⟨nd, rfl⟩⟩; refine ⟨_, rfl, ?_⟩) | (go_at_call 38; (with_reducible refine (dom_Join.calls k _ _ t703 _ _ t706 t722 _ ?side1 ?side2 ?side3 ?side4 A12.out).mono ?_); (case side1 => repeat (first | exact (Kd.R_reads' HO705.out).2.2 | (with_reducible refine Kd.C_alloc ?_ _) | (with_reducible refine Kd.C_drewN ?_ _) | (with_reducible refine Kd.C_drew ?_))); (case side2 => exact (Kd.R_reads' HO705.out).2.1); (case side3 => repeat (first | exact (Kd.R_reads' HO708.out).2.2 | (with_reducible refine Kd.C_alloc ?_ _) | (with_reducible refine Kd.C_drewN ?_ _) | (with_reducible refine Kd.C_drew ?_))); (case side4 => exact (Kd.R_reads' HO708.out).2.1); rintro e w40 ⟨v723, rfl, ho0, hb⟩; have n0_ := Aside0.mk (Kd.R_elder' (by (with_reducible repeat (first | apply Kd.R_alloc | apply Kd.R_drewN | apply Kd.R_drew)); exact HO705.out) (Kd.R_base ho0) hb); have n1_ := Aside0.mk (Kd.R_elder' (by (with_reducible repeat (first | apply Kd.R_alloc | apply Kd.R_drewN | apply Kd.R_drew)); exact HO708.out) (Kd.R_base ho0) hb); have n2_ := Aside0.mk (Kd.R_elder' (by (with_reducible repeat (first | apply Kd.R_alloc | apply Kd.R_drewN | apply Kd.R_drew)); exact HO711.out) (Kd.R_base ho0) hb); have n3_ := Aside0.mk (Kd.R_elder' (by (with_reducible repeat (first | apply Kd.R_alloc | apply Kd.R_drewN | apply Kd.R_drew)); exact HO714.out) (Kd.R_base ho0) hb); have n4_ := Aside0.mk (Kd.R_elder' (by (with_reducible repeat (first | apply Kd.R_alloc | apply Kd.R_drewN | apply Kd.R_drew)); exact HO717.out) (Kd.R_base ho0) hb); have n5_ := Aside0.mk (Kd.R_elder' (by (with_reducible repeat (first | apply Kd.R_alloc | apply Kd.R_drewN | apply Kd.R_drew)); exact HO720.out) (Kd.R_base ho0) hb); have n6_ := Aside0.mk (Kd.R_lower (Kd.R_new' (Kd.R_new' (Kd.R_new' (Kd.R_new' (Kd.R_new' (Kd.R_new' ho0 (Kd.R_lt (by (with_reducible repeat (first | apply Kd.R_alloc | apply Kd.R_drewN | apply Kd.R_drew)); exact HO705.out))) (Kd.R_lt (by (with_reducible repeat (first | apply Kd.R_alloc | apply Kd.R_drewN | apply Kd.R_drew)); exact HO708.out))) (Kd.R_lt (by (with_reducible repeat (first | apply Kd.R_alloc | apply Kd.R_drewN | apply Kd.R_drew)); exact HO711.out))) (Kd.R_lt (by (with_reducible repeat (first | apply Kd.R_alloc | apply Kd.R_drewN | apply Kd.R_drew)); exact HO714.out))) (Kd.R_lt (by (with_reducible repeat (first | apply Kd.R_alloc | apply Kd.R_drewN | apply Kd.R_drew)); exact HO717.out))) (Kd.R_lt (by (with_reducible repeat (first | apply Kd.R_alloc | apply Kd.R_drewN | apply Kd.R_drew)); exact HO720.out))) (below_size (by repeat (first | (with_reducible first | exact HB.out | apply below_alloc | apply pw_below_drewN | apply below_drew1) | exact HB.out)))); have n7_ := Aside0.mk (below_step (by repeat (first | (with_reducible first | exact HB.out | apply below_alloc | apply pw_below_drewN | apply below_drew1) | exact HB.out)) hb); clear HO705; clear HO708; clear HO711; clear HO714; clear HO717; clear HO720; clear HB; have HO705 := n0_; have HO708 := n1_; have HO711 := n2_; have HO714 := n3_; have HO717 := n4_; have HO720 := n5_; have HO724 := n6_; have HB := n7_; clear n0_ n1_ n2_ n3_ n4_ n5_ n6_ n7_; (try clear hb); (try clear hb2); (try clear hk); (try clear hi); (try clear ho0)) | (go_at_call 38; (with_reducible refine (dom_Join.calls k _ _ t706 _ _ t703 t725 _ ?side1 ?side2 ?side3 ?side4 A13.out).mono ?_); (case side1 => repeat (first | exact (Kd.R_reads' HO708.out).2.2 | (with_reducible refine Kd.C_alloc ?_ _) | (with_reducible refine Kd.C_drewN ?_ _) | (with_reducible refine Kd.C_drew ?_))); (case side2 => exact (Kd.R_reads' HO708.out).2.1); (case side3 => repeat (first | exact (Kd.R_reads' HO705.out).2.2 | (with_reducible refine Kd.C_alloc ?_ _) | (with_reducible refine Kd.C_drewN ?_ _) | (with_reducible refine Kd.C_drew ?_))); (case side4 => exact (Kd.R_reads' HO705.out).2.1); rintro e w41 ⟨v726, rfl, ho0, hb⟩; have n0_ := Aside0.mk (Kd.R_elder' (by (with_reducible repeat (first | apply Kd.R_alloc | apply Kd.R_drewN | apply Kd.R_drew)); exact HO705.out) (Kd.R_base ho0) hb); have n1_ := Aside0.mk (Kd.R_elder' (by (with_reducible repeat (first | apply Kd.R_alloc | apply Kd.R_drewN | apply Kd.R_drew)); exact HO708.out) (Kd.R_base ho0) hb); have n2_ := Aside0.mk (Kd.R_elder' (by (with_reducible repeat (first | apply Kd.R_alloc | apply Kd.R_drewN | apply Kd.R_drew)); exact HO711.out) (Kd.R_base ho0) hb); have n3_ := Aside0.mk (Kd.R_elder' (by (with_reducible repeat (first | apply Kd.R_alloc | apply Kd.R_drewN | apply Kd.R_drew)); exact HO714.out) (Kd.R_base ho0) hb); have n4_ := Aside0.mk (Kd.R_elder' (by (with_reducible repeat (first | apply Kd.R_alloc | apply Kd.R_drewN | apply Kd.R_drew)); exact HO717.out) (Kd.R_base ho0) hb); have n5_ := Aside0.mk (Kd.R_elder' (by (with_reducible repeat (first | apply Kd.R_alloc | apply Kd.R_drewN | apply Kd.R_drew)); exact HO720.out) (Kd.R_base ho0) hb); have n6_ := Aside0.mk (Kd.R_elder' (by (with_reducible repeat (first | apply Kd.R_alloc | apply Kd.R_drewN | apply Kd.R_drew)); exact HO724.out) (Kd.R_base ho0) hb); have n7_ := Aside0.mk (Kd.R_lower (Kd.R_new' (Kd.R_new' (Kd.R_new' (Kd.R_new' (Kd.R_new' (Kd.R_new' (Kd.R_new' ho0 (Kd.R_lt (by (with_reducible repeat (first | apply Kd.R_alloc | apply Kd.R_drewN | apply Kd.R_drew)); exact HO705.out))) (Kd.R_lt (by (with_reducible repeat (first | apply Kd.R_alloc | apply Kd.R_drewN | apply Kd.R_drew)); exact HO708.out))) (Kd.R_lt (by (with_reducible repeat (first | apply Kd.R_alloc | apply Kd.R_drewN | apply Kd.R_drew)); exact HO711.out))) (Kd.R_lt (by (with_reducible repeat (first | apply Kd.R_alloc | apply Kd.R_drewN | apply Kd.R_drew)); exact HO714.out))) (Kd.R_lt (by (with_reducible repeat (first | apply Kd.R_alloc | apply Kd.R_drewN | apply Kd.R_drew)); exact HO717.out))) (Kd.R_lt (by (with_reducible repeat (first | apply Kd.R_alloc | apply Kd.R_drewN | apply Kd.R_drew)); exact HO720.out))) (Kd.R_lt (by (with_reducible repeat (first | apply Kd.R_alloc | apply Kd.R_drewN | apply Kd.R_drew)); exact HO724.out))) (below_size (by repeat (first | (with_reducible first | exact HB.out | apply below_alloc | apply pw_below_drewN | apply below_drew1) | exact HB.out)))); have n8_ := Aside0.mk (below_step (by repeat (first | (with_reducible first | exact HB.out | apply below_alloc | apply pw_below_drewN | apply below_drew1) | exact HB.out)) hb); clear HO705; clear HO708; clear HO711; clear HO714; clear HO717; clear HO720; clear HO724; clear HB; have HO705 := n0_; have HO708 := n1_; have HO711 := n2_; have HO714 := n3_; have HO717 := n4_; have HO720 := n5_; have HO724 := n6_; have HO727 := n7_; have HB := n8_; clear n0_ n1_ n2_ n3_ n4_ n5_ n6_ n7_ n8_; (try clear hb); (try clear hb2); (try clear hk); (try clear hi); (try clear ho0); obtain ⟨Ao42, co42, eo42⟩ := Kd.R_slice HO724.out; subst eo42; obtain ⟨Ao43, co43, eo43⟩ := Kd.R_slice HO727.out; subst eo43) | (go_at_call 35; (with_reducible refine (dom_Same.calls k _ _ t722 _ _ t725 true _ ?side1 ?side2 ?side3 ?side4 A14.out).mono ?_); (case side1 => repeat (first | exact (Kd.R_reads' HO724.out).2.2 | (with_reducible refine Kd.C_alloc ?_ _) | (with_reducible refine Kd.C_drewN ?_ _) | (with_reducible refine Kd.C_drew ?_))); (case side2 => exact (Kd.R_reads' HO724.out).2.1); (case side3 => repeat (first | exact (Kd.R_reads' HO727.out).2.2 | (with_reducible refine Kd.C_alloc ?_ _) | (with_reducible refine Kd.C_drewN ?_ _) | (with_reducible refine Kd.C_drew ?_))); (case side4 => exact (Kd.R_reads' HO727.out).2.1); rintro e w' ⟨rfl, ⟨nd, rfl⟩⟩; obtain ⟨Ao44, co44, eo44⟩ := Kd.R_slice HO711.out; subst eo44; obtain ⟨Ao45, co45, eo45⟩ := Kd.R_slice HO714.out; subst eo45) | (go_at_call 38; (with_reducible refine (dom_Join.calls k _ _ t709 _ _ t712 t729 _ ?side1 ?side2 ?side3 ?side4 A16.out).mono ?_); (case side1 => repeat (first | exact (Kd.R_reads' HO711.out).2.2 | (with_reducible refine Kd.C_alloc ?_ _) | (with_reducible refine Kd.C_drewN ?_ _) | (with_reducible refine Kd.C_drew ?_))); (case side2 => exact (Kd.R_reads' HO711.out).2.1); (case side3 => repeat (first | exact (Kd.R_reads' HO714.out).2.2 | (with_reducible refine Kd.C_alloc ?_ _) | (with_reducible refine Kd.C_drewN ?_ _) | (with_reducible refine Kd.C_drew ?_))); (case side4 => exact (Kd.R_reads' HO714.out).2.1); rintro e w46 ⟨v730, rfl, ho0, hb⟩; have n0_ := Aside0.mk (Kd.R_elder' (by (with_reducible repeat (first | apply Kd.R_alloc | apply Kd.R_drewN | apply Kd.R_drew)); exact HO705.out) (Kd.R_base ho0) hb); have n1_ := Aside0.mk (Kd.R_elder' (by (with_reducible repeat (first | apply Kd.R_alloc | apply Kd.R_drewN | apply Kd.R_drew)); exact HO708.out) (Kd.R_base ho0) hb); have n2_ := Aside0.mk (Kd.R_elder' (by (with_reducible repeat (first | apply Kd.R_alloc | apply Kd.R_drewN | apply Kd.R_drew)); exact HO711.out) (Kd.R_base ho0) hb); have n3_ := Aside0.mk (Kd.R_elder' (by (with_reducible repeat (first | apply Kd.R_alloc | apply Kd.R_drewN | apply Kd.R_drew)); exact HO714.out) (Kd.R_base ho0) hb); have n4_ := Aside0.mk (Kd.R_elder' (by (with_reducible repeat (first | apply Kd.R_alloc | apply Kd.R_drewN | apply Kd.R_drew)); exact HO717.out) (Kd.R_base ho0) hb); have n5_ := Aside0.mk (Kd.R_elder' (by (with_reducible repeat (first | apply Kd.R_alloc | apply Kd.R_drewN | apply Kd.R_drew)); exact HO720.out) (Kd.R_base ho0) hb); have n6_ := Aside0.mk (Kd.R_elder' (by (with_reducible repeat (first | apply Kd.R_alloc | apply Kd.R_drewN | apply Kd.R_drew)); exact HO724.out) (Kd.R_base ho0) hb); have n7_ := Aside0.mk (Kd.R_elder' (by (with_reducible repeat (first | apply Kd.R_alloc | apply Kd.R_drewN | apply Kd.R_drew)); exact HO727.out) (Kd.R_base ho0) hb); have n8_ := Aside0.mk (Kd.R_lower (Kd.R_new' (Kd.R_new' (Kd.R_new' (Kd.R_new' (Kd.R_new' (Kd.R_new' (Kd.R_new' (Kd.R_new' ho0 (Kd.R_lt (by (with_reducible repeat (first | apply Kd.R_alloc | apply Kd.R_drewN | apply Kd.R_drew)); exact HO705.out))) (Kd.R_lt (by (with_reducible repeat (first | apply Kd.R_alloc | apply Kd.R_drewN | apply Kd.R_drew)); exact HO708.out))) (Kd.R_lt (by (with_reducible repeat (first | apply Kd.R_alloc | apply Kd.R_drewN | apply Kd.R_drew)); exact HO711.out))) (Kd.R_lt (by (with_reducible repeat (first | apply Kd.R_alloc | apply Kd.R_drewN | apply Kd.R_drew)); exact HO714.out))) (Kd.R_lt (by (with_reducible repeat (first | apply Kd.R_alloc | apply Kd.R_drewN | apply Kd.R_drew)); exact HO717.out))) (Kd.R_lt (by (with_reducible repeat (first | apply Kd.R_alloc | apply Kd.R_drewN | apply Kd.R_drew)); exact HO720.out))) (Kd.R_lt (by (with_reducible repeat (first | apply Kd.R_alloc | apply Kd.R_drewN | apply Kd.R_drew)); exact HO724.out))) (Kd.R_lt (by (with_reducible repeat (first | apply Kd.R_alloc | apply Kd.R_drewN | apply Kd.R_drew)); exact HO727.out))) (below_size (by repeat (first | (with_reducible first | exact HB.out | apply below_alloc | apply pw_below_drewN | apply below_drew1) | exact HB.out)))); have n9_ := Aside0.mk (below_step (by repeat (first | (with_reducible first | exact HB.out | apply below_alloc | apply pw_below_drewN | apply below_drew1) | exact HB.out)) hb); clear HO705; clear HO708; clear HO711; clear HO714; clear HO717; clear HO720; clear HO724; clear HO727; clear HB; have HO705 := n0_; have HO708 := n1_; have HO711 := n2_; have HO714 := n3_; have HO717 := n4_; have HO720 := n5_; have HO724 := n6_; have HO727 := n7_; have HO731 := n8_; have HB := n9_; clear n0_ n1_ n2_ n3_ n4_ n5_ n6_ n7_ n8_ n9_; (try clear hb); (try clear hb2); (try clear hk); (try clear hi); (try clear ho0); obtain ⟨Ao47, co47, eo47⟩ := Kd.R_slice HO731.out; subst eo47) | (go_at_call 35; (with_reducible refine (dom_Same.calls k _ _ t729 _ _ t703 true _ ?side1 ?side2 ?side3 ?side4 A17.out).mono ?_); (case side1 => repeat (first | exact (Kd.R_reads' HO731.out).2.2 | (with_reducible refine Kd.C_alloc ?_ _) | (with_reducible refine Kd.C_drewN ?_ _) | (with_reducible refine Kd.C_drew ?_))); (case side2 => exact (Kd.R_reads' HO731.out).2.1); (case side3 => repeat (first | exact (Kd.R_reads' HO705.out).2.2 | (with_reducible refine Kd.C_alloc ?_ _) | (with_reducible refine Kd.C_drewN ?_ _) | (with_reducible refine Kd.C_drew ?_))); (case side4 => exact (Kd.R_reads' HO705.out).2.1); rintro e w' ⟨rfl, ⟨nd, rfl⟩⟩) | (go_at_call 28; (with_reducible refine (dom_Size.calls k _ _ t709 t733 _ ?side1 ?side2 A19.out).mono ?_); (case side1 => repeat (first | exact (Kd.R_reads' HO711.out).2.2 | (with_reducible refine Kd.C_alloc ?_ _) | (with_reducible refine Kd.C_drewN ?_ _) | (with_reducible refine Kd.C_drew ?_))); (case side2 => exact (Kd.R_reads' HO711.out).2.1); rintro e w48 ⟨rfl, hb⟩; have n0_ := Aside0.mk (Kd.R_below (by (with_reducible repeat (first | apply Kd.R_alloc | apply Kd.R_drewN | apply Kd.R_drew)); exact HO705.out) hb); have n1_ := Aside0.mk (Kd.R_below (by (with_reducible repeat (first | apply Kd.R_alloc | apply Kd.R_drewN | apply Kd.R_drew)); exact HO708.out) hb); have n2_ := Aside0.mk (Kd.R_below (by (with_reducible repeat (first | apply Kd.R_alloc | apply Kd.R_drewN | apply Kd.R_drew)); exact HO711.out) hb); have n3_ := Aside0.mk (Kd.R_below (by (with_reducible repeat (first | apply Kd.R_alloc | apply Kd.R_drewN | apply Kd.R_drew)); exact HO714.out) hb); have n4_ := Aside0.mk (Kd.R_below (by (with_reducible repeat (first | apply Kd.R_alloc | apply Kd.R_drewN | apply Kd.R_drew)); exact HO717.out) hb); have n5_ := Aside0.mk (Kd.R_below (by (with_reducible repeat (first | apply Kd.R_alloc | apply Kd.R_drewN | apply Kd.R_drew)); exact HO720.out) hb); have n6_ := Aside0.mk (Kd.R_below (by (with_reducible repeat (first | apply Kd.R_alloc | apply Kd.R_drewN | apply Kd.R_drew)); exact HO724.out) hb); have n7_ := Aside0.mk (Kd.R_below (by (with_reducible repeat (first | apply Kd.R_alloc | apply Kd.R_drewN | apply Kd.R_drew)); exact HO727.out) hb); have n8_ := Aside0.mk (Kd.R_below (by (with_reducible repeat (first | apply Kd.R_alloc | apply Kd.R_drewN | apply Kd.R_drew)); exact HO731.out) hb); have n9_ := Aside0.mk (below_step (by repeat (first | (with_reducible first | exact HB.out | apply below_alloc | apply pw_below_drewN | apply below_drew1) | exact HB.out)) hb); clear HO705; clear HO708; clear HO711; clear HO714; clear HO717; clear HO720; clear HO724; clear HO727; clear HO731; clear HB; have HO705 := n0_; have HO708 := n1_; have HO711 := n2_; have HO714 := n3_; have HO717 := n4_; have HO720 := n5_; have HO724 := n6_; have HO727 := n7_; have HO731 := n8_; have HB := n9_; clear n0_ n1_ n2_ n3_ n4_ n5_ n6_ n7_ n8_ n9_; (try clear hb); (try clear hb2); (try clear hk); (try clear hi)) | (go_at_call 28; (with_reducible refine (dom_Size.calls k _ _ t712 t734 _ ?side1 ?side2 A20.out).mono ?_); (case side1 => repeat (first | exact (Kd.R_reads' HO714.out).2.2 | (with_reducible refine Kd.C_alloc ?_ _) | (with_reducible refine Kd.C_drewN ?_ _) | (with_reducible refine Kd.C_drew ?_))); (case side2 => exact (Kd.R_reads' HO714.out).2.1); rintro e w49 ⟨rfl, hb⟩; have n0_ := Aside0.mk (Kd.R_below (by (with_reducible repeat (first | apply Kd.R_alloc | apply Kd.R_drewN | apply Kd.R_drew)); exact HO705.out) hb); have n1_ := Aside0.mk (Kd.R_below (by (with_reducible repeat (first | apply Kd.R_alloc | apply Kd.R_drewN | apply Kd.R_drew)); exact HO708.out) hb); have n2_ := Aside0.mk (Kd.R_below (by (with_reducible repeat (first | apply Kd.R_alloc | apply Kd.R_drewN | apply Kd.R_drew)); exact HO711.out) hb); have n3_ := Aside0.mk (Kd.R_below (by (with_reducible repeat (first | apply Kd.R_alloc | apply Kd.R_drewN | apply Kd.R_drew)); exact HO714.out) hb); have n4_ := Aside0.mk (Kd.R_below (by (with_reducible repeat (first | apply Kd.R_alloc | apply Kd.R_drewN | apply Kd.R_drew)); exact HO717.out) hb); have n5_ := Aside0.mk (Kd.R_below (by (with_reducible repeat (first | apply Kd.R_alloc | apply Kd.R_drewN | apply Kd.R_drew)); exact HO720.out) hb); have n6_ := Aside0.mk (Kd.R_below (by (with_reducible repeat (first | apply Kd.R_alloc | apply Kd.R_drewN | apply Kd.R_drew)); exact HO724.out) hb); have n7_ := Aside0.mk (Kd.R_below (by (with_reducible repeat (first | apply Kd.R_alloc | apply Kd.R_drewN | apply Kd.R_drew)); exact HO727.out) hb); have n8_ := Aside0.mk (Kd.R_below (by (with_reducible repeat (first | apply Kd.R_alloc | apply Kd.R_drewN | apply Kd.R_drew)); exact HO731.out) hb); have n9_ := Aside0.mk (below_step (by repeat (first | (with_reducible first | exact HB.out | apply below_alloc | apply pw_below_drewN | apply below_drew1) | exact HB.out)) hb); clear HO705; clear HO708; clear HO711; clear HO714; clear HO717; clear HO720; clear HO724; clear HO727; clear HO731; clear HB; have HO705 := n0_; have HO708 := n1_; have HO711 := n2_; have HO714 := n3_; have HO717 := n4_; have HO720 := n5_; have HO724 := n6_; have HO727 := n7_; have HO731 := n8_; have HB := n9_; clear n0_ n1_ n2_ n3_ n4_ n5_ n6_ n7_ n8_ n9_; (try clear hb); (try clear hb2); (try clear hk); (try clear hi)) | (go_at_call 28; (with_reducible refine (dom_Size.calls k _ _ t703 t735 _ ?side1 ?side2 A21.out).mono ?_); (case side1 => repeat (first | exact (Kd.R_reads' HO705.out).2.2 | (with_reducible refine Kd.C_alloc ?_ _) | (with_reducible refine Kd.C_drewN ?_ _) | (with_reducible refine Kd.C_drew ?_))); (case side2 => exact (Kd.R_reads' HO705.out).2.1); rintro e w50 ⟨rfl, hb⟩; have n0_ := Aside0.mk (Kd.R_below (by (with_reducible repeat (first | apply Kd.R_alloc | apply Kd.R_drewN | apply Kd.R_drew)); exact HO705.out) hb); have n1_ := Aside0.mk (Kd.R_below (by (with_reducible repeat (first | apply Kd.R_alloc | apply Kd.R_drewN | apply Kd.R_drew)); exact HO708.out) hb); have n2_ := Aside0.mk (Kd.R_below (by (with_reducible repeat (first | apply Kd.R_alloc | apply Kd.R_drewN | apply Kd.R_drew)); exact HO711.out) hb); have n3_ := Aside0.mk (Kd.R_below (by (with_reducible repeat (first | apply Kd.R_alloc | apply Kd.R_drewN | apply Kd.R_drew)); exact HO714.out) hb); have n4_ := Aside0.mk (Kd.R_below (by (with_reducible repeat (first | apply Kd.R_alloc | apply Kd.R_drewN | apply Kd.R_drew)); exact HO717.out) hb); have n5_ := Aside0.mk (Kd.R_below (by (with_reducible repeat (first | apply Kd.R_alloc | apply Kd.R_drewN | apply Kd.R_drew)); exact HO720.out) hb); have n6_ := Aside0.mk (Kd.R_below (by (with_reducible repeat (first | apply Kd.R_alloc | apply Kd.R_drewN | apply Kd.R_drew)); exact HO724.out) hb); have n7_ := Aside0.mk (Kd.R_below (by (with_reducible repeat (first | apply Kd.R_alloc | apply Kd.R_drewN | apply Kd.R_drew)); exact HO727.out) hb); have n8_ := Aside0.mk (Kd.R_below (by (with_reducible repeat (first | apply Kd.R_alloc | apply Kd.R_drewN | apply Kd.R_drew)); exact HO731.out) hb); have n9_ := Aside0.mk (below_step (by repeat (first | (with_reducible first | exact HB.out | apply below_alloc | apply pw_below_drewN | apply below_drew1) | exact HB.out)) hb); clear HO705; clear HO708; clear HO711; clear HO714; clear HO717; clear HO720; clear HO724; clear HO727; clear HO731; clear HB; have HO705 := n0_; have HO708 := n1_; have HO711 := n2_; have HO714 := n3_; have HO717 := n4_; have HO720 := n5_; have HO724 := n6_; have HO727 := n7_; have HO731 := n8_; have HB := n9_; clear n0_ n1_ n2_ n3_ n4_ n5_ n6_ n7_ n8_ n9_; (try clear hb); (try clear hb2); (try clear hk); (try clear hi)) | (go_at_call 39; (with_reducible refine (dom_Minus.calls k _ _ t703 _ _ t703 t736 _ ?side1 ?side2 ?side3 ?side4 A23.out).mono ?_); (case side1 => repeat (first | exact (Kd.R_reads' HO705.out).2.2 | (with_reducible refine Kd.C_alloc ?_ _) | (with_reducible refine Kd.C_drewN ?_ _) | (with_reducible refine Kd.C_drew ?_))); (case side2 => exact (Kd.R_reads' HO705.out).2.1); (case side3 => repeat (first | exact (Kd.R_reads' HO705.out).2.2 | (with_reducible refine Kd.C_alloc ?_ _) | (with_reducible refine Kd.C_drewN ?_ _) | (with_reducible refine Kd.C_drew ?_))); (case side4 => exact (Kd.R_reads' HO705.out).2.1); rintro e w51 ⟨v737, rfl, ho0, hb⟩; have n0_ := Aside0.mk (Kd.R_elder' (by (with_reducible repeat (first | apply Kd.R_alloc | apply Kd.R_drewN | apply Kd.R_drew)); exact HO705.out) (Kd.R_base ho0) hb); have n1_ := Aside0.mk (Kd.R_elder' (by (with_reducible repeat (first | apply Kd.R_alloc | apply Kd.R_drewN | apply Kd.R_drew)); exact HO708.out) (Kd.R_base ho0) hb); have n2_ := Aside0.mk (Kd.R_elder' (by (with_reducible repeat (first | apply Kd.R_alloc | apply Kd.R_drewN | apply Kd.R_drew)); exact HO711.out) (Kd.R_base ho0) hb); have n3_ := Aside0.mk (Kd.R_elder' (by (with_reducible repeat (first | apply Kd.R_alloc | apply Kd.R_drewN | apply Kd.R_drew)); exact HO714.out) (Kd.R_base ho0) hb); have n4_ := Aside0.mk (Kd.R_elder' (by (with_reducible repeat (first | apply Kd.R_alloc | apply Kd.R_drewN | apply Kd.R_drew)); exact HO717.out) (Kd.R_base ho0) hb); have n5_ := Aside0.mk (Kd.R_elder' (by (with_reducible repeat (first | apply Kd.R_alloc | apply Kd.R_drewN | apply Kd.R_drew)); exact HO720.out) (Kd.R_base ho0) hb); have n6_ := Aside0.mk (Kd.R_elder' (by (with_reducible repeat (first | apply Kd.R_alloc | apply Kd.R_drewN | apply Kd.R_drew)); exact HO724.out) (Kd.R_base ho0) hb); have n7_ := Aside0.mk (Kd.R_elder' (by (with_reducible repeat (first | apply Kd.R_alloc | apply Kd.R_drewN | apply Kd.R_drew)); exact HO727.out) (Kd.R_base ho0) hb); have n8_ := Aside0.mk (Kd.R_elder' (by (with_reducible repeat (first | apply Kd.R_alloc | apply Kd.R_drewN | apply Kd.R_drew)); exact HO731.out) (Kd.R_base ho0) hb); have n9_ := Aside0.mk (Kd.R_lower (Kd.R_new' (Kd.R_new' (Kd.R_new' (Kd.R_new' (Kd.R_new' (Kd.R_new' (Kd.R_new' (Kd.R_new' (Kd.R_new' ho0 (Kd.R_lt (by (with_reducible repeat (first | apply Kd.R_alloc | apply Kd.R_drewN | apply Kd.R_drew)); exact HO705.out))) (Kd.R_lt (by (with_reducible repeat (first | apply Kd.R_alloc | apply Kd.R_drewN | apply Kd.R_drew)); exact HO708.out))) (Kd.R_lt (by (with_reducible repeat (first | apply Kd.R_alloc | apply Kd.R_drewN | apply Kd.R_drew)); exact HO711.out))) (Kd.R_lt (by (with_reducible repeat (first | apply Kd.R_alloc | apply Kd.R_drewN | apply Kd.R_drew)); exact HO714.out))) (Kd.R_lt (by (with_reducible repeat (first | apply Kd.R_alloc | apply Kd.R_drewN | apply Kd.R_drew)); exact HO717.out))) (Kd.R_lt (by (with_reducible repeat (first | apply Kd.R_alloc | apply Kd.R_drewN | apply Kd.R_drew)); exact HO720.out))) (Kd.R_lt (by (with_reducible repeat (first | apply Kd.R_alloc | apply Kd.R_drewN | apply Kd.R_drew)); exact HO724.out))) (Kd.R_lt (by (with_reducible repeat (first | apply Kd.R_alloc | apply Kd.R_drewN | apply Kd.R_drew)); exact HO727.out))) (Kd.R_lt (by (with_reducible repeat (first | apply Kd.R_alloc | apply Kd.R_drewN | apply Kd.R_drew)); exact HO731.out))) (below_size (by repeat (first | (with_reducible first | exact HB.out | apply below_alloc | apply pw_below_drewN | apply below_drew1) | exact HB.out)))); have n10_ := Aside0.mk (below_step (by repeat (first | (with_reducible first | exact HB.out | apply below_alloc | apply pw_below_drewN | apply below_drew1) | exact HB.out)) hb); clear HO705; clear HO708; clear HO711; clear HO714; clear HO717; clear HO720; clear HO724; clear HO727; clear HO731; clear HB; have HO705 := n0_; have HO708 := n1_; have HO711 := n2_; have HO714 := n3_; have HO717 := n4_; have HO720 := n5_; have HO724 := n6_; have HO727 := n7_; have HO731 := n8_; have HO738 := n9_; have HB := n10_; clear n0_ n1_ n2_ n3_ n4_ n5_ n6_ n7_ n8_ n9_ n10_; (try clear hb); (try clear hb2); (try clear hk); (try clear hi); (try clear ho0); obtain ⟨Ao52, co52, eo52⟩ := Kd.R_slice HO738.out; subst eo52) | (go_at_call 37; (with_reducible refine (dom_Meet.calls k _ _ t703 _ _ t703 t740 _ ?side1 ?side2 ?side3 ?side4 A26.out).mono ?_); (case side1 => repeat (first | exact (Kd.R_reads' HO705.out).2.2 | (with_reducible refine Kd.C_alloc ?_ _) | (with_reducible refine Kd.C_drewN ?_ _) | (with_reducible refine Kd.C_drew ?_))); (case side2 => exact (Kd.R_reads' HO705.out).2.1); (case side3 => repeat (first | exact (Kd.R_reads' HO705.out).2.2 | (with_reducible refine Kd.C_alloc ?_ _) | (with_reducible refine Kd.C_drewN ?_ _) | (with_reducible refine Kd.C_drew ?_))); (case side4 => exact (Kd.R_reads' HO705.out).2.1); rintro e w53 ⟨v741, rfl, ho0, hb⟩; have n0_ := Aside0.mk (Kd.R_elder' (by (with_reducible repeat (first | apply Kd.R_alloc | apply Kd.R_drewN | apply Kd.R_drew)); exact HO705.out) (Kd.R_base ho0) hb); have n1_ := Aside0.mk (Kd.R_elder' (by (with_reducible repeat (first | apply Kd.R_alloc | apply Kd.R_drewN | apply Kd.R_drew)); exact HO708.out) (Kd.R_base ho0) hb); have n2_ := Aside0.mk (Kd.R_elder' (by (with_reducible repeat (first | apply Kd.R_alloc | apply Kd.R_drewN | apply Kd.R_drew)); exact HO711.out) (Kd.R_base ho0) hb); have n3_ := Aside0.mk (Kd.R_elder' (by (with_reducible repeat (first | apply Kd.R_alloc | apply Kd.R_drewN | apply Kd.R_drew)); exact HO714.out) (Kd.R_base ho0) hb); have n4_ := Aside0.mk (Kd.R_elder' (by (with_reducible repeat (first | apply Kd.R_alloc | apply Kd.R_drewN | apply Kd.R_drew)); exact HO717.out) (Kd.R_base ho0) hb); have n5_ := Aside0.mk (Kd.R_elder' (by (with_reducible repeat (first | apply Kd.R_alloc | apply Kd.R_drewN | apply Kd.R_drew)); exact HO720.out) (Kd.R_base ho0) hb); have n6_ := Aside0.mk (Kd.R_elder' (by (with_reducible repeat (first | apply Kd.R_alloc | apply Kd.R_drewN | apply Kd.R_drew)); exact HO724.out) (Kd.R_base ho0) hb); have n7_ := Aside0.mk (Kd.R_elder' (by (with_reducible repeat (first | apply Kd.R_alloc | apply Kd.R_drewN | apply Kd.R_drew)); exact HO727.out) (Kd.R_base ho0) hb); have n8_ := Aside0.mk (Kd.R_elder' (by (with_reducible repeat (first | apply Kd.R_alloc | apply Kd.R_drewN | apply Kd.R_drew)); exact HO731.out) (Kd.R_base ho0) hb); have n9_ := Aside0.mk (Kd.R_elder' (by (with_reducible repeat (first | apply Kd.R_alloc | apply Kd.R_drewN | apply Kd.R_drew)); exact HO738.out) (Kd.R_base ho0) hb); have n10_ := Aside0.mk (Kd.R_lower (Kd.R_new' (Kd.R_new' (Kd.R_new' (Kd.R_new' (Kd.R_new' (Kd.R_new' (Kd.R_new' (Kd.R_new' (Kd.R_new' (Kd.R_new' ho0 (Kd.R_lt (by (with_reducible repeat (first | apply Kd.R_alloc | apply Kd.R_drewN | apply Kd.R_drew)); exact HO705.out))) (Kd.R_lt (by (with_reducible repeat (first | apply Kd.R_alloc | apply Kd.R_drewN | apply Kd.R_drew)); exact HO708.out))) (Kd.R_lt (by (with_reducible repeat (first | apply Kd.R_alloc | apply Kd.R_drewN | apply Kd.R_drew)); exact HO711.out))) (Kd.R_lt (by (with_reducible repeat (first | apply Kd.R_alloc | apply Kd.R_drewN | apply Kd.R_drew)); exact HO714.out))) (Kd.R_lt (by (with_reducible repeat (first | apply Kd.R_alloc | apply Kd.R_drewN | apply Kd.R_drew)); exact HO717.out))) (Kd.R_lt (by (with_reducible repeat (first | apply Kd.R_alloc | apply Kd.R_drewN | apply Kd.R_drew)); exact HO720.out))) (Kd.R_lt (by (with_reducible repeat (first | apply Kd.R_alloc | apply Kd.R_drewN | apply Kd.R_drew)); exact HO724.out))) (Kd.R_lt (by (with_reducible repeat (first | apply Kd.R_alloc | apply Kd.R_drewN | apply Kd.R_drew)); exact HO727.out))) (Kd.R_lt (by (with_reducible repeat (first | apply Kd.R_alloc | apply Kd.R_drewN | apply Kd.R_drew)); exact HO731.out))) (Kd.R_lt (by (with_reducible repeat (first | apply Kd.R_alloc | apply Kd.R_drewN | apply Kd.R_drew)); exact HO738.out))) (below_size (by repeat (first | (with_reducible first | exact HB.out | apply below_alloc | apply pw_below_drewN | apply below_drew1) | exact HB.out)))); have n11_ := Aside0.mk (below_step (by repeat (first | (with_reducible first | exact HB.out | apply below_alloc | apply pw_below_drewN | apply below_drew1) | exact HB.out)) hb); clear HO705; clear HO708; clear HO711; clear HO714; clear HO717; clear HO720; clear HO724; clear HO727; clear HO731; clear HO738; clear HB; have HO705 := n0_; have HO708 := n1_; have HO711 := n2_; have HO714 := n3_; have HO717 := n4_; have HO720 := n5_; have HO724 := n6_; have HO727 := n7_; have HO731 := n8_; have HO738 := n9_; have HO742 := n10_; have HB := n11_; clear n0_ n1_ n2_ n3_ n4_ n5_ n6_ n7_ n8_ n9_ n10_ n11_; (try clear hb); (try clear hb2); (try clear hk); (try clear hi); (try clear ho0); obtain ⟨Ao54, co54, eo54⟩ := Kd.R_slice HO742.out; subst eo54) | (go_at_call 35; (with_reducible refine (dom_Same.calls k _ _ t740 _ _ t703 true _ ?side1 ?side2 ?side3 ?side4 A27.out).mono ?_); (case side1 => repeat (first | exact (Kd.R_reads' HO742.out).2.2 | (with_reducible refine Kd.C_alloc ?_ _) | (with_reducible refine Kd.C_drewN ?_ _) | (with_reducible refine Kd.C_drew ?_))); (case side2 => exact (Kd.R_reads' HO742.out).2.1); (case side3 => repeat (first | exact (Kd.R_reads' HO705.out).2.2 | (with_reducible refine Kd.C_alloc ?_ _) | (with_reducible refine Kd.C_drewN ?_ _) | (with_reducible refine Kd.C_drew ?_))); (case side4 => exact (Kd.R_reads' HO705.out).2.1); rintro e w' ⟨rfl, ⟨nd, rfl⟩⟩) | (go_at_call 19; (with_reducible refine (secateurlaw02_fixed.calls k  t744 _ A29.out).mono ?_); rintro e w55 ⟨rfl, hb⟩; have n0_ := Aside0.mk (Kd.R_below (by (with_reducible repeat (first | apply Kd.R_alloc | apply Kd.R_drewN | apply Kd.R_drew)); exact HO705.out) hb); have n1_ := Aside0.mk (Kd.R_below (by (with_reducible repeat (first | apply Kd.R_alloc | apply Kd.R_drewN | apply Kd.R_drew)); exact HO708.out) hb); have n2_ := Aside0.mk (Kd.R_below (by (with_reducible repeat (first | apply Kd.R_alloc | apply Kd.R_drewN | apply Kd.R_drew)); exact HO711.out) hb); have n3_ := Aside0.mk (Kd.R_below (by (with_reducible repeat (first | apply Kd.R_alloc | apply Kd.R_drewN | apply Kd.R_drew)); exact HO714.out) hb); have n4_ := Aside0.mk (Kd.R_below (by (with_reducible repeat (first | apply Kd.R_alloc | apply Kd.R_drewN | apply Kd.R_drew)); exact HO717.out) hb); have n5_ := Aside0.mk (Kd.R_below (by (with_reducible repeat (first | apply Kd.R_alloc | apply Kd.R_drewN | apply Kd.R_drew)); exact HO720.out) hb); have n6_ := Aside0.mk (Kd.R_below (by (with_reducible repeat (first | apply Kd.R_alloc | apply Kd.R_drewN | apply Kd.R_drew)); exact HO724.out) hb); have n7_ := Aside0.mk (Kd.R_below (by (with_reducible repeat (first | apply Kd.R_alloc | apply Kd.R_drewN | apply Kd.R_drew)); exact HO727.out) hb); have n8_ := Aside0.mk (Kd.R_below (by (with_reducible repeat (first | apply Kd.R_alloc | apply Kd.R_drewN | apply Kd.R_drew)); exact HO731.out) hb); have n9_ := Aside0.mk (Kd.R_below (by (with_reducible repeat (first | apply Kd.R_alloc | apply Kd.R_drewN | apply Kd.R_drew)); exact HO738.out) hb); have n10_ := Aside0.mk (Kd.R_below (by (with_reducible repeat (first | apply Kd.R_alloc | apply Kd.R_drewN | apply Kd.R_drew)); exact HO742.out) hb); have n11_ := Aside0.mk (below_step (by repeat (first | (with_reducible first | exact HB.out | apply below_alloc | apply pw_below_drewN | apply below_drew1) | exact HB.out)) hb); clear HO705; clear HO708; clear HO711; clear HO714; clear HO717; clear HO720; clear HO724; clear HO727; clear HO731; clear HO738; clear HO742; clear HB; have HO705 := n0_; have HO708 := n1_; have HO711 := n2_; have HO714 := n3_; have HO717 := n4_; have HO720 := n5_; have HO724 := n6_; have HO727 := n7_; have HO731 := n8_; have HO738 := n9_; have HO742 := n10_; have HB := n11_; clear n0_ n1_ n2_ n3_ n4_ n5_ n6_ n7_ n8_ n9_ n10_ n11_; (try clear hb); (try clear hb2); (try clear hk); (try clear hi)) | (go_at_call 35; (refine (dom_Same.calls k _ _ t736 _ _ ([] : List (S52)) true _ ?side1 ?side2 ?side3 ?side4 A24.out).mono ?_); (case side1 => repeat (first | exact (Kd.R_reads' HO738.out).2.2 | (with_reducible refine Kd.C_alloc ?_ _) | (with_reducible refine Kd.C_drewN ?_ _) | (with_reducible refine Kd.C_drew ?_))); (case side2 => exact (Kd.R_reads' HO738.out).2.1); (case side3 => exact Kd.C_nil _ _); (case side4 => exact Nat.le_refl _); rintro e w' ⟨rfl, ⟨nd, rfl⟩⟩))
       go_ret
       exact ⟨by first | rfl | (simp [errW_none, errW_some] <;> rfl) | (simp [*, errW_none, errW_some] <;> rfl), by repeat (first | (with_reducible first | exact HB.out | apply below_alloc | apply pw_below_drewN | apply below_drew1) | exact HB.out)⟩
      ·replace c28 := Bool.eq_false_iff.mpr c28
       subst c28
       have H1 : (none) = some r := by rw [if_neg (show ¬ (false = true) by decide)] at H; exact H
       clear H
       have H := H1
       clear H1
       exact absurd H (by simp)
     ·replace c25 := Bool.eq_false_iff.mpr c25
      subst c25
      have H1 : (none) = some r := by rw [if_neg (show ¬ (false = true) by decide)] at H; exact H
      clear H
      have H := H1
      clear H1
      exact absurd H (by simp)
    ·rw [if_neg c22] at H
     exact absurd H (by simp)
   ·replace c18 := Bool.eq_false_iff.mpr c18
    subst c18
    have H1 : (none) = some r := by rw [if_neg (show ¬ (false = true) by decide)] at H; exact H
    clear H
    have H := H1
    clear H1
    exact absurd H (by simp)
  ·replace c15 := Bool.eq_false_iff.mpr c15
   subst c15
   have H1 : (none) = some r := by rw [if_neg (show ¬ (false = true) by decide)] at H; exact H
   clear H
   have H := H1
   clear H1
   exact absurd H (by simp)
 ·replace c11 := Bool.eq_false_iff.mpr c11
  subst c11
  have H1 : (none) = some r := by rw [if_neg (show ¬ (false = true) by decide)] at H; exact H
  clear H
  have H := H1
  clear H1
  exact absurd H (by simp)

/-- THE ONE PURE STATEMENT of secateurlaw02_DomOrders: yours. -/
def secateurlaw02_DomOrders.Pure : Prop := ∀ (l0 : List Int) (l1 : List Int) (a2 : Int), l0.length ≤ maxLen → l0.length * 8 ≤ 140737488351232 → (∀ x ∈ l0, (Lit.int .i64 x).wf = true) → l1.length ≤ maxLen → l1.length * 8 ≤ 140737488351232 → (∀ x ∈ l1, (Lit.int .i64 x).wf = true) → (Lit.int .i64 a2).wf = true → ∃ k, secateurlaw02_DomOrders.f k l0 l1 a2 = some true
theorem secateurlaw02_DomOrders.walk (P : secateurlaw02_DomOrders.Pure) (a0 : Option Addr) (len0 cap0 : Nat) (z0 : List Int) (a1 : Option Addr) (len1 cap1 : Nat) (z1 : List Int) (a2 : Int) (w : World) (w0 : (a0 = none ∧ len0 = 0 ∧ cap0 = 0 ∧ z0 = []) ∨ ∃ x, a0 = some x ∧ len0 ≤ cap0 ∧ cap0 ≤ maxLen ∧ z0.length = cap0 ∧ (∀ i, i < z0.length → w.cell? (x.add i) = some (.int .i64 (z0.getD i 0))) ∧ ∀ n ∈ z0, (Lit.int .i64 n).wf = true) (y0 : len0 * 8 ≤ 140737488351232) (w1 : (a1 = none ∧ len1 = 0 ∧ cap1 = 0 ∧ z1 = []) ∨ ∃ x, a1 = some x ∧ len1 ≤ cap1 ∧ cap1 ≤ maxLen ∧ z1.length = cap1 ∧ (∀ i, i < z1.length → w.cell? (x.add i) = some (.int .i64 (z1.getD i 0))) ∧ ∀ n ∈ z1, (Lit.int .i64 n).wf = true) (y1 : len1 * 8 ≤ 140737488351232) (w2 : (Lit.int .i64 a2).wf = true) :
  Calls Try.prog 11 #[.slice a0 len0 cap0, .slice a1 len1 cap1, .int .i64 a2] w fun e w' => e = .returned (.bool true) ∧ Below w.heap.size w w' := by
 obtain ⟨l0, rfl, hr0, hm0, hw0, hc0⟩ := ReadsInt.ofRowC w0
 obtain ⟨l1, rfl, hr1, hm1, hw1, hc1⟩ := ReadsInt.ofRowC w1
 obtain ⟨k, h⟩ := P l0 l1 a2 hm0 y0 hw0 hm1 y1 hw1 w2
 refine (secateurlaw02_DomOrders.calls k _ _ l0 _ _ l1 a2 true w (Kd.C_of_reads (d := (0 : Int)) (h1 := fun _ => rfl) hr0) hc0 (Kd.C_of_reads (d := (0 : Int)) (h1 := fun _ => rfl) hr1) hc1 h).mono ?_
 rintro e w' ⟨rfl, hd⟩
 exact ⟨rfl, hd⟩

end Go.Proofs.Ytklanjkndoikeaa.P

/- Plain: what is in both, in one, in the first one alone, from one value to another one. -/
namespace Go.Proofs.Ytklanjkndoikeaa.P
open Go.RowKit Go.Proofs.YtklanjkndoikeaaW.PrintWords Go.Proofs.YtklanjkndoikeaaW.PrintLast Go.Proofs.YtklanjkndoikeaaW.PrintMore
set_option linter.unusedVariables false
set_option linter.unusedSimpArgs false

/-- r is a domain, and its values are just those of which q is true. -/
def DomOf (r : List Rg) (q : Int → Prop) : Prop := Gd 1048576 (-1048576) r ∧ ∀ v, Va r v ↔ q v
theorem DomOf.eq {r s : List Rg} {q q' : Int → Prop} (h : DomOf r q) (k : DomOf s q') (e : ∀ v, q v ↔ q' v) : r = s := Gd.ext h.1 k.1 (fun v => (h.2 v).trans ((e v).trans (k.2 v).symm))
theorem DomOf.len {r : List Rg} {q : Int → Prop} (h : DomOf r q) : r.length ≤ 2097153 := by
  have h1 := length_le_vals h.1
  have h2 := vals_length h.1
  omega
theorem Gd.at {V b : Int} {d : List Rg} (h : Gd V b d) {n : Nat} (hn : n < d.length) : b ≤ d[n].f0 ∧ d[n].f0 ≤ d[n].f1 ∧ d[n].f1 ≤ V ∧ Gd V (d[n].f1 + 2) (d.drop (n + 1)) := by
  have hg := h.drop n
  rw [List.drop_eq_getElem_cons hn] at hg
  exact hg
theorem Va_drop {d : List Rg} {n : Nat} (hn : n < d.length) (v : Int) : Va (d.drop n) v ↔ (d[n].f0 ≤ v ∧ v ≤ d[n].f1) ∨ Va (d.drop (n + 1)) v := by rw [List.drop_eq_getElem_cons hn, Va_cons]

/-! ### Meet, Cut -/
theorem Meet_l0 (a b : List Rg) {Vb ba bb : Int} (ha : Gd 1048576 ba a) (hba : -1048576 ≤ ba) (hb : Gd Vb bb b) (hla : a.length ≤ 3000000) (hlb : b.length ≤ 3000000) : ∀ (m i j : Nat) (out : List Rg), (a.length - i) + (b.length - j) ≤ m → i ≤ a.length → j ≤ b.length →
    out.length ≤ i + j → Gd 1048576 (-1048576) out → (∀ v, Va (a.drop i) v → Va (b.drop j) v → endB (-1048576) out ≤ v) →
    ∃ r, Ev (fun k => dom_Meet.l0 k a b out (i : Int) (j : Int)) r ∧ DomOf r (fun v => Va out v ∨ (Va (a.drop i) v ∧ Va (b.drop j) v)) := by
  intro m
  induction m with
  | zero =>
    intro i j out hm hi hj ho hg _
    have e1 : a.drop i = [] := List.drop_eq_nil_iff.2 (by omega)
    refine ⟨out, ?_, hg, fun v => by rw [e1]; simp⟩
    refine Ev.step (fun k => by rw [dom_Meet.l0, if_neg (by omega)]) ?_
    exact Ev.step (G := fun _ => some out) (fun k => by rw [dom_Meet.j1, if_neg (by simp)]) (Ev.pure _)
  | succ m ih =>
    intro i j out hm hi hj ho hg hend
    by_cases hil : i < a.length
    · by_cases hjl : j < b.length
      · obtain ⟨x1, x2, x3, x4⟩ := ha.at hil
        obtain ⟨y1, y2, y3, y4⟩ := hb.at hjl
        have hxa := show rd_T52 a (i : Int) = a[i] from rg_nat a i hil
        have hyb := show rd_T52 b (j : Int) = b[j] from rg_nat b j hjl
        have hva := Va_drop hil
        have hvb := Va_drop hjl
        have enter : ∀ {r}, Ev (fun k => dom_Meet.j1 k a b out (i : Int) (j : Int) true) r → Ev (fun k => dom_Meet.l0 k a b out (i : Int) (j : Int)) r := fun h =>
          Ev.step (fun k => by rw [dom_Meet.l0, if_pos (by omega), decide_eq_true (show (j : Int) < (b.length : Int) by omega)]) h
        by_cases hlt : a[i].f1 < b[j].f1
        · have next : ∀ out', out'.length ≤ i + 1 + j → Gd 1048576 (-1048576) out' → (∀ v, Va (a.drop (i + 1)) v → Va (b.drop j) v → endB (-1048576) out' ≤ v) → _ := fun out' h1 h2 h3 => ih (i + 1) j out' (by omega) (by omega) hj h1 h2 h3
          by_cases hin : mx a[i].f0 b[j].f0 ≤ mn a[i].f1 b[j].f1
          · have hlo : a[i].f0 ≤ mx a[i].f0 b[j].f0 ∧ b[j].f0 ≤ mx a[i].f0 b[j].f0 ∧ (mx a[i].f0 b[j].f0 = a[i].f0 ∨ mx a[i].f0 b[j].f0 = b[j].f0) := by unfold mx; split <;> omega
            have hhi : mn a[i].f1 b[j].f1 = a[i].f1 := by unfold mn; split <;> omega
            rw [hhi] at hin
            obtain ⟨r, hr, hD⟩ := next (out ++ [⟨mx a[i].f0 b[j].f0, a[i].f1⟩]) (by simp; omega) (Gd_snoc.2 ⟨hg, hend (mx a[i].f0 b[j].f0) ((hva _).2 (.inl ⟨hlo.1, hin⟩)) ((hvb _).2 (.inl ⟨hlo.2.1, by omega⟩)), hin, x3⟩) (fun v h1 h2 => by
              rw [endB_snoc]
              exact x4.ge h1)
            refine ⟨r, enter (Ev.step (fun k => by rw [dom_Meet.j1, if_pos rfl, if_pos (by omega), if_pos (by omega), if_pos (by omega), if_pos (by omega), hxa, hyb, hhi, if_pos hin, if_pos (by omega), Option.bind_some, if_pos hlt, w1 (by omega)]) hr), hD.1, fun v => ?_⟩
            have hv := hD.2 v
            dsimp only at hv ⊢
            rw [hv, Va_append, Va_cons, hva v, hvb v]
            simp only [Va_nil, or_false]
            constructor
            · rintro ((h | h) | ⟨h1, h2⟩)
              · exact .inl h
              · exact .inr ⟨.inl ⟨by omega, h.2⟩, .inl ⟨by omega, by omega⟩⟩
              · exact .inr ⟨.inr h1, h2⟩
            · rintro (h | ⟨h1 | h1, h2⟩)
              · exact .inl (.inl h)
              · rcases h2 with h2 | h2
                · exact .inl (.inr ⟨by omega, h1.2⟩)
                · have := y4.ge h2; omega
              · exact .inr ⟨h1, h2⟩
          · have hno : ¬ (∃ v, (a[i].f0 ≤ v ∧ v ≤ a[i].f1) ∧ (b[j].f0 ≤ v ∧ v ≤ b[j].f1)) := by
              rintro ⟨v, h1, h2⟩
              apply hin
              unfold mx mn
              split <;> split <;> omega
            obtain ⟨r, hr, hD⟩ := next out (by omega) hg (fun v h1 h2 => hend v ((hva v).2 (.inr h1)) h2)
            refine ⟨r, enter (Ev.step (fun k => by rw [dom_Meet.j1, if_pos rfl, if_pos (by omega), if_pos (by omega), if_pos (by omega), if_pos (by omega), hxa, hyb, if_neg hin, if_pos hlt, w1 (by omega)]) hr), hD.1, fun v => ?_⟩
            have hv := hD.2 v
            dsimp only at hv ⊢
            rw [hv, hva v, hvb v]
            constructor
            · rintro (h | ⟨h1, h2⟩)
              · exact .inl h
              · exact .inr ⟨.inr h1, h2⟩
            · rintro (h | ⟨h1 | h1, h2⟩)
              · exact .inl h
              · rcases h2 with h2 | h2
                · exact absurd ⟨v, h1, h2⟩ hno
                · have := y4.ge h2; omega
              · exact .inr ⟨h1, h2⟩
        · have next : ∀ out', out'.length ≤ i + (j + 1) → Gd 1048576 (-1048576) out' → (∀ v, Va (a.drop i) v → Va (b.drop (j + 1)) v → endB (-1048576) out' ≤ v) → _ := fun out' h1 h2 h3 => ih i (j + 1) out' (by omega) hi (by omega) h1 h2 h3
          by_cases hin : mx a[i].f0 b[j].f0 ≤ mn a[i].f1 b[j].f1
          · have hlo : a[i].f0 ≤ mx a[i].f0 b[j].f0 ∧ b[j].f0 ≤ mx a[i].f0 b[j].f0 ∧ (mx a[i].f0 b[j].f0 = a[i].f0 ∨ mx a[i].f0 b[j].f0 = b[j].f0) := by unfold mx; split <;> omega
            have hhi : mn a[i].f1 b[j].f1 = b[j].f1 := by unfold mn; split <;> omega
            rw [hhi] at hin
            obtain ⟨r, hr, hD⟩ := next (out ++ [⟨mx a[i].f0 b[j].f0, b[j].f1⟩]) (by simp; omega) (Gd_snoc.2 ⟨hg, hend (mx a[i].f0 b[j].f0) ((hva _).2 (.inl ⟨hlo.1, by omega⟩)) ((hvb _).2 (.inl ⟨hlo.2.1, hin⟩)), hin, by show b[j].f1 ≤ 1048576; omega⟩) (fun v h1 h2 => by
              rw [endB_snoc]
              exact y4.ge h2)
            refine ⟨r, enter (Ev.step (fun k => by rw [dom_Meet.j1, if_pos rfl, if_pos (by omega), if_pos (by omega), if_pos (by omega), if_pos (by omega), hxa, hyb, hhi, if_pos hin, if_pos (by omega), Option.bind_some, if_neg hlt, w1 (by omega)]) hr), hD.1, fun v => ?_⟩
            have hv := hD.2 v
            dsimp only at hv ⊢
            rw [hv, Va_append, Va_cons, hva v, hvb v]
            simp only [Va_nil, or_false]
            constructor
            · rintro ((h | h) | ⟨h1, h2⟩)
              · exact .inl h
              · exact .inr ⟨.inl ⟨by omega, by omega⟩, .inl ⟨by omega, h.2⟩⟩
              · exact .inr ⟨h1, .inr h2⟩
            · rintro (h | ⟨h1, h2 | h2⟩)
              · exact .inl (.inl h)
              · rcases h1 with h1 | h1
                · exact .inl (.inr ⟨by omega, h2.2⟩)
                · have := x4.ge h1; omega
              · exact .inr ⟨h1, h2⟩
          · have hno : ¬ (∃ v, (a[i].f0 ≤ v ∧ v ≤ a[i].f1) ∧ (b[j].f0 ≤ v ∧ v ≤ b[j].f1)) := by
              rintro ⟨v, h1, h2⟩
              apply hin
              unfold mx mn
              split <;> split <;> omega
            obtain ⟨r, hr, hD⟩ := next out (by omega) hg (fun v h1 h2 => hend v h1 ((hvb v).2 (.inr h2)))
            refine ⟨r, enter (Ev.step (fun k => by rw [dom_Meet.j1, if_pos rfl, if_pos (by omega), if_pos (by omega), if_pos (by omega), if_pos (by omega), hxa, hyb, if_neg hin, if_neg hlt, w1 (by omega)]) hr), hD.1, fun v => ?_⟩
            have hv := hD.2 v
            dsimp only at hv ⊢
            rw [hv, hva v, hvb v]
            constructor
            · rintro (h | ⟨h1, h2⟩)
              · exact .inl h
              · exact .inr ⟨h1, .inr h2⟩
            · rintro (h | ⟨h1, h2 | h2⟩)
              · exact .inl h
              · rcases h1 with h1 | h1
                · exact absurd ⟨v, h1, h2⟩ hno
                · have := x4.ge h1; omega
              · exact .inr ⟨h1, h2⟩
      · have e1 : b.drop j = [] := List.drop_eq_nil_iff.2 (by omega)
        refine ⟨out, ?_, hg, fun v => by rw [e1]; simp⟩
        refine Ev.step (fun k => by rw [dom_Meet.l0, if_pos (by omega), decide_eq_false (show ¬ (j : Int) < (b.length : Int) by omega)]) ?_
        exact Ev.step (G := fun _ => some out) (fun k => by rw [dom_Meet.j1, if_neg (by simp)]) (Ev.pure _)
    · have e1 : a.drop i = [] := List.drop_eq_nil_iff.2 (by omega)
      refine ⟨out, ?_, hg, fun v => by rw [e1]; simp⟩
      refine Ev.step (fun k => by rw [dom_Meet.l0, if_neg (by omega)]) ?_
      exact Ev.step (G := fun _ => some out) (fun k => by rw [dom_Meet.j1, if_neg (by simp)]) (Ev.pure _)
theorem Meet_ev (a b : List Rg) {Vb bb : Int} (ha : Gd 1048576 (-1048576) a) (hb : Gd Vb bb b) (hlb : b.length ≤ 3000000) : ∃ r, Ev (fun k => dom_Meet.f k a b) r ∧ DomOf r (fun v => Va a v ∧ Va b v) := by
  have h1 := length_le_vals ha
  have h2 := vals_length ha
  obtain ⟨r, hr, hD⟩ := Meet_l0 a b ha (Int.le_refl _) hb (by omega) hlb (a.length + b.length) 0 0 [] (by omega) (by omega) (by omega) (by simp) trivial (fun v hv _ => by simp [endB]; exact ha.ge hv)
  exact ⟨r, hr, hD.1, fun v => by rw [hD.2 v]; simp⟩
theorem Cut_ev (a : List Rg) (lo hi : Int) (ha : Gd 1048576 (-1048576) a) : ∃ r, Ev (fun k => dom_Cut.f k a lo hi) r ∧ DomOf r (fun v => Va a v ∧ lo ≤ v ∧ v ≤ hi) := by
  by_cases h : lo > hi
  · exact ⟨[], Ev.eq (fun k => by rw [dom_Cut.f, if_pos h]) (Ev.pure _), trivial, fun v => by simp; omega⟩
  · obtain ⟨r, hr, hD⟩ := Meet_ev a [⟨lo, hi⟩] (Vb := hi) (bb := lo) ha ⟨Int.le_refl _, by show lo ≤ hi; omega, Int.le_refl _, trivial⟩ (by simp)
    exact ⟨r, Ev.eq (fun k => by rw [dom_Cut.f, if_neg h]) (Ev.bind hr (Ev.pure _)), hD.1, fun v => by rw [hD.2 v]; simp⟩

/-! ### Minus -/
/-- The rest of a range, from lo on, against the rest of b; then the rest of a. -/
theorem Minus_l1 (a b : List Rg) (ha : Gd 1048576 (-1048576) a) (hb : Gd 1048576 (-1048576) b) (hla : a.length ≤ 2097153) (hlb : b.length ≤ 2097153) (i : Nat) (hi : i < a.length)
    (next : ∀ out : List Rg, out.length ≤ (i + 1) * (b.length + 1) → Gd 1048576 (-1048576) out → endB (-1048576) out ≤ a[i].f1 + 2 →
      ∃ r, Ev (fun k => dom_Minus.l0 k b out a (a.length : Int) ((i + 1 : Nat) : Int)) r ∧ DomOf r (fun v => Va out v ∨ (Va (a.drop (i + 1)) v ∧ ¬ Va b v))) : ∀ (m j : Nat) (lo : Int) (out : List Rg), j + m = b.length → out.length ≤ i * (b.length + 1) + j →
    Gd 1048576 (-1048576) out → endB (-1048576) out ≤ lo → a[i].f0 ≤ lo → lo ≤ 1048577 → endB (-1048576) out ≤ a[i].f1 + 2 → (lo ≤ a[i].f1 ∨ ∀ v, Va (b.drop j) v → a[i].f1 < v) →
    ∃ r, Ev (fun k => dom_Minus.l1 k b out a (a.length : Int) (i : Int) b (b.length : Int) (j : Int) lo a[i].f1) r ∧ DomOf r (fun v => Va out v ∨ ((lo ≤ v ∧ v ≤ a[i].f1) ∧ ¬ Va (b.drop j) v) ∨ (Va (a.drop (i + 1)) v ∧ ¬ Va b v)) := by
  obtain ⟨x1, x2, x3, x4⟩ := ha.at hi
  have hmul : (i + 1) * (b.length + 1) = i * (b.length + 1) + (b.length + 1) := by rw [Nat.add_mul, Nat.one_mul]
  have hbig : i * (b.length + 1) ≤ 2097153 * 2097154 := Nat.mul_le_mul (by omega) (by omega)
  intro m
  induction m with
  | zero =>
    intro j lo out h ho hg he hlo hlo2 he2 hor
    have e1 : b.drop j = [] := drop_nil' h
    by_cases hle : lo ≤ a[i].f1
    · obtain ⟨r, hr, hD⟩ := next (out ++ [⟨lo, a[i].f1⟩]) (by simp; omega) (Gd_snoc.2 ⟨hg, he, hle, x3⟩) (by rw [endB_snoc]; exact Int.le_refl _)
      refine ⟨r, Ev.step (fun k => by rw [dom_Minus.l1, if_neg (by omega), if_pos hle, if_pos (by omega), w1 (by omega)]) hr, hD.1, fun v => ?_⟩
      have hv := hD.2 v
      dsimp only at hv ⊢
      rw [hv, Va_append, Va_cons, e1]
      simp [or_assoc]
    · obtain ⟨r, hr, hD⟩ := next out (by omega) hg he2
      refine ⟨r, Ev.step (fun k => by rw [dom_Minus.l1, if_neg (by omega), if_neg hle, w1 (by omega)]) hr, hD.1, fun v => ?_⟩
      have hv := hD.2 v
      dsimp only at hv ⊢
      rw [hv]
      constructor
      · rintro (h | h)
        · exact .inl h
        · exact .inr (.inr h)
      · rintro (h | ⟨h, _⟩ | h)
        · exact .inl h
        · omega
        · exact .inr h
  | succ m ih =>
    intro j lo out h ho hg he hlo hlo2 he2 hor
    have hj : j < b.length := by omega
    obtain ⟨y1, y2, y3, y4⟩ := hb.at hj
    have hyb := show rd_T52 b (j : Int) = b[j] from rg_nat b j hj
    have hvb := Va_drop hj
    -- nothing in common: go on
    have skip : (b[j].f1 < lo ∨ b[j].f0 > a[i].f1) → (∃ r, Ev (fun k => dom_Minus.l1 k b out a (a.length : Int) (i : Int) b (b.length : Int) ((j + 1 : Nat) : Int) lo a[i].f1) r ∧ DomOf r (fun v => Va out v ∨ ((lo ≤ v ∧ v ≤ a[i].f1) ∧ ¬ Va (b.drop j) v) ∨ (Va (a.drop (i + 1)) v ∧ ¬ Va b v))) := fun hs => by
      obtain ⟨r, hr, hD⟩ := ih (j + 1) lo out (by omega) (by omega) hg he hlo hlo2 he2 (hor.imp_right (fun hh v hv => hh v ((hvb v).2 (.inr hv))))
      refine ⟨r, hr, hD.1, fun v => ?_⟩
      have hv := hD.2 v
      dsimp only at hv ⊢
      rw [hv, hvb v]
      constructor
      · rintro (h | ⟨h1, h2⟩ | h)
        · exact .inl h
        · exact .inr (.inl ⟨h1, fun h3 => h3.elim (fun h3 => by omega) h2⟩)
        · exact .inr (.inr h)
      · rintro (h | ⟨h1, h2⟩ | h)
        · exact .inl h
        · exact .inr (.inl ⟨h1, fun h3 => h2 (.inr h3)⟩)
        · exact .inr (.inr h)
    by_cases c1 : b[j].f1 < lo
    · obtain ⟨r, hr, hD⟩ := skip (.inl c1)
      refine ⟨r, ?_, hD⟩
      refine Ev.step (fun k => by rw [dom_Minus.l1, if_pos (by omega), if_pos (by omega), if_pos (by omega), hyb, if_pos c1]) ?_
      exact Ev.step (fun k => by rw [dom_Minus.j2, if_pos rfl, w1 (by omega)]) hr
    · by_cases c2 : b[j].f0 > a[i].f1
      · obtain ⟨r, hr, hD⟩ := skip (.inr c2)
        refine ⟨r, ?_, hD⟩
        refine Ev.step (fun k => by rw [dom_Minus.l1, if_pos (by omega), if_pos (by omega), if_pos (by omega), hyb, if_neg c1]) ?_
        exact Ev.step (fun k => by rw [dom_Minus.j2, if_pos (decide_eq_true c2), w1 (by omega)]) hr
      · have hle : lo ≤ a[i].f1 := by
          rcases hor with h | h
          · exact h
          · have := h b[j].f0 ((hvb _).2 (.inl ⟨Int.le_refl _, y2⟩)); omega
        have hlater : b[j].f1 + 1 ≤ a[i].f1 ∨ ∀ v, Va (b.drop (j + 1)) v → a[i].f1 < v := by
          by_cases hh : b[j].f1 + 1 ≤ a[i].f1
          · exact .inl hh
          · exact .inr (fun v hv => by have := y4.ge hv; omega)
        have common : ∀ v, lo ≤ v → v ≤ a[i].f1 → (¬ ((b[j].f0 ≤ v ∧ v ≤ b[j].f1) ∨ Va (b.drop (j + 1)) v) ↔ (v < b[j].f0 ∨ (b[j].f1 + 1 ≤ v ∧ ¬ Va (b.drop (j + 1)) v))) := fun v h1 h2 => by
          constructor
          · intro hh
            by_cases h3 : v < b[j].f0
            · exact .inl h3
            · refine .inr ⟨?_, fun h4 => hh (.inr h4)⟩
              by_cases h5 : v ≤ b[j].f1
              · exact absurd (Or.inl ⟨by omega, h5⟩) hh
              · omega
          · rintro (h3 | ⟨h3, h4⟩) (h5 | h5)
            · omega
            · have := y4.ge h5; omega
            · omega
            · exact h4 h5
        have start : ∀ {r}, Ev (fun k => dom_Minus.j2 k b out a (a.length : Int) (i : Int) b (b.length : Int) (j : Int) false lo a[i].f1 b[j].f0 b[j].f1) r → Ev (fun k => dom_Minus.l1 k b out a (a.length : Int) (i : Int) b (b.length : Int) (j : Int) lo a[i].f1) r := fun hE =>
          Ev.step (fun k => by rw [dom_Minus.l1, if_pos (by omega), if_pos (by omega), if_pos (by omega), hyb, if_neg c1, decide_eq_false c2]) hE
        by_cases c3 : b[j].f0 > lo
        · obtain ⟨r, hr, hD⟩ := ih (j + 1) (b[j].f1 + 1) (out ++ [⟨lo, b[j].f0 - 1⟩]) (by omega) (by simp; omega) (Gd_snoc.2 ⟨hg, he, by show lo ≤ b[j].f0 - 1; omega, by show b[j].f0 - 1 ≤ 1048576; omega⟩) (by rw [endB_snoc]; show b[j].f0 - 1 + 2 ≤ _; omega) (by omega) (by omega) (by rw [endB_snoc]; show b[j].f0 - 1 + 2 ≤ _; omega) hlater
          refine ⟨r, start (Ev.step (fun k => by rw [dom_Minus.j2, if_neg (by simp), if_pos c3, if_pos (by omega), w64 (n := b[j].f0 - 1) (by omega) (by omega), w64 (n := b[j].f1 + 1) (by omega) (by omega), w1 (by omega)]) hr), hD.1, fun v => ?_⟩
          have hv := hD.2 v
          dsimp only at hv ⊢
          rw [hv, hvb v, Va_append, Va_cons]
          simp only [Va_nil, or_false]
          constructor
          · rintro ((h | h) | ⟨h1, h2⟩ | h)
            · exact .inl h
            · exact .inr (.inl ⟨⟨h.1, by omega⟩, (common v h.1 (by omega)).2 (.inl (by omega))⟩)
            · exact .inr (.inl ⟨⟨by omega, h1.2⟩, (common v (by omega) h1.2).2 (.inr ⟨h1.1, h2⟩)⟩)
            · exact .inr (.inr h)
          · rintro (h | ⟨h1, h2⟩ | h)
            · exact .inl (.inl h)
            · rcases (common v h1.1 h1.2).1 h2 with h3 | ⟨h3, h4⟩
              · exact .inl (.inr ⟨h1.1, by omega⟩)
              · exact .inr (.inl ⟨⟨h3, h1.2⟩, h4⟩)
            · exact .inr (.inr h)
        · obtain ⟨r, hr, hD⟩ := ih (j + 1) (b[j].f1 + 1) out (by omega) (by omega) hg (by omega) (by omega) (by omega) he2 hlater
          refine ⟨r, start (Ev.step (fun k => by rw [dom_Minus.j2, if_neg (by simp), if_neg c3, w64 (n := b[j].f1 + 1) (by omega) (by omega), w1 (by omega)]) hr), hD.1, fun v => ?_⟩
          have hv := hD.2 v
          dsimp only at hv ⊢
          rw [hv, hvb v]
          constructor
          · rintro (h | ⟨h1, h2⟩ | h)
            · exact .inl h
            · exact .inr (.inl ⟨⟨by omega, h1.2⟩, (common v (by omega) h1.2).2 (.inr ⟨h1.1, h2⟩)⟩)
            · exact .inr (.inr h)
          · rintro (h | ⟨h1, h2⟩ | h)
            · exact .inl h
            · rcases (common v h1.1 h1.2).1 h2 with h3 | ⟨h3, h4⟩
              · omega
              · exact .inr (.inl ⟨⟨h3, h1.2⟩, h4⟩)
            · exact .inr (.inr h)
theorem Minus_l0 (a b : List Rg) (ha : Gd 1048576 (-1048576) a) (hb : Gd 1048576 (-1048576) b) (hla : a.length ≤ 2097153) (hlb : b.length ≤ 2097153) : ∀ (m i : Nat) (out : List Rg), i + m = a.length → out.length ≤ i * (b.length + 1) → Gd 1048576 (-1048576) out → (∀ hi : i < a.length, endB (-1048576) out ≤ a[i].f0) →
    ∃ r, Ev (fun k => dom_Minus.l0 k b out a (a.length : Int) (i : Int)) r ∧ DomOf r (fun v => Va out v ∨ (Va (a.drop i) v ∧ ¬ Va b v)) := by
  intro m
  induction m with
  | zero =>
    intro i out h ho hg _
    refine ⟨out, Ev.step (G := fun _ => some out) (fun k => by rw [dom_Minus.l0, if_neg (by omega)]) (Ev.pure _), hg, fun v => by rw [drop_nil' h]; simp⟩
  | succ m ih =>
    intro i out h ho hg he
    have hi : i < a.length := by omega
    obtain ⟨x1, x2, x3, x4⟩ := ha.at hi
    have hxa := show rd_T52 a (i : Int) = a[i] from rg_nat a i hi
    have hva := Va_drop hi
    obtain ⟨r, hr, hD⟩ := Minus_l1 a b ha hb hla hlb i hi (fun out' h1 h2 h3 => ih (i + 1) out' (by omega) h1 h2 (fun hi1 => by
      have := (ha.at hi).2.2.2
      rw [List.drop_eq_getElem_cons hi1] at this
      have := this.1
      omega)) b.length 0 a[i].f0 out (by omega) (by omega) hg (he hi) (Int.le_refl _) (by omega) (by have := he hi; omega) (.inl x2)
    refine ⟨r, Ev.step (fun k => by rw [dom_Minus.l0, if_pos (by omega), if_pos (by omega), if_pos (by omega), hxa]; rfl) hr, hD.1, fun v => ?_⟩
    have hv := hD.2 v
    dsimp only at hv ⊢
    rw [hv, hva v, List.drop_zero]
    constructor
    · rintro (h | ⟨h1, h2⟩ | ⟨h1, h2⟩)
      · exact .inl h
      · exact .inr ⟨.inl h1, h2⟩
      · exact .inr ⟨.inr h1, h2⟩
    · rintro (h | ⟨h1 | h1, h2⟩)
      · exact .inl h
      · exact .inr (.inl ⟨h1, h2⟩)
      · exact .inr (.inr ⟨h1, h2⟩)
theorem Minus_ev (a b : List Rg) (ha : Gd 1048576 (-1048576) a) (hb : Gd 1048576 (-1048576) b) : ∃ r, Ev (fun k => dom_Minus.f k a b) r ∧ DomOf r (fun v => Va a v ∧ ¬ Va b v) := by
  have h1 := length_le_vals ha
  have h2 := vals_length ha
  have h3 := length_le_vals hb
  have h4 := vals_length hb
  obtain ⟨r, hr, hD⟩ := Minus_l0 a b ha hb (by omega) (by omega) a.length 0 [] (by omega) (by simp) trivial (fun hi => by simp [endB]; exact (ha.at hi).1)
  exact ⟨r, hr, hD.1, fun v => by have hv := hD.2 v; dsimp only at hv ⊢; rw [hv]; simp⟩

/-! ### Join -/
set_option maxHeartbeats 2000000 in
theorem Join_l0 (l : List Rg) (hl : l.length ≤ 6000000) (hok : ∀ x ∈ l, -1048576 ≤ x.f0 ∧ x.f0 ≤ x.f1 ∧ x.f1 ≤ 1048576) (hs : ∀ i j (hi : i < l.length) (hj : j < l.length), i < j → l[i].f0 ≤ l[j].f0) : ∀ (m n : Nat) (out : List Rg), n + m = l.length → out.length ≤ n → Gd 1048576 (-1048576) out →
    (∀ o y, out = o ++ [y] → ∀ x ∈ l.drop n, y.f0 ≤ x.f0) →
    ∃ r, Ev (fun k => dom_Join.l0 k out l (l.length : Int) (n : Int)) r ∧ DomOf r (fun v => Va out v ∨ Va (l.drop n) v) := by
  intro m
  induction m with
  | zero =>
    intro n out h ho hg _
    exact ⟨out, Ev.step (G := fun _ => some out) (fun k => by rw [dom_Join.l0, if_neg (by omega)]) (Ev.pure _), hg, fun v => by rw [drop_nil' h]; simp⟩
  | succ m ih =>
    intro n out h ho hg hle
    have hn : n < l.length := by omega
    have hx := show rd_T52 l (n : Int) = l[n] from rg_nat l n hn
    have hva := Va_drop hn
    obtain ⟨b1, b2, b3⟩ := hok _ (List.getElem_mem hn)
    have hlater : ∀ x ∈ l.drop (n + 1), l[n].f0 ≤ x.f0 := fun x hx => by
      obtain ⟨j, hj, rfl⟩ := List.mem_drop_iff_getElem.1 hx
      exact hs n (n + 1 + j) hn (by omega) (by omega)
    have app : endB (-1048576) out ≤ l[n].f0 → ∃ r, Ev (fun k => dom_Join.l0 k (out ++ [⟨l[n].f0, l[n].f1⟩]) l (l.length : Int) ((n + 1 : Nat) : Int)) r ∧ DomOf r (fun v => Va out v ∨ Va (l.drop n) v) := fun he => by
      obtain ⟨r, hr, hD⟩ := ih (n + 1) (out ++ [⟨l[n].f0, l[n].f1⟩]) (by omega) (by simp; omega) (Gd_snoc.2 ⟨hg, he, b2, b3⟩) (fun o y e x hx => by
        have e2 := List.append_inj_right' e rfl
        simp only [List.cons.injEq, and_true] at e2
        rw [← e2]
        exact hlater x hx)
      refine ⟨r, hr, hD.1, fun v => ?_⟩
      have hv := hD.2 v
      dsimp only at hv ⊢
      rw [hv, Va_append, Va_cons, hva v]
      simp [or_assoc]
    rcases List.eq_nil_or_concat out with rfl | ⟨o, y, rfl⟩
    · obtain ⟨r, hr, hD⟩ := app (by simp [endB]; omega)
      refine ⟨r, Ev.step (fun k => by rw [dom_Join.l0, if_pos (by omega), if_pos (by omega), if_pos (by omega), if_neg (by simp), if_pos (by simp), hx, w1 (by omega)]) hr, hD⟩
    · rw [List.concat_eq_append] at *
      have hy := (Gd_snoc.1 hg).2
      have hlen : (o ++ [y]).length = o.length + 1 := by simp
      have hlast : wrap64 (((o ++ [y]).length : Int) - 1) = ((o ++ [y]).length : Int) - 1 := w64 (by omega) (by omega)
      have hlt := show rd_T52 (o ++ [y]) (((o ++ [y]).length : Int) - 1) = y from rg_last o y
      have hyx : y.f0 ≤ l[n].f0 := hle o y rfl l[n] (by rw [List.drop_eq_getElem_cons hn]; exact List.mem_cons_self)
      have hge := (Gd_snoc.1 hg).1.end_ge
      have hw : wrap64 (y.f1 + 1) = y.f1 + 1 := w64 (by omega) (by omega)
      by_cases c : l[n].f0 ≤ y.f1 + 1
      · have hmx : y.f1 ≤ mx y.f1 l[n].f1 ∧ l[n].f1 ≤ mx y.f1 l[n].f1 ∧ (mx y.f1 l[n].f1 = y.f1 ∨ mx y.f1 l[n].f1 = l[n].f1) := by unfold mx; split <;> omega
        have hset : (o ++ [y]).set ((((o ++ [y]).length : Int) - 1)).toNat (⟨y.f0, mx y.f1 l[n].f1⟩ : Rg) = o ++ [⟨y.f0, mx y.f1 l[n].f1⟩] := by
          have : ((((o ++ [y]).length : Int) - 1)).toNat = o.length := by rw [hlen]; omega
          rw [this]
          simp
        have h9 : (o ++ [(⟨y.f0, mx y.f1 l[n].f1⟩ : Rg)]).length = o.length + 1 := by simp
        obtain ⟨r, hr, hD⟩ := ih (n + 1) (o ++ [⟨y.f0, mx y.f1 l[n].f1⟩]) (by omega) (by omega) (Gd_snoc.2 ⟨(Gd_snoc.1 hg).1, hy.1, by show y.f0 ≤ mx y.f1 l[n].f1; omega, by show mx y.f1 l[n].f1 ≤ 1048576; omega⟩) (fun o' y' e x hx => by
          have e2 := List.append_inj_right' e rfl
          simp only [List.cons.injEq, and_true] at e2
          rw [← e2]
          have := hlater x hx
          show y.f0 ≤ x.f0
          omega)
        refine ⟨r, Ev.step (fun k => by rw [dom_Join.l0, if_pos (by omega), if_pos (by omega), if_pos (by omega), if_pos (by omega), hlast, if_pos (by omega), if_pos (by omega), hx, hlt, hw, if_pos c, hset, w1 (by omega)]) hr, hD.1, fun v => ?_⟩
        have hv := hD.2 v
        dsimp only at hv ⊢
        rw [hv, Va_append, Va_append, Va_cons, Va_cons, hva v]
        simp only [Va_nil, or_false]
        constructor
        · rintro ((h | h) | h)
          · exact .inl (.inl h)
          · by_cases h2 : v ≤ y.f1
            · exact .inl (.inr ⟨h.1, h2⟩)
            · exact .inr (.inl ⟨by omega, by omega⟩)
          · exact .inr (.inr h)
        · rintro ((h | h) | h | h)
          · exact .inl (.inl h)
          · exact .inl (.inr ⟨h.1, by omega⟩)
          · exact .inl (.inr ⟨by omega, by omega⟩)
          · exact .inr h
      · obtain ⟨r, hr, hD⟩ := app (by rw [endB_snoc]; omega)
        refine ⟨r, Ev.step (fun k => by rw [dom_Join.l0, if_pos (by omega), if_pos (by omega), if_pos (by omega), if_pos (by omega), hlast, if_pos (by omega), if_pos (by omega), hx, hlt, hw, if_neg c, if_pos (by omega), w1 (by omega)]) hr, hD⟩
theorem sortedLo_perm (l : List Rg) (hok : ∀ x ∈ l, okLo x) : List.Perm ((sortedLo l).toList.map (·.r)) l := by
  have h := Go.Sort.pdq_sorts (ltOf cfLo) swoLo (l.map toLo).toArray 0 (l.map toLo).toArray.size (Go.Lib.bitLen (l.map toLo).toArray.size) true true (Nat.zero_le _) (Nat.le_refl _) (Or.inl rfl)
  have hp := h.1.2.2
  have hsz := h.1.1
  have e1 : (sortedLo l).extract 0 (l.map toLo).toArray.size = sortedLo l := by
    have : (l.map toLo).toArray.size = (sortedLo l).size := hsz.symm
    rw [this]
    simp
  have e2 : (l.map toLo).toArray.extract 0 (l.map toLo).toArray.size = (l.map toLo).toArray := by simp [List.take_of_length_le]
  rw [e2] at hp
  have hp2 : List.Perm (sortedLo l).toList (l.map toLo) := by
    have : (Go.Sort.pdq (ltOf cfLo) (l.map toLo).toArray 0 (l.map toLo).toArray.size (Go.Lib.bitLen (l.map toLo).toArray.size) true true).extract 0 (l.map toLo).toArray.size = sortedLo l := e1
    rw [this] at hp
    exact hp
  have e3 : (l.map toLo).map (·.r) = l := by
    rw [List.map_map]
    exact (List.map_congr_left (fun x hx => toLo_val (hok x hx))).trans (List.map_id' l)
  have := hp2.map (·.r)
  rwa [e3] at this
theorem sortedLo_le (l : List Rg) (i j : Nat) (hi : i < ((sortedLo l).toList.map SubLo.r).length) (hj : j < ((sortedLo l).toList.map SubLo.r).length) (hij : i < j) : (((sortedLo l).toList.map SubLo.r)[i]).f0 ≤ (((sortedLo l).toList.map SubLo.r)[j]).f0 := by
  have h := Go.Sort.pdq_sorts (ltOf cfLo) swoLo (l.map toLo).toArray 0 (l.map toLo).toArray.size (Go.Lib.bitLen (l.map toLo).toArray.size) true true (Nat.zero_le _) (Nat.le_refl _) (Or.inl rfl)
  have hsz := sortedLo_size l
  simp at hi hj
  have hs := h.2 i j (Nat.zero_le _) hij (by simp; omega)
  have hs' : ltOf cfLo (sortedLo l)[j]! (sortedLo l)[i]! = false := hs
  rw [ltLo, decide_eq_false_iff_not, getElem!_pos _ i (by omega), getElem!_pos _ j (by omega)] at hs'
  simp only [List.getElem_map, Array.getElem_toList]
  omega
theorem Join_ev (a b : List Rg) (ha : Gd 1048576 (-1048576) a) (hb : Gd 1048576 (-1048576) b) : ∃ r, Ev (fun k => dom_Join.f k a b) r ∧ DomOf r (fun v => Va a v ∨ Va b v) := by
  have h1 := length_le_vals ha
  have h2 := vals_length ha
  have h3 := length_le_vals hb
  have h4 := vals_length hb
  have hin : ∀ {d : List Rg}, Gd 1048576 (-1048576) d → ∀ x ∈ d, -1048576 ≤ x.f0 ∧ x.f0 ≤ x.f1 ∧ x.f1 ≤ 1048576 := fun hd x hx => by
    obtain ⟨n, hn, rfl⟩ := List.mem_iff_getElem.1 hx
    obtain ⟨q1, q2, q3, _⟩ := hd.at hn
    exact ⟨q1, q2, q3⟩
  have hab : ∀ x ∈ a ++ b, -1048576 ≤ x.f0 ∧ x.f0 ≤ x.f1 ∧ x.f1 ≤ 1048576 := fun x hx => (List.mem_append.1 hx).elim (hin ha x) (hin hb x)
  have hok : ∀ x ∈ a ++ b, okLo x := fun x hx => by have := hab x hx; exact ⟨by omega, by omega⟩
  have hsl : ((sortedLo (a ++ b)).toList.map (·.r)).length = (a ++ b).length := by simp [sortedLo_size]
  have hp := sortedLo_perm (a ++ b) hok
  have hsort : sortLo.f (a ++ b) = some ((sortedLo (a ++ b)).toList.map (·.r)) := by
    rw [sortLo.f, if_pos (List.all_eq_true.2 (fun x hx => decide_eq_true (hok x hx))), if_pos (by simp; omega)]
  obtain ⟨r, hr, hD⟩ := Join_l0 ((sortedLo (a ++ b)).toList.map (·.r)) (by rw [hsl]; simp; omega) (fun x hx => hab x (hp.mem_iff.1 hx)) (sortedLo_le (a ++ b)) _ 0 [] (Nat.zero_add _) (by simp) trivial (fun o y e => by simp at e)
  rw [hsl] at hr
  refine ⟨r, ?_, hD.1, fun v => ?_⟩
  · refine Ev.bind (Ev.const (show cloneR.f a = some a by rw [cloneR.f, if_pos (by omega)])) ?_
    refine Ev.ite_pos (by omega) (Ev.bind (Ev.pure _) (Ev.bind (Ev.const hsort) hr))
  · have hv := hD.2 v
    dsimp only at hv ⊢
    rw [hv, List.drop_zero]
    simp only [Va_nil, false_or]
    rw [← Va_append]
    unfold Va
    exact ⟨fun ⟨x, h1, h2⟩ => ⟨x, hp.mem_iff.1 h1, h2⟩, fun ⟨x, h1, h2⟩ => ⟨x, hp.mem_iff.2 h1, h2⟩⟩
end Go.Proofs.Ytklanjkndoikeaa.P

/- Plain: sizes of parts. -/
namespace Go.Proofs.Ytklanjkndoikeaa.P
open Go.RowKit Go.Proofs.YtklanjkndoikeaaW.PrintWords Go.Proofs.YtklanjkndoikeaaW.PrintLast Go.Proofs.YtklanjkndoikeaaW.PrintMore
set_option linter.unusedVariables false
set_option linter.unusedSimpArgs false

theorem ss_nodup {l : List Int} (h : SS l) : l.Nodup := h.imp (fun h => by omega)
/-- The size of a whole is that of its two parts. -/
theorem size_add {d r s : List Rg} {p q q' : Int → Prop} (hd : DomOf d p) (hr : DomOf r q) (hs : DomOf s q') (e : ∀ v, p v ↔ q v ∨ q' v) (no : ∀ v, q v → q' v → False) : (vals d).length = (vals r).length + (vals s).length := by
  have hn : (vals r ++ vals s).Nodup := List.nodup_append.2 ⟨ss_nodup (vals_ss hr.1), ss_nodup (vals_ss hs.1), fun x hx y hy hxy => by
    subst hxy
    exact no x ((hr.2 x).1 ((mem_vals x r).1 hx)) ((hs.2 x).1 ((mem_vals x s).1 hy))⟩
  have hp : List.Perm (vals d) (vals r ++ vals s) := (List.perm_ext_iff_of_nodup (ss_nodup (vals_ss hd.1)) hn).2 (fun x => by
    rw [List.mem_append, mem_vals, mem_vals, mem_vals, hd.2, hr.2, hs.2]
    exact e x)
  rw [hp.length_eq, List.length_append]
theorem dsm_dom (l : List Int) : DomOf (dsm l) (fun v => Va (dsm l) v) := ⟨dsm_gd l, fun _ => Iff.rfl⟩
theorem one_dom (k : Int) (h : -1048576 ≤ k ∧ k ≤ 1048576) : DomOf [⟨k, k⟩] (fun v => v = k) :=
  ⟨⟨h.1, Int.le_refl _, h.2, trivial⟩, fun v => by simp; omega⟩
theorem none_dom : DomOf [] (fun _ => False) := ⟨trivial, fun v => by simp⟩
theorem same_ev {a b : List Rg} {q q' : Int → Prop} (ha : DomOf a q) (hb : DomOf b q') (e : ∀ v, q v ↔ q' v) : Ev (fun k => dom_Same.f k a b) true := by
  obtain rfl := ha.eq hb e
  exact dom_Same_self a (by have := ha.len; omega)
end Go.Proofs.Ytklanjkndoikeaa.P

namespace Go.Proofs.Ytklanjkndoikeaa.Pure
open Go.RowKit Go.Proofs.Ytklanjkndoikeaa.P
set_option linter.unusedVariables false

theorem DomOrders : secateurlaw02_DomOrders.Pure := by
  intro l0 l1 a2 _ h0 _ _ h1 _ _
  have ga := dsm_gd l0
  have gb := dsm_gd l1
  have hv0 := dsm_vlen l0
  have len : ∀ {d : List Rg} {q : Int → Prop}, DomOf d q → d.length ≤ 3000000 := fun h => by have := h.len; omega
  have na : (dsm l0).length ≤ 3000000 := len (dsm_dom l0)
  have nb : (dsm l1).length ≤ 3000000 := len (dsm_dom l1)
  have hk := tmod_small a2 300 (by omega)
  have e300 : ((300 : Nat) : Int) = 300 := rfl
  rw [e300] at hk
  have hw : Go.RowKit.wrap64 (Int.tmod a2 300 + 1) = Int.tmod a2 300 + 1 := w64 (by omega) (by omega)
  have hlo : ∀ v, Va (dsm l0) v → -200 ≤ v ∧ v ≤ 200 := fun v hv => ⟨(dsm_good l0).1.ge hv, (dsm_good l0).1.le hv⟩
  obtain ⟨low, e1, d1⟩ := Cut_ev (dsm l0) (-1000) (Int.tmod a2 300) ga
  obtain ⟨high, e2, d2⟩ := Cut_ev (dsm l0) (Int.tmod a2 300 + 1) 1000 ga
  obtain ⟨ab, e3, d3⟩ := Meet_ev (dsm l0) (dsm l1) ga gb nb
  obtain ⟨ba, e4, d4⟩ := Meet_ev (dsm l1) (dsm l0) gb ga na
  obtain ⟨jab, e5, d5⟩ := Join_ev (dsm l0) (dsm l1) ga gb
  obtain ⟨jba, e6, d6⟩ := Join_ev (dsm l1) (dsm l0) gb ga
  obtain ⟨whole, e7, d7⟩ := Join_ev low high d1.1 d2.1
  obtain ⟨no, e8, d8⟩ := Minus_ev (dsm l0) (dsm l0) ga ga
  obtain ⟨aa, e9, d9⟩ := Meet_ev (dsm l0) (dsm l0) ga ga na
  have hsz := size_add (dsm_dom l0) d1 d2 (fun v => ⟨fun h => by
    have := hlo v h
    by_cases hh : v ≤ Int.tmod a2 300
    · exact .inl ⟨h, by omega, hh⟩
    · exact .inr ⟨h, by omega, by omega⟩, fun h => h.elim And.left And.left⟩) (fun v h1 h2 => by omega)
  have s1 := Size_ev low d1.1 (Int.le_refl _)
  have s2 := Size_ev high d2.1 (Int.le_refl _)
  have s3 := Size_ev (dsm l0) ga (Int.le_refl _)
  refine Ev.out (F := fun k => secateurlaw02_DomOrders.f k l0 l1 a2) ?_
  unfold secateurlaw02_DomOrders.f
  rw [hw]
  refine Ev.bind (Small_ev l0 h0) (Ev.bind (Small_ev l1 h1) ?_)
  refine Ev.bind e1 (Ev.bind e2 (Ev.bind e3 (Ev.bind e4 (Ev.bind (same_ev d3 d4 (fun v => and_comm)) (Ev.ite_pos rfl ?_)))))
  refine Ev.bind e5 (Ev.bind e6 (Ev.bind (same_ev d5 d6 (fun v => or_comm)) (Ev.ite_pos rfl ?_)))
  refine Ev.bind e7 (Ev.bind (same_ev d7 (dsm_dom l0) (fun v => ?_)) (Ev.ite_pos rfl ?_))
  · try dsimp only
    rw [d1.2, d2.2]
    constructor
    · rintro (h | h)
      · exact h.1
      · exact h.1
    · intro h
      have := hlo v h
      by_cases hh : v ≤ Int.tmod a2 300
      · exact .inl ⟨h, by omega, hh⟩
      · exact .inr ⟨h, by omega, by omega⟩
  refine Ev.bind s1 (Ev.bind s2 (Ev.bind s3 (Ev.ite_pos (by rw [w64 (by omega) (by omega)]; omega) ?_)))
  refine Ev.bind e8 (Ev.bind (same_ev d8 none_dom (fun v => ⟨fun h => h.2 h.1, False.elim⟩)) (Ev.ite_pos rfl ?_))
  exact Ev.bind e9 (Ev.bind (same_ev d9 (dsm_dom l0) (fun v => and_self_iff)) (Ev.ite_pos rfl (Ev.bind fixed_ev (Ev.pure _))))
end Go.Proofs.Ytklanjkndoikeaa.Pure

-- Written by wip/tools/px.py out of the translation. Lean checks it.
namespace Go.Proofs.Ytklanjkndoikeaa.domOrders
open Go.ChangeShapes Go.WideShapes Go.ChangeAt Go.RowKit
open Go.ChangeMaps (open_string shut_string)
set_option linter.unusedVariables false
theorem own : ownKnob Try.prog.godebug = none := by kernel_rfl
theorem laidOut : laidOutB Try.prog = true := by kernel_rfl
def IsRow (k : IntKind) (w : World) (a : Option Addr) (len cap : Nat) (zs : List Int) : Prop :=
 (a = none ∧ len = 0 ∧ cap = 0 ∧ zs = []) ∨
 ∃ x, a = some x ∧ len ≤ cap ∧ cap ≤ maxLen ∧ zs.length = cap ∧ (∀ i, i < zs.length → w.cell? (x.add i) = some (.int k (zs.getD i 0))) ∧ ∀ n ∈ zs, (Lit.int k n).wf = true
set_option maxRecDepth 100000 in
theorem lifted (os : Os) (started : os.Started) (H : Type) (enc : TypeId × Value → H) :
  ReturnsInHanded {} Try.checked os 11 .any (Rows.domOrdersSpec.pre6 enc Try.prog Try.f11 Rows.domOrdersRow.domain false) (Rows.domOrdersSpec.post enc Try.prog Try.f11 false true false false) := by
 refine returnsInHanded_of_change_sized (C := Try.checked) own started (by kernel_rfl) Try.func11
  (ChangeSpec.witness6 (enc := enc) (C := Try.checked) false ⟨#[], #[.slice none 0 0, .slice none 0 0, .int .i64 0], []⟩ 8 (by kernel_rfl) (by kernel_rfl) (by kernel_rfl) (by kernel_rfl)) ?_
 intro W base args ds gs before hval0 hW hcnd hsz0 _
 have hsz : (DataW.weightsEach Try.prog (Try.f11.params.toList ++ Rows.domOrdersSpec.plain.varTypes Try.prog) (ds ++ gs)).all (· ≤ reachBytes) = true := hsz0
 have hval : ∀ (j : Nat) t v, Try.f11.params[j]? = some t → args[j]? = some v → Value.okWide Try.prog W .any base t v := hval0
 have hW' := hW
 obtain ⟨p, q, hA0, hV, rfl, hfz, hnd⟩ := hW
 have hA : DataW.TrodAll enc Try.prog W 0 (fun _ => true) true Try.f11.params.toList args.toList ds p := hA0
 rw [Try.params11] at hA hval hsz
 obtain ⟨v0, vs0, d0, ds0, p0, q0, hargs, rfl, rfl, h0, r0⟩ := trodAll_cons hA
 obtain ⟨v1, vs1, d1, ds1, p1, q1, rfl, rfl, rfl, h1, r1⟩ := trodAll_cons r0
 obtain ⟨v2, vs2, d2, ds2, p2, q2, rfl, rfl, rfl, h2, r2⟩ := trodAll_cons r1
 obtain ⟨rfl, rfl, rfl⟩ := trodAll_nil r2
 obtain rfl : args = #[v0, v1, v2] := by cases args; simp_all
 obtain ⟨rfl, rfl⟩ := trodVars_none hV
 obtain ⟨a0, len0, cap0, rfl⟩ := okWide_slice Try.underlying23 (hval 0 23 v0 rfl rfl)
 have k0 := h0
 have lt0 : ∀ x ∈ p0, x.block < W.heap.size := by obtain ⟨m, hm⟩ := k0; exact DataW.trod_lt m _ _ _ hm
 obtain ⟨z0, w0⟩ : ∃ zs, IsRow .i64 W a0 len0 cap0 zs := by
  obtain ⟨fuel, hf⟩ := h0
  rcases open_ints Try.underlying23 Try.underlying3 (by kernel_rfl) hf with ⟨hcs, _⟩ | ⟨x, l, c, zs, hcs, _, hl, hm, hz, _, hcell, hwz⟩
  ·simp [Value.cells] at hcs
   obtain ⟨rfl, rfl, rfl⟩ := hcs
   exact ⟨[], .inl ⟨rfl, rfl, rfl, rfl⟩⟩
  ·simp [Value.cells] at hcs
   obtain ⟨rfl, rfl, rfl⟩ := hcs
   exact ⟨zs, .inr ⟨_, rfl, hl, hm, by simpa using hz, hcell, hwz⟩⟩
 have y0 : len0 * 8 ≤ 140737488351232 := Go.Proofs.YtklanjkndoikeaaW.PrintWords.sized_ints hsz (j := 0) (t := 23) rfl rfl Try.underlying23 Try.underlying3 (by kernel_rfl) (by kernel_rfl) h0
 obtain ⟨a1, len1, cap1, rfl⟩ := okWide_slice Try.underlying23 (hval 1 23 v1 rfl rfl)
 have k1 := h1
 have lt1 : ∀ x ∈ p1, x.block < W.heap.size := by obtain ⟨m, hm⟩ := k1; exact DataW.trod_lt m _ _ _ hm
 obtain ⟨z1, w1⟩ : ∃ zs, IsRow .i64 W a1 len1 cap1 zs := by
  obtain ⟨fuel, hf⟩ := h1
  rcases open_ints Try.underlying23 Try.underlying3 (by kernel_rfl) hf with ⟨hcs, _⟩ | ⟨x, l, c, zs, hcs, _, hl, hm, hz, _, hcell, hwz⟩
  ·simp [Value.cells] at hcs
   obtain ⟨rfl, rfl, rfl⟩ := hcs
   exact ⟨[], .inl ⟨rfl, rfl, rfl, rfl⟩⟩
  ·simp [Value.cells] at hcs
   obtain ⟨rfl, rfl, rfl⟩ := hcs
   exact ⟨zs, .inr ⟨_, rfl, hl, hm, by simpa using hz, hcell, hwz⟩⟩
 have y1 : len1 * 8 ≤ 140737488351232 := Go.Proofs.YtklanjkndoikeaaW.PrintWords.sized_ints hsz (j := 1) (t := 23) rfl rfl Try.underlying23 Try.underlying3 (by kernel_rfl) (by kernel_rfl) h1
 obtain ⟨a2, rfl, rfl, rfl, w2⟩ := open_int Try.underlying3 (hval 2 3 v2 rfl rfl) h2
 clear hA0 hval0 hsz0 hsz
 refine (P.secateurlaw02_DomOrders.walk Pure.DomOrders a0 len0 cap0 z0 a1 len1 cap1 z1 a2 W w0 y0 w1 y1 w2).mono fun e W' ⟨he, bel⟩ => ?_
 subst he
 exact ⟨_, rfl, _, _, _, [], _, [], hW', trodAll_mk1 (shut_bool Try.underlying4 _), (trodAll_cons_mk (Below.trod laidOut (by kernel_rfl) (of_decide_eq_true (by kernel_rfl)) k0 bel lt0) (trodAll_cons_mk (Below.trod laidOut (by kernel_rfl) (of_decide_eq_true (by kernel_rfl)) k1 bel lt1) (trodAll_cons_mk (shut_int Try.underlying3 w2) trodAll_mk0))), rfl, bel.frame _, fun h => by cases h⟩
theorem over : Rows.domOrdersRow.holds Try.pinned (OpenSpec.ofChange Rows.domOrdersSpec) :=
 OpenClaim.holds_of_wide 11 Try.f11 rfl rfl rfl rfl rfl rfl rfl ⟨rfl, rfl, rfl, rfl, rfl⟩ rfl rfl rfl rfl rfl (by kernel_rfl) Try.func11 (by kernel_rfl)
  (of_decide_eq_true (by kernel_rfl)) (by unfold Func.isWrapper; first | (rw [if_pos (by decide +kernel)]; kernel_rfl) | (rw [if_neg (by decide +kernel)]; exact ⟨rfl, rfl⟩))
  (fun os started H enc _ => lifted os started H enc)
theorem proved : Rows.DomOrdersSaid := over
end Go.Proofs.Ytklanjkndoikeaa.domOrders
namespace Go.Proofs.Ytklanjkndoikeaa
/-- The row, under a short name, for the claim. -/
theorem domOrders_holds : Rows.DomOrdersSaid := domOrders.proved
end Go.Proofs.Ytklanjkndoikeaa
