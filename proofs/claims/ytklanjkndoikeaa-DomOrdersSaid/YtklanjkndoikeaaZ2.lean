/- Proved: what each function of the program that the statements of this seat reach comes to, for whatever memory and arguments it is called with (on condition that its plain text tells a result). -/
import Derived.Test.YtklanjkndoikeaaZ1
import Derived.RangeFuncNested
import Derived.RangeFuncBox
import Derived.RangeFuncBound
import Derived.RangeFuncCalls
import Derived.RangeFuncLeaves
import Derived.Shelf.Abstract
import Derived.Shelf.AbstractIn
import Derived.WalkKit
import Derived.OwnWalkIn
import Derived.TacticsInMore
import Derived.LoopNIn
import Derived.LoopIn
import Derived.Maps.AppendAt
import Derived.StillTail
import Derived.StillTailTactics
import Derived.OrdersIn
import Derived.Shelf.SlLaysF0
import Derived.Shelf.SlLaysM
import Derived.Test.YtklanjkndoikeaaProg
import Derived.Shelf.SortM.Plain
import Derived.Shelf.SortM.SortNone
import Derived.Sort.OwnSortedInts
import Derived.Shelf.GgClosure.Gives
import Derived.Lib.SlBy
import Derived.Deep.LoopGhost

/- The iterators that the program goes over: the values of a domain (dom.all), the values of a slice (slices.Values); what comes, round by round, for every loop body that keeps the rest of memory. -/
namespace Go.Proofs.Ytklanjkndoikeaa.P
open Go.RowKit Go.Shelf Go.Proofs.YtklanjkndoikeaaW.PrintWords Go.Proofs.YtklanjkndoikeaaW.PrintLast Go.Proofs.YtklanjkndoikeaaW.PrintMore
set_option linter.unusedVariables false
set_option linter.unusedSimpArgs false
attribute [local go_sem] Oper.semAt_some

/-- Blocks of cells of type t stay as they are. -/
def KeepsTy (t : Nat) (W W' : World) : Prop := ∀ (k : Nat) (cs : Array Value) (fr : Nat × Nat), W.heap[k]? = some (Obj.cells cs t fr) → W'.heap[k]? = some (Obj.cells cs t fr)
theorem KeepsTy.refl (t : Nat) (W : World) : KeepsTy t W W := fun _ _ _ h => h
theorem KeepsTy.trans {t : Nat} {A B C : World} (h : KeepsTy t A B) (k : KeepsTy t B C) : KeepsTy t A C := fun i cs fr hi => k i cs fr (h i cs fr hi)
theorem KeepsTy.grown {t : Nat} {W W' : World} {row : Option Nat} (hg : W.grownBy W' row) (hr : ∀ r, row = some r → ∀ cs fr, W.heap[r]? ≠ some (Obj.cells cs t fr)) : KeepsTy t W W' := fun k cs fr h =>
  (hg.block k (Array.getElem?_eq_some_iff.1 h).1 (fun e => hr k e.symm cs fr h)).trans h
theorem KeepsTy.alloc (t : Nat) (W : World) (o : Obj) : KeepsTy t W (W.alloc o) := KeepsTy.grown (World.grownBy_alloc W o none) (fun r e => by cases e)
theorem KeepsTy.box {t t' B : Nat} {W : World} {v v' : Value} (h : Boxed W B t' v) (hne : t' ≠ t) : KeepsTy t W (W.setCell ⟨B, 0, none⟩ v') :=
  KeepsTy.grown (grownBy_setCell' W B v') (fun r e cs fr hh => by
    cases e
    have := (show W.heap[B]? = _ from h).symm.trans hh
    simp at this
    exact hne this.2.1)
theorem KeepsTy.putObj {t l : Nat} {W : World} {o : Obj} (o' : Obj) (h : W.heap[l]? = some o) (ho : o.isCells = false) : KeepsTy t W (W.putObj l o') :=
  KeepsTy.grown (grownBy_putObj' W l o') (fun r e cs fr hh => by
    cases e
    rw [h] at hh
    cases hh
    cases ho)
/-- A row of elements of another type is written. -/
theorem KeepsTy.row {t e base size n : Nat} {W W' : World} {v : Value} {xs : List Value} (hr : W.ownsRow base e size v n xs) (hne : e ≠ t) (hg : W.grownBy W' v.ownBlock) : KeepsTy t W W' :=
  KeepsTy.grown hg (fun r er cs fr hh => by
    rcases hr.2 with ⟨rfl, _⟩ | ⟨g, cap, cur, rfl, _, hgb, _⟩
    · simp [Value.ownBlock] at er
    · obtain rfl : g = r := by simpa [Value.ownBlock] using er
      rw [hgb] at hh
      simp at hh
      exact hne hh.2.1)

/-- What a round that goes on keeps: all that lay below n₀, and the blocks of ranges. -/
def Kp (n₀ : Nat) (W W' : World) : Prop := Below n₀ W W' ∧ KeepsTy 52 W W'
theorem Kp.t {n₀ : Nat} {A B C : World} (h : Kp n₀ A B) (k : Kp n₀ B C) : Kp n₀ A C := ⟨h.1.trans k.1, h.2.trans k.2⟩
theorem Kp.b {n₀ : Nat} {w : World} (hn : n₀ ≤ w.heap.size) (W : World) (l : Nat) (o o' : Obj) (hl : w.heap.size ≤ l) (h : W.heap[l]? = some o) (hc : o.isCells = false) (hw : o.isWalk = false) : Kp n₀ W (W.putObj l o') :=
  ⟨belowK_b hn W l o o' hl h hc hw, KeepsTy.putObj o' h hc⟩

/-! ### dom.all: the values, range by range, at most r of them -/
def upTo : Nat → Int → Int → List Int
  | 0, _, _ => []
  | r + 1, v, hi => if v ≤ hi then v :: upTo r (v + 1) hi else []
def allV : Nat → List S52 → List Int
  | _, [] => []
  | r, x :: ds => upTo r x.f0 x.f1 ++ allV (r - (upTo r x.f0 x.f1).length) ds
theorem upTo_length (r : Nat) : ∀ v hi, (upTo r v hi).length ≤ r := by
  induction r with
  | zero => intro v hi; simp [upTo]
  | succ r ih =>
    intro v hi
    unfold upTo
    split
    · have := ih (v + 1) hi
      simp
      omega
    · simp
theorem upTo_yes {r : Nat} {v hi : Int} (hr : 0 < r) (h : v ≤ hi) : upTo r v hi = v :: upTo (r - 1) (v + 1) hi := by
  obtain ⟨r, rfl⟩ : ∃ m, r = m + 1 := ⟨r - 1, by omega⟩
  simp [upTo, h]
theorem upTo_no {r : Nat} {v hi : Int} (h : r = 0 ∨ ¬ v ≤ hi) : upTo r v hi = [] := by
  rcases h with rfl | h
  · rfl
  · cases r with
    | zero => rfl
    | succ r => simp [upTo, h]
theorem allV_length (ds : List S52) : ∀ r, (allV r ds).length ≤ r := by
  induction ds with
  | nil => intro r; simp [allV]
  | cons x ds ih =>
    intro r
    have h1 := upTo_length r x.f0 x.f1
    have h2 := ih (r - (upTo r x.f0 x.f1).length)
    simp [allV]
    omega
/-- No number is out of the way. -/
def niceD (d : List S52) : Bool := d.all fun x => decide (-1048576 ≤ x.f0 ∧ x.f0 ≤ 1048576 ∧ -1048576 ≤ x.f1 ∧ x.f1 ≤ 1048576)
theorem niceD_at {d : List S52} (h : niceD d = true) {k : Nat} (hk : k < d.length) : -1048576 ≤ (rd_T52 d k).f0 ∧ (rd_T52 d k).f0 ≤ 1048576 ∧ -1048576 ≤ (rd_T52 d k).f1 ∧ (rd_T52 d k).f1 ≤ 1048576 := by
  have := (List.all_eq_true.1 h) (d[k]) (List.getElem_mem hk)
  simp [rd_T52, List.getD_eq_getElem?_getD, List.getElem?_eq_getElem hk]
  simpa using this
theorem drop_at {d : List S52} {k : Nat} (hk : k < d.length) : d.drop k = rd_T52 d k :: d.drop (k + 1) := by
  rw [List.drop_eq_getElem_cons hk]
  simp [rd_T52, List.getD_eq_getElem?_getD, List.getElem?_eq_getElem hk]

set_option maxRecDepth 100000 in
set_option maxHeartbeats 4000000 in
/-- **dom.all's closure.** -/
theorem all1_in (F : Fence) (n : Nat) (h1 : F.fn 66) (hro : F.round = none) (hn : 1 ≤ n) (l Bs : Nat) (w : World) (A : Option Addr) (c : Nat) (zs : List S52) (hr : Kd.C k52 w A zs.length zs) (hN : niceD zs = true) (J Jx : List Int → World → Prop)
    (hY : ∀ pre x W, J pre W → pre.length < 4097 → YieldAt F (n - 1) Try.prog l #[.int .i64 x] W fun e W' =>
      (e = .returned (.bool true) ∧ J (pre ++ [x]) W' ∧ Kp w.heap.size W W') ∨ (e = .returned (.bool false) ∧ Jx (pre ++ [x]) W'))
    (W : World) (hJ : AbidesFrom W.heap.size J) (hW : Below w.heap.size w W) (hBs : W.cell? ⟨Bs, 0, none⟩ = some (.slice A zs.length c)) (h0 : J [] W) :
    CallsIn F n Try.prog 66 #[.func (.yield l) #[] #[], .pointer (some ⟨Bs, 0, none⟩)] W fun e W' => (∃ v, e = .returned v) ∧
      ((∃ ys, ys = allV 4097 zs ∧ J ys W') ∨ (∃ pre, pre <+: allV 4097 zs ∧ Jx pre W')) := by
  refine callsIn_of_wp Try.func66 rfl h1 ?_ hro
  simp only [Try.ntmps66, List.size_toArray, List.length_cons, List.length_nil, Nat.reduceAdd, Nat.reduceSub, Array.replicate_succ, Array.replicate_zero, List.push_toArray, List.append_toArray, List.nil_append, List.cons_append]
  have hlen : zs.length ≤ 9223372036854775807 := hr.2.1
  gi_wp2
  gi_loopw [3, 9] (fun n3 i9 wr => ∃ (k m : Nat) (pre : List Int), k ≤ zs.length ∧ i9 = .int .i64 k ∧ n3 = .int .i64 m ∧ Aside0 (m = pre.length) ∧ m ≤ 4097 ∧ Aside0 (pre ++ allV (4097 - m) (zs.drop k) = allV 4097 zs) ∧ J pre wr ∧ Below w.heap.size w wr ∧ W.heap.size ≤ wr.heap.size)
    (fun _ i _ => zs.length - (intOf i).toNat)
  case atStart => exact ⟨0, 0, [], Nat.zero_le _, rfl, rfl, ⟨rfl⟩, by omega, ⟨rfl⟩, h0, hW, Nat.le_refl _⟩
  case round =>
    obtain ⟨k, m, pre, hk, rfl, rfl, hm, hm2, hpre, hJs, hb, hsz⟩ := hrel
    obtain ⟨wo, rfl⟩ : ∃ wo : World, wo = wr := ⟨_, rfl⟩
    by_cases hlt : k < zs.length
    · obtain ⟨ad, rfl, hx0, hx1⟩ := at_T52 hr (k : Int) (by omega) (by omega)
      have hx0 := (hb.cell (World.block_lt_of_cell? w _ hx0)).trans hx0
      have hx1 := (hb.cell (World.block_lt_of_cell? w _ hx1)).trans hx1
      obtain ⟨b1, b2, b3, b4⟩ := niceD_at hN hlt
      have hd := Aside0.mk (drop_at hlt)
      simp only [Int.toNat_natCast] at hx0 hx1
      have er : rd_T52 zs (k : Int) = rd_T52 zs k := rfl
      generalize hx : rd_T52 zs (k : Int) = x at *
      clear er
      gi_wp2
      have hJ1 : J pre (wo.alloc (.cells #[.int .i64 x.f0, .int .i64 x.f1] 52)) := hJ pre wo _ none hJs (World.grownBy_alloc _ _ _) (fun r e => by cases e)
      have hb1 : Below w.heap.size w (wo.alloc (.cells #[.int .i64 x.f0, .int .i64 x.f1] 52)) := hb.alloc hb.size _
      have hz1 : (wo.alloc (.cells #[.int .i64 x.f0, .int .i64 x.f1] 52)).heap[wo.heap.size]? = some (.cells #[.int .i64 x.f0, .int .i64 x.f1] 52 (0, 0)) := World.alloc_heap_new wo _
      have hg := hpre.out
      rw [hd.out, allV] at hg
      clear hx0 hx1
      gi_loopw [3, 6] (fun n3 v6 wr => ∃ (m : Nat) (v : Int) (pre : List Int), n3 = .int .i64 m ∧ v6 = .int .i64 v ∧ Aside0 (m = pre.length) ∧ m ≤ 4097 ∧ x.f0 ≤ v ∧ v ≤ 1048577 ∧ Aside0 (pre ++ upTo (4097 - m) v x.f1 ++ allV (4097 - m - (upTo (4097 - m) v x.f1).length) (zs.drop (k + 1)) = allV 4097 zs) ∧ J pre wr ∧ Below w.heap.size w wr ∧ W.heap.size ≤ wr.heap.size ∧ Aside0 (wr.heap[wo.heap.size]? = some (.cells #[.int .i64 x.f0, .int .i64 x.f1] 52 (0, 0))))
        (fun _ v _ => (1048577 - intOf v).toNat)
      case atStart => exact ⟨m, x.f0, pre, rfl, rfl, hm, hm2, by omega, by omega, ⟨by rw [List.append_assoc]; exact hg⟩, hJ1, hb1, by simp; omega, ⟨hz1⟩⟩
      case round =>
        clear hg hJ1 hb1 hz1 hpre
        obtain ⟨m, v, pre, rfl, rfl, hm, hm2, hv1, hv2, hpre, hJs, hb, hsz, hz⟩ := hrel
        have hcell : wr.cell? ⟨wo.heap.size, 1, none⟩ = some (.int .i64 x.f1) := by simp [World.cell?, hz.out]
        by_cases hlt1 : v ≤ x.f1
        · by_cases hlt2 : m ≤ 4096
          · have hup := upTo_yes (r := 4097 - m) (v := v) (hi := x.f1) (by omega) hlt1
            have hg := hpre.out
            rw [hup] at hg
            have HG := Aside0.mk hg
            clear hg hup hpre
            obtain ⟨fn, tmps, assign, body, hy, hR⟩ := hY pre v wr hJs (by have := hm.out; omega)
            gi_wp2
            refine hR.mono ?_
            rintro e W3 (⟨rfl, hJ3, hk3⟩ | ⟨rfl, hJx3⟩)
            · have hz3 := hk3.2 _ _ _ hz.out
              have hb3 := hb.trans hk3.1
              have hs3 := hk3.1.size
              clear hR hy hcell
              gi_wp2
              go_roundw
              case rel => exact ⟨m + 1, v + 1, pre ++ [v], by simp, by first | rfl | go_num, ⟨by have := hm.out; simp; omega⟩, by omega, by omega, by omega, ⟨by have h := HG.out; simp only [List.append_assoc, List.cons_append, List.nil_append, List.length_cons] at h ⊢; rw [show 4097 - (m + 1) = 4097 - m - 1 by omega]; rw [show 4097 - m - 1 - (upTo (4097 - m - 1) (v + 1) x.f1).length = 4097 - m - ((upTo (4097 - m - 1) (v + 1) x.f1).length + 1) by omega]; exact h⟩, hJ3, hb3, by omega, ⟨hz3⟩⟩
              case measure => simp [intOf]; omega
            · gi_wp2
              refine bodyPost_ret (results_none rfl _ _ _) rfl ?_
              exact ⟨⟨_, rfl⟩, .inr ⟨pre ++ [v], ⟨_, by have h := HG.out; simp only [List.append_assoc, List.cons_append, List.nil_append] at h ⊢; exact h⟩, hJx3⟩⟩
          · have hup := upTo_no (r := 4097 - m) (v := v) (hi := x.f1) (.inl (by omega))
            have hg := hpre.out
            rw [hup] at hg
            have HG := Aside0.mk hg
            clear hg hup hpre
            gi_wp2
            go_roundw
            case rel => exact ⟨k + 1, m, pre, by omega, by first | rfl | go_num, rfl, hm, hm2, ⟨by have h := HG.out; simpa using h⟩, hJs, hb, hsz⟩
            case measure => simp [intOf]; omega
        · have hup := upTo_no (r := 4097 - m) (v := v) (hi := x.f1) (.inr hlt1)
          have hg := hpre.out
          rw [hup] at hg
          have HG := Aside0.mk hg
          clear hg hup hpre
          gi_wp2
          go_roundw
          case rel => exact ⟨k + 1, m, pre, by omega, by first | rfl | go_num, rfl, hm, hm2, ⟨by have h := HG.out; simpa using h⟩, hJs, hb, hsz⟩
          case measure => simp [intOf]; omega
    · obtain rfl : k = zs.length := by omega
      have hg := hpre.out
      simp [allV] at hg
      have HG := Aside0.mk hg
      clear hg
      gi_wp2
      go_end0
      exact ⟨⟨_, rfl⟩, .inl ⟨pre, HG.out, hJs⟩⟩

/-- dom.all(d): the slice is boxed; the function value captures the box. -/
theorem all_in (F : Fence) (n : Nat) (h : F.fn 54) (hro : F.round = none) (A : Option Addr) (len cap : Nat) (w : World) :
    CallsIn F n Try.prog 54 #[.slice A len cap] w fun e w' => e = .returned (.func (.func 66) #[] #[.pointer (some ⟨w.heap.size, 0, none⟩)]) ∧ w' = w.alloc (.cells #[.slice A len cap] 22) := by
  refine callsIn_of_wp Try.func54 rfl h ?_ hro
  simp only [Try.ntmps54, List.size_toArray, List.length_cons, List.length_nil, Nat.reduceAdd, Nat.reduceSub, Array.replicate_succ, Array.replicate_zero, List.push_toArray, List.append_toArray, List.nil_append, List.cons_append]
  gi_wp2
  go_ret
  exact ⟨rfl, rfl⟩

/-- dom.all's value, as an iterator. -/
theorem all_stops (F : Fence) (n : Nat) (h1 : F.fn 66) (hro : F.round = none) (hn : 1 ≤ n) (Bs : Nat) (w0 w : World) (A : Option Addr) (c : Nat) (zs : List S52) (hr : Kd.C k52 w0 A zs.length zs) (hN : niceD zs = true) (hBs : Bs < w.heap.size) (hw : Below w0.heap.size w0 w)
    (hc : w.cell? ⟨Bs, 0, none⟩ = some (.slice A zs.length c)) :
    SeqStopsK F n Try.prog 66 #[.pointer (some ⟨Bs, 0, none⟩)] (fun x : Int => #[Value.int .i64 x]) (Kp w0.heap.size) (fun ys => ys = allV 4097 zs) (fun pre => pre <+: allV 4097 zs) 4097 w := fun l J Jx W hW hJ _ hY h0 =>
  all1_in F n h1 hro hn l Bs w0 A c zs hr hN J Jx hY W hJ (hw.trans (hW.mono hw.size)) ((hW.cell (p := ⟨Bs, 0, none⟩) hBs).trans hc) h0

/-! ### slices.Values: the values of a slice -/
set_option maxRecDepth 100000 in
set_option maxHeartbeats 4000000 in
theorem values1_in (F : Fence) (n : Nat) (h1 : F.fn 65) (hro : F.round = none) (hn : 1 ≤ n) (l Bs : Nat) (w : World) (A : Option Addr) (c : Nat) (zs : List Int) (hr : Kd.C (Kd.int .i64) w A zs.length zs) (J Jx : List Int → World → Prop)
    (hY : ∀ pre x W, J pre W → pre.length < zs.length → YieldAt F (n - 1) Try.prog l #[.int .i64 x] W fun e W' =>
      (e = .returned (.bool true) ∧ J (pre ++ [x]) W' ∧ Kp w.heap.size W W') ∨ (e = .returned (.bool false) ∧ Jx (pre ++ [x]) W'))
    (W : World) (hW : Below w.heap.size w W) (hBs : W.cell? ⟨Bs, 0, none⟩ = some (.slice A zs.length c)) (h0 : J [] W) :
    CallsIn F n Try.prog 65 #[.func (.yield l) #[] #[], .pointer (some ⟨Bs, 0, none⟩)] W fun e W' => (∃ v, e = .returned v) ∧
      ((∃ ys, ys = zs ∧ J ys W') ∨ (∃ pre, pre <+: zs ∧ Jx pre W')) := by
  refine callsIn_of_wp Try.func65 rfl h1 ?_ hro
  simp only [Try.ntmps65, List.size_toArray, List.length_cons, List.length_nil, Nat.reduceAdd, Nat.reduceSub, Array.replicate_succ, Array.replicate_zero, List.push_toArray, List.append_toArray, List.nil_append, List.cons_append]
  have hlen : zs.length ≤ 9223372036854775807 := hr.2.1
  gi_wp2
  gi_loopw [7] (fun i7 wr => ∃ (k : Nat), k ≤ zs.length ∧ i7 = .int .i64 k ∧ J (zs.take k) wr ∧ Below w.heap.size w wr)
    (fun i _ => zs.length - (intOf i).toNat)
  case atStart => exact ⟨0, Nat.zero_le _, rfl, by simpa using h0, hW⟩
  case round =>
    obtain ⟨k, hk, rfl, hJs, hb⟩ := hrel
    by_cases hlt : k < zs.length
    · obtain ⟨ad, rfl, hx0⟩ := Kd.at_int hr (k : Int) (by omega) (by omega)
      have hx0 := (hb.cell (World.block_lt_of_cell? w _ hx0)).trans hx0
      simp only [Int.toNat_natCast] at hx0
      have htk : zs.take (k + 1) = zs.take k ++ [rd zs (k : Int)] := by
        rw [List.take_succ_eq_append_getElem hlt]
        simp [rd, List.getD_eq_getElem?_getD, List.getElem?_eq_getElem hlt]
      have HT := Aside0.mk htk
      clear htk
      have hy0 := hY (zs.take k) (rd zs (k : Int)) wr hJs (by rw [List.length_take]; omega)
      generalize rd zs (k : Int) = x at *
      obtain ⟨fn, tmps, assign, body, hy, hR⟩ := hy0
      gi_wp2
      refine hR.mono ?_
      rintro e W3 (⟨rfl, hJ3, hk3⟩ | ⟨rfl, hJx3⟩)
      · have hb3 := hb.trans hk3.1
        clear hR hy hx0
        gi_wp2
        go_roundw
        case rel => exact ⟨k + 1, by omega, by first | rfl | go_num, by rw [HT.out]; exact hJ3, hb3⟩
        case measure => simp [intOf]; omega
      · gi_wp2
        refine bodyPost_ret (results_none rfl _ _ _) rfl ?_
        exact ⟨⟨_, rfl⟩, .inr ⟨_, by rw [← HT.out]; exact List.take_prefix _ _, hJx3⟩⟩
    · obtain rfl : k = zs.length := by omega
      gi_wp2
      go_end0
      exact ⟨⟨_, rfl⟩, .inl ⟨zs, rfl, by simpa using hJs⟩⟩

theorem values_in (F : Fence) (n : Nat) (h : F.fn 49) (hro : F.round = none) (A : Option Addr) (len cap : Nat) (w : World) :
    CallsIn F n Try.prog 49 #[.slice A len cap] w fun e w' => e = .returned (.func (.func 65) #[] #[.pointer (some ⟨w.heap.size, 0, none⟩)]) ∧ w' = w.alloc (.cells #[.slice A len cap] 23) := by
  refine callsIn_of_wp Try.func49 rfl h ?_ hro
  simp only [Try.ntmps49, List.size_toArray, List.length_cons, List.length_nil, Nat.reduceAdd, Nat.reduceSub, Array.replicate_succ, Array.replicate_zero, List.push_toArray, List.append_toArray, List.nil_append, List.cons_append]
  gi_wp2
  go_ret
  exact ⟨rfl, rfl⟩

theorem values_stops (F : Fence) (n : Nat) (h1 : F.fn 65) (hro : F.round = none) (hn : 1 ≤ n) (Bs : Nat) (w0 w : World) (A : Option Addr) (c : Nat) (zs : List Int) (hr : Kd.C (Kd.int .i64) w0 A zs.length zs) (hBs : Bs < w.heap.size) (hw : Below w0.heap.size w0 w)
    (hc : w.cell? ⟨Bs, 0, none⟩ = some (.slice A zs.length c)) :
    SeqStopsK F n Try.prog 65 #[.pointer (some ⟨Bs, 0, none⟩)] (fun x : Int => #[Value.int .i64 x]) (Kp w0.heap.size) (fun ys => ys = zs) (fun pre => pre <+: zs) zs.length w := fun l J Jx W hW _ _ hY h0 =>
  values1_in F n h1 hro hn l Bs w0 A c zs hr J Jx hY W (hw.trans (hW.mono hw.size)) ((hW.cell (p := ⟨Bs, 0, none⟩) hBs).trans hc) h0

/-! ### slices.AppendSeq(nil, seq), slices.Collect -/
theorem infoI : (Try.prog.info? 3).map (fun i => (i.zero, i.size, i.bytes)) = some (some (.int .i64 0), 1, 8) := by kernel_rfl

set_option maxRecDepth 100000 in
set_option maxHeartbeats 4000000 in
theorem appendSeq_in (F : Fence) (n : Nat) (h : F.fn 68) (hro : F.round = none) (hn : 2 ≤ n) (g : Nat) (lb : Array Value) (hFg : F.fn g) (eg : ∀ args w, (callFunc g args).run Try.prog w = .ok (.enter g args) w)
    (n0 : Nat) (S Sp : List Int → Prop) (N : Nat) (hN : N * 8 ≤ 140737488355328) (w0 w : World) (hw : Below w0.heap.size w0 w) (hn0 : n0 ≤ w.heap.size) (hseq : SeqStopsK F (n - 1) Try.prog g lb (fun x : Int => #[Value.int .i64 x]) (Kp n0) S Sp N w0) :
    CallsIn F n Try.prog 68 #[.slice none 0 0, .func (.func g) #[] lb] w fun e w' => ∃ (v : Value) (xs : List Int), e = .returned v ∧ S xs ∧ w'.ownsRow w.heap.size 3 1 v xs.length (xs.map (Value.int .i64)) ∧ Below w.heap.size w w' := by
  have h1 : 1 ≤ n := by omega
  obtain ⟨i0, hi, hz0, hz1, hz2⟩ := info_parts infoI
  refine callsIn_of_wp_marks Try.func68 rfl h ?_ hro
  simp only [Try.ntmps68, List.size_toArray, List.length_cons, List.length_nil, Nat.reduceAdd, Nat.reduceSub, Array.replicate_succ, Array.replicate_zero, List.push_toArray, List.append_toArray, List.nil_append, List.cons_append]
  gi_wp2
  have bO := Boxed.new w 23 (.slice none 0 0)
  have hB0 : Below w.heap.size w (w.alloc (.cells #[.slice none 0 0] 23)) := (Below.refl _ w).alloc (Nat.le_refl _) _
  have hseq' : SeqStopsK F (n - 1) Try.prog g lb (fun x : Int => #[Value.int .i64 x]) (Kp n0) S Sp N (w.alloc (.cells #[.slice none 0 0] 23)) := fun l J Jx W hW a b c d => hseq l J Jx W (hw.trans ((hB0.mono hw.size).trans (hW.mono (by have := hw.size; simp; omega)))) a b c d
  refine wpIn_rangeFunc_ownG hro h1 (gf := g) (lb := lb) rfl hFg eg hseq' Kp.t (Kp.b (by simp; omega)) (Below.refl _ _) (fun _ => rfl)
    (fun pre W => (∃ v, Boxed W w.heap.size 23 v ∧ W.ownsRow w.heap.size 3 1 v pre.length (pre.map (Value.int .i64)) ∧ True) ∧ Below w.heap.size w W)
    (fun _ _ _ => False)
    (OwnFrom.and (Own.from (holdsRow_own w.heap.size w.heap.size 23 3 1 (fun pre : List Int => pre.length) (fun pre => pre.map (Value.int .i64)) (fun _ _ => True)) _) (ownFrom_below (Nat.le_refl _) (by simp)))
    (fun _ _ _ _ _ hs _ _ => hs)
    ⟨⟨_, bO, World.ownsRow_nil _ _ _ _, trivial⟩, hB0⟩
    (fun x => { tmps := #[.slice none 0 0, .func (.func g) #[] lb, .pointer (some ⟨w.heap.size, 0, none⟩), undef, .slice none 0 0, .int .i64 x, .func (.func g) #[] lb, .int .i64 x, undef, undef, undef, undef, undef], defers := [] }) ?assign ?body ?done ?stop
  case assign =>
    intro l x W K hK
    gi_wp2
    exact hK
  case body =>
    rintro l pre x W ⟨⟨v, hv, hrow, _⟩, hB⟩ hlt
    have hc := hv.cell
    gi_wp2_with (gi_at_builtin; refine wpListIn_append_own _ rfl _ _ 23 rfl w.heap.size 3 i0 (.int .i64 0) 1 8 Try.underlying23 hi hz0 hz1 hz2 rfl (by decide) _ _ _ rfl (hrow.alloc _) ⟨W.heap.size, 0, none⟩ 1 1 [.int .i64 x] rfl rfl (cell_one_new _ _ _) (by simp [Value.oneCell']) (by unfold maxLen; omega) (by omega) (by have := hB.size; simp; omega) ?_; intro v' w1 hown' hgrow _; obtain ⟨g', cap', rfl⟩ := ownsRow_succ hown'; have hty := (KeepsTy.alloc 52 W (.cells #[.int .i64 x] 3)).trans (KeepsTy.row (hrow.alloc _) (by decide) hgrow); obtain ⟨hv1, hv2, hr2, hk2, hb2⟩ := hv.appended (by decide) hrow hB.size (Nat.le_refl _) hown' hgrow; have hty2 := hty.trans (KeepsTy.box hv1 (v' := .slice (some ⟨g', 0, none⟩) (pre.length + 1) cap') (by decide)); have hc1 := hv1.cell; have hf1 := hv1.frozen)
    exact ⟨hk2.from _, ⟨hb2.mono hn0, hty2⟩, ⟨_, hv2, by simpa using hr2, trivial⟩, hB.trans hb2⟩
  case done =>
    rintro D ys W hD hS ⟨⟨v, hv, hrow, _⟩, hB⟩ hK
    have hc := hv.cell
    gi_wp2
    refine ⟨by simp, .inl ⟨_, _, rfl, run_takeDeferred hK, ?_⟩⟩
    exact ⟨_, results_tmp rfl _ _ _, v, ys, rfl, hS, ownsRow_putObj hrow _ hK rfl, hB.trans (belowK_b (w := w) (Nat.le_refl _) W D _ _ (by simp at hD; omega) hK rfl rfl)⟩
  case stop =>
    rintro D c pre W _ _ h _
    exact h.elim

set_option maxHeartbeats 1000000 in
theorem collect_in (F : Fence) (n : Nat) (h : F.fn 58) (h2 : F.fn 68) (hro : F.round = none) (hn : 3 ≤ n) (g : Nat) (lb : Array Value) (hFg : F.fn g) (eg : ∀ args w, (callFunc g args).run Try.prog w = .ok (.enter g args) w)
    (n0 : Nat) (S Sp : List Int → Prop) (N : Nat) (hN : N * 8 ≤ 140737488355328) (w0 w : World) (hw : Below w0.heap.size w0 w) (hn0 : n0 ≤ w.heap.size) (hseq : SeqStopsK F (n - 1 - 1) Try.prog g lb (fun x : Int => #[Value.int .i64 x]) (Kp n0) S Sp N w0) :
    CallsIn F n Try.prog 58 #[.func (.func g) #[] lb] w fun e w' => ∃ (v : Value) (xs : List Int), e = .returned v ∧ S xs ∧ w'.ownsRow w.heap.size 3 1 v xs.length (xs.map (Value.int .i64)) ∧ Below w.heap.size w w' := by
  have h1 : 1 ≤ n := by omega
  refine callsIn_of_wp Try.func58 rfl h ?_ hro
  simp only [Try.ntmps58, List.size_toArray, List.length_cons, List.length_nil, Nat.reduceAdd, Nat.reduceSub, Array.replicate_succ, Array.replicate_zero, List.push_toArray, List.append_toArray, List.nil_append, List.cons_append]
  have cA := fun W (hw : Below w0.heap.size w0 W) hn0 => appendSeq_in F (n - 1) h2 hro (by omega) g lb hFg eg n0 S Sp N hN w0 W hw hn0 hseq
  gi_wp2_with (gi_at_call 68; refine (cA _ hw hn0).mono ?_; rintro e w' ⟨v, xs, rfl, hS, hrow, hb⟩)
  go_ret
  exact ⟨v, xs, rfl, hS, hrow, hb⟩
end Go.Proofs.Ytklanjkndoikeaa.P

/- A region that draws its order, inside a round of a loop over an iterator: reads in whatever order, then what writes, in the text's order. -/
namespace Go.Proofs.Ytklanjkndoikeaa.P
open Go Go.RowKit
set_option linter.unusedVariables false

section
variable {P : Program} {ops : Array Oper} {md : Region.Mode} {w : World} {l n : Nat}

/-- No deferred call among the operations. -/
def noDefer (ops : Array Oper) : Bool := ops.all fun o => match o.op with | .defer _ => false | _ => true
theorem noDefer_at {i : Nat} {o : Oper} (h : noDefer ops = true) (hi : ops[i]? = some o) (c : Call) : o.op ≠ .defer c := by
  intro e
  obtain ⟨hlt, rfl⟩ := Array.getElem?_eq_some_iff.1 hi
  have := (Array.all_eq_true.1 h) i hlt
  rw [e] at this
  cases this

theorem wpIn_of_still {o : Oper} {a : Act} {K : Act → Prop} {K' : Act → World → Prop} {Q' : Exit → Act → World → Prop} (hd : ∀ c, o.op ≠ .defer c) (h : ∀ a, K a → K' a w) (hh : o.still P a w K) : o.wpIn (Fence.wide.inRound l) n P a w K' Q' := by
  unfold Oper.still at hh
  unfold Oper.wpIn
  refine ⟨fun _ _ => trivial, ?_⟩
  rw [Oper.semAt_eq _ _ _ hd]
  generalize (execOp a.eval o).run P w = r at *
  cases r with
  | ok x w' =>
    cases x <;> simp only [Oper.stillUpon] at hh <;> simp only [Oper.uponIn]
    case enter f args =>
      obtain ⟨rfl, v, hc, hn⟩ := hh
      have hq : CallsIn Fence.wide (n - 1) P f args w' (fun e w'' => e = .returned v ∧ w'' = w') := callsIn_wide.2 hc
      refine ⟨fun h' => (by cases h'), (CallsIn.inRound l (hq.mono (fun e w'' hh => ?_)))⟩
      obtain ⟨rfl, rfl⟩ := hh
      exact h _ hn
    all_goals (obtain ⟨rfl, h2⟩ := hh; exact h _ h2)
  | halt x w' => simp only [Oper.stillUpon] at hh

theorem wpOpIn_of_stOp {i : Nat} {a : Act} {K : Act → Prop} {K' : Act → World → Prop} {Q' : Exit → Act → World → Prop} (hd : noDefer ops = true) (h : ∀ a, K a → K' a w) (hh : stOp P ops w i K a) : wpOpIn (Fence.wide.inRound l) n P ops Q' i K' a w := by
  unfold stOp at hh
  unfold wpOpIn
  split
  · rename_i ho
    simp only [ho] at hh
    exact h _ hh
  · rename_i o ho
    simp only [ho] at hh
    split
    · rename_i hw
      simp only [hw, if_true] at hh
      exact wpIn_of_still (noDefer_at hd ho) h hh
    · rename_i hw
      simp only [hw] at hh
      exact ⟨fun _ _ => trivial, h _ hh⟩

theorem wpAnyIn_of_head {m g : Nat} {L : Array Bool → Act → Prop} {Q' : Exit → Act → World → Prop} (hd : noDefer ops = true) (hL : ∀ listed a, L listed a → wpAnyIn (Fence.wide.inRound l) n P md ops Q' g listed a w) :
    ∀ (f : Nat) (listed : Array Bool) (a : Act), wpAnyL P md ops w m L f listed a → wpAnyIn (Fence.wide.inRound l) n P md ops Q' (f + g) listed a w
  | 0, listed, a, h => by rw [Nat.zero_add]; exact hL _ _ h
  | f + 1, listed, a, h => by
    rw [show f + 1 + g = (f + g) + 1 by omega]
    exact ⟨fun h0 => absurd h0 h.1, fun i hi => wpOpIn_of_stOp hd (fun a' h' => wpAnyIn_of_head hd hL f _ a' h') (h.2 i hi).2⟩

theorem wpAnyIn_of_seq {Q' : Exit → Act → World → Prop} : ∀ (r : List Oper) (k : Nat) (listed : Array Bool) (a : Act) (w : World), (∀ j, r[j]? = ops[k + j]?) →
    Region.seqB md ops r.length k listed = true → wpListIn (Fence.wide.inRound l) n P ops Q' r a w → wpAnyIn (Fence.wide.inRound l) n P md ops Q' r.length listed a w
  | [], _, _, _, _, _, hB, h => ⟨by simpa [Region.seqB] using hB, h⟩
  | o :: r, k, listed, a, w, hl, hB, h => by
    have h0 : ops[k]? = some o := by simpa using (hl 0).symm
    simp only [List.length_cons, Region.seqB, Bool.and_eq_true, decide_eq_true_eq] at hB
    refine ⟨fun h1 => (by rw [hB.1] at h1; cases h1), fun i hi => ?_⟩
    rw [hB.1] at hi
    have hik : i = k := by simpa using hi
    subst hik
    have hw : wpOpIn (Fence.wide.inRound l) n P ops Q' i (wpListIn (Fence.wide.inRound l) n P ops Q' r) a w := by
      unfold wpOpIn
      simp only [h0]
      exact h
    exact wpOpIn_mono (fun a' w' h' => wpAnyIn_of_seq r (i + 1) _ a' w' (fun j => by have := hl (j + 1); simpa [Nat.add_assoc, Nat.add_comm 1 j] using this) hB.2 h') hw

/-- The law. -/
theorem wpIn_region_still_tail {id : Nat} {Q : Exit → Act → World → Prop} {a : Act} {w : World} {r : List Oper} (m : Nat) (hm : P.follows .mixedOrders = true) (hB : Region.lexTailB .any r.toArray m = true) (hd : noDefer r.toArray = true)
    (h : wpStill P r.toArray w.drew (fun a' => wpListIn (Fence.wide.inRound l) n P r.toArray Q (r.drop m) a' w.drew) (r.take m) a) : (Code.region id r.toArray true).wpIn (Fence.wide.inRound l) n P Q a w := by
  simp only [Region.lexTailB, Bool.and_eq_true, decide_eq_true_eq] at hB
  obtain ⟨⟨⟨⟨hsel, hn⟩, hs⟩, hc⟩, hlex⟩ := hB
  have hn' : m < r.length := by simpa using hn
  have htl : (r.take m).length = m := by simp; omega
  have hdl : (r.drop m).length = r.toArray.size - m := by simp
  have inv0 : HeadInv .any r.toArray m (Array.replicate r.toArray.size false) :=
    ⟨by simp, fun j oj _ hl => (by rw [getD_replicate_false] at hl; cases hl), fun t _ ht => getD_in (by simpa using ht) (getD_replicate_false _ _)⟩
  have H := wpAnyL_lex (md := .any) (g := r.toArray.size - m) hsel hs hc hn (r.take m) 0 _ a (fun j hj => by
    have hj' : j < m := by rw [htl] at hj; exact hj
    simp [hj']) (by simpa using htl) inv0 (by rw [htl]; exact hlex) h
  refine wpIn_region_any hm ?_
  have := wpAnyIn_of_head (l := l) (n := n) (Q' := Q) (g := r.toArray.size - m) hd (fun listed a' hL => by
    have := wpAnyIn_of_seq (l := l) (n := n) (md := .any) (Q' := Q) (r.drop m) m listed a' w.drew (fun j => by simp [List.getElem?_drop]) (by rw [hdl]; exact hL.1) hL.2
    rwa [hdl] at this) _ _ _ H
  rw [htl, show m + (r.toArray.size - m) = r.toArray.size by omega] at this
  exact this

/-! ### The same, where one of the operations that come ahead lays a block: the reads read the same in all worlds of a class C -/
section
variable {C : World → Prop} {Q : Exit → Act → World → Prop} {L : Array Bool → Act → World → Prop}

def YC (P : Program) (ops : Array Oper) (C : World → Prop) (o : Oper) (v : Value) (a : Act) : Prop :=
  Region.wanted o (yielded ops a.tmps) = true ∧ ∀ w, C w → (execOp a.eval o).run P w = .ok (.value v) w

def wpAnyLW (l n : Nat) (P : Program) (md : Region.Mode) (ops : Array Oper) (Q : Exit → Act → World → Prop) (C : World → Prop) (m : Nat) (L : Array Bool → Act → World → Prop) : Nat → Array Bool → Act → World → Prop
  | 0, listed, a, w => L listed a w
  | f + 1, listed, a, w =>
    Region.ready md ops listed ≠ [] ∧ ∀ i ∈ Region.ready md ops listed, i < m ∧ wpOpIn (Fence.wide.inRound l) n P ops Q i (fun a' w' => C w' ∧ wpAnyLW l n P md ops Q C m L f (listed.setIfInBounds i true) a' w') a w

theorem wpAnyIn_of_headW {m g : Nat} (hL : ∀ listed a w, L listed a w → wpAnyIn (Fence.wide.inRound l) n P md ops Q g listed a w) :
    ∀ (f : Nat) (listed : Array Bool) (a : Act) (w : World), wpAnyLW l n P md ops Q C m L f listed a w → wpAnyIn (Fence.wide.inRound l) n P md ops Q (f + g) listed a w
  | 0, listed, a, w, h => by rw [Nat.zero_add]; exact hL _ _ _ h
  | f + 1, listed, a, w, h => by
    rw [show f + 1 + g = (f + g) + 1 by omega]
    exact ⟨fun h0 => absurd h0 h.1, fun i hi => wpOpIn_mono (fun a' w' h' => wpAnyIn_of_headW hL f _ a' w' h'.2) (h.2 i hi).2⟩

theorem opIn_put {j : Nat} {oi oj : Oper} {v : Value} (hj : ops[j]? = some oj) (hap : oi.apart ops oj = true) (hsi : ∀ cs b, oi.op ≠ .select cs b) (hsj : ∀ cs b, oj.op ≠ .select cs b) (hdj : ∀ c, oj.op ≠ .defer c)
    (hQ : ∀ c a a' w, Q (.panic c) a w → Q (.panic c) a' w) {K : Act → World → Prop} {a : Act} {w : World} (hy : YC P ops C oi v a) (h : wpOpIn (Fence.wide.inRound l) n P ops Q j K (a.put oi.dst v) w) :
    wpOpIn (Fence.wide.inRound l) n P ops Q j (fun a' w' => YC P ops C oi v a' ∧ K (a'.put oi.dst v) w') a w := by
  obtain ⟨h1, h2, h3⟩ := Oper.apart_spec hap
  have keep : ∀ u, YC P ops C oi v (a.put oj.dst u) := fun u => ⟨by rw [wanted_put oi a oj.dst u h3]; exact hy.1, fun w hw => by rw [execOp_put oi hsi a oj.dst u h3]; exact hy.2 w hw⟩
  have com : ∀ u, (a.put oi.dst v).put oj.dst u = (a.put oj.dst u).put oi.dst v := fun u => Act.put_comm a v u h2
  unfold wpOpIn at *
  simp only [hj] at *
  rw [wanted_put oj a oi.dst v h1] at h
  split
  · rename_i hw
    rw [if_pos hw] at h
    unfold Oper.wpIn at *
    refine ⟨fun _ _ => trivial, ?_⟩
    have h := h.2
    rw [Oper.semAt_eq _ _ _ hdj] at h ⊢
    rw [execOp_put oj hsj a oi.dst v h1] at h
    generalize (execOp a.eval oj).run P w = r at *
    cases r with
    | ok x w' =>
      cases x <;> simp only [Oper.uponIn] at h ⊢
      case value u => exact ⟨keep u, by rw [← com]; exact h⟩
      case skip => exact ⟨keep _, by rw [← com]; exact h⟩
      case «defer» d => exact ⟨⟨by rw [wanted_put oi _ oj.dst undef h3]; exact hy.1, fun w hw => by rw [execOp_put oi hsi _ oj.dst undef h3]; exact hy.2 w hw⟩, by rw [← Act.put_comm _ v _ h2]; rw [Act.put_defers] at h; exact h⟩
      case enter f args =>
        refine ⟨h.1, CallsIn.mono h.2 (fun e w'' he => ?_)⟩
        cases e with
        | returned u => exact ⟨keep u, by rw [← com]; exact he⟩
        | panicked c => exact hQ _ _ _ _ he
        | outgrown => exact he
      case row r args => exact ⟨h.1, RowsIn.mono h.2 (fun u w'' he => ⟨keep u, by rw [← com]; exact he⟩)⟩
      case round l' f tmps assign body =>
        refine ⟨h.1, RoundIn.mono h.2 (fun e w'' he => ?_)⟩
        cases e with
        | returned u => exact ⟨keep u, by rw [← com]; exact he⟩
        | panicked c => exact hQ _ _ _ _ he
        | outgrown => exact he
    | halt x w' =>
      cases x <;> simp only [Oper.uponIn] at h ⊢
      case panic v' => exact hQ _ _ _ _ h
  · rename_i hw
    rw [if_neg hw] at h
    exact ⟨fun _ _ => trivial, keep _, by rw [← com]; exact h.2⟩

theorem firstC {m i : Nat} {oi : Oper} {v : Value} (hi : ops[i]? = some oi) (hsel : ∀ (j : Nat) (o : Oper) cs b, ops[j]? = some o → o.op ≠ .select cs b) (hd : noDefer ops = true) (hQ : ∀ c a a' w, Q (.panic c) a w → Q (.panic c) a' w)
    (hs : Region.sinkB md ops m = true) (hc : Region.chainB md ops m = true) (hm : m < ops.size) (him : i < m)
    (hdone : ∀ listed a w, L listed a w → ∀ j ∈ Region.ready md ops listed, m ≤ j) :
    ∀ (f : Nat) (listed : Array Bool) (a : Act) (w : World), HeadInv md ops m listed →
      (∀ j oj, ops[j]? = some oj → j ≠ i → listed.getD j true = false → (∀ e ∈ oj.after, Region.binds md e = true → e.on ≠ i) → oi.apart ops oj = true) →
      i ∈ Region.ready md ops listed → C w → YC P ops C oi v a →
      wpAnyLW l n P md ops Q C m L f (listed.setIfInBounds i true) (a.put oi.dst v) w → wpAnyLW l n P md ops Q C m L (f + 1) listed a w := by
  intro f
  have one : ∀ (K : Act → World → Prop) (a : Act) (w : World), C w → YC P ops C oi v a → K (a.put oi.dst v) w → wpOpIn (Fence.wide.inRound l) n P ops Q i K a w := by
    intro K a w hC hy hK
    unfold wpOpIn
    simp only [hi]
    rw [if_pos hy.1]
    unfold Oper.wpIn
    rw [Oper.semAt_eq _ _ _ (noDefer_at hd hi), hy.2 w hC]
    exact ⟨fun _ _ => trivial, hK⟩
  induction f with
  | zero =>
    intro listed a w inv _ hr hC hy H
    have hun := (mem_ready.1 hr).1
    refine ⟨fun h => (by rw [h] at hr; cases hr), fun j hj => ?_⟩
    have hjn : j < m := by
      rcases Nat.lt_or_ge j m with h | h
      · exact h
      · exact absurd hj (tail_waits hs hc hm inv _ i rfl him hun j h)
    refine ⟨hjn, ?_⟩
    by_cases hji : j = i
    · subst hji
      exact one _ a w hC hy ⟨hC, H⟩
    · have := hdone _ _ _ H j (ready_mono hj hji)
      omega
  | succ f ih =>
    intro listed a w inv hfree hr hC hy H
    have hun := (mem_ready.1 hr).1
    refine ⟨fun h => (by rw [h] at hr; cases hr), fun j hj => ?_⟩
    have hjn : j < m := by
      rcases Nat.lt_or_ge j m with h | h
      · exact h
      · exact absurd hj (tail_waits hs hc hm inv _ i rfl him hun j h)
    refine ⟨hjn, ?_⟩
    by_cases hji : j = i
    · subst hji
      exact one _ a w hC hy ⟨hC, H⟩
    · have h1 := (H.2 j (ready_mono hj hji)).2
      obtain ⟨hjun, oj, hoj, hall⟩ := mem_ready.1 hj
      have hnot : ∀ e ∈ oj.after, Region.binds md e = true → e.on ≠ i := fun e he hb heq => by
        have h1 := hall e he hb
        rw [heq, getD_both hun] at h1
        cases h1
      have h2 := opIn_put (C := C) hoj (hfree j oj hoj hji hjun hnot) (fun cs b => hsel i oi cs b hi) (fun cs b => hsel j oj cs b hoj) (noDefer_at hd hoj) hQ hy h1
      have hfree' : ∀ k ok, ops[k]? = some ok → k ≠ i → (listed.setIfInBounds j true).getD k true = false →
          (∀ e ∈ ok.after, Region.binds md e = true → e.on ≠ i) → oi.apart ops ok = true := fun k ok hk hki hun hno => by
        refine hfree k ok hk hki ?_ hno
        by_cases hjk : j = k
        · subst hjk; exact hjun
        · rw [getD_set_ne true hjk] at hun; exact hun
      refine wpOpIn_mono (fun a' w' h3 => ⟨h3.2.1, ih (listed.setIfInBounds j true) a' w' (inv.set hj hjn) hfree' (ready_mono hr (Ne.symm hji)) h3.2.1 h3.1 ?_⟩) h2
      rw [Array.setIfInBounds_comm _ _ hji]
      exact h3.2.2

/-- The last of the operations ahead: it lays a block, say. -/
theorem lastC {m i : Nat} {listed : Array Bool} {a : Act} {w : World} (hr : Region.ready md ops listed = [i]) (him : i < m) (h : wpOpIn (Fence.wide.inRound l) n P ops Q i (fun a' w' => C w' ∧ L (listed.setIfInBounds i true) a' w') a w) : wpAnyLW l n P md ops Q C m L 1 listed a w :=
  ⟨by rw [hr]; simp, fun j hj => by
    rw [hr] at hj
    have e : j = i := by simpa using hj
    rw [e]
    exact ⟨him, h⟩⟩

def wpC (P : Program) (ops : Array Oper) (C : World → Prop) : List Oper → (Act → Prop) → Act → Prop
  | [], K, a => K a
  | o :: rest, K, a => ∃ v, YC P ops C o v a ∧ wpC P ops C rest K (a.put o.dst v)

theorem wpC_step {o : Oper} {rest : List Oper} {K : Act → Prop} {a : Act} (v : Value) (hw : Region.wanted o (yielded ops a.tmps) = true) (hy : ∀ w, C w → (execOp a.eval o).run P w = .ok (.value v) w) (h : wpC P ops C rest K (a.put o.dst v)) : wpC P ops C (o :: rest) K a := ⟨v, ⟨hw, hy⟩, h⟩
theorem wpC_nil {K : Act → Prop} {a : Act} (h : K a) : wpC P ops C [] K a := h

def lexHeadC (md : Region.Mode) (ops : Array Oper) : Nat → Nat → Array Bool → Bool
  | 0, k, listed => decide (Region.ready md ops listed = [k]) && Region.seqB md ops (ops.size - (k + 1)) (k + 1) (listed.setIfInBounds k true)
  | f + 1, k, listed => (Region.ready md ops listed).contains k && Region.free md ops listed k && lexHeadC md ops f (k + 1) (listed.setIfInBounds k true)
def headTailB (md : Region.Mode) (ops : Array Oper) (m : Nat) : Bool :=
  Region.noSelect ops && decide (m + 1 < ops.size) && Region.sinkB md ops (m + 1) && Region.chainB md ops (m + 1) && lexHeadC md ops m 0 (Array.replicate ops.size false)

theorem lexC {m : Nat} {Lq : Act → World → Prop} (hsel : Region.noSelect ops = true) (hd : noDefer ops = true) (hQ : ∀ c a a' w, Q (.panic c) a w → Q (.panic c) a' w) (hs : Region.sinkB md ops (m + 1) = true) (hc : Region.chainB md ops (m + 1) = true) (hm : m + 1 < ops.size) :
    ∀ (r : List Oper) (k : Nat) (listed : Array Bool) (a : Act), (∀ j, j < r.length → r[j]? = ops[k + j]?) → k + r.length = m → HeadInv md ops (m + 1) listed →
    lexHeadC md ops r.length k listed = true → C w → wpC P ops C r (fun a' => wpOpIn (Fence.wide.inRound l) n P ops Q m (fun a2 w2 => C w2 ∧ Lq a2 w2) a' w) a →
    wpAnyLW l n P md ops Q C (m + 1) (fun listed' a' w' => Region.seqB md ops (ops.size - (m + 1)) (m + 1) listed' = true ∧ Lq a' w') (r.length + 1) listed a w
  | [], k, listed, a, _, hk, _, hB, hC, h => by
    have : k = m := by simpa using hk
    subst this
    simp only [List.length_nil, lexHeadC, Bool.and_eq_true, decide_eq_true_eq] at hB
    unfold wpC at h
    exact lastC hB.1 (by omega) (wpOpIn_mono (fun a' w' hh => ⟨hh.1, hB.2, hh.2⟩) h)
  | o :: r, k, listed, a, hl, hk, inv, hB, hC, h => by
    have h0 : ops[k]? = some o := by simpa using (hl 0 (by simp)).symm
    simp only [List.length_cons, lexHeadC, Bool.and_eq_true] at hB
    obtain ⟨⟨hr, hf⟩, hB'⟩ := hB
    have hkn : k < m + 1 := by simp only [List.length_cons] at hk; omega
    have hr' : k ∈ Region.ready md ops listed := by simpa using hr
    obtain ⟨v, hy, hK⟩ := h
    exact firstC h0 (Region.noSelect_spec hsel) hd hQ hs hc hm hkn (fun listed' a' w' hL => seqB_ready hL.1) (r.length + 1) listed a w inv (Region.free_spec h0 hf) hr' hC hy
      (lexC hsel hd hQ hs hc hm r (k + 1) _ _ (fun j hj => by have := hl (j + 1) (by simp; omega); simpa [Nat.add_assoc, Nat.add_comm 1 j] using this) (by simp only [List.length_cons] at hk; omega) (inv.set hr' hkn) hB' hC hK)

/-- The law: the first m operations read (in whatever order; the same in all worlds of C), the next one may lay a block, the rest goes in the text's order. -/
theorem wpIn_region_C {id : Nat} {a : Act} {r : List Oper} (m : Nat) (hmx : P.follows .mixedOrders = true) (hB : headTailB .any r.toArray m = true) (hd : noDefer r.toArray = true) (C : World → Prop) (hQ : ∀ c a a' w, Q (.panic c) a w → Q (.panic c) a' w) (hC : C w.drew)
    (h : wpC P r.toArray C (r.take m) (fun a' => wpOpIn (Fence.wide.inRound l) n P r.toArray Q m (fun a2 w2 => C w2 ∧ wpListIn (Fence.wide.inRound l) n P r.toArray Q (r.drop (m + 1)) a2 w2) a' w.drew) a) : (Code.region id r.toArray true).wpIn (Fence.wide.inRound l) n P Q a w := by
  simp only [headTailB, Bool.and_eq_true, decide_eq_true_eq] at hB
  obtain ⟨⟨⟨⟨hsel, hn⟩, hs⟩, hc⟩, hlex⟩ := hB
  have hn' : m + 1 < r.length := by simpa using hn
  have htl : (r.take m).length = m := by simp; omega
  have hdl : (r.drop (m + 1)).length = r.toArray.size - (m + 1) := by simp
  have inv0 : HeadInv .any r.toArray (m + 1) (Array.replicate r.toArray.size false) :=
    ⟨by simp, fun j oj _ hl => (by rw [getD_replicate_false] at hl; cases hl), fun t _ ht => getD_in (by simpa using ht) (getD_replicate_false _ _)⟩
  have H := lexC (md := .any) (C := C) hsel hd hQ hs hc hn (r.take m) 0 _ a (fun j hj => by
    have hj' : j < m := by rw [htl] at hj; exact hj
    simp [hj']) (by simpa using htl) inv0 (by rw [htl]; exact hlex) hC h
  refine wpIn_region_any hmx ?_
  have := wpAnyIn_of_headW (g := r.toArray.size - (m + 1)) (fun listed a' w' hL => by
    have := wpAnyIn_of_seq (l := l) (n := n) (md := .any) (Q' := Q) (r.drop (m + 1)) (m + 1) listed a' w' (fun j => by simp [List.getElem?_drop]) (by rw [hdl]; exact hL.1) hL.2
    rwa [hdl] at this) _ _ _ _ H
  rw [htl, show m + 1 + (r.toArray.size - (m + 1)) = r.toArray.size by omega] at this
  exact this
end
end
end Go.Proofs.Ytklanjkndoikeaa.P

/- The library's sort and its like, laid at this program (the shelf's contracts). -/
namespace Go.Proofs.Ytklanjkndoikeaa.P
open Go.Shelf Go.Proofs

/-- slices.Sort   int int : function 64. -/
def lsort_ren : Go.Shelf.Ren := ⟨fun | 5 => 64 | 7 => 71 | 8 => 70 | 10 => 82 | 11 => 83 | 12 => 84 | 13 => 85 | 14 => 86 | 15 => 87 | 16 => 88 | 17 => 89 | 18 => 90 | 19 => 80 | 20 => 81 | 30 => 96 | 31 => 92 | 32 => 93 | 33 => 97 | 34 => 98 | 35 => 99 | 40 => 101 | n => n, fun | 0 => 0 | 3 => 3 | 4 => 4 | 5 => 5 | 9 => 9 | 22 => 23 | 23 => 23 | 25 => 3 | 32 => 75 | 35 => 78 | 36 => 79 | 41 => 35 | 44 => 85 | 46 => 87 | 53 => 93 | 57 => 97 | 63 => 101 | 64 => 102 | n => n, fun n => n⟩
theorem lsort : SlLaysM.n5 Try.prog lsort_ren := {
  mixed := by kernel_rfl,
  f5 := ⟨Try.f64.name, by decide, Try.func64.trans (congrArg some (by kernel_rfl))⟩,
  f7 := ⟨Try.f71.name, by decide, Try.func71.trans (congrArg some (by kernel_rfl))⟩,
  f8 := Try.func70.trans (congrArg some (by kernel_rfl)),
  f10 := ⟨Try.f82.name, by decide, Try.func82.trans (congrArg some (by kernel_rfl))⟩,
  f11 := ⟨Try.f83.name, by decide, Try.func83.trans (congrArg some (by kernel_rfl))⟩,
  f12 := ⟨Try.f84.name, by decide, Try.func84.trans (congrArg some (by kernel_rfl))⟩,
  f13 := ⟨Try.f85.name, by decide, Try.func85.trans (congrArg some (by kernel_rfl))⟩,
  f14 := ⟨Try.f86.name, by decide, Try.func86.trans (congrArg some (by kernel_rfl))⟩,
  f15 := ⟨Try.f87.name, by decide, Try.func87.trans (congrArg some (by kernel_rfl))⟩,
  f16 := ⟨Try.f88.name, by decide, Try.func88.trans (congrArg some (by kernel_rfl))⟩,
  f17 := ⟨Try.f89.name, by decide, Try.func89.trans (congrArg some (by kernel_rfl))⟩,
  f18 := ⟨Try.f90.name, by decide, Try.func90.trans (congrArg some (by kernel_rfl))⟩,
  f19 := Try.func80.trans (congrArg some (by kernel_rfl)),
  f20 := Try.func81.trans (congrArg some (by kernel_rfl)),
  f30 := ⟨Try.f96.name, by decide, Try.func96.trans (congrArg some (by kernel_rfl))⟩,
  f31 := Try.func92.trans (congrArg some (by kernel_rfl)),
  f32 := Try.func93.trans (congrArg some (by kernel_rfl)),
  f33 := ⟨Try.f97.name, by decide, Try.func97.trans (congrArg some (by kernel_rfl))⟩,
  f34 := ⟨Try.f98.name, by decide, Try.func98.trans (congrArg some (by kernel_rfl))⟩,
  f35 := ⟨Try.f99.name, by decide, Try.func99.trans (congrArg some (by kernel_rfl))⟩,
  f40 := ⟨Try.f101.name, by decide, Try.func101.trans (congrArg some (by kernel_rfl))⟩,
  t0 := Try.underlying0,
  a0 := Try.isAgg0,
  z0 := Try.sizeOf0,
  v0 := Try.zeroValue0,
  t3 := Try.underlying3,
  a3 := Try.isAgg3,
  z3 := Try.sizeOf3,
  v3 := Try.zeroValue3,
  t4 := Try.underlying4,
  a4 := Try.isAgg4,
  z4 := Try.sizeOf4,
  v4 := Try.zeroValue4,
  t5 := Try.underlying5,
  a5 := Try.isAgg5,
  z5 := Try.sizeOf5,
  v5 := Try.zeroValue5,
  t9 := Try.underlying9,
  a9 := Try.isAgg9,
  z9 := Try.sizeOf9,
  v9 := Try.zeroValue9,
  t22 := Try.underlying23,
  a22 := Try.isAgg23,
  z22 := Try.sizeOf23,
  v22 := Try.zeroValue23,
  t23 := Try.underlying23,
  a23 := Try.isAgg23,
  z23 := Try.sizeOf23,
  v23 := Try.zeroValue23,
  t25 := Try.underlying3,
  a25 := Try.isAgg3,
  z25 := Try.sizeOf3,
  v25 := Try.zeroValue3,
  t32 := Try.underlying75,
  a32 := Try.isAgg75,
  z32 := Try.sizeOf75,
  v32 := Try.zeroValue75,
  t35 := Try.underlying78,
  a35 := Try.isAgg78,
  z35 := Try.sizeOf78,
  v35 := Try.zeroValue78,
  t36 := Try.underlying79,
  a36 := Try.isAgg79,
  z36 := Try.sizeOf79,
  v36 := Try.zeroValue79,
  t41 := Try.underlying35,
  a41 := Try.isAgg35,
  z41 := Try.sizeOf35,
  v41 := Try.zeroValue35,
  t44 := Try.underlying85,
  a44 := Try.isAgg85,
  z44 := Try.sizeOf85,
  v44 := Try.zeroValue85,
  t46 := Try.underlying87,
  a46 := Try.isAgg87,
  z46 := Try.sizeOf87,
  v46 := Try.zeroValue87,
  t53 := Try.underlying93,
  a53 := Try.isAgg93,
  z53 := Try.sizeOf93,
  v53 := Try.zeroValue93,
  t57 := Try.underlying97,
  a57 := Try.isAgg97,
  z57 := Try.sizeOf97,
  v57 := Try.zeroValue97,
  t63 := Try.underlying101,
  a63 := Try.isAgg101,
  z63 := Try.sizeOf101,
  v63 := Try.zeroValue101,
  t64 := Try.underlying102,
  a64 := Try.isAgg102,
  z64 := Try.sizeOf102,
  v64 := Try.zeroValue102 }
/-- slices.SortFunc   secateur api.Range secateur api.Range : function 61. -/
def lsortF_ren : Go.Shelf.Ren := ⟨fun | 6 => 61 | 14 => 69 | 15 => 70 | 20 => 72 | 21 => 73 | 22 => 74 | 23 => 75 | 24 => 76 | 25 => 77 | 26 => 78 | 27 => 79 | 28 => 80 | 29 => 81 | 46 => 91 | 47 => 92 | 48 => 93 | 49 => 94 | 50 => 95 | 57 => 100 | n => n, fun | 0 => 0 | 3 => 3 | 4 => 4 | 5 => 5 | 9 => 9 | 22 => 22 | 24 => 52 | 25 => 68 | 39 => 75 | 45 => 78 | 46 => 79 | 50 => 35 | 53 => 85 | 55 => 87 | 66 => 93 | 70 => 97 | 76 => 101 | 77 => 102 | n => n, fun n => n⟩
theorem lsortF : SlLaysF0.n6 Try.prog lsortF_ren := {
  mixed := by kernel_rfl,
  f6 := ⟨Try.f61.name, by decide, Try.func61.trans (congrArg some (by kernel_rfl))⟩,
  f14 := ⟨Try.f69.name, by decide, Try.func69.trans (congrArg some (by kernel_rfl))⟩,
  f15 := Try.func70.trans (congrArg some (by kernel_rfl)),
  f20 := ⟨Try.f72.name, by decide, Try.func72.trans (congrArg some (by kernel_rfl))⟩,
  f21 := ⟨Try.f73.name, by decide, Try.func73.trans (congrArg some (by kernel_rfl))⟩,
  f22 := ⟨Try.f74.name, by decide, Try.func74.trans (congrArg some (by kernel_rfl))⟩,
  f23 := ⟨Try.f75.name, by decide, Try.func75.trans (congrArg some (by kernel_rfl))⟩,
  f24 := ⟨Try.f76.name, by decide, Try.func76.trans (congrArg some (by kernel_rfl))⟩,
  f25 := ⟨Try.f77.name, by decide, Try.func77.trans (congrArg some (by kernel_rfl))⟩,
  f26 := ⟨Try.f78.name, by decide, Try.func78.trans (congrArg some (by kernel_rfl))⟩,
  f27 := ⟨Try.f79.name, by decide, Try.func79.trans (congrArg some (by kernel_rfl))⟩,
  f28 := Try.func80.trans (congrArg some (by kernel_rfl)),
  f29 := Try.func81.trans (congrArg some (by kernel_rfl)),
  f46 := ⟨Try.f91.name, by decide, Try.func91.trans (congrArg some (by kernel_rfl))⟩,
  f47 := Try.func92.trans (congrArg some (by kernel_rfl)),
  f48 := Try.func93.trans (congrArg some (by kernel_rfl)),
  f49 := ⟨Try.f94.name, by decide, Try.func94.trans (congrArg some (by kernel_rfl))⟩,
  f50 := ⟨Try.f95.name, by decide, Try.func95.trans (congrArg some (by kernel_rfl))⟩,
  f57 := ⟨Try.f100.name, by decide, Try.func100.trans (congrArg some (by kernel_rfl))⟩,
  t0 := Try.underlying0,
  a0 := Try.isAgg0,
  z0 := Try.sizeOf0,
  v0 := Try.zeroValue0,
  t3 := Try.underlying3,
  a3 := Try.isAgg3,
  z3 := Try.sizeOf3,
  v3 := Try.zeroValue3,
  t4 := Try.underlying4,
  a4 := Try.isAgg4,
  z4 := Try.sizeOf4,
  v4 := Try.zeroValue4,
  t5 := Try.underlying5,
  a5 := Try.isAgg5,
  z5 := Try.sizeOf5,
  v5 := Try.zeroValue5,
  t9 := Try.underlying9,
  a9 := Try.isAgg9,
  z9 := Try.sizeOf9,
  v9 := Try.zeroValue9,
  t22 := Try.underlying22,
  a22 := Try.isAgg22,
  z22 := Try.sizeOf22,
  v22 := Try.zeroValue22,
  t25 := Try.underlying68,
  a25 := Try.isAgg68,
  z25 := Try.sizeOf68,
  v25 := Try.zeroValue68,
  t39 := Try.underlying75,
  a39 := Try.isAgg75,
  z39 := Try.sizeOf75,
  v39 := Try.zeroValue75,
  t45 := Try.underlying78,
  a45 := Try.isAgg78,
  z45 := Try.sizeOf78,
  v45 := Try.zeroValue78,
  t46 := Try.underlying79,
  a46 := Try.isAgg79,
  z46 := Try.sizeOf79,
  v46 := Try.zeroValue79,
  t50 := Try.underlying35,
  a50 := Try.isAgg35,
  z50 := Try.sizeOf35,
  v50 := Try.zeroValue35,
  t53 := Try.underlying85,
  a53 := Try.isAgg85,
  z53 := Try.sizeOf85,
  v53 := Try.zeroValue85,
  t55 := Try.underlying87,
  a55 := Try.isAgg87,
  z55 := Try.sizeOf87,
  v55 := Try.zeroValue87,
  t66 := Try.underlying93,
  a66 := Try.isAgg93,
  z66 := Try.sizeOf93,
  v66 := Try.zeroValue93,
  t70 := Try.underlying97,
  a70 := Try.isAgg97,
  z70 := Try.sizeOf97,
  v70 := Try.zeroValue97,
  t76 := Try.underlying101,
  a76 := Try.isAgg101,
  z76 := Try.sizeOf101,
  v76 := Try.zeroValue101,
  t77 := Try.underlying102,
  a77 := Try.isAgg102,
  z77 := Try.sizeOf102,
  v77 := Try.zeroValue102 }
end Go.Proofs.Ytklanjkndoikeaa.P

/- slices.ContainsFunc over ints, slices.Sorted over an iterator. -/
namespace Go.Proofs.Ytklanjkndoikeaa.P
open Go.RowKit Go.Shelf Go.Proofs.YtklanjkndoikeaaW.PrintWords Go.Proofs.YtklanjkndoikeaaW.PrintLast Go.Proofs.YtklanjkndoikeaaW.PrintMore
set_option linter.unusedVariables false
set_option linter.unusedSimpArgs false

/-- A list in order (by insertion: the kernel can reckon it). -/
def insI (x : Int) : List Int → List Int
  | [] => [x]
  | y :: ys => if x ≤ y then x :: y :: ys else y :: insI x ys
def sortI : List Int → List Int
  | [] => []
  | x :: xs => insI x (sortI xs)
theorem insI_perm (x : Int) : ∀ l, List.Perm (insI x l) (x :: l)
  | [] => List.Perm.refl _
  | y :: ys => by
    unfold insI
    split
    · exact List.Perm.refl _
    · exact ((insI_perm x ys).cons y).trans (List.Perm.swap x y ys)
theorem sortI_perm : ∀ l, List.Perm (sortI l) l
  | [] => List.Perm.refl _
  | x :: xs => (insI_perm x _).trans ((sortI_perm xs).cons x)
theorem insI_le (x : Int) : ∀ l, List.Pairwise (fun a b : Int => a ≤ b) l → List.Pairwise (fun a b : Int => a ≤ b) (insI x l)
  | [], _ => by simp [insI]
  | y :: ys, h => by
    unfold insI
    split
    · rename_i hxy
      refine List.pairwise_cons.2 ⟨fun z hz => ?_, h⟩
      rcases List.mem_cons.1 hz with rfl | hz
      · exact hxy
      · have := (List.pairwise_cons.1 h).1 z hz
        omega
    · rename_i hxy
      refine List.pairwise_cons.2 ⟨fun z hz => ?_, insI_le x ys (List.pairwise_cons.1 h).2⟩
      rcases List.mem_cons.1 ((insI_perm x ys).mem_iff.1 hz) with rfl | hz
      · omega
      · exact (List.pairwise_cons.1 h).1 z hz
theorem sortI_le : ∀ l, List.Pairwise (fun a b : Int => a ≤ b) (sortI l)
  | [] => List.Pairwise.nil
  | x :: xs => insI_le x _ (sortI_le xs)
theorem mergeSort_sortI (l : List Int) : (l.mergeSort fun x y => decide (x ≤ y)) = sortI l := by
  refine List.Perm.eq_of_pairwise (le := fun a b : Int => a ≤ b) (fun a b _ _ h1 h2 => by omega) ?_ (sortI_le l) ((List.mergeSort_perm l _).trans (sortI_perm l).symm)
  have := List.pairwise_mergeSort (le := fun x y : Int => decide (x ≤ y)) (fun a b c h1 h2 => by simp at *; omega) (fun a b => by simp; omega) l
  exact this.imp (fun h => by simpa using h)
theorem sortI_length (l : List Int) : (sortI l).length = l.length := (sortI_perm l).length_eq

set_option maxHeartbeats 2000000 in
theorem indexFunc_int (p : Int → Bool) (g : Nat) (lb : Array Value) (eg : ∀ args w, (callFunc g args).run Try.prog w = .ok (.enter g args) w) (A : Option Addr) (c : Nat) (zs : List Int) (w : World) (hr : Kd.C (Kd.int .i64) w A zs.length zs)
    (hp : ∀ k, k < zs.length → ∀ q, Calls Try.prog g (#[.int .i64 (rd zs (k : Int))] ++ lb) (w.drewN q) fun e w' => e = .returned (.bool (p (rd zs (k : Int)))) ∧ ∃ q', w' = (w.drewN q).drewN q') :
    Calls Try.prog 63 #[.slice A zs.length c, .func (.func g) #[] lb] w fun e w' => (∃ i : Int, e = .returned (.int .i64 i) ∧ decide (0 ≤ i) = zs.any p) ∧ ∃ q, w' = w.drewN q := by
  have hlen : zs.length ≤ 9223372036854775807 := hr.2.1
  have hany : ∀ k, zs.any p = ((zs.take k).any p || (zs.drop k).any p) := fun k => by rw [← List.any_append, List.take_append_drop]
  have HY := Aside0.mk hany
  clear hany
  go_enter Try.func63, Try.ntmps63
  go_wp2
  go_loopg [5, 8] zs.length (fun gg _ s8 wr => ∃ kk q : Nat, kk ≤ zs.length ∧ zs.length - kk ≤ gg ∧ s8 = .int .i64 kk ∧ wr = w.drewN q ∧ Aside0 ((zs.take kk).any p = false))
  case atStart => exact ⟨0, 0, Nat.zero_le _, by omega, rfl, rfl, ⟨by simp⟩⟩
  case round =>
    obtain ⟨kk, q, hkk, hg, rfl, rfl, A1⟩ := hrel
    by_cases hlt : kk < zs.length
    · obtain ⟨ad, rfl, hx0⟩ := Kd.at_int hr (kk : Int) (by omega) (by omega)
      simp only [Int.toNat_natCast] at hx0
      have hcall := hp kk hlt
      clear hp
      have htk : Aside0 (zs.take (kk + 1) = zs.take kk ++ [rd zs (kk : Int)]) := ⟨by
        rw [List.take_succ_eq_append_getElem hlt]
        simp [rd, List.getD_eq_getElem?_getD, List.getElem?_eq_getElem hlt]⟩
      generalize rd zs (kk : Int) = y at *
      cases hq : p y with
      | true =>
        rw [hq] at hcall
        have B := Aside0.mk hq
        clear hq
        go_wp2_with (go_at_fn g; refine (hcall _).mono ?_; rintro e w' ⟨rfl, q', rfl⟩)
        go_ret
        refine ⟨⟨_, rfl, ?_⟩, _, rfl⟩
        rw [HY.out (kk + 1), htk.out, List.any_append]
        simp [B.out]
      | false =>
        rw [hq] at hcall
        have B := Aside0.mk hq
        clear hq
        go_wp2_with (go_at_fn g; refine (hcall _).mono ?_; rintro e w' ⟨rfl, q', rfl⟩)
        go_roundg (zs.length - (kk + 1))
        case measure => omega
        case rel => exact ⟨kk + 1, _, by omega, by omega, by go_num, rfl, ⟨by rw [htk.out, List.any_append, A1.out]; simp [B.out]⟩⟩
    · obtain rfl : kk = zs.length := by omega
      go_wp2
      go_ret
      refine ⟨⟨_, rfl, ?_⟩, q, rfl⟩
      have := A1.out
      rw [List.take_length] at this
      rw [this]
      rfl
theorem containsFunc_int (p : Int → Bool) (g : Nat) (lb : Array Value) (eg : ∀ args w, (callFunc g args).run Try.prog w = .ok (.enter g args) w) (A : Option Addr) (c : Nat) (zs : List Int) (w : World) (hr : Kd.C (Kd.int .i64) w A zs.length zs)
    (hp : ∀ k, k < zs.length → ∀ q, Calls Try.prog g (#[.int .i64 (rd zs (k : Int))] ++ lb) (w.drewN q) fun e w' => e = .returned (.bool (p (rd zs (k : Int)))) ∧ ∃ q', w' = (w.drewN q).drewN q') :
    Calls Try.prog 44 #[.slice A zs.length c, .func (.func g) #[] lb] w fun e w' => e = .returned (.bool (zs.any p)) ∧ ∃ q, w' = w.drewN q := by
  have hI := indexFunc_int p g lb eg A c zs w hr hp
  go_enter Try.func44, Try.ntmps44
  go_wp2_with (go_at_call 63; refine hI.mono ?_; rintro e w' ⟨⟨i, rfl, hi⟩, q, rfl⟩)
  go_ret
  exact ⟨by rw [← hi]; rfl, q, rfl⟩

set_option maxHeartbeats 2000000 in
theorem sorted_int (v : Value) (xs : List Int) (w0 w : World) (hx : xs.length < 4611686018427387904) (hS : w0.heap.size ≤ w.heap.size) (hrow : w.ownsRow w0.heap.size 3 1 v xs.length (xs.map (Value.int .i64))) (hB : Below w0.heap.size w0 w) :
    Calls Try.prog 64 #[v] w fun e w' => e = .returned (.tuple #[]) ∧ w'.ownsRow w0.heap.size 3 1 v xs.length ((sortI xs).map (Value.int .i64)) ∧ Below w0.heap.size w0 w' := by
  rcases hrow.2 with ⟨rfl, h0⟩ | ⟨g, cap, cur, rfl, hg, hb, hn, hcap, hsz, htk⟩
  · have hx : xs = [] := List.length_eq_zero_iff.1 h0
    subst hx
    refine (AnyM.slices_Sort_int_none lsort none 0 w).mono ?_
    rintro e w' ⟨rfl, rfl⟩
    exact ⟨rfl, hrow, hB⟩
  · have hlt : g < w.heap.size := (Array.getElem?_eq_some_iff.1 hb).1
    refine (AnyM.slices_Sort_int lsort g 0 cap xs w (holds_of_blockI hb (by simpa using htk)) hlt hx).mono ?_
    rintro e w' ⟨rfl, n, os, rfl⟩
    rw [mergeSort_sortI]
    refine ⟨rfl, ownsRow_sortedI (sortI_length xs) hg hb hn hcap hsz, ?_⟩
    exact hB.grown (grownBy_sortedI _) hS (fun k e => by cases e; exact hg)

set_option maxHeartbeats 1000000 in
theorem sorted_calls (g : Nat) (lb : Array Value) (eg : ∀ args w, (callFunc g args).run Try.prog w = .ok (.enter g args) w) (n0 : Nat) (S Sp : List Int → Prop) (N : Nat) (hN : N * 8 ≤ 140737488355328) (hSN : ∀ xs, S xs → xs.length ≤ N) (w0 w : World) (hw : Below w0.heap.size w0 w) (hn0 : n0 ≤ w.heap.size)
    (hseq : SeqStopsK Fence.wide 7 Try.prog g lb (fun x : Int => #[Value.int .i64 x]) (Kp n0) S Sp N w0) :
    Calls Try.prog 48 #[.func (.func g) #[] lb] w fun e w' => ∃ (v : Value) (xs : List Int), e = .returned v ∧ S xs ∧ w'.ownsRow w.heap.size 3 1 v xs.length ((sortI xs).map (Value.int .i64)) ∧ Below w.heap.size w w' := by
  have cB := callsIn_wide.1 (collect_in Fence.wide 9 trivial trivial rfl (by omega) g lb trivial eg n0 S Sp N hN w0 w hw hn0 hseq)
  go_enter Try.func48, Try.ntmps48
  go_wp2_with (first | (go_at_call 58; refine cB.mono ?_; rintro e w' ⟨v, xs, rfl, hS, hrow, hb⟩) | (go_at_call 64; refine (sorted_int v xs w w' (by have := hSN xs hS; omega) hb.size hrow hb).mono ?_; rintro e w'' ⟨rfl, hrow2, hb2⟩))
  go_ret
  exact ⟨v, xs, rfl, hS, hrow2, hb2⟩
end Go.Proofs.Ytklanjkndoikeaa.P

-- Written by wip/tools/px.py out of the translation. Lean checks it.
namespace Go.Proofs.Ytklanjkndoikeaa.P
open Go.RowKit Go.Proofs.YtklanjkndoikeaaW.PrintWords Go.Proofs.YtklanjkndoikeaaW.PrintLast Go.Proofs.YtklanjkndoikeaaW.PrintMore
attribute [local go_sem] max2_int min2_int max_two min_two max_three min_three max_four min_four   -- for this text's walks alone
set_option linter.unusedVariables false
set_option linter.unusedSimpArgs false

/-! ### dom_packed: function 47 -/
mutual
def dom_packed.l0 : Nat → List (S52) → List Int → Int → Int → Option ((List (S52)))
 | 0, _, _, _, _ => none
 | k + 1, x3, x7, x8, x9 => if x9 < x8 then (if 0 ≤ x9 then (if x9 < (x7.length : Int) then (if (x3.length : Int) > 0 then (if 0 ≤ (wrap64 ((x3.length : Int) - 1)) then (if (wrap64 ((x3.length : Int) - 1)) < (x3.length : Int) then (dom_packed.j1 k x3 (rd x7 x9) (x3.length : Int) x7 x8 x9 (decide (((rd_T52 x3 (wrap64 ((x3.length : Int) - 1))).f1) ≥ (rd x7 x9)))) else (none)) else (none)) else (dom_packed.j1 k x3 (rd x7 x9) (x3.length : Int) x7 x8 x9 false)) else (none)) else (none)) else (some x3)
def dom_packed.j1 : Nat → List (S52) → Int → Int → List Int → Int → Int → Bool → Option ((List (S52)))
 | 0, _, _, _, _, _, _, _ => none
 | k + 1, x3, x5, x6, x7, x8, x9, x21 => if x21 = true then (dom_packed.l0 k x3 x7 x8 (wrap64 (x9 + 1))) else (if x6 > 0 then (if 0 ≤ (wrap64 (x6 - 1)) then (if (wrap64 (x6 - 1)) < (x3.length : Int) then (if ((rd_T52 x3 (wrap64 (x6 - 1))).f1) = (wrap64 (x5 - 1)) then (dom_packed.l0 k (x3.set ((wrap64 (x6 - 1)) : Int).toNat (⟨(rd_T52 x3 (wrap64 (x6 - 1))).f0, x5⟩ : S52)) x7 x8 (wrap64 (x9 + 1))) else (if x3.length < 8796093022208 then (dom_packed.l0 k (x3 ++ [(⟨x5, x5⟩ : S52)]) x7 x8 (wrap64 (x9 + 1))) else (none))) else (none)) else (none)) else (if x3.length < 8796093022208 then (dom_packed.l0 k (x3 ++ [(⟨x5, x5⟩ : S52)]) x7 x8 (wrap64 (x9 + 1))) else (none)))
end
def dom_packed.f (k : Nat) (l0 : List Int) : Option ((List (S52))) := dom_packed.l0 k ([] : List (S52)) l0 (l0.length : Int) 0
theorem dom_packed.mono_l : ∀ k, (∀ y0 y1 y2 y3, LeO (dom_packed.l0 k y0 y1 y2 y3) (dom_packed.l0 (k + 1) y0 y1 y2 y3)) ∧ (∀ y0 y1 y2 y3 y4 y5 y6, LeO (dom_packed.j1 k y0 y1 y2 y3 y4 y5 y6) (dom_packed.j1 (k + 1) y0 y1 y2 y3 y4 y5 y6))
 | 0 => ⟨fun _ _ _ _ r h => by simp [dom_packed.l0] at h, fun _ _ _ _ _ _ _ r h => by simp [dom_packed.j1] at h⟩
 | k + 1 => by
  obtain ⟨ih0, ih1⟩ := dom_packed.mono_l k
  refine ⟨?_, ?_⟩
  ·intro y0 y1 y2 y3
   unfold dom_packed.l0
   repeat' first
   | (with_reducible exact ih0 _ _ _ _)
   | (with_reducible exact ih1 _ _ _ _ _ _ _)
   | (with_reducible exact LeO.refl _)
   | (with_reducible exact LeO.none _)
   | (with_reducible refine LeO.ite ?_ ?_)
   | (with_reducible refine LeO.bind ?_ (fun _ => ?_))
   | exact ih0 _ _ _ _
   | exact ih1 _ _ _ _ _ _ _
   | exact LeO.none _
   | refine LeO.ite ?_ ?_
   | refine LeO.bind ?_ (fun _ => ?_)
  ·intro y0 y1 y2 y3 y4 y5 y6
   unfold dom_packed.j1
   repeat' first
   | (with_reducible exact ih0 _ _ _ _)
   | (with_reducible exact ih1 _ _ _ _ _ _ _)
   | (with_reducible exact LeO.refl _)
   | (with_reducible exact LeO.none _)
   | (with_reducible refine LeO.ite ?_ ?_)
   | (with_reducible refine LeO.bind ?_ (fun _ => ?_))
   | exact ih0 _ _ _ _
   | exact ih1 _ _ _ _ _ _ _
   | exact LeO.none _
   | refine LeO.ite ?_ ?_
   | refine LeO.bind ?_ (fun _ => ?_)
theorem dom_packed.mono : ∀ a0 k, LeO (dom_packed.f k a0) (dom_packed.f (k + 1) a0) := by
 intro a0 k
 obtain ⟨ih0, ih1⟩ := dom_packed.mono_l k
 unfold dom_packed.f
 repeat' first
   | (with_reducible exact ih0 _ _ _ _)
   | (with_reducible exact ih1 _ _ _ _ _ _ _)
   | (with_reducible exact LeO.refl _)
   | (with_reducible exact LeO.none _)
   | (with_reducible refine LeO.ite ?_ ?_)
   | (with_reducible refine LeO.bind ?_ (fun _ => ?_))
   | exact ih0 _ _ _ _
   | exact ih1 _ _ _ _ _ _ _
   | exact LeO.none _
   | refine LeO.ite ?_ ?_
   | refine LeO.bind ?_ (fun _ => ?_)
set_option maxHeartbeats 8000000 in
set_option maxRecDepth 100000 in
theorem dom_packed.calls (k : Nat) (A0 : Option Addr) (c0 : Nat) (l0 : List Int) (r : List (S52)) (w : World) (hr0 : Kd.C (Kd.int .i64) w A0 l0.length l0) (hc0 : l0.length ≤ c0) (h : dom_packed.f k l0 = some r) :
  Calls Try.prog 47 #[.slice A0 l0.length c0] w fun e w' => ∃ v0_ : Value, e = .returned (v0_) ∧ Kd.R k52 52 w' w.heap.size (fun _ => True) v0_ r ∧ Below w.heap.size w w' := by
 have hu52 := Try.underlying52
 have HR0 := Aside0.mk hr0
 have HC0 := Aside0.mk hc0
 clear hr0 hc0
 have HB := Aside0.mk (Below.refl w.heap.size w)
 have H : (dom_packed.l0 k ([] : List (S52)) l0 (l0.length : Int) 0) = some r := h
 clear h
 have H' := Aside0.mk H
 clear H
 go_enter Try.func47, Try.ntmps47
 go_wp2
 go_loopg [3, 9] k (fun kq v3 v9 w' => ∃ (x3_1 : List (S52)) (x9_1 : Int), v9 = .int .i64 x9_1 ∧ Aside0 (dom_packed.l0 kq x3_1 l0 (l0.length : Int) x9_1 = some r) ∧ Aside0 (kq ≤ k) ∧ Aside0 (Kd.R k52 52 w' w.heap.size (fun _ => True) v3 x3_1) ∧ Aside0 (Below w.heap.size w w'))
 case atStart => exact ⟨(([] : List (S52))), (0), (by first | rfl | (simp; done) | (simp [*]; done)), H', ⟨Nat.le_refl _⟩, ⟨by first | exact Kd.R_nil _ _ _ _ _ | exact Kd.N_nil _ _ _ _ _ | exact Kd.V_nil _ _ _ _ _ | exact Kd.Q_nil _ _ _ _ _ | exact Kd.S_nil _ _ _ _ _⟩, ⟨by repeat (first | (with_reducible first | exact HB.out | apply below_alloc | apply pw_below_drewN | apply below_drew1) | exact HB.out)⟩⟩
 case round =>
  clear H'
  obtain ⟨x3_1, x9_1, rfl, HA, HK1, HO_3, HB⟩ := hrel
  cases gk with
  | zero => exact absurd HA.out (by simp [dom_packed.l0])
  | succ k1 =>
   have H := HA.out
   clear HA
   simp only [dom_packed.l0] at H
   by_cases c2 : x9_1 < (l0.length : Int)
   ·rw [if_pos c2] at H
    have c2b0 : decide (x9_1 < (l0.length : Int)) = true := decide_eq_true c2
    clear c2
    by_cases c3 : 0 ≤ x9_1
    ·rw [if_pos c3] at H
     have c3b0 : decide (0 ≤ x9_1) = true := decide_eq_true c3
     clear c3
     by_cases c4 : x9_1 < (l0.length : Int)
     ·rw [if_pos c4] at H
      have c4b0 : decide (x9_1 < (l0.length : Int)) = true := decide_eq_true c4
      clear c4
      have HC5 := Aside0.mk H
      clear H
      have p103 : 0 ≤ (x9_1 : Int) := of_decide_eq_true (by first | (with_reducible assumption) | assumption)
      have q103 : x9_1 < (l0.length : Int) := of_decide_eq_true (by first | (with_reducible assumption) | assumption)
      obtain ⟨ad103, e103, hx103_0⟩ := Kd.at_int HR0.out x9_1 p103 q103
      cases e103
      replace hx103_0 := (HB.out.cell (World.block_lt_of_cell? w _ hx103_0)).trans hx103_0
      replace p103 := eq_true p103
      replace q103 := eq_true q103
      obtain ⟨Ao6, co6, eo6⟩ := Kd.R_slice HO_3.out
      subst eo6
      go_upto_region 7 with (fail)
      go_cut [21] (fun v21 wc => ∃ (kq : Nat) (x21_4 : Bool), v21 = .bool x21_4 ∧ Aside0 (dom_packed.j1 kq x3_1 (rd l0 x9_1) (x3_1.length : Int) l0 (l0.length : Int) x9_1 x21_4 = some r) ∧ Aside0 (kq ≤ k1) ∧ Aside0 (Kd.R k52 52 wc w.heap.size (fun _ => True) (.slice Ao6 x3_1.length co6) x3_1) ∧ Aside0 (Below w.heap.size w wc))
      case first =>
       have H := HC5.out
       clear HC5
       by_cases c7 : (x3_1.length : Int) > 0
       ·rw [if_pos c7] at H
        have c7b0 : decide (0 < (x3_1.length : Int)) = true := decide_eq_true c7
        have c7b1 : decide (0 < x3_1.length) = true := decide_eq_true (by omega)
        clear c7
        (first | rw [c7b0] | (simp only [i64_w, i32_w]; rw [c7b0]) | skip)
        obtain ⟨ji8, hji8⟩ : ∃ j_ : Int, (wrap64 ((x3_1.length : Int) - 1)) = j_ := ⟨_, rfl⟩
        replace H : (if 0 ≤ (ji8) then (if (ji8) < (x3_1.length : Int) then (dom_packed.j1 k1 x3_1 (rd l0 x9_1) (x3_1.length : Int) l0 (l0.length : Int) x9_1 (decide (((rd_T52 x3_1 (ji8)).f1) ≥ (rd l0 x9_1)))) else (none)) else (none)) = some r := by first | (rw [hji8] at H; exact H) | (simp only [hji8] at H ⊢; exact H)
        have hji8w : (IntKind.i64.wrap ((x3_1.length : Int) - 1)) = ji8 := (i64_w _).trans hji8
        by_cases c9 : 0 ≤ (ji8)
        ·rw [if_pos c9] at H
         have c9b0 : decide (0 ≤ (ji8)) = true := decide_eq_true c9
         clear c9
         by_cases c10 : (ji8) < (x3_1.length : Int)
         ·rw [if_pos c10] at H
          have c10b0 : decide ((ji8) < (x3_1.length : Int)) = true := decide_eq_true c10
          clear c10
          have H' := Aside0.mk H
          clear H
          have p104 : 0 ≤ ((ji8) : Int) := of_decide_eq_true (by first | (with_reducible assumption) | assumption)
          have q104 : (ji8) < (x3_1.length : Int) := of_decide_eq_true (by first | (with_reducible assumption) | assumption)
          obtain ⟨ad104, e104, hx104_0, hx104_1⟩ := at_T52 (Kd.R_reads' HO_3.out).2.2 (ji8) p104 q104
          cases e104
          replace p104 := eq_true p104
          replace q104 := eq_true q104
          go_wp2
          go_meet
          case rel => exact ⟨_, (decide (((rd_T52 x3_1 (ji8)).f1) ≥ (rd l0 x9_1))), (by first | rfl | (simp; done) | (simp only [← hji8] <;> (first | rfl | simp)) | (simp [*]; done)), H', ⟨by have := HK1.out; first | omega | exact Nat.le_refl _⟩, ⟨by (with_reducible repeat (first | apply Kd.R_alloc | apply Kd.R_drewN | apply Kd.R_drew)); exact HO_3.out⟩, ⟨by repeat (first | (with_reducible first | exact HB.out | apply below_alloc | apply pw_below_drewN | apply below_drew1) | exact HB.out)⟩⟩
         ·rw [if_neg c10] at H
          exact absurd H (by simp)
        ·rw [if_neg c9] at H
         exact absurd H (by simp)
       ·rw [if_neg c7] at H
        have c7b0 : decide (0 < (x3_1.length : Int)) = false := decide_eq_false c7
        have c7b1 : decide (0 < x3_1.length) = false := decide_eq_false (by omega)
        clear c7
        (first | rw [c7b0] | (simp only [i64_w, i32_w]; rw [c7b0]) | skip)
        have H' := Aside0.mk H
        clear H
        go_wp2
        go_meet
        case rel => exact ⟨_, (false), (by first | rfl | (simp; done) | (simp [*]; done)), H', ⟨by have := HK1.out; first | omega | exact Nat.le_refl _⟩, ⟨by (with_reducible repeat (first | apply Kd.R_alloc | apply Kd.R_drewN | apply Kd.R_drew)); exact HO_3.out⟩, ⟨by repeat (first | (with_reducible first | exact HB.out | apply below_alloc | apply pw_below_drewN | apply below_drew1) | exact HB.out)⟩⟩
      case rest =>
       clear HC5
       try clear c1
       try clear p1
       try clear q1
       try clear hx1
       try clear c2
       try clear c2b0
       try clear p2
       try clear c3
       try clear c3b0
       try clear c4
       try clear c4b0
       try clear p6
       try clear c7
       try clear c7b0
       try clear c7b1
       try clear c9
       try clear c9b0
       try clear c10
       try clear c10b0
       try clear p10
       try clear q10
       try clear hx10
       try clear hx103_0
       try clear hx104_0
       try clear hx104_1
       try clear p103
       try clear p104
       try clear q103
       try clear q104
       obtain ⟨kq, x21_4, rfl, HA, HJ4, HO_3, HB⟩ := hcut
       cases kq with
       | zero => exact absurd HA.out (by simp [dom_packed.j1])
       | succ kj4 =>
        have H := HA.out
        clear HA
        simp only [dom_packed.j1] at H
        by_cases c11 : x21_4 = true
        ·subst c11
         have H1 : (dom_packed.l0 kj4 x3_1 l0 (l0.length : Int) (wrap64 (x9_1 + 1))) = some r := by rw [if_pos rfl] at H; exact H
         clear H
         have H := H1
         clear H1
         have H' := Aside0.mk H
         clear H
         go_wp2
         go_roundg kj4
         case measure => have := HK1.out; have := HJ4.out; omega
         case rel => exact ⟨(x3_1), (wrap64 (x9_1 + 1)), (by first | rfl | (simp; done) | (simp [*]; done)), H', ⟨by have := HK1.out; have := HJ4.out; omega⟩, ⟨by (with_reducible repeat (first | apply Kd.R_alloc | apply Kd.R_drewN | apply Kd.R_drew)); exact HO_3.out⟩, ⟨by repeat (first | (with_reducible first | exact HB.out | apply below_alloc | apply pw_below_drewN | apply below_drew1) | exact HB.out)⟩⟩
        ·replace c11 := Bool.eq_false_iff.mpr c11
         subst c11
         have H1 : (if (x3_1.length : Int) > 0 then (if 0 ≤ (wrap64 ((x3_1.length : Int) - 1)) then (if (wrap64 ((x3_1.length : Int) - 1)) < (x3_1.length : Int) then (if ((rd_T52 x3_1 (wrap64 ((x3_1.length : Int) - 1))).f1) = (wrap64 ((rd l0 x9_1) - 1)) then (dom_packed.l0 kj4 (x3_1.set ((wrap64 ((x3_1.length : Int) - 1)) : Int).toNat (⟨(rd_T52 x3_1 (wrap64 ((x3_1.length : Int) - 1))).f0, (rd l0 x9_1)⟩ : S52)) l0 (l0.length : Int) (wrap64 (x9_1 + 1))) else (if x3_1.length < 8796093022208 then (dom_packed.l0 kj4 (x3_1 ++ [(⟨(rd l0 x9_1), (rd l0 x9_1)⟩ : S52)]) l0 (l0.length : Int) (wrap64 (x9_1 + 1))) else (none))) else (none)) else (none)) else (if x3_1.length < 8796093022208 then (dom_packed.l0 kj4 (x3_1 ++ [(⟨(rd l0 x9_1), (rd l0 x9_1)⟩ : S52)]) l0 (l0.length : Int) (wrap64 (x9_1 + 1))) else (none))) = some r := by rw [if_neg (show ¬ (false = true) by decide)] at H; exact H
         clear H
         have H := H1
         clear H1
         by_cases c12 : (x3_1.length : Int) > 0
         ·rw [if_pos c12] at H
          have c12b0 : decide (0 < (x3_1.length : Int)) = true := decide_eq_true c12
          have c12b1 : decide (0 < x3_1.length) = true := decide_eq_true (by omega)
          clear c12
          obtain ⟨ji13, hji13⟩ : ∃ j_ : Int, (wrap64 ((x3_1.length : Int) - 1)) = j_ := ⟨_, rfl⟩
          replace H : (if 0 ≤ (ji13) then (if (ji13) < (x3_1.length : Int) then (if ((rd_T52 x3_1 (ji13)).f1) = (wrap64 ((rd l0 x9_1) - 1)) then (dom_packed.l0 kj4 (x3_1.set ((ji13) : Int).toNat (⟨(rd_T52 x3_1 (ji13)).f0, (rd l0 x9_1)⟩ : S52)) l0 (l0.length : Int) (wrap64 (x9_1 + 1))) else (if x3_1.length < 8796093022208 then (dom_packed.l0 kj4 (x3_1 ++ [(⟨(rd l0 x9_1), (rd l0 x9_1)⟩ : S52)]) l0 (l0.length : Int) (wrap64 (x9_1 + 1))) else (none))) else (none)) else (none)) = some r := by first | (rw [hji13] at H; exact H) | (simp only [hji13] at H ⊢; exact H)
          have hji13w : (IntKind.i64.wrap ((x3_1.length : Int) - 1)) = ji13 := (i64_w _).trans hji13
          by_cases c14 : 0 ≤ (ji13)
          ·rw [if_pos c14] at H
           have c14b0 : decide (0 ≤ (ji13)) = true := decide_eq_true c14
           clear c14
           by_cases c15 : (ji13) < (x3_1.length : Int)
           ·rw [if_pos c15] at H
            have c15b0 : decide ((ji13) < (x3_1.length : Int)) = true := decide_eq_true c15
            clear c15
            by_cases c16 : ((rd_T52 x3_1 (ji13)).f1) = (wrap64 ((rd l0 x9_1) - 1))
            ·rw [if_pos c16] at H
             have c16b0 : (((rd_T52 x3_1 (ji13)).f1) == (wrap64 ((rd l0 x9_1) - 1))) = true := beq_iff_eq.mpr c16
             have c16b1 : (((rd_T52 x3_1 (ji13)).f1) != (wrap64 ((rd l0 x9_1) - 1))) = false := bne_eq_false_iff_eq.mpr c16
             clear c16
             obtain ⟨y106, hy106⟩ : ∃ y_ : List (S52), y_ = (x3_1.set ((ji13) : Int).toNat (⟨(rd_T52 x3_1 (ji13)).f0, (rd l0 x9_1)⟩ : S52)) := ⟨_, rfl⟩
             replace H : (dom_packed.l0 kj4 y106 l0 (l0.length : Int) (wrap64 (x9_1 + 1))) = some r := by first | (rw [hy106]; with_reducible exact H) | (have H2_ := (Option.bind_some _ _).symm.trans H; rw [hy106]; with_reducible exact H2_) | (have H2_ := (Option.bind_some _ _).symm.trans H; with_reducible exact H2_) | with_reducible exact H | (rw [hy106]; exact H) | exact H
             have Ny106 := Aside0.mk hy106
             clear hy106
             have H' := Aside0.mk H
             clear H
             have p105 : 0 ≤ ((ji13) : Int) := of_decide_eq_true (by first | (with_reducible assumption) | assumption)
             have q105 : (ji13) < (x3_1.length : Int) := of_decide_eq_true (by first | (with_reducible assumption) | assumption)
             obtain ⟨ad105, e105, hx105_0, hx105_1⟩ := at_T52 (Kd.R_reads' HO_3.out).2.2 (ji13) p105 q105
             cases e105
             replace p105 := eq_true p105
             replace q105 := eq_true q105
             have p17 : 0 ≤ ((ji13) : Int) := of_decide_eq_true (by first | (with_reducible assumption) | assumption)
             have q17 : ((ji13) : Int) < ((x3_1.length : Int) : Int) := of_decide_eq_true (by first | (with_reducible assumption) | assumption)
             obtain ⟨go17, co17, eo17, gb17, gl17, cl17, HG17⟩ := Kd.R_form HO_3.out (by omega)
             (first | cases eo17 | (injection eo17 with ea_ en_ ec_; (first | subst ea_ | (injection ea_ with ea_; subst ea_)); subst ec_; clear en_))
             have GB17 := Aside0.mk gb17
             have GG17 := Aside0.mk HG17
             clear gb17 gl17 HG17
             (first | simp only [add_plain] at hx105_0 | skip)
             (first | simp only [add_plain] at hx105_1 | skip)
             obtain ⟨ce17, hcl17, hM17, hcc17, hfr17⟩ := Kd.R_elem HO_3.out z52 ((ji13) : Int) p17 q17
             obtain rfl := k52_openM hM17
             have hx17_0 : wc.cell? ⟨go17, ((ji13) : Int).toNat * 2, none⟩ = some (.int .i64 ((rd_T52 x3_1 (ji13)).f0)) := hcc17 0 _ rfl
             have hx17_1 : wc.cell? ⟨go17, ((ji13) : Int).toNat * 2 + 1, none⟩ = some (.int .i64 ((rd_T52 x3_1 (ji13)).f1)) := hcc17 1 _ rfl
             have hf17_0 : wc.frozen? ⟨go17, ((ji13) : Int).toNat * 2, none⟩ = false := hfr17 0
             have hf17_1 : wc.frozen? ⟨go17, ((ji13) : Int).toNat * 2 + 1, none⟩ = false := hfr17 1
             clear hcl17 hcc17 hfr17 hM17
             replace p17 := eq_true p17
             replace q17 := eq_true q17
             have HX18 := Aside0.mk (show Kd.R k52 52 wc w.heap.size (fun _ => True) (.slice (some ⟨go17, 0, none⟩) x3_1.length co6) x3_1 from (by (with_reducible repeat (first | apply Kd.R_alloc | apply Kd.R_drewN | apply Kd.R_drew)); exact HO_3.out))
             obtain ⟨ce18, hcl18, hM18, hcc18, hfr18⟩ := Kd.R_elem HX18.out z52 ((ji13) : Int) (of_decide_eq_true (by first | (with_reducible assumption) | assumption)) (by have h_ : ((ji13) : Int) < ((x3_1.length : Int) : Int) := of_decide_eq_true (by first | (with_reducible assumption) | assumption); first | exact h_ | (have e_ := (Kd.R_reads' HO_3.out).1; omega) | simpa using h_)
             obtain rfl := k52_openM hM18
             have HP18 := Kd.R_seg HX18.out ((ji13) : Int) (of_decide_eq_true (by first | (with_reducible assumption) | assumption)) (by have h_ : ((ji13) : Int) < ((x3_1.length : Int) : Int) := of_decide_eq_true (by first | (with_reducible assumption) | assumption); first | exact h_ | (have e_ := (Kd.R_reads' HO_3.out).1; omega) | simpa using h_) (seg := [.int .i64 (rd l0 x9_1)]) (j := 1) hcl18 hcc18 (show 2 ≤ 2 from by decide) (x' := (⟨(rd_T52 x3_1 (ji13)).f0, (rd l0 x9_1)⟩ : S52)) (k52_mkM _ _ _ (⟨(rd_T52 x3_1 (ji13)).f0, (rd l0 x9_1)⟩ : S52) ) (fun _ hk => hk)
             have hx18_1 := hcc18 1 _ rfl
             (try simp only [show (k52).sz = 2 from rfl, Nat.mul_one, Nat.add_zero] at hx18_1)
             have hf18_1 := hfr18 1
             (try simp only [show (k52).sz = 2 from rfl, Nat.mul_one, Nat.add_zero] at hf18_1)
             clear hcl18 hcc18 hfr18 hM18
             go_wp2_with (first | ((with_reducible refine gate_store (t := 3) (p := 53) rfl ?_); refine store_event (t := 3) (p := 53) (v := ?vo_w19) (w1 := (wc.setCell ⟨go17, ((ji13) : Int).toNat * 2 + 1, none⟩ (.int .i64 (rd l0 x9_1)))) ?hg ?ho ?hn ?hr ?_; (case ho => rfl); (case hg => rfl); (case hn => rfl); (case hr => first | (go_simp; done) | (go_simp; rfl)); intro w19 hw; have hg : wc.grownBy w19 (some go17) := (by rw [hw]; exact HP18.2); have hp_ : Kd.R k52 52 w19 w.heap.size (fun _ => True) (.slice (some ⟨go17, 0, none⟩) x3_1.length co6) y106 := (by rw [hw, Ny106.out]; exact HP18.1); clear HP18; have n0_ := Aside0.mk (hp_); have n1_ := Aside0.mk ((by rw [hw]; exact below_set (HB.out) GB17.out : Below w.heap.size w w19)); clear HO_3; clear HB; have HO_3 := n0_; have HB := n1_; clear n0_ n1_; clear hg hw hp_))
             go_roundg kj4
             case measure => have := HK1.out; have := HJ4.out; omega
             case rel => exact ⟨(y106), (wrap64 (x9_1 + 1)), (by first | rfl | (simp; done) | (simp [*]; done)), H', ⟨by have := HK1.out; have := HJ4.out; omega⟩, ⟨by (with_reducible repeat (first | apply Kd.R_alloc | apply Kd.R_drewN | apply Kd.R_drew)); exact HO_3.out⟩, ⟨by repeat (first | (with_reducible first | exact HB.out | apply below_alloc | apply pw_below_drewN | apply below_drew1) | exact HB.out)⟩⟩
            ·rw [if_neg c16] at H
             have c16b0 : (((rd_T52 x3_1 (ji13)).f1) == (wrap64 ((rd l0 x9_1) - 1))) = false := beq_eq_false_iff_ne.mpr c16
             have c16b1 : (((rd_T52 x3_1 (ji13)).f1) != (wrap64 ((rd l0 x9_1) - 1))) = true := bne_iff_ne.mpr c16
             by_cases c20 : x3_1.length < 8796093022208
             ·rw [if_pos c20] at H
              have LMc20 := Aside0.mk c20
              clear c20
              obtain ⟨y107, hy107⟩ : ∃ y_ : List (S52), y_ = (x3_1 ++ [(⟨(rd l0 x9_1), (rd l0 x9_1)⟩ : S52)]) := ⟨_, rfl⟩
              replace H : (dom_packed.l0 kj4 y107 l0 (l0.length : Int) (wrap64 (x9_1 + 1))) = some r := by first | (rw [hy107]; with_reducible exact H) | (have H2_ := (Option.bind_some _ _).symm.trans H; rw [hy107]; with_reducible exact H2_) | (have H2_ := (Option.bind_some _ _).symm.trans H; with_reducible exact H2_) | with_reducible exact H | (rw [hy107]; exact H) | exact H
              have Ny107 := Aside0.mk hy107
              clear hy107
              have H' := Aside0.mk H
              clear H
              have p105 : 0 ≤ ((ji13) : Int) := of_decide_eq_true (by first | (with_reducible assumption) | assumption)
              have q105 : (ji13) < (x3_1.length : Int) := of_decide_eq_true (by first | (with_reducible assumption) | assumption)
              obtain ⟨ad105, e105, hx105_0, hx105_1⟩ := at_T52 (Kd.R_reads' HO_3.out).2.2 (ji13) p105 q105
              cases e105
              replace p105 := eq_true p105
              replace q105 := eq_true q105
              go_wp2_with (first | ((with_reducible refine gate_builtin (b := .append) (xs := #[.tmp 15, .tmp 19]) rfl ?_); at_builtin; refine Kd.R_append k52 (w0 := w) w.heap.size rfl (.tmp 15) (.tmp 19) 22 52 (.agg #[(.int .i64 0), (.int .i64 0)]) 16 rfl Try.underlying22 info52 rfl (by decide) (by omega) (.slice (some ad105) x3_1.length co6) x3_1 (⟨(rd l0 x9_1), (rd l0 x9_1)⟩ : S52) [.int .i64 (rd l0 x9_1), .int .i64 (rd l0 x9_1)] (fun _ => True) (fun _ => False) rfl rfl ?aP (fun _ hk => hk.elim) ?aF ?aO ?aB ?aS ?aL ?_; (case aP => exact k52_mkM _ _ _ (⟨(rd l0 x9_1), (rd l0 x9_1)⟩ : S52)); (case aB => exact (by repeat (first | (with_reducible first | exact HB.out | apply below_alloc | apply pw_below_drewN | apply below_drew1) | exact HB.out))); (case aF => exact (fun _ _ => trivial)); (case aO => exact (by (with_reducible repeat (first | apply Kd.R_alloc | apply Kd.R_drewN | apply Kd.R_drew)); exact HO_3.out)); (case aS => exact (below_size (by repeat (first | (with_reducible first | exact HB.out | apply below_alloc | apply pw_below_drewN | apply below_drew1) | exact HB.out)))); (case aL => have := LMc20.out; omega); intro v108 w21 ho hb hg hat; rw [← Ny107.out] at ho; have n0_ := Aside0.mk (hb); have n1_ := Aside0.mk (ho); clear HB; clear HO_3; have HB := n0_; have HO109 := n1_; clear n0_ n1_; clear ho hb hg hat))
              go_roundg kj4
              case measure => have := HK1.out; have := HJ4.out; omega
              case rel => exact ⟨(y107), (wrap64 (x9_1 + 1)), (by first | rfl | (simp; done) | (simp [*]; done)), H', ⟨by have := HK1.out; have := HJ4.out; omega⟩, ⟨by (with_reducible repeat (first | apply Kd.R_alloc | apply Kd.R_drewN | apply Kd.R_drew)); exact HO109.out⟩, ⟨by repeat (first | (with_reducible first | exact HB.out | apply below_alloc | apply pw_below_drewN | apply below_drew1) | exact HB.out)⟩⟩
             ·rw [if_neg c20] at H
              exact absurd H (by simp)
           ·rw [if_neg c15] at H
            exact absurd H (by simp)
          ·rw [if_neg c14] at H
           exact absurd H (by simp)
         ·rw [if_neg c12] at H
          have c12b0 : decide (0 < (x3_1.length : Int)) = false := decide_eq_false c12
          have c12b1 : decide (0 < x3_1.length) = false := decide_eq_false (by omega)
          clear c12
          by_cases c22 : x3_1.length < 8796093022208
          ·rw [if_pos c22] at H
           have LMc22 := Aside0.mk c22
           clear c22
           obtain ⟨y110, hy110⟩ : ∃ y_ : List (S52), y_ = (x3_1 ++ [(⟨(rd l0 x9_1), (rd l0 x9_1)⟩ : S52)]) := ⟨_, rfl⟩
           replace H : (dom_packed.l0 kj4 y110 l0 (l0.length : Int) (wrap64 (x9_1 + 1))) = some r := by first | (rw [hy110]; with_reducible exact H) | (have H2_ := (Option.bind_some _ _).symm.trans H; rw [hy110]; with_reducible exact H2_) | (have H2_ := (Option.bind_some _ _).symm.trans H; with_reducible exact H2_) | with_reducible exact H | (rw [hy110]; exact H) | exact H
           have Ny110 := Aside0.mk hy110
           clear hy110
           have H' := Aside0.mk H
           clear H
           go_wp2_with (first | ((with_reducible refine gate_builtin (b := .append) (xs := #[.tmp 15, .tmp 19]) rfl ?_); at_builtin; refine Kd.R_append k52 (w0 := w) w.heap.size rfl (.tmp 15) (.tmp 19) 22 52 (.agg #[(.int .i64 0), (.int .i64 0)]) 16 rfl Try.underlying22 info52 rfl (by decide) (by omega) (.slice Ao6 x3_1.length co6) x3_1 (⟨(rd l0 x9_1), (rd l0 x9_1)⟩ : S52) [.int .i64 (rd l0 x9_1), .int .i64 (rd l0 x9_1)] (fun _ => True) (fun _ => False) rfl rfl ?aP (fun _ hk => hk.elim) ?aF ?aO ?aB ?aS ?aL ?_; (case aP => exact k52_mkM _ _ _ (⟨(rd l0 x9_1), (rd l0 x9_1)⟩ : S52)); (case aB => exact (by repeat (first | (with_reducible first | exact HB.out | apply below_alloc | apply pw_below_drewN | apply below_drew1) | exact HB.out))); (case aF => exact (fun _ _ => trivial)); (case aO => exact (by (with_reducible repeat (first | apply Kd.R_alloc | apply Kd.R_drewN | apply Kd.R_drew)); exact HO_3.out)); (case aS => exact (below_size (by repeat (first | (with_reducible first | exact HB.out | apply below_alloc | apply pw_below_drewN | apply below_drew1) | exact HB.out)))); (case aL => have := LMc22.out; omega); intro v111 w23 ho hb hg hat; rw [← Ny110.out] at ho; have n0_ := Aside0.mk (hb); have n1_ := Aside0.mk (ho); clear HB; clear HO_3; have HB := n0_; have HO112 := n1_; clear n0_ n1_; clear ho hb hg hat))
           go_roundg kj4
           case measure => have := HK1.out; have := HJ4.out; omega
           case rel => exact ⟨(y110), (wrap64 (x9_1 + 1)), (by first | rfl | (simp; done) | (simp [*]; done)), H', ⟨by have := HK1.out; have := HJ4.out; omega⟩, ⟨by (with_reducible repeat (first | apply Kd.R_alloc | apply Kd.R_drewN | apply Kd.R_drew)); exact HO112.out⟩, ⟨by repeat (first | (with_reducible first | exact HB.out | apply below_alloc | apply pw_below_drewN | apply below_drew1) | exact HB.out)⟩⟩
          ·rw [if_neg c22] at H
           exact absurd H (by simp)
     ·rw [if_neg c4] at H
      exact absurd H (by simp)
    ·rw [if_neg c3] at H
     exact absurd H (by simp)
   ·rw [if_neg c2] at H
    have c2b0 : decide (x9_1 < (l0.length : Int)) = false := decide_eq_false c2
    clear c2
    obtain rfl := Option.some.inj H
    go_wp2
    go_ret
    exact ⟨_, by first | rfl | (simp [errW_none, errW_some] <;> rfl) | (simp [*, errW_none, errW_some] <;> rfl), by (with_reducible repeat (first | apply Kd.R_alloc | apply Kd.R_drewN | apply Kd.R_drew)); exact HO_3.out, by repeat (first | (with_reducible first | exact HB.out | apply below_alloc | apply pw_below_drewN | apply below_drew1) | exact HB.out)⟩

end Go.Proofs.Ytklanjkndoikeaa.P

/- dom.Of: the domain of values. -/
namespace Go.Proofs.Ytklanjkndoikeaa.P
open Go.RowKit Go.Shelf Go.Proofs.YtklanjkndoikeaaW.PrintWords Go.Proofs.YtklanjkndoikeaaW.PrintLast Go.Proofs.YtklanjkndoikeaaW.PrintMore
set_option linter.unusedVariables false

def isVal (v : Int) : Bool := decide (-1048576 ≤ v) && decide (v ≤ 1048576)
def dom_Of.f (k : Nat) (l0 : List Int) : Option (List S52 × Int) :=
  if (l0.any fun v => !isVal v) = true then some ([], 20) else if 1000000 < l0.length then none else (dom_packed.f k (sortI l0)).bind fun d => (dom_Size.f k d).bind fun n => if n > 4096 then some ([], 2) else some (d, 0)
theorem dom_Of.mono : ∀ a0 k, LeO (dom_Of.f k a0) (dom_Of.f (k + 1) a0) := by
  intro a0 k
  unfold dom_Of.f
  refine LeO.ite (LeO.refl _) (LeO.ite (LeO.refl _) ?_)
  refine LeO.bind (dom_packed.mono _ k) (fun _ => ?_)
  refine LeO.bind (dom_Size.mono _ k) (fun _ => ?_)
  exact LeO.refl _
theorem value_f (x : Int) : dom_value.f x = some (isVal x) := by
  unfold dom_value.f isVal
  by_cases h : x ≥ -1048576
  · rw [if_pos h]; simp [decide_eq_true h]
  · rw [if_neg h]; have : decide (-1048576 ≤ x) = false := decide_eq_false h; simp [this]
theorem ofPred (x : Int) (w : World) : Calls Try.prog 45 #[.int .i64 x] w fun e w' => e = .returned (.bool (!isVal x)) ∧ ∃ q, w' = w.drewN q := by
  have cv := fun W => dom_value.calls x _ W (value_f x)
  go_enter Try.func45, Try.ntmps45
  go_wp2_with (go_at_call 46; refine (cv _).mono ?_; rintro e w' ⟨rfl, ⟨q, rfl⟩⟩)
  go_ret
  exact ⟨rfl, q, rfl⟩
theorem row_of' (W : World) (base : Nat) (v : Value) (xs : List Int) {n : Nat} (hn : xs.length = n) (h : W.ownsRow base 3 1 v n (xs.map (Value.int .i64))) : Kd.R (Kd.int .i64) 3 W base (fun _ => True) v xs := by
  subst hn
  exact Kd.R_of_own (enc := Value.int .i64) h (fun _ _ => trivial)
set_option maxRecDepth 100000 in
set_option maxHeartbeats 2000000 in
theorem dom_Of.calls (k : Nat) (A0 : Option Addr) (c0 : Nat) (l0 : List Int) (r1 : List S52) (r2 : Int) (w : World) (hr0 : Kd.C (Kd.int .i64) w A0 l0.length l0) (hc0 : l0.length ≤ c0) (h : dom_Of.f k l0 = some (r1, r2)) :
    Calls Try.prog 13 #[.slice A0 l0.length c0] w fun e w' => ∃ v0_ : Value, e = .returned (.tuple #[v0_, .int .i64 r2]) ∧ Kd.R k52 52 w' w.heap.size (fun _ => True) v0_ r1 ∧ Below w.heap.size w w' := by
  have HR := Aside0.mk hr0
  have cC := fun (W : World) (hW : Kd.C (Kd.int .i64) W A0 l0.length l0) => containsFunc_int (fun v => !isVal v) 45 #[] (enters_of Try.func45 (by kernel_rfl) rfl) A0 c0 l0 W hW (fun k _ q => ofPred _ _)
  have cC := cC w hr0
  clear hr0
  have hlen : l0.length ≤ 9223372036854775807 := HR.out.2.1
  have cV := fun (W : World) => callsIn_wide.1 (values_in Fence.wide 9 trivial rfl A0 l0.length c0 W)
  unfold dom_Of.f at h
  cases hany : (l0.any fun v => !isVal v) with
  | true =>
    rw [if_pos hany] at h
    obtain ⟨rfl, rfl⟩ : [] = r1 ∧ 20 = r2 := by simpa using h
    rw [hany] at cC
    clear h hany
    go_enter Try.func13, Try.ntmps13
    go_wp2_with (first | (go_at_call 44; refine cC.mono ?_; rintro e w' ⟨rfl, q, rfl⟩))
    refine bodyPost_ret (results_tmp2 rfl _ _ _) rfl ?_
    exact ⟨_, rfl, Kd.R_nil _ _ _ _ _, pw_below_drewN (Below.refl _ w) q⟩
  | false =>
    rw [if_neg (by rw [hany]; simp)] at h
    rw [hany] at cC
    by_cases hbig : 1000000 < l0.length
    · rw [if_pos hbig] at h; cases h
    rw [if_neg hbig] at h
    obtain ⟨d, hd, h⟩ := Option.bind_eq_some_iff.1 h
    obtain ⟨n, hn, h⟩ := Option.bind_eq_some_iff.1 h
    have HD := Aside0.mk hd
    have HN := Aside0.mk hn
    have HH := Aside0.mk h
    clear hany h hd hn
    have hsz : ∀ q, (w.drewN q).heap.size = w.heap.size := fun q => by simp
    have cS := fun (q : Nat) => sorted_calls 65 #[.pointer (some ⟨w.heap.size, 0, none⟩)] (enters_of Try.func65 (by kernel_rfl) rfl) w.heap.size _ _ l0.length (by omega) (fun xs e => by rw [e]; exact Nat.le_refl _)
      ((w.drewN q).alloc (.cells #[.slice A0 l0.length c0] 23)) ((w.drewN q).alloc (.cells #[.slice A0 l0.length c0] 23)) (Below.refl _ _) (by simp)
      (values_stops Fence.wide 7 trivial rfl (by omega) w.heap.size w _ A0 c0 l0 HR.out (by simp) ((pw_below_drewN (Below.refl _ w) q).alloc (by simp) _) (by have := (Boxed.new (w.drewN q) 23 (.slice A0 l0.length c0)).cell; rwa [hsz] at this))
    have cP := fun (A : Option Addr) (c : Nat) (W : World) (hW : Kd.C (Kd.int .i64) W A (sortI l0).length (sortI l0)) (hc : (sortI l0).length ≤ c) => dom_packed.calls k A c (sortI l0) d W hW hc HD.out
    have cZ := fun (A : Option Addr) (c : Nat) (W : World) (hW : Kd.C k52 W A d.length d) (hc : d.length ≤ c) => dom_Size.calls k A c d n W hW hc HN.out
    have hsl := Aside0.mk (sortI_length l0)
    have cS2 := fun (q : Nat) => (cS q)
    by_cases hn : n > 4096
    · have HH' := HH.out
      rw [if_pos hn] at HH'
      obtain ⟨rfl, rfl⟩ : [] = r1 ∧ 2 = r2 := by simpa using HH'
      clear HH' HH
      have c2b0 : decide (4096 < n) = true := decide_eq_true hn
      clear hn
      go_enter Try.func13, Try.ntmps13
      go_wp2_with (first | (go_at_call 44; refine cC.mono ?_; rintro e w' ⟨rfl, q, rfl⟩) | (go_at_call 49; refine (cV _).mono ?_; rintro e w' ⟨rfl, rfl⟩) | (go_at_call 48; go_loud (refine (cS q).mono ?_; rintro e W1 ⟨v, xs, rfl, rfl, hrow, hb⟩; obtain ⟨A1, c1, rfl, hcl1, hC1⟩ := Kd.R_reads (row_of' _ _ _ _ hsl.out hrow))) | (go_at_call 47; go_loud (refine (cP _ _ _ hC1 hcl1).mono ?_; rintro e W2 ⟨v0, rfl, hR, hb2⟩; obtain ⟨A2, c2, rfl, hcl2, hC2⟩ := Kd.R_reads hR)) | (go_at_call 28; go_loud (refine (cZ _ _ _ hC2 hcl2).mono ?_; rintro e W3 ⟨rfl, hb3⟩)))
      refine bodyPost_ret (results_tmp2 rfl _ _ _) rfl ?_
      have hB1 : Below w.heap.size w W2 := ((pw_below_drewN (Below.refl _ w) q).alloc (by simp) _).trans ((hb.mono (by simp)).trans (hb2.mono (by have := hb.size; simp at this; omega)))
      exact ⟨_, rfl, Kd.R_nil _ _ _ _ _, hB1.trans (hb3.mono hB1.size)⟩
    · have HH' := HH.out
      rw [if_neg hn] at HH'
      obtain ⟨rfl, rfl⟩ : d = r1 ∧ 0 = r2 := by simpa using HH'
      clear HH' HH
      have c2b0 : decide (4096 < n) = false := decide_eq_false hn
      clear hn
      go_enter Try.func13, Try.ntmps13
      go_wp2_with (first | (go_at_call 44; refine cC.mono ?_; rintro e w' ⟨rfl, q, rfl⟩) | (go_at_call 49; refine (cV _).mono ?_; rintro e w' ⟨rfl, rfl⟩) | (go_at_call 48; go_loud (refine (cS q).mono ?_; rintro e W1 ⟨v, xs, rfl, rfl, hrow, hb⟩; obtain ⟨A1, c1, rfl, hcl1, hC1⟩ := Kd.R_reads (row_of' _ _ _ _ hsl.out hrow))) | (go_at_call 47; go_loud (refine (cP _ _ _ hC1 hcl1).mono ?_; rintro e W2 ⟨v0, rfl, hR, hb2⟩; obtain ⟨A2, c2, rfl, hcl2, hC2⟩ := Kd.R_reads hR)) | (go_at_call 28; go_loud (refine (cZ _ _ _ hC2 hcl2).mono ?_; rintro e W3 ⟨rfl, hb3⟩)))
      refine bodyPost_ret (results_tmp2 rfl _ _ _) rfl ?_
      have hB1 : Below w.heap.size w W2 := ((pw_below_drewN (Below.refl _ w) q).alloc (by simp) _).trans ((hb.mono (by simp)).trans (hb2.mono (by have := hb.size; simp at this; omega)))
      exact ⟨_, rfl, Kd.R_lower (Kd.R_below hR hb3) (by have := hb.size; simp at this; omega), hB1.trans (hb3.mono hB1.size)⟩
end Go.Proofs.Ytklanjkndoikeaa.P

-- Written by wip/tools/px.py out of the translation. Lean checks it.
namespace Go.Proofs.Ytklanjkndoikeaa.P
open Go.RowKit Go.Proofs.YtklanjkndoikeaaW.PrintWords Go.Proofs.YtklanjkndoikeaaW.PrintLast Go.Proofs.YtklanjkndoikeaaW.PrintMore
attribute [local go_sem] max2_int min2_int max_two min_two max_three min_three max_four min_four   -- for this text's walks alone
set_option linter.unusedVariables false
set_option linter.unusedSimpArgs false

/-! ### dom_line: function 53 -/
def dom_line.f (a0 : Int) (a1 : Int) : Option (Int) := if a0 = 0 then (some 1) else ((dom_value.f a0).bind fun t190 => (if t190 = true then ((dom_value.f a1).bind fun t191 => (if t191 = true then (some 0) else (some 20))) else (some 20)))
set_option maxHeartbeats 8000000 in
set_option maxRecDepth 100000 in
theorem dom_line.calls (a0 : Int) (a1 : Int) (r : Int) (w : World) (h : dom_line.f a0 a1 = some r) :
  Calls Try.prog 53 #[.int .i64 a0, .int .i64 a1] w fun e w' => e = .returned (.int .i64 r) ∧ Drawn0 w w' := by
 have H : (if a0 = 0 then (some 1) else ((dom_value.f a0).bind fun t190 => (if t190 = true then ((dom_value.f a1).bind fun t191 => (if t191 = true then (some 0) else (some 20))) else (some 20)))) = some r := h
 clear h
 by_cases c3 : a0 = 0
 ·rw [if_pos c3] at H
  have c3b0 : (a0 == 0) = true := beq_iff_eq.mpr c3
  have c3b1 : (a0 != 0) = false := bne_eq_false_iff_eq.mpr c3
  clear c3
  obtain rfl := Option.some.inj H
  go_enter Try.func53, Try.ntmps53
  go_wp2
  go_ret
  exact ⟨by first | rfl | (simp; done) | (simp [*]; done), by repeat (first | exact Drawn0.refl _ | apply Drawn0.step)⟩
 ·rw [if_neg c3] at H
  have c3b0 : (a0 == 0) = false := beq_eq_false_iff_ne.mpr c3
  have c3b1 : (a0 != 0) = true := bne_iff_ne.mpr c3
  replace H := Option.bind_eq_some_iff.mp H
  obtain ⟨t190, A40, H⟩ := H
  replace H : (if t190 = true then ((dom_value.f a1).bind fun t191 => (if t191 = true then (some 0) else (some 20))) else (some 20)) = some r := H
  have A4 := Aside0.mk A40
  clear A40
  by_cases c5 : t190 = true
  ·subst c5
   have H1 : ((dom_value.f a1).bind fun t191 => (if t191 = true then (some 0) else (some 20))) = some r := by rw [if_pos rfl] at H; exact H
   clear H
   have H := H1
   clear H1
   replace H := Option.bind_eq_some_iff.mp H
   obtain ⟨t191, A60, H⟩ := H
   replace H : (if t191 = true then (some 0) else (some 20)) = some r := H
   have A6 := Aside0.mk A60
   clear A60
   by_cases c7 : t191 = true
   ·subst c7
    have H1 : (some 0) = some r := by rw [if_pos rfl] at H; exact H
    clear H
    have H := H1
    clear H1
    obtain rfl := Option.some.inj H
    go_enter Try.func53, Try.ntmps53
    go_wp2_with (first | ((with_reducible refine gate_callee (f := 46) rfl ?_); refine goesL_ (some 10) rfl rfl Try.func46 (by kernel_rfl) rfl #[.int .i64 a0] rfl (by (try simp only [List.map_toArray, List.map_cons, List.map_nil]); first | done | rfl | (simp only [List.length_drop, List.length_take]; rfl)) ?_; (with_reducible refine (dom_value.calls a0 true _ A4.out).mono ?_); rintro e w' ⟨rfl, ⟨nd, rfl⟩⟩; refine ⟨_, rfl, ?_⟩) | (go_at_call 46; (with_reducible refine (dom_value.calls a1 true _ A6.out).mono ?_); rintro e w' ⟨rfl, ⟨nd, rfl⟩⟩))
    go_ret
    exact ⟨by first | rfl | (simp; done) | (simp [*]; done), by repeat (first | exact Drawn0.refl _ | apply Drawn0.step)⟩
   ·replace c7 := Bool.eq_false_iff.mpr c7
    subst c7
    have H1 : (some 20) = some r := by rw [if_neg (show ¬ (false = true) by decide)] at H; exact H
    clear H
    have H := H1
    clear H1
    obtain rfl := Option.some.inj H
    go_enter Try.func53, Try.ntmps53
    go_wp2_with (first | ((with_reducible refine gate_callee (f := 46) rfl ?_); refine goesL_ (some 10) rfl rfl Try.func46 (by kernel_rfl) rfl #[.int .i64 a0] rfl (by (try simp only [List.map_toArray, List.map_cons, List.map_nil]); first | done | rfl | (simp only [List.length_drop, List.length_take]; rfl)) ?_; (with_reducible refine (dom_value.calls a0 true _ A4.out).mono ?_); rintro e w' ⟨rfl, ⟨nd, rfl⟩⟩; refine ⟨_, rfl, ?_⟩) | (go_at_call 46; (with_reducible refine (dom_value.calls a1 false _ A6.out).mono ?_); rintro e w' ⟨rfl, ⟨nd, rfl⟩⟩))
    go_ret
    exact ⟨by first | rfl | (simp; done) | (simp [*]; done), by repeat (first | exact Drawn0.refl _ | apply Drawn0.step)⟩
  ·replace c5 := Bool.eq_false_iff.mpr c5
   subst c5
   have H1 : (some 20) = some r := by rw [if_neg (show ¬ (false = true) by decide)] at H; exact H
   clear H
   have H := H1
   clear H1
   obtain rfl := Option.some.inj H
   go_enter Try.func53, Try.ntmps53
   go_wp2_with (first | ((with_reducible refine gate_callee (f := 46) rfl ?_); refine goesL_ (some 10) rfl rfl Try.func46 (by kernel_rfl) rfl #[.int .i64 a0] rfl (by (try simp only [List.map_toArray, List.map_cons, List.map_nil]); first | done | rfl | (simp only [List.length_drop, List.length_take]; rfl)) ?_; (with_reducible refine (dom_value.calls a0 false _ A4.out).mono ?_); rintro e w' ⟨rfl, ⟨nd, rfl⟩⟩; refine ⟨_, rfl, ?_⟩))
   go_ret
   exact ⟨by first | rfl | (simp; done) | (simp [*]; done), by repeat (first | exact Drawn0.refl _ | apply Drawn0.step)⟩

end Go.Proofs.Ytklanjkndoikeaa.P

/- dom.Back: the values x for which a x + b is in a domain. -/
namespace Go.Proofs.Ytklanjkndoikeaa.P
open Go.RowKit Go.Shelf Go.Proofs.YtklanjkndoikeaaW.PrintWords Go.Proofs.YtklanjkndoikeaaW.PrintLast Go.Proofs.YtklanjkndoikeaaW.PrintMore
set_option linter.unusedVariables false
set_option linter.unusedSimpArgs false
attribute [local go_sem] Oper.semAt_some

def backB (a b v : Int) : Bool := decide ((wrap64 (v - b)).tmod a = 0) && isVal (wrap64 ((wrap64 (v - b)).tdiv a))
def backQ (a b v : Int) : Int := wrap64 ((wrap64 (v - b)).tdiv a)
def backL (a b : Int) (l : List Int) : List Int := (l.filter (backB a b)).map (backQ a b)
theorem backL_yes (a b : Int) (l : List Int) {x : Int} (h : backB a b x = true) : backL a b (l ++ [x]) = backL a b l ++ [backQ a b x] := by simp [backL, h]
theorem backL_no (a b : Int) (l : List Int) {x : Int} (h : backB a b x = false) : backL a b (l ++ [x]) = backL a b l := by simp [backL, h]
theorem backL_length (a b : Int) (l : List Int) : (backL a b l).length ≤ l.length := by simp only [backL, List.length_map]; exact List.length_filter_le _ _
theorem dom_value_is (v : Int) : dom_value.f v = some (isVal v) := by
  unfold dom_value.f isVal
  by_cases h : v ≥ -1048576
  · rw [if_pos h]
    simp [h]
  · rw [if_neg h]
    simp
    omega
theorem line_ne {a b : Int} (h : dom_line.f a b = some 0) : ¬ a = 0 := by
  intro h0
  unfold dom_line.f at h
  rw [if_pos h0] at h
  cases h
def dom_Back.f (k : Nat) (l0 : List S52) (a1 : Int) (a2 : Int) : Option (List S52 × Int) :=
  (dom_line.f a1 a2).bind fun e => if e = 0 then (if niceD l0 = true then dom_Of.f k (backL a1 a2 (allV 4097 l0)) else none) else some ([], e)
theorem dom_Back.mono : ∀ a0 a1 a2 k, LeO (dom_Back.f k a0 a1 a2) (dom_Back.f (k + 1) a0 a1 a2) := by
  intro a0 a1 a2 k
  unfold dom_Back.f
  refine LeO.bind (LeO.refl _) (fun _ => ?_)
  refine LeO.ite (LeO.ite ?_ (LeO.none _)) (LeO.refl _)
  exact dom_Of.mono _ k

set_option maxRecDepth 100000 in
set_option maxHeartbeats 4000000 in
theorem dom_Back.calls (k : Nat) (A0 : Option Addr) (c0 : Nat) (l0 : List S52) (a1 : Int) (a2 : Int) (r1 : List S52) (r2 : Int) (w : World) (hr0 : Kd.C k52 w A0 l0.length l0) (hc0 : l0.length ≤ c0) (h : dom_Back.f k l0 a1 a2 = some (r1, r2)) :
    Calls Try.prog 23 #[.slice A0 l0.length c0, .int .i64 a1, .int .i64 a2] w fun e w' => ∃ v0_ : Value, e = .returned (.tuple #[v0_, .int .i64 r2]) ∧ Kd.R k52 52 w' w.heap.size (fun _ => True) v0_ r1 ∧ Below w.heap.size w w' := by
  have HR := Aside0.mk hr0
  clear hr0
  unfold dom_Back.f at h
  obtain ⟨e0, he0, h⟩ := Option.bind_eq_some_iff.1 h
  have cL := fun W => (callsIn_wide (n := 8)).2 (dom_line.calls a1 a2 e0 W he0)
  obtain ⟨i0, hi, hz0, hz1, hz2⟩ := info_parts infoI
  refine (callsIn_wide (n := 9)).1 ?_
  refine callsIn_of_wp_marks Try.func23 rfl trivial ?_ rfl
  simp only [Try.ntmps23, List.size_toArray, List.length_cons, List.length_nil, Nat.reduceAdd, Nat.reduceSub, Array.replicate_succ, Array.replicate_zero, List.push_toArray, List.append_toArray, List.nil_append, List.cons_append]
  have f1 : Fence.wide.fn 53 := trivial
  have f2 : Fence.wide.fn 54 := trivial
  have f3 : Fence.wide.fn 13 := trivial
  by_cases h0 : e0 = 0
  · rw [if_pos h0] at h
    subst h0
    have ha : ¬ a1 = 0 := line_ne he0
    clear he0
    have cV := fun x W => (callsIn_wide (n := 6)).2 (dom_value.calls x (isVal x) W (dom_value_is x))
    have f4 : Fence.wide.fn 46 := trivial
    split at h
    case isFalse => cases h
    case isTrue hN =>
      have H := Aside0.mk h
      clear h
      have cA := fun W => all_in Fence.wide 8 trivial rfl A0 l0.length c0 W
      gi_wp2_with (first | (gi_at_call 53; refine (cL _).mono ?_; rintro e w' ⟨rfl, ⟨m, rfl⟩⟩) | (gi_at_call 54; refine (cA _).mono ?_; rintro e w' ⟨rfl, rfl⟩))
      obtain ⟨w2, hw2⟩ : ∃ w2, ((w.alloc (.cells #[.int .i64 a1] 3)).alloc (.cells #[.int .i64 a2] 3)).drewN m = w2 := ⟨_, rfl⟩
      have hs2 : w2.heap.size = w.heap.size + 2 := by rw [← hw2]; simp
      have hba : Boxed w2 w.heap.size 3 (.int .i64 a1) := by rw [← hw2]; exact (Boxed.new w _ _).alloc _
      have hbb : Boxed w2 (w.heap.size + 1) 3 (.int .i64 a2) := by rw [← hw2]; have := Boxed.new (w.alloc (.cells #[.int .i64 a1] 3)) 3 (.int .i64 a2); rw [World.size_alloc] at this; exact this
      have hB2 : Below w.heap.size w w2 := by rw [← hw2]; exact pw_below_drewN (((Below.refl _ w).alloc (Nat.le_refl _) _).alloc (by simp) _) m
      rw [hw2]
      clear hw2
      obtain ⟨w0, hw0⟩ : ∃ w0, (w2.alloc (.cells #[.slice none 0 0] 23)).alloc (.cells #[.slice A0 l0.length c0] 22) = w0 := ⟨_, rfl⟩
      have hs0 : w0.heap.size = w.heap.size + 4 := by rw [← hw0]; simp; omega
      have hB02 : Below w2.heap.size w2 w0 := by rw [← hw0]; exact ((Below.refl _ w2).alloc (Nat.le_refl _) _).alloc (by simp) _
      have hB0 : Below w.heap.size w w0 := hB2.trans (hB02.mono hB2.size)
      have hbl : Boxed w0 (w.heap.size + 1 + 1) 23 (.slice none 0 0) := by rw [← hw0]; have := (Boxed.new w2 23 (.slice none 0 0)).alloc (.cells #[.slice A0 l0.length c0] 22); rwa [hs2] at this
      have hbd : Boxed w0 (w.heap.size + 1 + 1 + 1) 22 (.slice A0 l0.length c0) := by rw [← hw0]; have := Boxed.new (w2.alloc (.cells #[.slice none 0 0] 23)) 22 (.slice A0 l0.length c0); rwa [World.size_alloc, hs2] at this
      have hba0 : w0.heap[w.heap.size]? = some (.cells #[.int .i64 a1] 3 (0, 0)) := (hB02.block _ (by omega)).trans hba
      have hbb0 : w0.heap[w.heap.size + 1]? = some (.cells #[.int .i64 a2] 3 (0, 0)) := (hB02.block _ (by omega)).trans hbb
      rw [hw0]
      clear hw0
      refine wpIn_rangeFunc_ownG rfl (by omega) (gf := 66) (lb := #[.pointer (some ⟨w.heap.size + 1 + 1 + 1, 0, none⟩)]) rfl trivial (enters_of Try.func66 (by kernel_rfl) rfl)
        (all_stops Fence.wide 8 trivial rfl (by omega) (w.heap.size + 1 + 1 + 1) w w0 A0 c0 l0 HR.out hN (by omega) hB0 hbd.cell) Kp.t (Kp.b (by omega)) (Below.refl _ _) (fun _ => rfl)
        (fun pre W => (∃ v, Boxed W (w.heap.size + 1 + 1) 23 v ∧ W.ownsRow (w.heap.size + 1 + 1) 3 1 v (backL a1 a2 pre).length ((backL a1 a2 pre).map (Value.int .i64)) ∧ True) ∧ Below (w.heap.size + 1 + 1) w0 W)
        (fun _ _ _ => False)
        (OwnFrom.and (Own.from (holdsRow_own (w.heap.size + 1 + 1) (w.heap.size + 1 + 1) 23 3 1 (fun pre : List Int => (backL a1 a2 pre).length) (fun pre => (backL a1 a2 pre).map (Value.int .i64)) (fun _ _ => True)) _) (ownFrom_below (by omega) (by omega)))
        (fun _ _ _ _ _ hs _ _ => hs)
        ⟨⟨_, hbl, World.ownsRow_nil _ _ _ _, trivial⟩, Below.refl _ _⟩
        (fun x => { tmps := #[.slice A0 l0.length c0, .int .i64 a1, .int .i64 a2, undef, .pointer (some ⟨w.heap.size, 0, none⟩), .pointer (some ⟨w.heap.size + 1, 0, none⟩), .slice none 0 0, .int .i64 0, .int .i64 0, .pointer (some ⟨w.heap.size + 1 + 1, 0, none⟩), .int .i64 x, .int .i64 a1, .int .i64 a2, .int .i64 0, .int .i64 0, .bool false, undef, .slice A0 l0.length c0, .func (.func 66) #[] #[.pointer (some ⟨w.heap.size + 1 + 1 + 1, 0, none⟩)], .int .i64 x, undef, undef, undef, undef, undef, undef, undef, undef, undef, undef, undef, undef, undef, undef, undef, undef, undef, undef, undef, undef, undef, undef, undef, undef, undef, undef], defers := [] }) ?assign ?body ?done ?stop
      case assign =>
        intro l x W K hK
        gi_wp2
        exact hK
      case body =>
        rintro l pre x W ⟨⟨v, hv, hrow, _⟩, hB⟩ hlt
        have hc := hv.cell
        have hca : W.cell? ⟨w.heap.size, 0, none⟩ = some (.int .i64 a1) := by have := (hB.block w.heap.size (by omega)).trans hba0; simp [World.cell?, this]
        have hcb : W.cell? ⟨w.heap.size + 1, 0, none⟩ = some (.int .i64 a2) := by have := (hB.block (w.heap.size + 1) (by omega)).trans hbb0; simp [World.cell?, this]
        have hll := backL_length a1 a2 pre
        have hsz := hB.size
        by_cases h1 : (wrap64 (x - a2)).tmod a1 = 0
        · have h1b : ((wrap64 (x - a2)).tmod a1 == 0) = true := by simpa using h1
          have h1s := Aside0.mk h1
          clear h1
          have cV1 := fun W => cV (wrap64 ((wrap64 (x - a2)).tdiv a1)) W
          by_cases h2 : isVal (wrap64 ((wrap64 (x - a2)).tdiv a1)) = true
          · have hbb := Aside0.mk (show backB a1 a2 x = true by simp only [backB, h1s.out, h2]; rfl)
            rw [h2] at cV1
            gi_wp2_with (first | (gi_at_call 46; refine (CallsIn.inRound l (cV1 _)).mono ?_; rintro e w' ⟨rfl, ⟨m1, rfl⟩⟩))
            have hmx : Try.prog.follows .mixedOrders = true := by kernel_rfl
            have hcX : (W.drewN m1).drew.cell? ⟨w.heap.size + 1 + 1, 0, none⟩ = some v := hc
            have hcaX : (W.drewN m1).drew.cell? ⟨w.heap.size, 0, none⟩ = some (.int .i64 a1) := hca
            have hcbX : (W.drewN m1).drew.cell? ⟨w.heap.size + 1, 0, none⟩ = some (.int .i64 a2) := hcb
            have hvX : Boxed (W.drewN m1).drew (w.heap.size + 1 + 1) 23 v := hv
            have hrX : (W.drewN m1).drew.ownsRow (w.heap.size + 1 + 1) 3 1 v (backL a1 a2 pre).length ((backL a1 a2 pre).map (Value.int .i64)) := hrow
            refine wpIn_region_C 6 hmx (by kernel_rfl) (by kernel_rfl) (fun W' => W'.cell? ⟨w.heap.size + 1 + 1, 0, none⟩ = some v ∧ W'.cell? ⟨w.heap.size, 0, none⟩ = some (.int .i64 a1) ∧ W'.cell? ⟨w.heap.size + 1, 0, none⟩ = some (.int .i64 a2)) (fun _ _ _ _ h => h) ⟨hcX, hcaX, hcbX⟩ ?_
            simp only [List.take_succ_cons, List.take_zero, List.drop_succ_cons, List.drop_zero]
            refine wpC_step v rfl (fun W' hW' => ?_) ?_
            · have q1 := hW'.1
              go_simp
            refine wpC_step (.int .i64 x) rfl (fun W' hW' => ?_) ?_
            · go_simp
            refine wpC_step (.int .i64 a2) rfl (fun W' hW' => ?_) ?_
            · have q1 := hW'.2.2
              go_simp
            refine wpC_step (.int .i64 (wrap64 (x - a2))) rfl (fun W' hW' => ?_) ?_
            · go_simp
              exact i64_w _
            refine wpC_step (.int .i64 a1) rfl (fun W' hW' => ?_) ?_
            · have q1 := hW'.2.1
              go_simp
            refine wpC_step (.int .i64 (wrap64 ((wrap64 (x - a2)).tdiv a1))) rfl (fun W' hW' => ?_) ?_
            · go_simp
              exact i64_w _
            refine wpC_nil ?_
            refine wpOpIn_step rfl (fun K hK => ?_)
            go_simp
            refine hK _ _ ⟨⟨?_, ?_, ?_⟩, ?_⟩
            · exact pw_cell_below (below_alloc (Below.refl _ _) _) hcX
            · exact pw_cell_below (below_alloc (Below.refl _ _) _) hcaX
            · exact pw_cell_below (below_alloc (Below.refl _ _) _) hcbX
            clear hK K
            gi_wp2_with (gi_at_builtin; refine wpListIn_append_own _ rfl _ _ 23 rfl (w.heap.size + 1 + 1) 3 i0 (.int .i64 0) 1 8 Try.underlying23 hi hz0 hz1 hz2 rfl (by decide) _ _ _ rfl (hrX.alloc _) ⟨W.heap.size, 0, none⟩ 1 1 [.int .i64 (backQ a1 a2 x)] rfl rfl (cell_one_new _ _ _) (by simp [Value.oneCell']) (by unfold maxLen; omega) (by omega) (by simp; omega) ?_; intro v' w1 hown' hgrow _; obtain ⟨g', cap', rfl⟩ := ownsRow_succ hown'; have hty := (KeepsTy.alloc 52 (W.drewN m1).drew (.cells #[.int .i64 (backQ a1 a2 x)] 3)).trans (KeepsTy.row (hrX.alloc _) (by decide) hgrow); obtain ⟨hv1, hv2, hr2, hk2, hb2⟩ := hvX.appended (by decide) hrX (by simp; omega) (Nat.le_refl _) hown' hgrow; have hty2 := hty.trans (KeepsTy.box hv1 (v' := .slice (some ⟨g', 0, none⟩) ((backL a1 a2 pre).length + 1) cap') (by decide)); have hc1 := hv1.cell; have hf1 := hv1.frozen)
            exact ⟨⟨hk2.size, fun i o hi ho hc => hk2.same i o ho hc⟩, ⟨((pw_below_drewN (Below.refl (w.heap.size + 1 + 1) W) (m1 + 1)).trans hb2).mono (by omega), fun i cs fr h => hty2 i cs fr h⟩, ⟨_, hv2, by rw [backL_yes _ _ _ hbb.out]; simpa using hr2, trivial⟩, (pw_below_drewN hB (m1 + 1)).trans hb2⟩
          · have h2f : isVal (wrap64 ((wrap64 (x - a2)).tdiv a1)) = false := by simpa using h2
            have hbb := Aside0.mk (show backB a1 a2 x = false by simp only [backB, h2f]; simp)
            rw [h2f] at cV1
            clear h2 h2f
            gi_wp2_with (first | (gi_at_call 46; refine (CallsIn.inRound l (cV1 _)).mono ?_; rintro e w' ⟨rfl, ⟨m1, rfl⟩⟩))
            exact ⟨⟨Nat.le_refl _, fun _ _ _ h _ => h⟩, ⟨pw_below_drewN (Below.refl _ _) _, fun _ _ _ h => h⟩, ⟨v, hv, by rw [backL_no _ _ _ hbb.out]; exact hrow, trivial⟩, pw_below_drewN hB _⟩
        · have hbb := Aside0.mk (show backB a1 a2 x = false by simp [backB, h1])
          have h1b : ((wrap64 (x - a2)).tmod a1 == 0) = false := by simpa using h1
          clear h1
          gi_wp2
          exact ⟨KeepsFrom.refl _ _, ⟨Below.refl _ _, KeepsTy.refl _ _⟩, ⟨v, hv, by rw [backL_no _ _ _ hbb.out]; exact hrow, trivial⟩, hB⟩
      case done =>
        rintro D ys W hD rfl ⟨⟨v, hv, hrow, _⟩, hB⟩ hK
        have hc := hv.cell
        have hR := Kd.R_of_own (enc := Value.int .i64) (h1 := fun _ => rfl) (ok := fun _ => True) hrow (fun _ _ => trivial)
        obtain ⟨A, c, rfl, hcl, hC⟩ := Kd.R_reads hR
        have cO := (callsIn_wide (n := 8)).2 (dom_Of.calls k A c (backL a1 a2 (allV 4097 l0)) r1 r2 W hC hcl H.out)
        have hlen := Aside0.mk (backL_length a1 a2 (allV 4097 l0))
        gi_wp2_with (gi_at_call 13; refine cO.mono ?_; rintro e w' ⟨v0, rfl, hr, hb⟩)
        have hK1 := (hb.block D (Array.getElem?_eq_some_iff.1 hK).1).trans hK
        have hBw := hB0.trans (hB.mono (by omega))
        refine ⟨by simp, .inl ⟨_, _, rfl, run_takeDeferred hK1, ?_⟩⟩
        have hD' : w.heap.size ≤ D := by omega
        have hgr := grownBy_putObj' w' D (.deferred none)
        have hDl := (Array.getElem?_eq_some_iff.1 hK).1
        exact ⟨_, results_tmp2 rfl _ _ _, v0, rfl, Kd.R_lower (Kd.R_grown2 hr rfl hgr (fun k ek e => by cases ek; have := Kd.R_base hr _ e.symm; omega)) hBw.size, (hBw.trans (hb.mono hBw.size)).trans (belowK_b (w := w) (Nat.le_refl _) w' D _ _ hD' hK1 rfl rfl)⟩
      case stop =>
        rintro D c pre W _ _ h _
        exact h.elim
  · clear he0
    rw [if_neg h0] at h
    obtain ⟨rfl, rfl⟩ : [] = r1 ∧ e0 = r2 := by simpa using h
    clear h
    have h01 : (e0 != 0) = true := by simpa using h0
    clear h0
    gi_wp2_with (first | (gi_at_call 53; refine (cL _).mono ?_; rintro e w' ⟨rfl, ⟨m, rfl⟩⟩))
    exact ⟨_, results_tmp2 rfl _ _ _, _, rfl, Kd.R_nil _ _ _ _ _, pw_below_drewN (((Below.refl _ w).alloc (Nat.le_refl _) _).alloc (by simp) _) m⟩
end Go.Proofs.Ytklanjkndoikeaa.P

/- dom.Has: whether a value is in a domain. -/
namespace Go.Proofs.Ytklanjkndoikeaa.P
open Go.RowKit Go.Shelf Go.Proofs.YtklanjkndoikeaaW.PrintWords Go.Proofs.YtklanjkndoikeaaW.PrintLast Go.Proofs.YtklanjkndoikeaaW.PrintMore
set_option linter.unusedVariables false
set_option linter.unusedSimpArgs false

theorem take_at_T52 {d : List S52} {k : Nat} (hk : k < d.length) : d.take (k + 1) = d.take k ++ [rd_T52 d (k : Int)] := by
  rw [List.take_succ_eq_append_getElem hk]
  simp [rd_T52, List.getD_eq_getElem?_getD, List.getElem?_eq_getElem hk]
set_option maxHeartbeats 2000000 in
theorem indexFunc_range (p : S52 → Bool) (g : Nat) (lb : Array Value) (eg : ∀ args w, (callFunc g args).run Try.prog w = .ok (.enter g args) w) (A : Option Addr) (c : Nat) (zs : List S52) (w : World) (hr : Kd.C k52 w A zs.length zs)
    (hp : ∀ (x : S52) W, Below w.heap.size w W → Calls Try.prog g (#[.agg #[.int .i64 x.f0, .int .i64 x.f1]] ++ lb) W fun e w' => e = .returned (.bool (p x)) ∧ Below w.heap.size w w') :
    Calls Try.prog 67 #[.slice A zs.length c, .func (.func g) #[] lb] w fun e w' => (∃ i : Int, e = .returned (.int .i64 i) ∧ decide (0 ≤ i) = zs.any p) ∧ Below w.heap.size w w' := by
  have hlen : zs.length ≤ 9223372036854775807 := hr.2.1
  have hany : ∀ k, zs.any p = ((zs.take k).any p || (zs.drop k).any p) := fun k => by rw [← List.any_append, List.take_append_drop]
  have HY := Aside0.mk hany
  clear hany
  go_enter Try.func67, Try.ntmps67
  go_wp2
  go_loopg [5, 8] zs.length (fun gg _ s8 wr => ∃ kk : Nat, kk ≤ zs.length ∧ zs.length - kk ≤ gg ∧ s8 = .int .i64 kk ∧ Aside0 (Below w.heap.size w wr) ∧ Aside0 ((zs.take kk).any p = false))
  case atStart => exact ⟨0, Nat.zero_le _, by omega, rfl, ⟨Below.refl _ _⟩, ⟨by simp⟩⟩
  case round =>
    obtain ⟨kk, hkk, hg, rfl, HB, A1⟩ := hrel
    by_cases hlt : kk < zs.length
    · obtain ⟨ad, rfl, hx0, hx1⟩ := at_T52 hr (kk : Int) (by omega) (by omega)
      replace hx0 := (HB.out.cell (World.block_lt_of_cell? w _ hx0)).trans hx0
      replace hx1 := (HB.out.cell (World.block_lt_of_cell? w _ hx1)).trans hx1
      simp only [Int.toNat_natCast] at hx0 hx1
      have hcall := fun W => hp (rd_T52 zs (kk : Int)) W
      clear hp
      have htk : Aside0 (zs.take (kk + 1) = zs.take kk ++ [rd_T52 zs (kk : Int)]) := ⟨take_at_T52 hlt⟩
      generalize rd_T52 zs (kk : Int) = y at *
      cases hq : p y with
      | true =>
        rw [hq] at hcall
        have B := Aside0.mk hq
        clear hq
        go_wp2_with (go_at_fn g; refine (hcall _ (by first | exact HB.out | exact HB.out.drewN _)).mono ?_; rintro e w' ⟨rfl, hb'⟩)
        go_ret
        refine ⟨⟨_, rfl, ?_⟩, hb'⟩
        rw [HY.out (kk + 1), htk.out, List.any_append]
        simp [B.out]
      | false =>
        rw [hq] at hcall
        have B := Aside0.mk hq
        clear hq
        go_wp2_with (go_at_fn g; refine (hcall _ (by first | exact HB.out | exact HB.out.drewN _)).mono ?_; rintro e w' ⟨rfl, hb'⟩)
        go_roundg (zs.length - (kk + 1))
        case measure => omega
        case rel => exact ⟨kk + 1, by omega, by omega, by go_num, ⟨hb'⟩, ⟨by rw [htk.out, List.any_append, A1.out]; simp [B.out]⟩⟩
    · obtain rfl : kk = zs.length := by omega
      go_wp2
      go_ret
      refine ⟨⟨_, rfl, ?_⟩, HB.out⟩
      have := A1.out
      rw [List.take_length] at this
      rw [this]
      rfl
theorem containsFunc_range (p : S52 → Bool) (g : Nat) (lb : Array Value) (eg : ∀ args w, (callFunc g args).run Try.prog w = .ok (.enter g args) w) (A : Option Addr) (c : Nat) (zs : List S52) (w : World) (hr : Kd.C k52 w A zs.length zs)
    (hp : ∀ (x : S52) W, Below w.heap.size w W → Calls Try.prog g (#[.agg #[.int .i64 x.f0, .int .i64 x.f1]] ++ lb) W fun e w' => e = .returned (.bool (p x)) ∧ Below w.heap.size w w') :
    Calls Try.prog 56 #[.slice A zs.length c, .func (.func g) #[] lb] w fun e w' => e = .returned (.bool (zs.any p)) ∧ Below w.heap.size w w' := by
  have hI := indexFunc_range p g lb eg A c zs w hr hp
  go_enter Try.func56, Try.ntmps56
  go_wp2_with (go_at_call 67; refine hI.mono ?_; rintro e w' ⟨⟨i, rfl, hi⟩, hb⟩)
  go_ret
  exact ⟨by rw [← hi]; rfl, hb⟩

def inR (v : Int) (x : S52) : Bool := decide (x.f0 ≤ v) && decide (v ≤ x.f1)
set_option maxHeartbeats 2000000 in
theorem hasPred (w : World) (v : Int) (b : Nat) (hb : w.cell? ⟨b, 0, none⟩ = some (.int .i64 v)) (hbl : b < w.heap.size) (x : S52) (W : World) (hW : Below w.heap.size w W) :
    Calls Try.prog 57 (#[.agg #[.int .i64 x.f0, .int .i64 x.f1]] ++ #[.pointer (some ⟨b, 0, none⟩)]) W fun e w' => e = .returned (.bool (inR v x)) ∧ Below w.heap.size w w' := by
  have hc : W.cell? ⟨b, 0, none⟩ = some (.int .i64 v) := (hW.cell (p := ⟨b, 0, none⟩) hbl).trans hb
  have hne := hW.size
  have hc2 : (W.alloc (.cells #[.int .i64 x.f0, .int .i64 x.f1] 52)).cell? ⟨b, 0, none⟩ = some (.int .i64 v) := (((Below.refl _ W).alloc (Nat.le_refl _) _).cell (p := ⟨b, 0, none⟩) (by show b < W.heap.size; omega)).trans hc
  show Calls Try.prog 57 #[.agg #[.int .i64 x.f0, .int .i64 x.f1], .pointer (some ⟨b, 0, none⟩)] W fun e w' => e = .returned (.bool (inR v x)) ∧ Below w.heap.size w w'
  unfold inR
  by_cases h0 : x.f0 ≤ v
  · have c0 : decide (x.f0 ≤ v) = true := decide_eq_true h0
    rw [c0, Bool.true_and]
    clear h0
    go_enter Try.func57, Try.ntmps57
    go_wp2
    go_ret
    exact ⟨rfl, by repeat (first | exact hW | exact hW.alloc hne _ | apply pw_below_drewN)⟩
  · have c0 : decide (x.f0 ≤ v) = false := decide_eq_false h0
    rw [c0, Bool.false_and]
    clear h0
    go_enter Try.func57, Try.ntmps57
    go_wp2
    go_ret
    exact ⟨rfl, by repeat (first | exact hW | exact hW.alloc hne _ | apply pw_below_drewN)⟩

def dom_Has.f (l0 : List S52) (a1 : Int) : Option Bool := some (l0.any (inR a1))
set_option maxHeartbeats 2000000 in
theorem dom_Has.calls (A0 : Option Addr) (c0 : Nat) (l0 : List S52) (a1 : Int) (r : Bool) (w : World) (hr0 : Kd.C k52 w A0 l0.length l0) (hc0 : l0.length ≤ c0) (h : dom_Has.f l0 a1 = some r) :
    Calls Try.prog 26 #[.slice A0 l0.length c0, .int .i64 a1] w fun e w' => e = .returned (.bool r) ∧ Below w.heap.size w w' := by
  obtain rfl := Option.some.inj h
  clear h
  have hB : Below w.heap.size w (w.alloc (.cells #[.int .i64 a1] 3)) := (Below.refl _ w).alloc (Nat.le_refl _) _
  have cC := containsFunc_range (inR a1) 57 #[.pointer (some ⟨w.heap.size, 0, none⟩)] (enters_of Try.func57 (by kernel_rfl) rfl) A0 c0 l0 (w.alloc (.cells #[.int .i64 a1] 3)) (Kd.C_below hr0 hB)
    (fun x W hW => hasPred _ a1 w.heap.size (Boxed.new w 3 (.int .i64 a1)).cell (by simp) x W hW)
  clear hr0
  go_enter Try.func26, Try.ntmps26
  go_wp2_with (go_at_call 56; refine cC.mono ?_; rintro e w' ⟨rfl, hb⟩)
  go_ret
  exact ⟨rfl, hB.trans (hb.mono (by simp))⟩
end Go.Proofs.Ytklanjkndoikeaa.P

/- dom.Line: the values a x + b of a domain's values x. -/
namespace Go.Proofs.Ytklanjkndoikeaa.P
open Go.RowKit Go.Shelf Go.Proofs.YtklanjkndoikeaaW.PrintWords Go.Proofs.YtklanjkndoikeaaW.PrintLast Go.Proofs.YtklanjkndoikeaaW.PrintMore
set_option linter.unusedVariables false
set_option linter.unusedSimpArgs false
attribute [local go_sem] Oper.semAt_some

def lineL (a b : Int) (l : List Int) : List Int := l.map fun v => wrap64 (wrap64 (a * v) + b)
theorem lineL_snoc (a b : Int) (l : List Int) (x : Int) : lineL a b (l ++ [x]) = lineL a b l ++ [wrap64 (wrap64 (a * x) + b)] := by simp [lineL]
theorem lineL_length (a b : Int) (l : List Int) : (lineL a b l).length = l.length := by simp [lineL]
def dom_Line.f (k : Nat) (l0 : List S52) (a1 : Int) (a2 : Int) : Option (List S52 × Int) :=
  (dom_line.f a1 a2).bind fun e => if e = 0 then (if niceD l0 = true then dom_Of.f k (lineL a1 a2 (allV 4097 l0)) else none) else some ([], e)
theorem dom_Line.mono : ∀ a0 a1 a2 k, LeO (dom_Line.f k a0 a1 a2) (dom_Line.f (k + 1) a0 a1 a2) := by
  intro a0 a1 a2 k
  unfold dom_Line.f
  refine LeO.bind (LeO.refl _) (fun _ => ?_)
  refine LeO.ite (LeO.ite ?_ (LeO.none _)) (LeO.refl _)
  exact dom_Of.mono _ k

set_option maxRecDepth 100000 in
set_option maxHeartbeats 4000000 in
theorem dom_Line.calls (k : Nat) (A0 : Option Addr) (c0 : Nat) (l0 : List S52) (a1 : Int) (a2 : Int) (r1 : List S52) (r2 : Int) (w : World) (hr0 : Kd.C k52 w A0 l0.length l0) (hc0 : l0.length ≤ c0) (h : dom_Line.f k l0 a1 a2 = some (r1, r2)) :
    Calls Try.prog 21 #[.slice A0 l0.length c0, .int .i64 a1, .int .i64 a2] w fun e w' => ∃ v0_ : Value, e = .returned (.tuple #[v0_, .int .i64 r2]) ∧ Kd.R k52 52 w' w.heap.size (fun _ => True) v0_ r1 ∧ Below w.heap.size w w' := by
  have HR := Aside0.mk hr0
  clear hr0
  unfold dom_Line.f at h
  obtain ⟨e0, he0, h⟩ := Option.bind_eq_some_iff.1 h
  have cL := fun W => (callsIn_wide (n := 8)).2 (dom_line.calls a1 a2 e0 W he0)
  clear he0
  obtain ⟨i0, hi, hz0, hz1, hz2⟩ := info_parts infoI
  refine (callsIn_wide (n := 9)).1 ?_
  refine callsIn_of_wp_marks Try.func21 rfl trivial ?_ rfl
  simp only [Try.ntmps21, List.size_toArray, List.length_cons, List.length_nil, Nat.reduceAdd, Nat.reduceSub, Array.replicate_succ, Array.replicate_zero, List.push_toArray, List.append_toArray, List.nil_append, List.cons_append]
  have f1 : Fence.wide.fn 53 := trivial
  have f2 : Fence.wide.fn 54 := trivial
  have f3 : Fence.wide.fn 13 := trivial
  by_cases h0 : e0 = 0
  · rw [if_pos h0] at h
    subst h0
    split at h
    case isFalse => cases h
    case isTrue hN =>
      have H := Aside0.mk h
      clear h
      have cA := fun W => all_in Fence.wide 8 trivial rfl A0 l0.length c0 W
      gi_wp2_with (first | (gi_at_call 53; refine (cL _).mono ?_; rintro e w' ⟨rfl, ⟨m, rfl⟩⟩) | (gi_at_call 54; refine (cA _).mono ?_; rintro e w' ⟨rfl, rfl⟩))
      obtain ⟨w2, hw2⟩ : ∃ w2, ((w.alloc (.cells #[.int .i64 a1] 3)).alloc (.cells #[.int .i64 a2] 3)).drewN m = w2 := ⟨_, rfl⟩
      have hs2 : w2.heap.size = w.heap.size + 2 := by rw [← hw2]; simp
      have hba : Boxed w2 w.heap.size 3 (.int .i64 a1) := by rw [← hw2]; exact (Boxed.new w _ _).alloc _
      have hbb : Boxed w2 (w.heap.size + 1) 3 (.int .i64 a2) := by rw [← hw2]; have := Boxed.new (w.alloc (.cells #[.int .i64 a1] 3)) 3 (.int .i64 a2); rw [World.size_alloc] at this; exact this
      have hB2 : Below w.heap.size w w2 := by rw [← hw2]; exact pw_below_drewN (((Below.refl _ w).alloc (Nat.le_refl _) _).alloc (by simp) _) m
      rw [hw2]
      clear hw2
      obtain ⟨w0, hw0⟩ : ∃ w0, (w2.alloc (.cells #[.slice none 0 0] 23)).alloc (.cells #[.slice A0 l0.length c0] 22) = w0 := ⟨_, rfl⟩
      have hs0 : w0.heap.size = w.heap.size + 4 := by rw [← hw0]; simp; omega
      have hB02 : Below w2.heap.size w2 w0 := by rw [← hw0]; exact ((Below.refl _ w2).alloc (Nat.le_refl _) _).alloc (by simp) _
      have hB0 : Below w.heap.size w w0 := hB2.trans (hB02.mono hB2.size)
      have hbl : Boxed w0 (w.heap.size + 1 + 1) 23 (.slice none 0 0) := by rw [← hw0]; have := (Boxed.new w2 23 (.slice none 0 0)).alloc (.cells #[.slice A0 l0.length c0] 22); rwa [hs2] at this
      have hbd : Boxed w0 (w.heap.size + 1 + 1 + 1) 22 (.slice A0 l0.length c0) := by rw [← hw0]; have := Boxed.new (w2.alloc (.cells #[.slice none 0 0] 23)) 22 (.slice A0 l0.length c0); rwa [World.size_alloc, hs2] at this
      have hba0 : w0.heap[w.heap.size]? = some (.cells #[.int .i64 a1] 3 (0, 0)) := (hB02.block _ (by omega)).trans hba
      have hbb0 : w0.heap[w.heap.size + 1]? = some (.cells #[.int .i64 a2] 3 (0, 0)) := (hB02.block _ (by omega)).trans hbb
      rw [hw0]
      clear hw0
      refine wpIn_rangeFunc_ownG rfl (by omega) (gf := 66) (lb := #[.pointer (some ⟨w.heap.size + 1 + 1 + 1, 0, none⟩)]) rfl trivial (enters_of Try.func66 (by kernel_rfl) rfl)
        (all_stops Fence.wide 8 trivial rfl (by omega) (w.heap.size + 1 + 1 + 1) w w0 A0 c0 l0 HR.out hN (by omega) hB0 hbd.cell) Kp.t (Kp.b (by omega)) (Below.refl _ _) (fun _ => rfl)
        (fun pre W => (∃ v, Boxed W (w.heap.size + 1 + 1) 23 v ∧ W.ownsRow (w.heap.size + 1 + 1) 3 1 v (lineL a1 a2 pre).length ((lineL a1 a2 pre).map (Value.int .i64)) ∧ True) ∧ Below (w.heap.size + 1 + 1) w0 W)
        (fun _ _ _ => False)
        (OwnFrom.and (Own.from (holdsRow_own (w.heap.size + 1 + 1) (w.heap.size + 1 + 1) 23 3 1 (fun pre : List Int => (lineL a1 a2 pre).length) (fun pre => (lineL a1 a2 pre).map (Value.int .i64)) (fun _ _ => True)) _) (ownFrom_below (by omega) (by omega)))
        (fun _ _ _ _ _ hs _ _ => hs)
        ⟨⟨_, hbl, World.ownsRow_nil _ _ _ _, trivial⟩, Below.refl _ _⟩
        (fun x => { tmps := #[.slice A0 l0.length c0, .int .i64 a1, .int .i64 a2, undef, .pointer (some ⟨w.heap.size, 0, none⟩), .pointer (some ⟨w.heap.size + 1, 0, none⟩), .slice none 0 0, .int .i64 0, .int .i64 0, .pointer (some ⟨w.heap.size + 1 + 1, 0, none⟩), .int .i64 x, .int .i64 a1, .int .i64 a2, .int .i64 0, .int .i64 0, .bool false, undef, .slice A0 l0.length c0, .func (.func 66) #[] #[.pointer (some ⟨w.heap.size + 1 + 1 + 1, 0, none⟩)], .int .i64 x, undef, undef, undef, undef, undef, undef, undef, undef, undef, undef, undef, undef], defers := [] }) ?assign ?body ?done ?stop
      case assign =>
        intro l x W K hK
        gi_wp2
        exact hK
      case body =>
        rintro l pre x W ⟨⟨v, hv, hrow, _⟩, hB⟩ hlt
        have hc := hv.cell
        have hca : W.cell? ⟨w.heap.size, 0, none⟩ = some (.int .i64 a1) := by have := (hB.block w.heap.size (by omega)).trans hba0; simp [World.cell?, this]
        have hcb : W.cell? ⟨w.heap.size + 1, 0, none⟩ = some (.int .i64 a2) := by have := (hB.block (w.heap.size + 1) (by omega)).trans hbb0; simp [World.cell?, this]
        have hll : (lineL a1 a2 pre).length ≤ pre.length := Nat.le_of_eq (lineL_length a1 a2 pre)
        have hsz := hB.size
        have hls := Aside0.mk (lineL_snoc a1 a2 pre x)
        gi_wp2_with (gi_at_builtin; refine wpListIn_append_own _ rfl _ _ 23 rfl (w.heap.size + 1 + 1) 3 i0 (.int .i64 0) 1 8 Try.underlying23 hi hz0 hz1 hz2 rfl (by decide) _ _ _ rfl (hrow.alloc _) ⟨W.heap.size, 0, none⟩ 1 1 [.int .i64 (wrap64 (wrap64 (a1 * x) + a2))] rfl rfl (cell_one_new _ _ _) (by simp [Value.oneCell']) (by unfold maxLen; omega) (by omega) (by simp; omega) ?_; intro v' w1 hown' hgrow _; obtain ⟨g', cap', rfl⟩ := ownsRow_succ hown'; have hty := (KeepsTy.alloc 52 W (.cells #[.int .i64 (wrap64 (wrap64 (a1 * x) + a2))] 3)).trans (KeepsTy.row (hrow.alloc _) (by decide) hgrow); obtain ⟨hv1, hv2, hr2, hk2, hb2⟩ := hv.appended (by decide) hrow (by omega) (Nat.le_refl _) hown' hgrow; have hty2 := hty.trans (KeepsTy.box hv1 (v' := .slice (some ⟨g', 0, none⟩) ((lineL a1 a2 pre).length + 1) cap') (by decide)); have hc1 := hv1.cell; have hf1 := hv1.frozen)
        exact ⟨hk2.from _, ⟨hb2.mono (by omega), hty2⟩, ⟨_, hv2, by rw [hls.out]; simpa using hr2, trivial⟩, hB.trans hb2⟩
      case done =>
        rintro D ys W hD rfl ⟨⟨v, hv, hrow, _⟩, hB⟩ hK
        have hc := hv.cell
        have hR := Kd.R_of_own (enc := Value.int .i64) (h1 := fun _ => rfl) (ok := fun _ => True) hrow (fun _ _ => trivial)
        obtain ⟨A, c, rfl, hcl, hC⟩ := Kd.R_reads hR
        have cO := (callsIn_wide (n := 8)).2 (dom_Of.calls k A c (lineL a1 a2 (allV 4097 l0)) r1 r2 W hC hcl H.out)
        have hlen := Aside0.mk (lineL_length a1 a2 (allV 4097 l0))
        gi_wp2_with (gi_at_call 13; refine cO.mono ?_; rintro e w' ⟨v0, rfl, hr, hb⟩)
        have hK1 := (hb.block D (Array.getElem?_eq_some_iff.1 hK).1).trans hK
        have hBw := hB0.trans (hB.mono (by omega))
        refine ⟨by simp, .inl ⟨_, _, rfl, run_takeDeferred hK1, ?_⟩⟩
        have hD' : w.heap.size ≤ D := by omega
        have hgr := grownBy_putObj' w' D (.deferred none)
        have hDl := (Array.getElem?_eq_some_iff.1 hK).1
        exact ⟨_, results_tmp2 rfl _ _ _, v0, rfl, Kd.R_lower (Kd.R_grown2 hr rfl hgr (fun k ek e => by cases ek; have := Kd.R_base hr _ e.symm; omega)) hBw.size, (hBw.trans (hb.mono hBw.size)).trans (belowK_b (w := w) (Nat.le_refl _) w' D _ _ hD' hK1 rfl rfl)⟩
      case stop =>
        rintro D c pre W _ _ h _
        exact h.elim
  · rw [if_neg h0] at h
    obtain ⟨rfl, rfl⟩ : [] = r1 ∧ e0 = r2 := by simpa using h
    clear h
    have h01 : (e0 != 0) = true := by simpa using h0
    clear h0
    gi_wp2_with (first | (gi_at_call 53; refine (cL _).mono ?_; rintro e w' ⟨rfl, ⟨m, rfl⟩⟩))
    exact ⟨_, results_tmp2 rfl _ _ _, _, rfl, Kd.R_nil _ _ _ _ _, pw_below_drewN (((Below.refl _ w).alloc (Nat.le_refl _) _).alloc (by simp) _) m⟩
end Go.Proofs.Ytklanjkndoikeaa.P

/- dom.Values: all values of a domain, in order; of ranges whose ends are no larger than values can be. -/
namespace Go.Proofs.Ytklanjkndoikeaa.P
open Go.RowKit Go.Shelf Go.Proofs.YtklanjkndoikeaaW.PrintWords Go.Proofs.YtklanjkndoikeaaW.PrintLast Go.Proofs.YtklanjkndoikeaaW.PrintMore
set_option linter.unusedVariables false

def dom_Values.f (l0 : List S52) : Option (List Int) := if niceD l0 = true then some (allV 4097 l0) else none
theorem row_of (W : World) (base : Nat) (v : Value) (xs : List Int) (h : W.ownsRow base 3 1 v xs.length (xs.map (Value.int .i64))) : Kd.R (Kd.int .i64) 3 W base (fun _ => True) v xs := Kd.R_of_own (enc := Value.int .i64) h (fun _ _ => trivial)
set_option maxHeartbeats 2000000 in
theorem dom_Values.calls (A0 : Option Addr) (c0 : Nat) (l0 : List S52) (r : List Int) (w : World) (hr0 : Kd.C k52 w A0 l0.length l0) (hc0 : l0.length ≤ c0) (h : dom_Values.f l0 = some r) :
    Calls Try.prog 29 #[.slice A0 l0.length c0] w fun e w' => ∃ v0_ : Value, e = .returned (v0_) ∧ Kd.R (Kd.int .i64) 3 w' w.heap.size (fun _ => True) v0_ r ∧ Below w.heap.size w w' := by
  have HR := Aside0.mk hr0
  clear hr0
  unfold dom_Values.f at h
  split at h
  case isFalse => cases h
  case isTrue hN =>
    obtain rfl := Option.some.inj h
    clear h
    have cA := fun W => callsIn_wide.1 (all_in Fence.wide 9 trivial rfl A0 l0.length c0 W)
    have hB1 : Below w.heap.size w (w.alloc (.cells #[.slice A0 l0.length c0] 22)) := (Below.refl _ w).alloc (Nat.le_refl _) _
    have cB := callsIn_wide.1 (collect_in Fence.wide 9 trivial trivial rfl (by omega) 66 #[.pointer (some ⟨w.heap.size, 0, none⟩)] trivial (enters_of Try.func66 (by kernel_rfl) rfl) w.heap.size _ _ 4097 (by omega) (w.alloc (.cells #[.slice A0 l0.length c0] 22)) (w.alloc (.cells #[.slice A0 l0.length c0] 22)) (Below.refl _ _) (by simp) (all_stops Fence.wide 7 trivial rfl (by omega) w.heap.size w _ A0 c0 l0 HR.out hN (by simp) hB1 (Boxed.new w _ _).cell))
    go_enter Try.func29, Try.ntmps29
    go_wp2_with (first | (go_at_call 54; refine (cA _).mono ?_; rintro e w' ⟨rfl, rfl⟩) | (go_at_call 58; refine cB.mono ?_; rintro e w' ⟨v, xs, rfl, rfl, hrow, hb⟩))
    go_ret
    have hz : (w.alloc (.cells #[.slice A0 l0.length c0] 22)).heap.size = w.heap.size + 1 := by simp
    exact ⟨v, rfl, Kd.R_lower (row_of _ _ _ _ hrow) (by rw [hz]; omega), hB1.trans (hb.mono (by rw [hz]; omega))⟩
end Go.Proofs.Ytklanjkndoikeaa.P

-- Written by wip/tools/px.py out of the translation. Lean checks it.
namespace Go.Proofs.Ytklanjkndoikeaa.P
open Go.RowKit Go.Proofs.YtklanjkndoikeaaW.PrintWords Go.Proofs.YtklanjkndoikeaaW.PrintLast Go.Proofs.YtklanjkndoikeaaW.PrintMore
attribute [local go_sem] max2_int min2_int max_two min_two max_three min_three max_four min_four   -- for this text's walks alone
set_option linter.unusedVariables false
set_option linter.unusedSimpArgs false

/-! ### secateurlaw02_fixed: function 19 -/
def secateurlaw02_fixed.f (k : Nat)  : Option (Bool) := (dom_Of.f k (([3, 1, 2, 7] : List Int))).bind fun bt214 => ((dom_Line.f k bt214.1 (-2) 1).bind fun bt218 => ((dom_Line.f k bt214.1 0 1).bind fun bt222 => ((dom_Of.f k (([2097152] : List Int))).bind fun bt229 => ((dom_Next.f k bt214.1 3).bind fun bt233 => ((dom_Back.f k bt214.1 2 1).bind fun bt235 => ((secateurref02_Same.f k bt214.1 (([(⟨1, 3⟩ : S52), (⟨7, 7⟩ : S52)] : List (S52)))).bind fun t242 => (if t242 = true then (if bt214.2 = 0 then ((dom_Cut.f k bt214.1 2 7).bind fun t243 => ((secateurref02_Same.f k t243 (([(⟨2, 3⟩ : S52), (⟨7, 7⟩ : S52)] : List (S52)))).bind fun t249 => (if t249 = true then ((dom_Values.f bt218.1).bind fun t250 => ((secateurref02_Nums.f k t250 (([(-13), (-5), (-3), (-1)] : List Int))).bind fun t256 => (if t256 = true then (if bt218.2 = 0 then (if bt222.2 = 1 then (if bt229.2 = 20 then (if bt233.1 = 7 then (if bt233.2 = true then ((dom_Values.f bt235.1).bind fun t257 => ((secateurref02_Nums.f k t257 (([0, 1, 3] : List Int))).bind fun t263 => (if t263 = true then (if bt235.2 = 0 then ((dom_Size.f k bt214.1).bind fun t264 => (if t264 = 4 then ((dom_Has.f bt214.1 7).bind fun t265 => (if t265 = true then ((dom_Has.f bt214.1 4).bind fun t266 => (if t266 = true then (none) else ((dom_Check.f k (([(⟨1, 2⟩ : S52), (⟨3, 3⟩ : S52)] : List (S52)))).bind fun t270 => (some (t270 == 20))))) else (none))) else (none))) else (none)) else (none)))) else (none)) else (none)) else (none)) else (none)) else (none)) else (none)))) else (none)))) else (none)) else (none))))))))
theorem secateurlaw02_fixed.mono : ∀ k, LeO (secateurlaw02_fixed.f k ) (secateurlaw02_fixed.f (k + 1) ) := by
 intro  k
 unfold secateurlaw02_fixed.f
 repeat' first
   | (with_reducible exact dom_Back.mono _ _ _ _)
   | (with_reducible exact dom_Check.mono _ _)
   | (with_reducible exact dom_Cut.mono _ _ _ _)
   | (with_reducible exact dom_Line.mono _ _ _ _)
   | (with_reducible exact dom_Next.mono _ _ _)
   | (with_reducible exact dom_Of.mono _ _)
   | (with_reducible exact dom_Size.mono _ _)
   | (with_reducible exact secateurref02_Nums.mono _ _ _)
   | (with_reducible exact secateurref02_Same.mono _ _ _)
   | (with_reducible exact LeO.refl _)
   | (with_reducible exact LeO.none _)
   | (with_reducible refine LeO.ite ?_ ?_)
   | (with_reducible refine LeO.bind ?_ (fun _ => ?_))
   | exact dom_Back.mono _ _ _ _
   | exact dom_Check.mono _ _
   | exact dom_Cut.mono _ _ _ _
   | exact dom_Line.mono _ _ _ _
   | exact dom_Next.mono _ _ _
   | exact dom_Of.mono _ _
   | exact dom_Size.mono _ _
   | exact secateurref02_Nums.mono _ _ _
   | exact secateurref02_Same.mono _ _ _
   | exact LeO.none _
   | refine LeO.ite ?_ ?_
   | refine LeO.bind ?_ (fun _ => ?_)
set_option maxHeartbeats 8000000 in
set_option maxRecDepth 100000 in
theorem secateurlaw02_fixed.calls (k : Nat)  (r : Bool) (w : World) (h : secateurlaw02_fixed.f k  = some r) :
  Calls Try.prog 19 #[] w fun e w' => e = .returned (.bool r) ∧ Below w.heap.size w w' := by
 have hu52 := Try.underlying52
 have HB := Aside0.mk (Below.refl w.heap.size w)
 have H : ((dom_Of.f k (([3, 1, 2, 7] : List Int))).bind fun bt214 => ((dom_Line.f k bt214.1 (-2) 1).bind fun bt218 => ((dom_Line.f k bt214.1 0 1).bind fun bt222 => ((dom_Of.f k (([2097152] : List Int))).bind fun bt229 => ((dom_Next.f k bt214.1 3).bind fun bt233 => ((dom_Back.f k bt214.1 2 1).bind fun bt235 => ((secateurref02_Same.f k bt214.1 (([(⟨1, 3⟩ : S52), (⟨7, 7⟩ : S52)] : List (S52)))).bind fun t242 => (if t242 = true then (if bt214.2 = 0 then ((dom_Cut.f k bt214.1 2 7).bind fun t243 => ((secateurref02_Same.f k t243 (([(⟨2, 3⟩ : S52), (⟨7, 7⟩ : S52)] : List (S52)))).bind fun t249 => (if t249 = true then ((dom_Values.f bt218.1).bind fun t250 => ((secateurref02_Nums.f k t250 (([(-13), (-5), (-3), (-1)] : List Int))).bind fun t256 => (if t256 = true then (if bt218.2 = 0 then (if bt222.2 = 1 then (if bt229.2 = 20 then (if bt233.1 = 7 then (if bt233.2 = true then ((dom_Values.f bt235.1).bind fun t257 => ((secateurref02_Nums.f k t257 (([0, 1, 3] : List Int))).bind fun t263 => (if t263 = true then (if bt235.2 = 0 then ((dom_Size.f k bt214.1).bind fun t264 => (if t264 = 4 then ((dom_Has.f bt214.1 7).bind fun t265 => (if t265 = true then ((dom_Has.f bt214.1 4).bind fun t266 => (if t266 = true then (none) else ((dom_Check.f k (([(⟨1, 2⟩ : S52), (⟨3, 3⟩ : S52)] : List (S52)))).bind fun t270 => (some (t270 == 20))))) else (none))) else (none))) else (none)) else (none)))) else (none)) else (none)) else (none)) else (none)) else (none)) else (none)))) else (none)))) else (none)) else (none))))))))) = some r := h
 clear h
 obtain ⟨y211, hy211⟩ : ∃ y_ : List Int, y_ = (([3, 1, 2, 7] : List Int)) := ⟨_, rfl⟩
 replace H : ((dom_Of.f k y211).bind fun bt214 => ((dom_Line.f k bt214.1 (-2) 1).bind fun bt218 => ((dom_Line.f k bt214.1 0 1).bind fun bt222 => ((dom_Of.f k (([2097152] : List Int))).bind fun bt229 => ((dom_Next.f k bt214.1 3).bind fun bt233 => ((dom_Back.f k bt214.1 2 1).bind fun bt235 => ((secateurref02_Same.f k bt214.1 (([(⟨1, 3⟩ : S52), (⟨7, 7⟩ : S52)] : List (S52)))).bind fun t242 => (if t242 = true then (if bt214.2 = 0 then ((dom_Cut.f k bt214.1 2 7).bind fun t243 => ((secateurref02_Same.f k t243 (([(⟨2, 3⟩ : S52), (⟨7, 7⟩ : S52)] : List (S52)))).bind fun t249 => (if t249 = true then ((dom_Values.f bt218.1).bind fun t250 => ((secateurref02_Nums.f k t250 (([(-13), (-5), (-3), (-1)] : List Int))).bind fun t256 => (if t256 = true then (if bt218.2 = 0 then (if bt222.2 = 1 then (if bt229.2 = 20 then (if bt233.1 = 7 then (if bt233.2 = true then ((dom_Values.f bt235.1).bind fun t257 => ((secateurref02_Nums.f k t257 (([0, 1, 3] : List Int))).bind fun t263 => (if t263 = true then (if bt235.2 = 0 then ((dom_Size.f k bt214.1).bind fun t264 => (if t264 = 4 then ((dom_Has.f bt214.1 7).bind fun t265 => (if t265 = true then ((dom_Has.f bt214.1 4).bind fun t266 => (if t266 = true then (none) else ((dom_Check.f k (([(⟨1, 2⟩ : S52), (⟨3, 3⟩ : S52)] : List (S52)))).bind fun t270 => (some (t270 == 20))))) else (none))) else (none))) else (none)) else (none)))) else (none)) else (none)) else (none)) else (none)) else (none)) else (none)))) else (none)))) else (none)) else (none))))))))) = some r := by first | (rw [hy211]; with_reducible exact H) | (have H2_ := (Option.bind_some _ _).symm.trans H; rw [hy211]; with_reducible exact H2_) | (have H2_ := (Option.bind_some _ _).symm.trans H; with_reducible exact H2_) | with_reducible exact H | (rw [hy211]; exact H) | exact H
 have Ny211 := Aside0.mk hy211
 clear hy211
 replace H := Option.bind_eq_some_iff.mp H
 obtain ⟨⟨t214, t215⟩, A10, H⟩ := H
 replace H : ((dom_Line.f k t214 (-2) 1).bind fun bt218 => ((dom_Line.f k t214 0 1).bind fun bt222 => ((dom_Of.f k (([2097152] : List Int))).bind fun bt229 => ((dom_Next.f k t214 3).bind fun bt233 => ((dom_Back.f k t214 2 1).bind fun bt235 => ((secateurref02_Same.f k t214 (([(⟨1, 3⟩ : S52), (⟨7, 7⟩ : S52)] : List (S52)))).bind fun t242 => (if t242 = true then (if t215 = 0 then ((dom_Cut.f k t214 2 7).bind fun t243 => ((secateurref02_Same.f k t243 (([(⟨2, 3⟩ : S52), (⟨7, 7⟩ : S52)] : List (S52)))).bind fun t249 => (if t249 = true then ((dom_Values.f bt218.1).bind fun t250 => ((secateurref02_Nums.f k t250 (([(-13), (-5), (-3), (-1)] : List Int))).bind fun t256 => (if t256 = true then (if bt218.2 = 0 then (if bt222.2 = 1 then (if bt229.2 = 20 then (if bt233.1 = 7 then (if bt233.2 = true then ((dom_Values.f bt235.1).bind fun t257 => ((secateurref02_Nums.f k t257 (([0, 1, 3] : List Int))).bind fun t263 => (if t263 = true then (if bt235.2 = 0 then ((dom_Size.f k t214).bind fun t264 => (if t264 = 4 then ((dom_Has.f t214 7).bind fun t265 => (if t265 = true then ((dom_Has.f t214 4).bind fun t266 => (if t266 = true then (none) else ((dom_Check.f k (([(⟨1, 2⟩ : S52), (⟨3, 3⟩ : S52)] : List (S52)))).bind fun t270 => (some (t270 == 20))))) else (none))) else (none))) else (none)) else (none)))) else (none)) else (none)) else (none)) else (none)) else (none)) else (none)))) else (none)))) else (none)) else (none)))))))) = some r := H
 have A1 := Aside0.mk A10
 clear A10
 replace H := Option.bind_eq_some_iff.mp H
 obtain ⟨⟨t218, t219⟩, A20, H⟩ := H
 replace H : ((dom_Line.f k t214 0 1).bind fun bt222 => ((dom_Of.f k (([2097152] : List Int))).bind fun bt229 => ((dom_Next.f k t214 3).bind fun bt233 => ((dom_Back.f k t214 2 1).bind fun bt235 => ((secateurref02_Same.f k t214 (([(⟨1, 3⟩ : S52), (⟨7, 7⟩ : S52)] : List (S52)))).bind fun t242 => (if t242 = true then (if t215 = 0 then ((dom_Cut.f k t214 2 7).bind fun t243 => ((secateurref02_Same.f k t243 (([(⟨2, 3⟩ : S52), (⟨7, 7⟩ : S52)] : List (S52)))).bind fun t249 => (if t249 = true then ((dom_Values.f t218).bind fun t250 => ((secateurref02_Nums.f k t250 (([(-13), (-5), (-3), (-1)] : List Int))).bind fun t256 => (if t256 = true then (if t219 = 0 then (if bt222.2 = 1 then (if bt229.2 = 20 then (if bt233.1 = 7 then (if bt233.2 = true then ((dom_Values.f bt235.1).bind fun t257 => ((secateurref02_Nums.f k t257 (([0, 1, 3] : List Int))).bind fun t263 => (if t263 = true then (if bt235.2 = 0 then ((dom_Size.f k t214).bind fun t264 => (if t264 = 4 then ((dom_Has.f t214 7).bind fun t265 => (if t265 = true then ((dom_Has.f t214 4).bind fun t266 => (if t266 = true then (none) else ((dom_Check.f k (([(⟨1, 2⟩ : S52), (⟨3, 3⟩ : S52)] : List (S52)))).bind fun t270 => (some (t270 == 20))))) else (none))) else (none))) else (none)) else (none)))) else (none)) else (none)) else (none)) else (none)) else (none)) else (none)))) else (none)))) else (none)) else (none))))))) = some r := H
 have A2 := Aside0.mk A20
 clear A20
 replace H := Option.bind_eq_some_iff.mp H
 obtain ⟨⟨t222, t223⟩, A30, H⟩ := H
 replace H : ((dom_Of.f k (([2097152] : List Int))).bind fun bt229 => ((dom_Next.f k t214 3).bind fun bt233 => ((dom_Back.f k t214 2 1).bind fun bt235 => ((secateurref02_Same.f k t214 (([(⟨1, 3⟩ : S52), (⟨7, 7⟩ : S52)] : List (S52)))).bind fun t242 => (if t242 = true then (if t215 = 0 then ((dom_Cut.f k t214 2 7).bind fun t243 => ((secateurref02_Same.f k t243 (([(⟨2, 3⟩ : S52), (⟨7, 7⟩ : S52)] : List (S52)))).bind fun t249 => (if t249 = true then ((dom_Values.f t218).bind fun t250 => ((secateurref02_Nums.f k t250 (([(-13), (-5), (-3), (-1)] : List Int))).bind fun t256 => (if t256 = true then (if t219 = 0 then (if t223 = 1 then (if bt229.2 = 20 then (if bt233.1 = 7 then (if bt233.2 = true then ((dom_Values.f bt235.1).bind fun t257 => ((secateurref02_Nums.f k t257 (([0, 1, 3] : List Int))).bind fun t263 => (if t263 = true then (if bt235.2 = 0 then ((dom_Size.f k t214).bind fun t264 => (if t264 = 4 then ((dom_Has.f t214 7).bind fun t265 => (if t265 = true then ((dom_Has.f t214 4).bind fun t266 => (if t266 = true then (none) else ((dom_Check.f k (([(⟨1, 2⟩ : S52), (⟨3, 3⟩ : S52)] : List (S52)))).bind fun t270 => (some (t270 == 20))))) else (none))) else (none))) else (none)) else (none)))) else (none)) else (none)) else (none)) else (none)) else (none)) else (none)))) else (none)))) else (none)) else (none)))))) = some r := H
 have A3 := Aside0.mk A30
 clear A30
 obtain ⟨y226, hy226⟩ : ∃ y_ : List Int, y_ = (([2097152] : List Int)) := ⟨_, rfl⟩
 replace H : ((dom_Of.f k y226).bind fun bt229 => ((dom_Next.f k t214 3).bind fun bt233 => ((dom_Back.f k t214 2 1).bind fun bt235 => ((secateurref02_Same.f k t214 (([(⟨1, 3⟩ : S52), (⟨7, 7⟩ : S52)] : List (S52)))).bind fun t242 => (if t242 = true then (if t215 = 0 then ((dom_Cut.f k t214 2 7).bind fun t243 => ((secateurref02_Same.f k t243 (([(⟨2, 3⟩ : S52), (⟨7, 7⟩ : S52)] : List (S52)))).bind fun t249 => (if t249 = true then ((dom_Values.f t218).bind fun t250 => ((secateurref02_Nums.f k t250 (([(-13), (-5), (-3), (-1)] : List Int))).bind fun t256 => (if t256 = true then (if t219 = 0 then (if t223 = 1 then (if bt229.2 = 20 then (if bt233.1 = 7 then (if bt233.2 = true then ((dom_Values.f bt235.1).bind fun t257 => ((secateurref02_Nums.f k t257 (([0, 1, 3] : List Int))).bind fun t263 => (if t263 = true then (if bt235.2 = 0 then ((dom_Size.f k t214).bind fun t264 => (if t264 = 4 then ((dom_Has.f t214 7).bind fun t265 => (if t265 = true then ((dom_Has.f t214 4).bind fun t266 => (if t266 = true then (none) else ((dom_Check.f k (([(⟨1, 2⟩ : S52), (⟨3, 3⟩ : S52)] : List (S52)))).bind fun t270 => (some (t270 == 20))))) else (none))) else (none))) else (none)) else (none)))) else (none)) else (none)) else (none)) else (none)) else (none)) else (none)))) else (none)))) else (none)) else (none)))))) = some r := by first | (rw [hy226]; with_reducible exact H) | (have H2_ := (Option.bind_some _ _).symm.trans H; rw [hy226]; with_reducible exact H2_) | (have H2_ := (Option.bind_some _ _).symm.trans H; with_reducible exact H2_) | with_reducible exact H | (rw [hy226]; exact H) | exact H
 have Ny226 := Aside0.mk hy226
 clear hy226
 replace H := Option.bind_eq_some_iff.mp H
 obtain ⟨⟨t229, t230⟩, A40, H⟩ := H
 replace H : ((dom_Next.f k t214 3).bind fun bt233 => ((dom_Back.f k t214 2 1).bind fun bt235 => ((secateurref02_Same.f k t214 (([(⟨1, 3⟩ : S52), (⟨7, 7⟩ : S52)] : List (S52)))).bind fun t242 => (if t242 = true then (if t215 = 0 then ((dom_Cut.f k t214 2 7).bind fun t243 => ((secateurref02_Same.f k t243 (([(⟨2, 3⟩ : S52), (⟨7, 7⟩ : S52)] : List (S52)))).bind fun t249 => (if t249 = true then ((dom_Values.f t218).bind fun t250 => ((secateurref02_Nums.f k t250 (([(-13), (-5), (-3), (-1)] : List Int))).bind fun t256 => (if t256 = true then (if t219 = 0 then (if t223 = 1 then (if t230 = 20 then (if bt233.1 = 7 then (if bt233.2 = true then ((dom_Values.f bt235.1).bind fun t257 => ((secateurref02_Nums.f k t257 (([0, 1, 3] : List Int))).bind fun t263 => (if t263 = true then (if bt235.2 = 0 then ((dom_Size.f k t214).bind fun t264 => (if t264 = 4 then ((dom_Has.f t214 7).bind fun t265 => (if t265 = true then ((dom_Has.f t214 4).bind fun t266 => (if t266 = true then (none) else ((dom_Check.f k (([(⟨1, 2⟩ : S52), (⟨3, 3⟩ : S52)] : List (S52)))).bind fun t270 => (some (t270 == 20))))) else (none))) else (none))) else (none)) else (none)))) else (none)) else (none)) else (none)) else (none)) else (none)) else (none)))) else (none)))) else (none)) else (none))))) = some r := H
 have A4 := Aside0.mk A40
 clear A40
 replace H := Option.bind_eq_some_iff.mp H
 obtain ⟨⟨t233, t234⟩, A50, H⟩ := H
 replace H : ((dom_Back.f k t214 2 1).bind fun bt235 => ((secateurref02_Same.f k t214 (([(⟨1, 3⟩ : S52), (⟨7, 7⟩ : S52)] : List (S52)))).bind fun t242 => (if t242 = true then (if t215 = 0 then ((dom_Cut.f k t214 2 7).bind fun t243 => ((secateurref02_Same.f k t243 (([(⟨2, 3⟩ : S52), (⟨7, 7⟩ : S52)] : List (S52)))).bind fun t249 => (if t249 = true then ((dom_Values.f t218).bind fun t250 => ((secateurref02_Nums.f k t250 (([(-13), (-5), (-3), (-1)] : List Int))).bind fun t256 => (if t256 = true then (if t219 = 0 then (if t223 = 1 then (if t230 = 20 then (if t233 = 7 then (if t234 = true then ((dom_Values.f bt235.1).bind fun t257 => ((secateurref02_Nums.f k t257 (([0, 1, 3] : List Int))).bind fun t263 => (if t263 = true then (if bt235.2 = 0 then ((dom_Size.f k t214).bind fun t264 => (if t264 = 4 then ((dom_Has.f t214 7).bind fun t265 => (if t265 = true then ((dom_Has.f t214 4).bind fun t266 => (if t266 = true then (none) else ((dom_Check.f k (([(⟨1, 2⟩ : S52), (⟨3, 3⟩ : S52)] : List (S52)))).bind fun t270 => (some (t270 == 20))))) else (none))) else (none))) else (none)) else (none)))) else (none)) else (none)) else (none)) else (none)) else (none)) else (none)))) else (none)))) else (none)) else (none)))) = some r := H
 have A5 := Aside0.mk A50
 clear A50
 replace H := Option.bind_eq_some_iff.mp H
 obtain ⟨⟨t235, t236⟩, A60, H⟩ := H
 replace H : ((secateurref02_Same.f k t214 (([(⟨1, 3⟩ : S52), (⟨7, 7⟩ : S52)] : List (S52)))).bind fun t242 => (if t242 = true then (if t215 = 0 then ((dom_Cut.f k t214 2 7).bind fun t243 => ((secateurref02_Same.f k t243 (([(⟨2, 3⟩ : S52), (⟨7, 7⟩ : S52)] : List (S52)))).bind fun t249 => (if t249 = true then ((dom_Values.f t218).bind fun t250 => ((secateurref02_Nums.f k t250 (([(-13), (-5), (-3), (-1)] : List Int))).bind fun t256 => (if t256 = true then (if t219 = 0 then (if t223 = 1 then (if t230 = 20 then (if t233 = 7 then (if t234 = true then ((dom_Values.f t235).bind fun t257 => ((secateurref02_Nums.f k t257 (([0, 1, 3] : List Int))).bind fun t263 => (if t263 = true then (if t236 = 0 then ((dom_Size.f k t214).bind fun t264 => (if t264 = 4 then ((dom_Has.f t214 7).bind fun t265 => (if t265 = true then ((dom_Has.f t214 4).bind fun t266 => (if t266 = true then (none) else ((dom_Check.f k (([(⟨1, 2⟩ : S52), (⟨3, 3⟩ : S52)] : List (S52)))).bind fun t270 => (some (t270 == 20))))) else (none))) else (none))) else (none)) else (none)))) else (none)) else (none)) else (none)) else (none)) else (none)) else (none)))) else (none)))) else (none)) else (none))) = some r := H
 have A6 := Aside0.mk A60
 clear A60
 obtain ⟨y239, hy239⟩ : ∃ y_ : List (S52), y_ = (([(⟨1, 3⟩ : S52), (⟨7, 7⟩ : S52)] : List (S52))) := ⟨_, rfl⟩
 replace H : ((secateurref02_Same.f k t214 y239).bind fun t242 => (if t242 = true then (if t215 = 0 then ((dom_Cut.f k t214 2 7).bind fun t243 => ((secateurref02_Same.f k t243 (([(⟨2, 3⟩ : S52), (⟨7, 7⟩ : S52)] : List (S52)))).bind fun t249 => (if t249 = true then ((dom_Values.f t218).bind fun t250 => ((secateurref02_Nums.f k t250 (([(-13), (-5), (-3), (-1)] : List Int))).bind fun t256 => (if t256 = true then (if t219 = 0 then (if t223 = 1 then (if t230 = 20 then (if t233 = 7 then (if t234 = true then ((dom_Values.f t235).bind fun t257 => ((secateurref02_Nums.f k t257 (([0, 1, 3] : List Int))).bind fun t263 => (if t263 = true then (if t236 = 0 then ((dom_Size.f k t214).bind fun t264 => (if t264 = 4 then ((dom_Has.f t214 7).bind fun t265 => (if t265 = true then ((dom_Has.f t214 4).bind fun t266 => (if t266 = true then (none) else ((dom_Check.f k (([(⟨1, 2⟩ : S52), (⟨3, 3⟩ : S52)] : List (S52)))).bind fun t270 => (some (t270 == 20))))) else (none))) else (none))) else (none)) else (none)))) else (none)) else (none)) else (none)) else (none)) else (none)) else (none)))) else (none)))) else (none)) else (none))) = some r := by first | (rw [hy239]; with_reducible exact H) | (have H2_ := (Option.bind_some _ _).symm.trans H; rw [hy239]; with_reducible exact H2_) | (have H2_ := (Option.bind_some _ _).symm.trans H; with_reducible exact H2_) | with_reducible exact H | (rw [hy239]; exact H) | exact H
 have Ny239 := Aside0.mk hy239
 clear hy239
 replace H := Option.bind_eq_some_iff.mp H
 obtain ⟨t242, A70, H⟩ := H
 replace H : (if t242 = true then (if t215 = 0 then ((dom_Cut.f k t214 2 7).bind fun t243 => ((secateurref02_Same.f k t243 (([(⟨2, 3⟩ : S52), (⟨7, 7⟩ : S52)] : List (S52)))).bind fun t249 => (if t249 = true then ((dom_Values.f t218).bind fun t250 => ((secateurref02_Nums.f k t250 (([(-13), (-5), (-3), (-1)] : List Int))).bind fun t256 => (if t256 = true then (if t219 = 0 then (if t223 = 1 then (if t230 = 20 then (if t233 = 7 then (if t234 = true then ((dom_Values.f t235).bind fun t257 => ((secateurref02_Nums.f k t257 (([0, 1, 3] : List Int))).bind fun t263 => (if t263 = true then (if t236 = 0 then ((dom_Size.f k t214).bind fun t264 => (if t264 = 4 then ((dom_Has.f t214 7).bind fun t265 => (if t265 = true then ((dom_Has.f t214 4).bind fun t266 => (if t266 = true then (none) else ((dom_Check.f k (([(⟨1, 2⟩ : S52), (⟨3, 3⟩ : S52)] : List (S52)))).bind fun t270 => (some (t270 == 20))))) else (none))) else (none))) else (none)) else (none)))) else (none)) else (none)) else (none)) else (none)) else (none)) else (none)))) else (none)))) else (none)) else (none)) = some r := H
 have A7 := Aside0.mk A70
 clear A70
 by_cases c8 : t242 = true
 ·subst c8
  have H1 : (if t215 = 0 then ((dom_Cut.f k t214 2 7).bind fun t243 => ((secateurref02_Same.f k t243 (([(⟨2, 3⟩ : S52), (⟨7, 7⟩ : S52)] : List (S52)))).bind fun t249 => (if t249 = true then ((dom_Values.f t218).bind fun t250 => ((secateurref02_Nums.f k t250 (([(-13), (-5), (-3), (-1)] : List Int))).bind fun t256 => (if t256 = true then (if t219 = 0 then (if t223 = 1 then (if t230 = 20 then (if t233 = 7 then (if t234 = true then ((dom_Values.f t235).bind fun t257 => ((secateurref02_Nums.f k t257 (([0, 1, 3] : List Int))).bind fun t263 => (if t263 = true then (if t236 = 0 then ((dom_Size.f k t214).bind fun t264 => (if t264 = 4 then ((dom_Has.f t214 7).bind fun t265 => (if t265 = true then ((dom_Has.f t214 4).bind fun t266 => (if t266 = true then (none) else ((dom_Check.f k (([(⟨1, 2⟩ : S52), (⟨3, 3⟩ : S52)] : List (S52)))).bind fun t270 => (some (t270 == 20))))) else (none))) else (none))) else (none)) else (none)))) else (none)) else (none)) else (none)) else (none)) else (none)) else (none)))) else (none)))) else (none)) = some r := by rw [if_pos rfl] at H; exact H
  clear H
  have H := H1
  clear H1
  by_cases c9 : t215 = 0
  ·rw [if_pos c9] at H
   have c9b0 : (t215 == 0) = true := beq_iff_eq.mpr c9
   have c9b1 : (t215 != 0) = false := bne_eq_false_iff_eq.mpr c9
   clear c9
   replace H := Option.bind_eq_some_iff.mp H
   obtain ⟨t243, A100, H⟩ := H
   replace H : ((secateurref02_Same.f k t243 (([(⟨2, 3⟩ : S52), (⟨7, 7⟩ : S52)] : List (S52)))).bind fun t249 => (if t249 = true then ((dom_Values.f t218).bind fun t250 => ((secateurref02_Nums.f k t250 (([(-13), (-5), (-3), (-1)] : List Int))).bind fun t256 => (if t256 = true then (if t219 = 0 then (if t223 = 1 then (if t230 = 20 then (if t233 = 7 then (if t234 = true then ((dom_Values.f t235).bind fun t257 => ((secateurref02_Nums.f k t257 (([0, 1, 3] : List Int))).bind fun t263 => (if t263 = true then (if t236 = 0 then ((dom_Size.f k t214).bind fun t264 => (if t264 = 4 then ((dom_Has.f t214 7).bind fun t265 => (if t265 = true then ((dom_Has.f t214 4).bind fun t266 => (if t266 = true then (none) else ((dom_Check.f k (([(⟨1, 2⟩ : S52), (⟨3, 3⟩ : S52)] : List (S52)))).bind fun t270 => (some (t270 == 20))))) else (none))) else (none))) else (none)) else (none)))) else (none)) else (none)) else (none)) else (none)) else (none)) else (none)))) else (none))) = some r := H
   have A10 := Aside0.mk A100
   clear A100
   obtain ⟨y246, hy246⟩ : ∃ y_ : List (S52), y_ = (([(⟨2, 3⟩ : S52), (⟨7, 7⟩ : S52)] : List (S52))) := ⟨_, rfl⟩
   replace H : ((secateurref02_Same.f k t243 y246).bind fun t249 => (if t249 = true then ((dom_Values.f t218).bind fun t250 => ((secateurref02_Nums.f k t250 (([(-13), (-5), (-3), (-1)] : List Int))).bind fun t256 => (if t256 = true then (if t219 = 0 then (if t223 = 1 then (if t230 = 20 then (if t233 = 7 then (if t234 = true then ((dom_Values.f t235).bind fun t257 => ((secateurref02_Nums.f k t257 (([0, 1, 3] : List Int))).bind fun t263 => (if t263 = true then (if t236 = 0 then ((dom_Size.f k t214).bind fun t264 => (if t264 = 4 then ((dom_Has.f t214 7).bind fun t265 => (if t265 = true then ((dom_Has.f t214 4).bind fun t266 => (if t266 = true then (none) else ((dom_Check.f k (([(⟨1, 2⟩ : S52), (⟨3, 3⟩ : S52)] : List (S52)))).bind fun t270 => (some (t270 == 20))))) else (none))) else (none))) else (none)) else (none)))) else (none)) else (none)) else (none)) else (none)) else (none)) else (none)))) else (none))) = some r := by first | (rw [hy246]; with_reducible exact H) | (have H2_ := (Option.bind_some _ _).symm.trans H; rw [hy246]; with_reducible exact H2_) | (have H2_ := (Option.bind_some _ _).symm.trans H; with_reducible exact H2_) | with_reducible exact H | (rw [hy246]; exact H) | exact H
   have Ny246 := Aside0.mk hy246
   clear hy246
   replace H := Option.bind_eq_some_iff.mp H
   obtain ⟨t249, A110, H⟩ := H
   replace H : (if t249 = true then ((dom_Values.f t218).bind fun t250 => ((secateurref02_Nums.f k t250 (([(-13), (-5), (-3), (-1)] : List Int))).bind fun t256 => (if t256 = true then (if t219 = 0 then (if t223 = 1 then (if t230 = 20 then (if t233 = 7 then (if t234 = true then ((dom_Values.f t235).bind fun t257 => ((secateurref02_Nums.f k t257 (([0, 1, 3] : List Int))).bind fun t263 => (if t263 = true then (if t236 = 0 then ((dom_Size.f k t214).bind fun t264 => (if t264 = 4 then ((dom_Has.f t214 7).bind fun t265 => (if t265 = true then ((dom_Has.f t214 4).bind fun t266 => (if t266 = true then (none) else ((dom_Check.f k (([(⟨1, 2⟩ : S52), (⟨3, 3⟩ : S52)] : List (S52)))).bind fun t270 => (some (t270 == 20))))) else (none))) else (none))) else (none)) else (none)))) else (none)) else (none)) else (none)) else (none)) else (none)) else (none)))) else (none)) = some r := H
   have A11 := Aside0.mk A110
   clear A110
   by_cases c12 : t249 = true
   ·subst c12
    have H1 : ((dom_Values.f t218).bind fun t250 => ((secateurref02_Nums.f k t250 (([(-13), (-5), (-3), (-1)] : List Int))).bind fun t256 => (if t256 = true then (if t219 = 0 then (if t223 = 1 then (if t230 = 20 then (if t233 = 7 then (if t234 = true then ((dom_Values.f t235).bind fun t257 => ((secateurref02_Nums.f k t257 (([0, 1, 3] : List Int))).bind fun t263 => (if t263 = true then (if t236 = 0 then ((dom_Size.f k t214).bind fun t264 => (if t264 = 4 then ((dom_Has.f t214 7).bind fun t265 => (if t265 = true then ((dom_Has.f t214 4).bind fun t266 => (if t266 = true then (none) else ((dom_Check.f k (([(⟨1, 2⟩ : S52), (⟨3, 3⟩ : S52)] : List (S52)))).bind fun t270 => (some (t270 == 20))))) else (none))) else (none))) else (none)) else (none)))) else (none)) else (none)) else (none)) else (none)) else (none)) else (none)))) = some r := by rw [if_pos rfl] at H; exact H
    clear H
    have H := H1
    clear H1
    replace H := Option.bind_eq_some_iff.mp H
    obtain ⟨t250, A130, H⟩ := H
    replace H : ((secateurref02_Nums.f k t250 (([(-13), (-5), (-3), (-1)] : List Int))).bind fun t256 => (if t256 = true then (if t219 = 0 then (if t223 = 1 then (if t230 = 20 then (if t233 = 7 then (if t234 = true then ((dom_Values.f t235).bind fun t257 => ((secateurref02_Nums.f k t257 (([0, 1, 3] : List Int))).bind fun t263 => (if t263 = true then (if t236 = 0 then ((dom_Size.f k t214).bind fun t264 => (if t264 = 4 then ((dom_Has.f t214 7).bind fun t265 => (if t265 = true then ((dom_Has.f t214 4).bind fun t266 => (if t266 = true then (none) else ((dom_Check.f k (([(⟨1, 2⟩ : S52), (⟨3, 3⟩ : S52)] : List (S52)))).bind fun t270 => (some (t270 == 20))))) else (none))) else (none))) else (none)) else (none)))) else (none)) else (none)) else (none)) else (none)) else (none)) else (none))) = some r := H
    have A13 := Aside0.mk A130
    clear A130
    obtain ⟨y253, hy253⟩ : ∃ y_ : List Int, y_ = (([(-13), (-5), (-3), (-1)] : List Int)) := ⟨_, rfl⟩
    replace H : ((secateurref02_Nums.f k t250 y253).bind fun t256 => (if t256 = true then (if t219 = 0 then (if t223 = 1 then (if t230 = 20 then (if t233 = 7 then (if t234 = true then ((dom_Values.f t235).bind fun t257 => ((secateurref02_Nums.f k t257 (([0, 1, 3] : List Int))).bind fun t263 => (if t263 = true then (if t236 = 0 then ((dom_Size.f k t214).bind fun t264 => (if t264 = 4 then ((dom_Has.f t214 7).bind fun t265 => (if t265 = true then ((dom_Has.f t214 4).bind fun t266 => (if t266 = true then (none) else ((dom_Check.f k (([(⟨1, 2⟩ : S52), (⟨3, 3⟩ : S52)] : List (S52)))).bind fun t270 => (some (t270 == 20))))) else (none))) else (none))) else (none)) else (none)))) else (none)) else (none)) else (none)) else (none)) else (none)) else (none))) = some r := by first | (rw [hy253]; with_reducible exact H) | (have H2_ := (Option.bind_some _ _).symm.trans H; rw [hy253]; with_reducible exact H2_) | (have H2_ := (Option.bind_some _ _).symm.trans H; with_reducible exact H2_) | with_reducible exact H | (rw [hy253]; exact H) | exact H
    have Ny253 := Aside0.mk hy253
    clear hy253
    replace H := Option.bind_eq_some_iff.mp H
    obtain ⟨t256, A140, H⟩ := H
    replace H : (if t256 = true then (if t219 = 0 then (if t223 = 1 then (if t230 = 20 then (if t233 = 7 then (if t234 = true then ((dom_Values.f t235).bind fun t257 => ((secateurref02_Nums.f k t257 (([0, 1, 3] : List Int))).bind fun t263 => (if t263 = true then (if t236 = 0 then ((dom_Size.f k t214).bind fun t264 => (if t264 = 4 then ((dom_Has.f t214 7).bind fun t265 => (if t265 = true then ((dom_Has.f t214 4).bind fun t266 => (if t266 = true then (none) else ((dom_Check.f k (([(⟨1, 2⟩ : S52), (⟨3, 3⟩ : S52)] : List (S52)))).bind fun t270 => (some (t270 == 20))))) else (none))) else (none))) else (none)) else (none)))) else (none)) else (none)) else (none)) else (none)) else (none)) else (none)) = some r := H
    have A14 := Aside0.mk A140
    clear A140
    by_cases c15 : t256 = true
    ·subst c15
     have H1 : (if t219 = 0 then (if t223 = 1 then (if t230 = 20 then (if t233 = 7 then (if t234 = true then ((dom_Values.f t235).bind fun t257 => ((secateurref02_Nums.f k t257 (([0, 1, 3] : List Int))).bind fun t263 => (if t263 = true then (if t236 = 0 then ((dom_Size.f k t214).bind fun t264 => (if t264 = 4 then ((dom_Has.f t214 7).bind fun t265 => (if t265 = true then ((dom_Has.f t214 4).bind fun t266 => (if t266 = true then (none) else ((dom_Check.f k (([(⟨1, 2⟩ : S52), (⟨3, 3⟩ : S52)] : List (S52)))).bind fun t270 => (some (t270 == 20))))) else (none))) else (none))) else (none)) else (none)))) else (none)) else (none)) else (none)) else (none)) else (none)) = some r := by rw [if_pos rfl] at H; exact H
     clear H
     have H := H1
     clear H1
     by_cases c16 : t219 = 0
     ·rw [if_pos c16] at H
      have c16b0 : (t219 == 0) = true := beq_iff_eq.mpr c16
      have c16b1 : (t219 != 0) = false := bne_eq_false_iff_eq.mpr c16
      clear c16
      by_cases c17 : t223 = 1
      ·rw [if_pos c17] at H
       have c17b0 : (t223 == 1) = true := beq_iff_eq.mpr c17
       have c17b1 : (t223 != 1) = false := bne_eq_false_iff_eq.mpr c17
       clear c17
       by_cases c18 : t230 = 20
       ·rw [if_pos c18] at H
        have c18b0 : (t230 == 20) = true := beq_iff_eq.mpr c18
        have c18b1 : (t230 != 20) = false := bne_eq_false_iff_eq.mpr c18
        clear c18
        by_cases c19 : t233 = 7
        ·rw [if_pos c19] at H
         have c19b0 : (t233 == 7) = true := beq_iff_eq.mpr c19
         have c19b1 : (t233 != 7) = false := bne_eq_false_iff_eq.mpr c19
         clear c19
         by_cases c20 : t234 = true
         ·subst c20
          have H1 : ((dom_Values.f t235).bind fun t257 => ((secateurref02_Nums.f k t257 (([0, 1, 3] : List Int))).bind fun t263 => (if t263 = true then (if t236 = 0 then ((dom_Size.f k t214).bind fun t264 => (if t264 = 4 then ((dom_Has.f t214 7).bind fun t265 => (if t265 = true then ((dom_Has.f t214 4).bind fun t266 => (if t266 = true then (none) else ((dom_Check.f k (([(⟨1, 2⟩ : S52), (⟨3, 3⟩ : S52)] : List (S52)))).bind fun t270 => (some (t270 == 20))))) else (none))) else (none))) else (none)) else (none)))) = some r := by rw [if_pos rfl] at H; exact H
          clear H
          have H := H1
          clear H1
          replace H := Option.bind_eq_some_iff.mp H
          obtain ⟨t257, A210, H⟩ := H
          replace H : ((secateurref02_Nums.f k t257 (([0, 1, 3] : List Int))).bind fun t263 => (if t263 = true then (if t236 = 0 then ((dom_Size.f k t214).bind fun t264 => (if t264 = 4 then ((dom_Has.f t214 7).bind fun t265 => (if t265 = true then ((dom_Has.f t214 4).bind fun t266 => (if t266 = true then (none) else ((dom_Check.f k (([(⟨1, 2⟩ : S52), (⟨3, 3⟩ : S52)] : List (S52)))).bind fun t270 => (some (t270 == 20))))) else (none))) else (none))) else (none)) else (none))) = some r := H
          have A21 := Aside0.mk A210
          clear A210
          obtain ⟨y260, hy260⟩ : ∃ y_ : List Int, y_ = (([0, 1, 3] : List Int)) := ⟨_, rfl⟩
          replace H : ((secateurref02_Nums.f k t257 y260).bind fun t263 => (if t263 = true then (if t236 = 0 then ((dom_Size.f k t214).bind fun t264 => (if t264 = 4 then ((dom_Has.f t214 7).bind fun t265 => (if t265 = true then ((dom_Has.f t214 4).bind fun t266 => (if t266 = true then (none) else ((dom_Check.f k (([(⟨1, 2⟩ : S52), (⟨3, 3⟩ : S52)] : List (S52)))).bind fun t270 => (some (t270 == 20))))) else (none))) else (none))) else (none)) else (none))) = some r := by first | (rw [hy260]; with_reducible exact H) | (have H2_ := (Option.bind_some _ _).symm.trans H; rw [hy260]; with_reducible exact H2_) | (have H2_ := (Option.bind_some _ _).symm.trans H; with_reducible exact H2_) | with_reducible exact H | (rw [hy260]; exact H) | exact H
          have Ny260 := Aside0.mk hy260
          clear hy260
          replace H := Option.bind_eq_some_iff.mp H
          obtain ⟨t263, A220, H⟩ := H
          replace H : (if t263 = true then (if t236 = 0 then ((dom_Size.f k t214).bind fun t264 => (if t264 = 4 then ((dom_Has.f t214 7).bind fun t265 => (if t265 = true then ((dom_Has.f t214 4).bind fun t266 => (if t266 = true then (none) else ((dom_Check.f k (([(⟨1, 2⟩ : S52), (⟨3, 3⟩ : S52)] : List (S52)))).bind fun t270 => (some (t270 == 20))))) else (none))) else (none))) else (none)) else (none)) = some r := H
          have A22 := Aside0.mk A220
          clear A220
          by_cases c23 : t263 = true
          ·subst c23
           have H1 : (if t236 = 0 then ((dom_Size.f k t214).bind fun t264 => (if t264 = 4 then ((dom_Has.f t214 7).bind fun t265 => (if t265 = true then ((dom_Has.f t214 4).bind fun t266 => (if t266 = true then (none) else ((dom_Check.f k (([(⟨1, 2⟩ : S52), (⟨3, 3⟩ : S52)] : List (S52)))).bind fun t270 => (some (t270 == 20))))) else (none))) else (none))) else (none)) = some r := by rw [if_pos rfl] at H; exact H
           clear H
           have H := H1
           clear H1
           by_cases c24 : t236 = 0
           ·rw [if_pos c24] at H
            have c24b0 : (t236 == 0) = true := beq_iff_eq.mpr c24
            have c24b1 : (t236 != 0) = false := bne_eq_false_iff_eq.mpr c24
            clear c24
            replace H := Option.bind_eq_some_iff.mp H
            obtain ⟨t264, A250, H⟩ := H
            replace H : (if t264 = 4 then ((dom_Has.f t214 7).bind fun t265 => (if t265 = true then ((dom_Has.f t214 4).bind fun t266 => (if t266 = true then (none) else ((dom_Check.f k (([(⟨1, 2⟩ : S52), (⟨3, 3⟩ : S52)] : List (S52)))).bind fun t270 => (some (t270 == 20))))) else (none))) else (none)) = some r := H
            have A25 := Aside0.mk A250
            clear A250
            by_cases c26 : t264 = 4
            ·rw [if_pos c26] at H
             have c26b0 : (t264 == 4) = true := beq_iff_eq.mpr c26
             have c26b1 : (t264 != 4) = false := bne_eq_false_iff_eq.mpr c26
             clear c26
             replace H := Option.bind_eq_some_iff.mp H
             obtain ⟨t265, A270, H⟩ := H
             replace H : (if t265 = true then ((dom_Has.f t214 4).bind fun t266 => (if t266 = true then (none) else ((dom_Check.f k (([(⟨1, 2⟩ : S52), (⟨3, 3⟩ : S52)] : List (S52)))).bind fun t270 => (some (t270 == 20))))) else (none)) = some r := H
             have A27 := Aside0.mk A270
             clear A270
             by_cases c28 : t265 = true
             ·subst c28
              have H1 : ((dom_Has.f t214 4).bind fun t266 => (if t266 = true then (none) else ((dom_Check.f k (([(⟨1, 2⟩ : S52), (⟨3, 3⟩ : S52)] : List (S52)))).bind fun t270 => (some (t270 == 20))))) = some r := by rw [if_pos rfl] at H; exact H
              clear H
              have H := H1
              clear H1
              replace H := Option.bind_eq_some_iff.mp H
              obtain ⟨t266, A290, H⟩ := H
              replace H : (if t266 = true then (none) else ((dom_Check.f k (([(⟨1, 2⟩ : S52), (⟨3, 3⟩ : S52)] : List (S52)))).bind fun t270 => (some (t270 == 20)))) = some r := H
              have A29 := Aside0.mk A290
              clear A290
              by_cases c30 : t266 = true
              ·subst c30
               have H1 : (none) = some r := by rw [if_pos rfl] at H; exact H
               clear H
               have H := H1
               clear H1
               exact absurd H (by simp)
              ·replace c30 := Bool.eq_false_iff.mpr c30
               subst c30
               have H1 : ((dom_Check.f k (([(⟨1, 2⟩ : S52), (⟨3, 3⟩ : S52)] : List (S52)))).bind fun t270 => (some (t270 == 20))) = some r := by rw [if_neg (show ¬ (false = true) by decide)] at H; exact H
               clear H
               have H := H1
               clear H1
               obtain ⟨y267, hy267⟩ : ∃ y_ : List (S52), y_ = (([(⟨1, 2⟩ : S52), (⟨3, 3⟩ : S52)] : List (S52))) := ⟨_, rfl⟩
               replace H : ((dom_Check.f k y267).bind fun t270 => (some (t270 == 20))) = some r := by first | (rw [hy267]; with_reducible exact H) | (have H2_ := (Option.bind_some _ _).symm.trans H; rw [hy267]; with_reducible exact H2_) | (have H2_ := (Option.bind_some _ _).symm.trans H; with_reducible exact H2_) | with_reducible exact H | (rw [hy267]; exact H) | exact H
               have Ny267 := Aside0.mk hy267
               clear hy267
               replace H := Option.bind_eq_some_iff.mp H
               obtain ⟨t270, A310, H⟩ := H
               replace H : (some (t270 == 20)) = some r := H
               have A31 := Aside0.mk A310
               clear A310
               obtain rfl := Option.some.inj H
               go_enter Try.func19, Try.ntmps19
               try simp only [List.append]
               go_wp2_with (first | ((with_reducible refine gate_dst (N := 14) rfl ?_); (try (refine gate_guard (by rfl) ?_; dsimp only)); refine Kd.R_lit (Kd.int .i64) _ 3 ?hg (N := 14) ?hd (xs := ([3, 1, 2, 7] : List Int)) (inner := [.int .i64 3, .int .i64 1, .int .i64 2, .int .i64 7]) (ok := fun _ => True) (okp := fun _ => True) ?hr ?hp (fun _ hk => hk) trivial (Below.refl _ _) (Nat.le_refl _) (by simp) ?_; (case hd => rfl); (case hg => rfl); (case hr => first | (go_simp; done) | (go_simp; rfl)); (case hp => exact (Reps.one (show Kd.M (Kd.int .i64) _ _ _ 3 [.int .i64 3] from rfl) (Reps.one (show Kd.M (Kd.int .i64) _ _ _ 1 [.int .i64 1] from rfl) (Reps.one (show Kd.M (Kd.int .i64) _ _ _ 2 [.int .i64 2] from rfl) (Reps.one (show Kd.M (Kd.int .i64) _ _ _ 7 [.int .i64 7] from rfl) (Reps.none _ _)))))); intro v212 w32 ho33 hb hg_ hnew_; clear hg_ hnew_; (first | rw [← Ny211.out] at ho33 | (simp only [Int.reduceToNat] at ho33; rw [← Ny211.out] at ho33)); have n0_ := Aside0.mk (Kd.R_lower ho33 (below_size (by repeat (first | (with_reducible first | exact HB.out | apply below_alloc | apply pw_below_drewN | apply below_drew1) | exact HB.out)))); have n1_ := Aside0.mk (below_step (by repeat (first | (with_reducible first | exact HB.out | apply below_alloc | apply pw_below_drewN | apply below_drew1) | exact HB.out)) hb); clear HB; have HO213 := n0_; have HB := n1_; clear n0_ n1_; clear hb ho33; obtain ⟨Ao34, co34, eo34⟩ := Kd.R_slice HO213.out; subst eo34) | ((with_reducible refine gate_callee (f := 13) rfl ?_); refine goesL_ (some 15) rfl rfl Try.func13 (by kernel_rfl) rfl #[.slice Ao34 y211.length co34] rfl (by (try simp only [List.map_toArray, List.map_cons, List.map_nil]); first | done | rfl | (simp only [List.length_drop, List.length_take]; rfl)) ?_; (with_reducible refine (dom_Of.calls k _ _ y211 t214 t215 _ ?side1 ?side2 A1.out).mono ?_); (case side1 => repeat (first | exact (Kd.R_reads' HO213.out).2.2 | (with_reducible refine Kd.C_alloc ?_ _) | (with_reducible refine Kd.C_drewN ?_ _) | (with_reducible refine Kd.C_drew ?_))); (case side2 => exact (Kd.R_reads' HO213.out).2.1); rintro e w35 ⟨v216, rfl, ho0, hb⟩; refine ⟨_, rfl, ?_⟩; have n0_ := Aside0.mk (Kd.R_below (by (with_reducible repeat (first | apply Kd.R_alloc | apply Kd.R_drewN | apply Kd.R_drew)); exact HO213.out) hb); have n1_ := Aside0.mk (Kd.R_lower ho0 (below_size (by repeat (first | (with_reducible first | exact HB.out | apply below_alloc | apply pw_below_drewN | apply below_drew1) | exact HB.out)))); have n2_ := Aside0.mk (below_step (by repeat (first | (with_reducible first | exact HB.out | apply below_alloc | apply pw_below_drewN | apply below_drew1) | exact HB.out)) hb); clear HO213; clear HB; have HO213 := n0_; have HO217 := n1_; have HB := n2_; clear n0_ n1_ n2_; (try clear hb); (try clear hb2); (try clear hk); (try clear hi); (try clear ho0); obtain ⟨Ao36, co36, eo36⟩ := Kd.R_slice HO217.out; subst eo36) | ((with_reducible refine gate_callee (f := 21) rfl ?_); refine goesL_ (some 20) rfl rfl Try.func21 (by kernel_rfl) rfl #[.slice Ao36 t214.length co36, .int .i64 (-2), .int .i64 1] rfl (by (try simp only [List.map_toArray, List.map_cons, List.map_nil]); first | done | rfl | (simp only [List.length_drop, List.length_take]; rfl)) ?_; (with_reducible refine (dom_Line.calls k _ _ t214 (-2) 1 t218 t219 _ ?side1 ?side2 A2.out).mono ?_); (case side1 => repeat (first | exact (Kd.R_reads' HO217.out).2.2 | (with_reducible refine Kd.C_alloc ?_ _) | (with_reducible refine Kd.C_drewN ?_ _) | (with_reducible refine Kd.C_drew ?_))); (case side2 => exact (Kd.R_reads' HO217.out).2.1); rintro e w37 ⟨v220, rfl, ho0, hb⟩; refine ⟨_, rfl, ?_⟩; have n0_ := Aside0.mk (Kd.R_below (by (with_reducible repeat (first | apply Kd.R_alloc | apply Kd.R_drewN | apply Kd.R_drew)); exact HO213.out) hb); have n1_ := Aside0.mk (Kd.R_elder' (by (with_reducible repeat (first | apply Kd.R_alloc | apply Kd.R_drewN | apply Kd.R_drew)); exact HO217.out) (Kd.R_base ho0) hb); have n2_ := Aside0.mk (Kd.R_lower (Kd.R_new' ho0 (Kd.R_lt (by (with_reducible repeat (first | apply Kd.R_alloc | apply Kd.R_drewN | apply Kd.R_drew)); exact HO217.out))) (below_size (by repeat (first | (with_reducible first | exact HB.out | apply below_alloc | apply pw_below_drewN | apply below_drew1) | exact HB.out)))); have n3_ := Aside0.mk (below_step (by repeat (first | (with_reducible first | exact HB.out | apply below_alloc | apply pw_below_drewN | apply below_drew1) | exact HB.out)) hb); clear HO213; clear HO217; clear HB; have HO213 := n0_; have HO217 := n1_; have HO221 := n2_; have HB := n3_; clear n0_ n1_ n2_ n3_; (try clear hb); (try clear hb2); (try clear hk); (try clear hi); (try clear ho0)) | ((with_reducible refine gate_callee (f := 21) rfl ?_); refine goesL_ (some 25) rfl rfl Try.func21 (by kernel_rfl) rfl #[.slice Ao36 t214.length co36, .int .i64 0, .int .i64 1] rfl (by (try simp only [List.map_toArray, List.map_cons, List.map_nil]); first | done | rfl | (simp only [List.length_drop, List.length_take]; rfl)) ?_; (with_reducible refine (dom_Line.calls k _ _ t214 0 1 t222 t223 _ ?side1 ?side2 A3.out).mono ?_); (case side1 => repeat (first | exact (Kd.R_reads' HO217.out).2.2 | (with_reducible refine Kd.C_alloc ?_ _) | (with_reducible refine Kd.C_drewN ?_ _) | (with_reducible refine Kd.C_drew ?_))); (case side2 => exact (Kd.R_reads' HO217.out).2.1); rintro e w38 ⟨v224, rfl, ho0, hb⟩; refine ⟨_, rfl, ?_⟩; have n0_ := Aside0.mk (Kd.R_below (by (with_reducible repeat (first | apply Kd.R_alloc | apply Kd.R_drewN | apply Kd.R_drew)); exact HO213.out) hb); have n1_ := Aside0.mk (Kd.R_elder' (by (with_reducible repeat (first | apply Kd.R_alloc | apply Kd.R_drewN | apply Kd.R_drew)); exact HO217.out) (Kd.R_base ho0) hb); have n2_ := Aside0.mk (Kd.R_elder' (by (with_reducible repeat (first | apply Kd.R_alloc | apply Kd.R_drewN | apply Kd.R_drew)); exact HO221.out) (Kd.R_base ho0) hb); have n3_ := Aside0.mk (Kd.R_lower (Kd.R_new' (Kd.R_new' ho0 (Kd.R_lt (by (with_reducible repeat (first | apply Kd.R_alloc | apply Kd.R_drewN | apply Kd.R_drew)); exact HO217.out))) (Kd.R_lt (by (with_reducible repeat (first | apply Kd.R_alloc | apply Kd.R_drewN | apply Kd.R_drew)); exact HO221.out))) (below_size (by repeat (first | (with_reducible first | exact HB.out | apply below_alloc | apply pw_below_drewN | apply below_drew1) | exact HB.out)))); have n4_ := Aside0.mk (below_step (by repeat (first | (with_reducible first | exact HB.out | apply below_alloc | apply pw_below_drewN | apply below_drew1) | exact HB.out)) hb); clear HO213; clear HO217; clear HO221; clear HB; have HO213 := n0_; have HO217 := n1_; have HO221 := n2_; have HO225 := n3_; have HB := n4_; clear n0_ n1_ n2_ n3_ n4_; (try clear hb); (try clear hb2); (try clear hk); (try clear hi); (try clear ho0)) | ((with_reducible refine gate_dst (N := 29) rfl ?_); (try (refine gate_guard (by rfl) ?_; dsimp only)); refine Kd.R_lit (Kd.int .i64) _ 3 ?hg (N := 29) ?hd (xs := ([2097152] : List Int)) (inner := [.int .i64 2097152]) (ok := fun _ => True) (okp := fun _ => True) ?hr ?hp (fun _ hk => hk) trivial (Below.refl _ _) (Nat.le_refl _) (by simp) ?_; (case hd => rfl); (case hg => rfl); (case hr => first | (go_simp; done) | (go_simp; rfl)); (case hp => exact (Reps.one (show Kd.M (Kd.int .i64) _ _ _ 2097152 [.int .i64 2097152] from rfl) (Reps.none _ _))); intro v227 w39 ho40 hb hg_ hnew_; clear hg_ hnew_; (first | rw [← Ny226.out] at ho40 | (simp only [Int.reduceToNat] at ho40; rw [← Ny226.out] at ho40)); have n0_ := Aside0.mk (Kd.R_elder' (by (with_reducible repeat (first | apply Kd.R_alloc | apply Kd.R_drewN | apply Kd.R_drew)); exact HO213.out) (Kd.R_base ho40) hb); have n1_ := Aside0.mk (Kd.R_below (by (with_reducible repeat (first | apply Kd.R_alloc | apply Kd.R_drewN | apply Kd.R_drew)); exact HO217.out) hb); have n2_ := Aside0.mk (Kd.R_below (by (with_reducible repeat (first | apply Kd.R_alloc | apply Kd.R_drewN | apply Kd.R_drew)); exact HO221.out) hb); have n3_ := Aside0.mk (Kd.R_below (by (with_reducible repeat (first | apply Kd.R_alloc | apply Kd.R_drewN | apply Kd.R_drew)); exact HO225.out) hb); have n4_ := Aside0.mk (Kd.R_lower (Kd.R_new' ho40 (Kd.R_lt (by (with_reducible repeat (first | apply Kd.R_alloc | apply Kd.R_drewN | apply Kd.R_drew)); exact HO213.out))) (below_size (by repeat (first | (with_reducible first | exact HB.out | apply below_alloc | apply pw_below_drewN | apply below_drew1) | exact HB.out)))); have n5_ := Aside0.mk (below_step (by repeat (first | (with_reducible first | exact HB.out | apply below_alloc | apply pw_below_drewN | apply below_drew1) | exact HB.out)) hb); clear HO213; clear HO217; clear HO221; clear HO225; clear HB; have HO213 := n0_; have HO217 := n1_; have HO221 := n2_; have HO225 := n3_; have HO228 := n4_; have HB := n5_; clear n0_ n1_ n2_ n3_ n4_ n5_; clear hb ho40; obtain ⟨Ao41, co41, eo41⟩ := Kd.R_slice HO228.out; subst eo41) | ((with_reducible refine gate_callee (f := 13) rfl ?_); refine goesL_ (some 30) rfl rfl Try.func13 (by kernel_rfl) rfl #[.slice Ao41 y226.length co41] rfl (by (try simp only [List.map_toArray, List.map_cons, List.map_nil]); first | done | rfl | (simp only [List.length_drop, List.length_take]; rfl)) ?_; (with_reducible refine (dom_Of.calls k _ _ y226 t229 t230 _ ?side1 ?side2 A4.out).mono ?_); (case side1 => repeat (first | exact (Kd.R_reads' HO228.out).2.2 | (with_reducible refine Kd.C_alloc ?_ _) | (with_reducible refine Kd.C_drewN ?_ _) | (with_reducible refine Kd.C_drew ?_))); (case side2 => exact (Kd.R_reads' HO228.out).2.1); rintro e w42 ⟨v231, rfl, ho0, hb⟩; refine ⟨_, rfl, ?_⟩; have n0_ := Aside0.mk (Kd.R_below (by (with_reducible repeat (first | apply Kd.R_alloc | apply Kd.R_drewN | apply Kd.R_drew)); exact HO213.out) hb); have n1_ := Aside0.mk (Kd.R_elder' (by (with_reducible repeat (first | apply Kd.R_alloc | apply Kd.R_drewN | apply Kd.R_drew)); exact HO217.out) (Kd.R_base ho0) hb); have n2_ := Aside0.mk (Kd.R_elder' (by (with_reducible repeat (first | apply Kd.R_alloc | apply Kd.R_drewN | apply Kd.R_drew)); exact HO221.out) (Kd.R_base ho0) hb); have n3_ := Aside0.mk (Kd.R_elder' (by (with_reducible repeat (first | apply Kd.R_alloc | apply Kd.R_drewN | apply Kd.R_drew)); exact HO225.out) (Kd.R_base ho0) hb); have n4_ := Aside0.mk (Kd.R_below (by (with_reducible repeat (first | apply Kd.R_alloc | apply Kd.R_drewN | apply Kd.R_drew)); exact HO228.out) hb); have n5_ := Aside0.mk (Kd.R_lower (Kd.R_new' (Kd.R_new' (Kd.R_new' ho0 (Kd.R_lt (by (with_reducible repeat (first | apply Kd.R_alloc | apply Kd.R_drewN | apply Kd.R_drew)); exact HO217.out))) (Kd.R_lt (by (with_reducible repeat (first | apply Kd.R_alloc | apply Kd.R_drewN | apply Kd.R_drew)); exact HO221.out))) (Kd.R_lt (by (with_reducible repeat (first | apply Kd.R_alloc | apply Kd.R_drewN | apply Kd.R_drew)); exact HO225.out))) (below_size (by repeat (first | (with_reducible first | exact HB.out | apply below_alloc | apply pw_below_drewN | apply below_drew1) | exact HB.out)))); have n6_ := Aside0.mk (below_step (by repeat (first | (with_reducible first | exact HB.out | apply below_alloc | apply pw_below_drewN | apply below_drew1) | exact HB.out)) hb); clear HO213; clear HO217; clear HO221; clear HO225; clear HO228; clear HB; have HO213 := n0_; have HO217 := n1_; have HO221 := n2_; have HO225 := n3_; have HO228 := n4_; have HO232 := n5_; have HB := n6_; clear n0_ n1_ n2_ n3_ n4_ n5_ n6_; (try clear hb); (try clear hb2); (try clear hk); (try clear hi); (try clear ho0)) | ((with_reducible refine gate_callee (f := 25) rfl ?_); refine goesL_ (some 35) rfl rfl Try.func25 (by kernel_rfl) rfl #[.slice Ao36 t214.length co36, .int .i64 3] rfl (by (try simp only [List.map_toArray, List.map_cons, List.map_nil]); first | done | rfl | (simp only [List.length_drop, List.length_take]; rfl)) ?_; (with_reducible refine (dom_Next.calls k _ _ t214 3 t233 true _ ?side1 ?side2 A5.out).mono ?_); (case side1 => repeat (first | exact (Kd.R_reads' HO217.out).2.2 | (with_reducible refine Kd.C_alloc ?_ _) | (with_reducible refine Kd.C_drewN ?_ _) | (with_reducible refine Kd.C_drew ?_))); (case side2 => exact (Kd.R_reads' HO217.out).2.1); rintro e w43 ⟨rfl, hb⟩; refine ⟨_, rfl, ?_⟩; have n0_ := Aside0.mk (Kd.R_below (by (with_reducible repeat (first | apply Kd.R_alloc | apply Kd.R_drewN | apply Kd.R_drew)); exact HO213.out) hb); have n1_ := Aside0.mk (Kd.R_below (by (with_reducible repeat (first | apply Kd.R_alloc | apply Kd.R_drewN | apply Kd.R_drew)); exact HO217.out) hb); have n2_ := Aside0.mk (Kd.R_below (by (with_reducible repeat (first | apply Kd.R_alloc | apply Kd.R_drewN | apply Kd.R_drew)); exact HO221.out) hb); have n3_ := Aside0.mk (Kd.R_below (by (with_reducible repeat (first | apply Kd.R_alloc | apply Kd.R_drewN | apply Kd.R_drew)); exact HO225.out) hb); have n4_ := Aside0.mk (Kd.R_below (by (with_reducible repeat (first | apply Kd.R_alloc | apply Kd.R_drewN | apply Kd.R_drew)); exact HO228.out) hb); have n5_ := Aside0.mk (Kd.R_below (by (with_reducible repeat (first | apply Kd.R_alloc | apply Kd.R_drewN | apply Kd.R_drew)); exact HO232.out) hb); have n6_ := Aside0.mk (below_step (by repeat (first | (with_reducible first | exact HB.out | apply below_alloc | apply pw_below_drewN | apply below_drew1) | exact HB.out)) hb); clear HO213; clear HO217; clear HO221; clear HO225; clear HO228; clear HO232; clear HB; have HO213 := n0_; have HO217 := n1_; have HO221 := n2_; have HO225 := n3_; have HO228 := n4_; have HO232 := n5_; have HB := n6_; clear n0_ n1_ n2_ n3_ n4_ n5_ n6_; (try clear hb); (try clear hb2); (try clear hk); (try clear hi)) | ((with_reducible refine gate_callee (f := 23) rfl ?_); refine goesL_ (some 40) rfl rfl Try.func23 (by kernel_rfl) rfl #[.slice Ao36 t214.length co36, .int .i64 2, .int .i64 1] rfl (by (try simp only [List.map_toArray, List.map_cons, List.map_nil]); first | done | rfl | (simp only [List.length_drop, List.length_take]; rfl)) ?_; (with_reducible refine (dom_Back.calls k _ _ t214 2 1 t235 t236 _ ?side1 ?side2 A6.out).mono ?_); (case side1 => repeat (first | exact (Kd.R_reads' HO217.out).2.2 | (with_reducible refine Kd.C_alloc ?_ _) | (with_reducible refine Kd.C_drewN ?_ _) | (with_reducible refine Kd.C_drew ?_))); (case side2 => exact (Kd.R_reads' HO217.out).2.1); rintro e w44 ⟨v237, rfl, ho0, hb⟩; refine ⟨_, rfl, ?_⟩; have n0_ := Aside0.mk (Kd.R_below (by (with_reducible repeat (first | apply Kd.R_alloc | apply Kd.R_drewN | apply Kd.R_drew)); exact HO213.out) hb); have n1_ := Aside0.mk (Kd.R_elder' (by (with_reducible repeat (first | apply Kd.R_alloc | apply Kd.R_drewN | apply Kd.R_drew)); exact HO217.out) (Kd.R_base ho0) hb); have n2_ := Aside0.mk (Kd.R_elder' (by (with_reducible repeat (first | apply Kd.R_alloc | apply Kd.R_drewN | apply Kd.R_drew)); exact HO221.out) (Kd.R_base ho0) hb); have n3_ := Aside0.mk (Kd.R_elder' (by (with_reducible repeat (first | apply Kd.R_alloc | apply Kd.R_drewN | apply Kd.R_drew)); exact HO225.out) (Kd.R_base ho0) hb); have n4_ := Aside0.mk (Kd.R_below (by (with_reducible repeat (first | apply Kd.R_alloc | apply Kd.R_drewN | apply Kd.R_drew)); exact HO228.out) hb); have n5_ := Aside0.mk (Kd.R_elder' (by (with_reducible repeat (first | apply Kd.R_alloc | apply Kd.R_drewN | apply Kd.R_drew)); exact HO232.out) (Kd.R_base ho0) hb); have n6_ := Aside0.mk (Kd.R_lower (Kd.R_new' (Kd.R_new' (Kd.R_new' (Kd.R_new' ho0 (Kd.R_lt (by (with_reducible repeat (first | apply Kd.R_alloc | apply Kd.R_drewN | apply Kd.R_drew)); exact HO217.out))) (Kd.R_lt (by (with_reducible repeat (first | apply Kd.R_alloc | apply Kd.R_drewN | apply Kd.R_drew)); exact HO221.out))) (Kd.R_lt (by (with_reducible repeat (first | apply Kd.R_alloc | apply Kd.R_drewN | apply Kd.R_drew)); exact HO225.out))) (Kd.R_lt (by (with_reducible repeat (first | apply Kd.R_alloc | apply Kd.R_drewN | apply Kd.R_drew)); exact HO232.out))) (below_size (by repeat (first | (with_reducible first | exact HB.out | apply below_alloc | apply pw_below_drewN | apply below_drew1) | exact HB.out)))); have n7_ := Aside0.mk (below_step (by repeat (first | (with_reducible first | exact HB.out | apply below_alloc | apply pw_below_drewN | apply below_drew1) | exact HB.out)) hb); clear HO213; clear HO217; clear HO221; clear HO225; clear HO228; clear HO232; clear HB; have HO213 := n0_; have HO217 := n1_; have HO221 := n2_; have HO225 := n3_; have HO228 := n4_; have HO232 := n5_; have HO238 := n6_; have HB := n7_; clear n0_ n1_ n2_ n3_ n4_ n5_ n6_ n7_; (try clear hb); (try clear hb2); (try clear hk); (try clear hi); (try clear ho0)) | ((with_reducible refine gate_dst (N := 46) rfl ?_); (try (refine gate_guard (by rfl) ?_; dsimp only)); refine Kd.R_lit k52 _ 52 ?hg (N := 46) ?hd (xs := ([(⟨1, 3⟩ : S52), (⟨7, 7⟩ : S52)] : List (S52))) (inner := [.int .i64 1, .int .i64 3, .int .i64 7, .int .i64 7]) (ok := fun _ => True) (okp := fun _ => True) ?hr ?hp (fun _ hk => hk) trivial (Below.refl _ _) (Nat.le_refl _) (by simp) ?_; (case hd => rfl); (case hg => rfl); (case hr => first | (go_simp; done) | (go_simp; rfl)); (case hp => exact (Reps.c2 (show Kd.M k52 _ _ _ (⟨1, 3⟩ : S52) [.int .i64 1, .int .i64 3] from (k52_mkM _ _ _ (⟨1, 3⟩ : S52) )) (Reps.c2 (show Kd.M k52 _ _ _ (⟨7, 7⟩ : S52) [.int .i64 7, .int .i64 7] from (k52_mkM _ _ _ (⟨7, 7⟩ : S52) )) (Reps.none _ _)))); intro v240 w45 ho46 hb hg_ hnew_; clear hg_ hnew_; (first | rw [← Ny239.out] at ho46 | (simp only [Int.reduceToNat] at ho46; rw [← Ny239.out] at ho46)); have n0_ := Aside0.mk (Kd.R_below (by (with_reducible repeat (first | apply Kd.R_alloc | apply Kd.R_drewN | apply Kd.R_drew)); exact HO213.out) hb); have n1_ := Aside0.mk (Kd.R_elder' (by (with_reducible repeat (first | apply Kd.R_alloc | apply Kd.R_drewN | apply Kd.R_drew)); exact HO217.out) (Kd.R_base ho46) hb); have n2_ := Aside0.mk (Kd.R_elder' (by (with_reducible repeat (first | apply Kd.R_alloc | apply Kd.R_drewN | apply Kd.R_drew)); exact HO221.out) (Kd.R_base ho46) hb); have n3_ := Aside0.mk (Kd.R_elder' (by (with_reducible repeat (first | apply Kd.R_alloc | apply Kd.R_drewN | apply Kd.R_drew)); exact HO225.out) (Kd.R_base ho46) hb); have n4_ := Aside0.mk (Kd.R_below (by (with_reducible repeat (first | apply Kd.R_alloc | apply Kd.R_drewN | apply Kd.R_drew)); exact HO228.out) hb); have n5_ := Aside0.mk (Kd.R_elder' (by (with_reducible repeat (first | apply Kd.R_alloc | apply Kd.R_drewN | apply Kd.R_drew)); exact HO232.out) (Kd.R_base ho46) hb); have n6_ := Aside0.mk (Kd.R_elder' (by (with_reducible repeat (first | apply Kd.R_alloc | apply Kd.R_drewN | apply Kd.R_drew)); exact HO238.out) (Kd.R_base ho46) hb); have n7_ := Aside0.mk (Kd.R_lower (Kd.R_new' (Kd.R_new' (Kd.R_new' (Kd.R_new' (Kd.R_new' ho46 (Kd.R_lt (by (with_reducible repeat (first | apply Kd.R_alloc | apply Kd.R_drewN | apply Kd.R_drew)); exact HO217.out))) (Kd.R_lt (by (with_reducible repeat (first | apply Kd.R_alloc | apply Kd.R_drewN | apply Kd.R_drew)); exact HO221.out))) (Kd.R_lt (by (with_reducible repeat (first | apply Kd.R_alloc | apply Kd.R_drewN | apply Kd.R_drew)); exact HO225.out))) (Kd.R_lt (by (with_reducible repeat (first | apply Kd.R_alloc | apply Kd.R_drewN | apply Kd.R_drew)); exact HO232.out))) (Kd.R_lt (by (with_reducible repeat (first | apply Kd.R_alloc | apply Kd.R_drewN | apply Kd.R_drew)); exact HO238.out))) (below_size (by repeat (first | (with_reducible first | exact HB.out | apply below_alloc | apply pw_below_drewN | apply below_drew1) | exact HB.out)))); have n8_ := Aside0.mk (below_step (by repeat (first | (with_reducible first | exact HB.out | apply below_alloc | apply pw_below_drewN | apply below_drew1) | exact HB.out)) hb); clear HO213; clear HO217; clear HO221; clear HO225; clear HO228; clear HO232; clear HO238; clear HB; have HO213 := n0_; have HO217 := n1_; have HO221 := n2_; have HO225 := n3_; have HO228 := n4_; have HO232 := n5_; have HO238 := n6_; have HO241 := n7_; have HB := n8_; clear n0_ n1_ n2_ n3_ n4_ n5_ n6_ n7_ n8_; clear hb ho46; obtain ⟨Ao47, co47, eo47⟩ := Kd.R_slice HO241.out; subst eo47) | ((with_reducible refine gate_callee (f := 17) rfl ?_); refine goesL_ (some 47) rfl rfl Try.func17 (by kernel_rfl) rfl #[.slice Ao36 t214.length co36, .slice Ao47 y239.length co47] rfl (by (try simp only [List.map_toArray, List.map_cons, List.map_nil]); first | done | rfl | (simp only [List.length_drop, List.length_take]; rfl)) ?_; (with_reducible refine (secateurref02_Same.calls k _ _ t214 _ _ y239 true _ ?side1 ?side2 ?side3 ?side4 A7.out).mono ?_); (case side1 => repeat (first | exact (Kd.R_reads' HO217.out).2.2 | (with_reducible refine Kd.C_alloc ?_ _) | (with_reducible refine Kd.C_drewN ?_ _) | (with_reducible refine Kd.C_drew ?_))); (case side2 => exact (Kd.R_reads' HO217.out).2.1); (case side3 => repeat (first | exact (Kd.R_reads' HO241.out).2.2 | (with_reducible refine Kd.C_alloc ?_ _) | (with_reducible refine Kd.C_drewN ?_ _) | (with_reducible refine Kd.C_drew ?_))); (case side4 => exact (Kd.R_reads' HO241.out).2.1); rintro e w' ⟨rfl, ⟨nd, rfl⟩⟩; refine ⟨_, rfl, ?_⟩) | (go_at_call 40; (with_reducible refine (dom_Cut.calls k _ _ t214 2 7 t243 _ ?side1 ?side2 A10.out).mono ?_); (case side1 => repeat (first | exact (Kd.R_reads' HO217.out).2.2 | (with_reducible refine Kd.C_alloc ?_ _) | (with_reducible refine Kd.C_drewN ?_ _) | (with_reducible refine Kd.C_drew ?_))); (case side2 => exact (Kd.R_reads' HO217.out).2.1); rintro e w48 ⟨v244, rfl, ho0, hb⟩; have n0_ := Aside0.mk (Kd.R_below (by (with_reducible repeat (first | apply Kd.R_alloc | apply Kd.R_drewN | apply Kd.R_drew)); exact HO213.out) hb); have n1_ := Aside0.mk (Kd.R_elder' (by (with_reducible repeat (first | apply Kd.R_alloc | apply Kd.R_drewN | apply Kd.R_drew)); exact HO217.out) (Kd.R_base ho0) hb); have n2_ := Aside0.mk (Kd.R_elder' (by (with_reducible repeat (first | apply Kd.R_alloc | apply Kd.R_drewN | apply Kd.R_drew)); exact HO221.out) (Kd.R_base ho0) hb); have n3_ := Aside0.mk (Kd.R_elder' (by (with_reducible repeat (first | apply Kd.R_alloc | apply Kd.R_drewN | apply Kd.R_drew)); exact HO225.out) (Kd.R_base ho0) hb); have n4_ := Aside0.mk (Kd.R_below (by (with_reducible repeat (first | apply Kd.R_alloc | apply Kd.R_drewN | apply Kd.R_drew)); exact HO228.out) hb); have n5_ := Aside0.mk (Kd.R_elder' (by (with_reducible repeat (first | apply Kd.R_alloc | apply Kd.R_drewN | apply Kd.R_drew)); exact HO232.out) (Kd.R_base ho0) hb); have n6_ := Aside0.mk (Kd.R_elder' (by (with_reducible repeat (first | apply Kd.R_alloc | apply Kd.R_drewN | apply Kd.R_drew)); exact HO238.out) (Kd.R_base ho0) hb); have n7_ := Aside0.mk (Kd.R_elder' (by (with_reducible repeat (first | apply Kd.R_alloc | apply Kd.R_drewN | apply Kd.R_drew)); exact HO241.out) (Kd.R_base ho0) hb); have n8_ := Aside0.mk (Kd.R_lower (Kd.R_new' (Kd.R_new' (Kd.R_new' (Kd.R_new' (Kd.R_new' (Kd.R_new' ho0 (Kd.R_lt (by (with_reducible repeat (first | apply Kd.R_alloc | apply Kd.R_drewN | apply Kd.R_drew)); exact HO217.out))) (Kd.R_lt (by (with_reducible repeat (first | apply Kd.R_alloc | apply Kd.R_drewN | apply Kd.R_drew)); exact HO221.out))) (Kd.R_lt (by (with_reducible repeat (first | apply Kd.R_alloc | apply Kd.R_drewN | apply Kd.R_drew)); exact HO225.out))) (Kd.R_lt (by (with_reducible repeat (first | apply Kd.R_alloc | apply Kd.R_drewN | apply Kd.R_drew)); exact HO232.out))) (Kd.R_lt (by (with_reducible repeat (first | apply Kd.R_alloc | apply Kd.R_drewN | apply Kd.R_drew)); exact HO238.out))) (Kd.R_lt (by (with_reducible repeat (first | apply Kd.R_alloc | apply Kd.R_drewN | apply Kd.R_drew)); exact HO241.out))) (below_size (by repeat (first | (with_reducible first | exact HB.out | apply below_alloc | apply pw_below_drewN | apply below_drew1) | exact HB.out)))); have n9_ := Aside0.mk (below_step (by repeat (first | (with_reducible first | exact HB.out | apply below_alloc | apply pw_below_drewN | apply below_drew1) | exact HB.out)) hb); clear HO213; clear HO217; clear HO221; clear HO225; clear HO228; clear HO232; clear HO238; clear HO241; clear HB; have HO213 := n0_; have HO217 := n1_; have HO221 := n2_; have HO225 := n3_; have HO228 := n4_; have HO232 := n5_; have HO238 := n6_; have HO241 := n7_; have HO245 := n8_; have HB := n9_; clear n0_ n1_ n2_ n3_ n4_ n5_ n6_ n7_ n8_ n9_; (try clear hb); (try clear hb2); (try clear hk); (try clear hi); (try clear ho0)) | ((with_reducible refine gate_dst (N := 57) rfl ?_); (try (refine gate_guard (by rfl) ?_; dsimp only)); refine Kd.R_lit k52 _ 52 ?hg (N := 57) ?hd (xs := ([(⟨2, 3⟩ : S52), (⟨7, 7⟩ : S52)] : List (S52))) (inner := [.int .i64 2, .int .i64 3, .int .i64 7, .int .i64 7]) (ok := fun _ => True) (okp := fun _ => True) ?hr ?hp (fun _ hk => hk) trivial (Below.refl _ _) (Nat.le_refl _) (by simp) ?_; (case hd => rfl); (case hg => rfl); (case hr => first | (go_simp; done) | (go_simp; rfl)); (case hp => exact (Reps.c2 (show Kd.M k52 _ _ _ (⟨2, 3⟩ : S52) [.int .i64 2, .int .i64 3] from (k52_mkM _ _ _ (⟨2, 3⟩ : S52) )) (Reps.c2 (show Kd.M k52 _ _ _ (⟨7, 7⟩ : S52) [.int .i64 7, .int .i64 7] from (k52_mkM _ _ _ (⟨7, 7⟩ : S52) )) (Reps.none _ _)))); intro v247 w49 ho50 hb hg_ hnew_; clear hg_ hnew_; (first | rw [← Ny246.out] at ho50 | (simp only [Int.reduceToNat] at ho50; rw [← Ny246.out] at ho50)); have n0_ := Aside0.mk (Kd.R_below (by (with_reducible repeat (first | apply Kd.R_alloc | apply Kd.R_drewN | apply Kd.R_drew)); exact HO213.out) hb); have n1_ := Aside0.mk (Kd.R_elder' (by (with_reducible repeat (first | apply Kd.R_alloc | apply Kd.R_drewN | apply Kd.R_drew)); exact HO217.out) (Kd.R_base ho50) hb); have n2_ := Aside0.mk (Kd.R_elder' (by (with_reducible repeat (first | apply Kd.R_alloc | apply Kd.R_drewN | apply Kd.R_drew)); exact HO221.out) (Kd.R_base ho50) hb); have n3_ := Aside0.mk (Kd.R_elder' (by (with_reducible repeat (first | apply Kd.R_alloc | apply Kd.R_drewN | apply Kd.R_drew)); exact HO225.out) (Kd.R_base ho50) hb); have n4_ := Aside0.mk (Kd.R_below (by (with_reducible repeat (first | apply Kd.R_alloc | apply Kd.R_drewN | apply Kd.R_drew)); exact HO228.out) hb); have n5_ := Aside0.mk (Kd.R_elder' (by (with_reducible repeat (first | apply Kd.R_alloc | apply Kd.R_drewN | apply Kd.R_drew)); exact HO232.out) (Kd.R_base ho50) hb); have n6_ := Aside0.mk (Kd.R_elder' (by (with_reducible repeat (first | apply Kd.R_alloc | apply Kd.R_drewN | apply Kd.R_drew)); exact HO238.out) (Kd.R_base ho50) hb); have n7_ := Aside0.mk (Kd.R_elder' (by (with_reducible repeat (first | apply Kd.R_alloc | apply Kd.R_drewN | apply Kd.R_drew)); exact HO241.out) (Kd.R_base ho50) hb); have n8_ := Aside0.mk (Kd.R_elder' (by (with_reducible repeat (first | apply Kd.R_alloc | apply Kd.R_drewN | apply Kd.R_drew)); exact HO245.out) (Kd.R_base ho50) hb); have n9_ := Aside0.mk (Kd.R_lower (Kd.R_new' (Kd.R_new' (Kd.R_new' (Kd.R_new' (Kd.R_new' (Kd.R_new' (Kd.R_new' ho50 (Kd.R_lt (by (with_reducible repeat (first | apply Kd.R_alloc | apply Kd.R_drewN | apply Kd.R_drew)); exact HO217.out))) (Kd.R_lt (by (with_reducible repeat (first | apply Kd.R_alloc | apply Kd.R_drewN | apply Kd.R_drew)); exact HO221.out))) (Kd.R_lt (by (with_reducible repeat (first | apply Kd.R_alloc | apply Kd.R_drewN | apply Kd.R_drew)); exact HO225.out))) (Kd.R_lt (by (with_reducible repeat (first | apply Kd.R_alloc | apply Kd.R_drewN | apply Kd.R_drew)); exact HO232.out))) (Kd.R_lt (by (with_reducible repeat (first | apply Kd.R_alloc | apply Kd.R_drewN | apply Kd.R_drew)); exact HO238.out))) (Kd.R_lt (by (with_reducible repeat (first | apply Kd.R_alloc | apply Kd.R_drewN | apply Kd.R_drew)); exact HO241.out))) (Kd.R_lt (by (with_reducible repeat (first | apply Kd.R_alloc | apply Kd.R_drewN | apply Kd.R_drew)); exact HO245.out))) (below_size (by repeat (first | (with_reducible first | exact HB.out | apply below_alloc | apply pw_below_drewN | apply below_drew1) | exact HB.out)))); have n10_ := Aside0.mk (below_step (by repeat (first | (with_reducible first | exact HB.out | apply below_alloc | apply pw_below_drewN | apply below_drew1) | exact HB.out)) hb); clear HO213; clear HO217; clear HO221; clear HO225; clear HO228; clear HO232; clear HO238; clear HO241; clear HO245; clear HB; have HO213 := n0_; have HO217 := n1_; have HO221 := n2_; have HO225 := n3_; have HO228 := n4_; have HO232 := n5_; have HO238 := n6_; have HO241 := n7_; have HO245 := n8_; have HO248 := n9_; have HB := n10_; clear n0_ n1_ n2_ n3_ n4_ n5_ n6_ n7_ n8_ n9_ n10_; clear hb ho50; obtain ⟨Ao51, co51, eo51⟩ := Kd.R_slice HO245.out; subst eo51; obtain ⟨Ao52, co52, eo52⟩ := Kd.R_slice HO248.out; subst eo52) | (go_at_call 17; (with_reducible refine (secateurref02_Same.calls k _ _ t243 _ _ y246 true _ ?side1 ?side2 ?side3 ?side4 A11.out).mono ?_); (case side1 => repeat (first | exact (Kd.R_reads' HO245.out).2.2 | (with_reducible refine Kd.C_alloc ?_ _) | (with_reducible refine Kd.C_drewN ?_ _) | (with_reducible refine Kd.C_drew ?_))); (case side2 => exact (Kd.R_reads' HO245.out).2.1); (case side3 => repeat (first | exact (Kd.R_reads' HO248.out).2.2 | (with_reducible refine Kd.C_alloc ?_ _) | (with_reducible refine Kd.C_drewN ?_ _) | (with_reducible refine Kd.C_drew ?_))); (case side4 => exact (Kd.R_reads' HO248.out).2.1); rintro e w' ⟨rfl, ⟨nd, rfl⟩⟩; obtain ⟨Ao53, co53, eo53⟩ := Kd.R_slice HO221.out; subst eo53) | (go_at_call 29; (with_reducible refine (dom_Values.calls _ _ t235 t257 _ ?side1 ?side2 A21.out).mono ?_); (case side1 => repeat (first | exact (Kd.R_reads' HO238.out).2.2 | (with_reducible refine Kd.C_alloc ?_ _) | (with_reducible refine Kd.C_drewN ?_ _) | (with_reducible refine Kd.C_drew ?_))); (case side2 => exact (Kd.R_reads' HO238.out).2.1); rintro e w60 ⟨v258, rfl, ho0, hb⟩; have n0_ := Aside0.mk (Kd.R_elder' (by (with_reducible repeat (first | apply Kd.R_alloc | apply Kd.R_drewN | apply Kd.R_drew)); exact HO213.out) (Kd.R_base ho0) hb); have n1_ := Aside0.mk (Kd.R_below (by (with_reducible repeat (first | apply Kd.R_alloc | apply Kd.R_drewN | apply Kd.R_drew)); exact HO217.out) hb); have n2_ := Aside0.mk (Kd.R_below (by (with_reducible repeat (first | apply Kd.R_alloc | apply Kd.R_drewN | apply Kd.R_drew)); exact HO221.out) hb); have n3_ := Aside0.mk (Kd.R_below (by (with_reducible repeat (first | apply Kd.R_alloc | apply Kd.R_drewN | apply Kd.R_drew)); exact HO225.out) hb); have n4_ := Aside0.mk (Kd.R_elder' (by (with_reducible repeat (first | apply Kd.R_alloc | apply Kd.R_drewN | apply Kd.R_drew)); exact HO228.out) (Kd.R_base ho0) hb); have n5_ := Aside0.mk (Kd.R_below (by (with_reducible repeat (first | apply Kd.R_alloc | apply Kd.R_drewN | apply Kd.R_drew)); exact HO232.out) hb); have n6_ := Aside0.mk (Kd.R_below (by (with_reducible repeat (first | apply Kd.R_alloc | apply Kd.R_drewN | apply Kd.R_drew)); exact HO238.out) hb); have n7_ := Aside0.mk (Kd.R_below (by (with_reducible repeat (first | apply Kd.R_alloc | apply Kd.R_drewN | apply Kd.R_drew)); exact HO241.out) hb); have n8_ := Aside0.mk (Kd.R_below (by (with_reducible repeat (first | apply Kd.R_alloc | apply Kd.R_drewN | apply Kd.R_drew)); exact HO245.out) hb); have n9_ := Aside0.mk (Kd.R_below (by (with_reducible repeat (first | apply Kd.R_alloc | apply Kd.R_drewN | apply Kd.R_drew)); exact HO248.out) hb); have n10_ := Aside0.mk (Kd.R_elder' (by (with_reducible repeat (first | apply Kd.R_alloc | apply Kd.R_drewN | apply Kd.R_drew)); exact HO252.out) (Kd.R_base ho0) hb); have n11_ := Aside0.mk (Kd.R_elder' (by (with_reducible repeat (first | apply Kd.R_alloc | apply Kd.R_drewN | apply Kd.R_drew)); exact HO255.out) (Kd.R_base ho0) hb); have n12_ := Aside0.mk (Kd.R_lower (Kd.R_new' (Kd.R_new' (Kd.R_new' (Kd.R_new' ho0 (Kd.R_lt (by (with_reducible repeat (first | apply Kd.R_alloc | apply Kd.R_drewN | apply Kd.R_drew)); exact HO213.out))) (Kd.R_lt (by (with_reducible repeat (first | apply Kd.R_alloc | apply Kd.R_drewN | apply Kd.R_drew)); exact HO228.out))) (Kd.R_lt (by (with_reducible repeat (first | apply Kd.R_alloc | apply Kd.R_drewN | apply Kd.R_drew)); exact HO252.out))) (Kd.R_lt (by (with_reducible repeat (first | apply Kd.R_alloc | apply Kd.R_drewN | apply Kd.R_drew)); exact HO255.out))) (below_size (by repeat (first | (with_reducible first | exact HB.out | apply below_alloc | apply pw_below_drewN | apply below_drew1) | exact HB.out)))); have n13_ := Aside0.mk (below_step (by repeat (first | (with_reducible first | exact HB.out | apply below_alloc | apply pw_below_drewN | apply below_drew1) | exact HB.out)) hb); clear HO213; clear HO217; clear HO221; clear HO225; clear HO228; clear HO232; clear HO238; clear HO241; clear HO245; clear HO248; clear HO252; clear HO255; clear HB; have HO213 := n0_; have HO217 := n1_; have HO221 := n2_; have HO225 := n3_; have HO228 := n4_; have HO232 := n5_; have HO238 := n6_; have HO241 := n7_; have HO245 := n8_; have HO248 := n9_; have HO252 := n10_; have HO255 := n11_; have HO259 := n12_; have HB := n13_; clear n0_ n1_ n2_ n3_ n4_ n5_ n6_ n7_ n8_ n9_ n10_ n11_ n12_ n13_; (try clear hb); (try clear hb2); (try clear hk); (try clear hi); (try clear ho0)) | (go_at_call 29; (with_reducible refine (dom_Values.calls _ _ t218 t250 _ ?side1 ?side2 A13.out).mono ?_); (case side1 => repeat (first | exact (Kd.R_reads' HO221.out).2.2 | (with_reducible refine Kd.C_alloc ?_ _) | (with_reducible refine Kd.C_drewN ?_ _) | (with_reducible refine Kd.C_drew ?_))); (case side2 => exact (Kd.R_reads' HO221.out).2.1); rintro e w54 ⟨v251, rfl, ho0, hb⟩; have n0_ := Aside0.mk (Kd.R_elder' (by (with_reducible repeat (first | apply Kd.R_alloc | apply Kd.R_drewN | apply Kd.R_drew)); exact HO213.out) (Kd.R_base ho0) hb); have n1_ := Aside0.mk (Kd.R_below (by (with_reducible repeat (first | apply Kd.R_alloc | apply Kd.R_drewN | apply Kd.R_drew)); exact HO217.out) hb); have n2_ := Aside0.mk (Kd.R_below (by (with_reducible repeat (first | apply Kd.R_alloc | apply Kd.R_drewN | apply Kd.R_drew)); exact HO221.out) hb); have n3_ := Aside0.mk (Kd.R_below (by (with_reducible repeat (first | apply Kd.R_alloc | apply Kd.R_drewN | apply Kd.R_drew)); exact HO225.out) hb); have n4_ := Aside0.mk (Kd.R_elder' (by (with_reducible repeat (first | apply Kd.R_alloc | apply Kd.R_drewN | apply Kd.R_drew)); exact HO228.out) (Kd.R_base ho0) hb); have n5_ := Aside0.mk (Kd.R_below (by (with_reducible repeat (first | apply Kd.R_alloc | apply Kd.R_drewN | apply Kd.R_drew)); exact HO232.out) hb); have n6_ := Aside0.mk (Kd.R_below (by (with_reducible repeat (first | apply Kd.R_alloc | apply Kd.R_drewN | apply Kd.R_drew)); exact HO238.out) hb); have n7_ := Aside0.mk (Kd.R_below (by (with_reducible repeat (first | apply Kd.R_alloc | apply Kd.R_drewN | apply Kd.R_drew)); exact HO241.out) hb); have n8_ := Aside0.mk (Kd.R_below (by (with_reducible repeat (first | apply Kd.R_alloc | apply Kd.R_drewN | apply Kd.R_drew)); exact HO245.out) hb); have n9_ := Aside0.mk (Kd.R_below (by (with_reducible repeat (first | apply Kd.R_alloc | apply Kd.R_drewN | apply Kd.R_drew)); exact HO248.out) hb); have n10_ := Aside0.mk (Kd.R_lower (Kd.R_new' (Kd.R_new' ho0 (Kd.R_lt (by (with_reducible repeat (first | apply Kd.R_alloc | apply Kd.R_drewN | apply Kd.R_drew)); exact HO213.out))) (Kd.R_lt (by (with_reducible repeat (first | apply Kd.R_alloc | apply Kd.R_drewN | apply Kd.R_drew)); exact HO228.out))) (below_size (by repeat (first | (with_reducible first | exact HB.out | apply below_alloc | apply pw_below_drewN | apply below_drew1) | exact HB.out)))); have n11_ := Aside0.mk (below_step (by repeat (first | (with_reducible first | exact HB.out | apply below_alloc | apply pw_below_drewN | apply below_drew1) | exact HB.out)) hb); clear HO213; clear HO217; clear HO221; clear HO225; clear HO228; clear HO232; clear HO238; clear HO241; clear HO245; clear HO248; clear HB; have HO213 := n0_; have HO217 := n1_; have HO221 := n2_; have HO225 := n3_; have HO228 := n4_; have HO232 := n5_; have HO238 := n6_; have HO241 := n7_; have HO245 := n8_; have HO248 := n9_; have HO252 := n10_; have HB := n11_; clear n0_ n1_ n2_ n3_ n4_ n5_ n6_ n7_ n8_ n9_ n10_ n11_; (try clear hb); (try clear hb2); (try clear hk); (try clear hi); (try clear ho0)) | ((with_reducible refine gate_dst (N := 63) rfl ?_); (try (refine gate_guard (by rfl) ?_; dsimp only)); refine Kd.R_lit (Kd.int .i64) _ 3 ?hg (N := 63) ?hd (xs := ([(-13), (-5), (-3), (-1)] : List Int)) (inner := [.int .i64 (-13), .int .i64 (-5), .int .i64 (-3), .int .i64 (-1)]) (ok := fun _ => True) (okp := fun _ => True) ?hr ?hp (fun _ hk => hk) trivial (Below.refl _ _) (Nat.le_refl _) (by simp) ?_; (case hd => rfl); (case hg => rfl); (case hr => first | (go_simp; done) | (go_simp; rfl)); (case hp => exact (Reps.one (show Kd.M (Kd.int .i64) _ _ _ (-13) [.int .i64 (-13)] from rfl) (Reps.one (show Kd.M (Kd.int .i64) _ _ _ (-5) [.int .i64 (-5)] from rfl) (Reps.one (show Kd.M (Kd.int .i64) _ _ _ (-3) [.int .i64 (-3)] from rfl) (Reps.one (show Kd.M (Kd.int .i64) _ _ _ (-1) [.int .i64 (-1)] from rfl) (Reps.none _ _)))))); intro v254 w55 ho56 hb hg_ hnew_; clear hg_ hnew_; (first | rw [← Ny253.out] at ho56 | (simp only [Int.reduceToNat] at ho56; rw [← Ny253.out] at ho56)); have n0_ := Aside0.mk (Kd.R_elder' (by (with_reducible repeat (first | apply Kd.R_alloc | apply Kd.R_drewN | apply Kd.R_drew)); exact HO213.out) (Kd.R_base ho56) hb); have n1_ := Aside0.mk (Kd.R_below (by (with_reducible repeat (first | apply Kd.R_alloc | apply Kd.R_drewN | apply Kd.R_drew)); exact HO217.out) hb); have n2_ := Aside0.mk (Kd.R_below (by (with_reducible repeat (first | apply Kd.R_alloc | apply Kd.R_drewN | apply Kd.R_drew)); exact HO221.out) hb); have n3_ := Aside0.mk (Kd.R_below (by (with_reducible repeat (first | apply Kd.R_alloc | apply Kd.R_drewN | apply Kd.R_drew)); exact HO225.out) hb); have n4_ := Aside0.mk (Kd.R_elder' (by (with_reducible repeat (first | apply Kd.R_alloc | apply Kd.R_drewN | apply Kd.R_drew)); exact HO228.out) (Kd.R_base ho56) hb); have n5_ := Aside0.mk (Kd.R_below (by (with_reducible repeat (first | apply Kd.R_alloc | apply Kd.R_drewN | apply Kd.R_drew)); exact HO232.out) hb); have n6_ := Aside0.mk (Kd.R_below (by (with_reducible repeat (first | apply Kd.R_alloc | apply Kd.R_drewN | apply Kd.R_drew)); exact HO238.out) hb); have n7_ := Aside0.mk (Kd.R_below (by (with_reducible repeat (first | apply Kd.R_alloc | apply Kd.R_drewN | apply Kd.R_drew)); exact HO241.out) hb); have n8_ := Aside0.mk (Kd.R_below (by (with_reducible repeat (first | apply Kd.R_alloc | apply Kd.R_drewN | apply Kd.R_drew)); exact HO245.out) hb); have n9_ := Aside0.mk (Kd.R_below (by (with_reducible repeat (first | apply Kd.R_alloc | apply Kd.R_drewN | apply Kd.R_drew)); exact HO248.out) hb); have n10_ := Aside0.mk (Kd.R_elder' (by (with_reducible repeat (first | apply Kd.R_alloc | apply Kd.R_drewN | apply Kd.R_drew)); exact HO252.out) (Kd.R_base ho56) hb); have n11_ := Aside0.mk (Kd.R_lower (Kd.R_new' (Kd.R_new' (Kd.R_new' ho56 (Kd.R_lt (by (with_reducible repeat (first | apply Kd.R_alloc | apply Kd.R_drewN | apply Kd.R_drew)); exact HO213.out))) (Kd.R_lt (by (with_reducible repeat (first | apply Kd.R_alloc | apply Kd.R_drewN | apply Kd.R_drew)); exact HO228.out))) (Kd.R_lt (by (with_reducible repeat (first | apply Kd.R_alloc | apply Kd.R_drewN | apply Kd.R_drew)); exact HO252.out))) (below_size (by repeat (first | (with_reducible first | exact HB.out | apply below_alloc | apply pw_below_drewN | apply below_drew1) | exact HB.out)))); have n12_ := Aside0.mk (below_step (by repeat (first | (with_reducible first | exact HB.out | apply below_alloc | apply pw_below_drewN | apply below_drew1) | exact HB.out)) hb); clear HO213; clear HO217; clear HO221; clear HO225; clear HO228; clear HO232; clear HO238; clear HO241; clear HO245; clear HO248; clear HO252; clear HB; have HO213 := n0_; have HO217 := n1_; have HO221 := n2_; have HO225 := n3_; have HO228 := n4_; have HO232 := n5_; have HO238 := n6_; have HO241 := n7_; have HO245 := n8_; have HO248 := n9_; have HO252 := n10_; have HO255 := n11_; have HB := n12_; clear n0_ n1_ n2_ n3_ n4_ n5_ n6_ n7_ n8_ n9_ n10_ n11_ n12_; clear hb ho56; obtain ⟨Ao57, co57, eo57⟩ := Kd.R_slice HO252.out; subst eo57; obtain ⟨Ao58, co58, eo58⟩ := Kd.R_slice HO255.out; subst eo58) | (go_at_call 18; (with_reducible refine (secateurref02_Nums.calls k _ _ t250 _ _ y253 true _ ?side1 ?side2 ?side3 ?side4 A14.out).mono ?_); (case side1 => repeat (first | exact (Kd.R_reads' HO252.out).2.2 | (with_reducible refine Kd.C_alloc ?_ _) | (with_reducible refine Kd.C_drewN ?_ _) | (with_reducible refine Kd.C_drew ?_))); (case side2 => exact (Kd.R_reads' HO252.out).2.1); (case side3 => repeat (first | exact (Kd.R_reads' HO255.out).2.2 | (with_reducible refine Kd.C_alloc ?_ _) | (with_reducible refine Kd.C_drewN ?_ _) | (with_reducible refine Kd.C_drew ?_))); (case side4 => exact (Kd.R_reads' HO255.out).2.1); rintro e w' ⟨rfl, ⟨nd, rfl⟩⟩; obtain ⟨Ao59, co59, eo59⟩ := Kd.R_slice HO238.out; subst eo59) | ((with_reducible refine gate_dst (N := 88) rfl ?_); (try (refine gate_guard (by rfl) ?_; dsimp only)); refine Kd.R_lit (Kd.int .i64) _ 3 ?hg (N := 88) ?hd (xs := ([0, 1, 3] : List Int)) (inner := [.int .i64 0, .int .i64 1, .int .i64 3]) (ok := fun _ => True) (okp := fun _ => True) ?hr ?hp (fun _ hk => hk) trivial (Below.refl _ _) (Nat.le_refl _) (by simp) ?_; (case hd => rfl); (case hg => rfl); (case hr => first | (go_simp; done) | (go_simp; rfl)); (case hp => exact (Reps.one (show Kd.M (Kd.int .i64) _ _ _ 0 [.int .i64 0] from rfl) (Reps.one (show Kd.M (Kd.int .i64) _ _ _ 1 [.int .i64 1] from rfl) (Reps.one (show Kd.M (Kd.int .i64) _ _ _ 3 [.int .i64 3] from rfl) (Reps.none _ _))))); intro v261 w61 ho62 hb hg_ hnew_; clear hg_ hnew_; (first | rw [← Ny260.out] at ho62 | (simp only [Int.reduceToNat] at ho62; rw [← Ny260.out] at ho62)); have n0_ := Aside0.mk (Kd.R_elder' (by (with_reducible repeat (first | apply Kd.R_alloc | apply Kd.R_drewN | apply Kd.R_drew)); exact HO213.out) (Kd.R_base ho62) hb); have n1_ := Aside0.mk (Kd.R_below (by (with_reducible repeat (first | apply Kd.R_alloc | apply Kd.R_drewN | apply Kd.R_drew)); exact HO217.out) hb); have n2_ := Aside0.mk (Kd.R_below (by (with_reducible repeat (first | apply Kd.R_alloc | apply Kd.R_drewN | apply Kd.R_drew)); exact HO221.out) hb); have n3_ := Aside0.mk (Kd.R_below (by (with_reducible repeat (first | apply Kd.R_alloc | apply Kd.R_drewN | apply Kd.R_drew)); exact HO225.out) hb); have n4_ := Aside0.mk (Kd.R_elder' (by (with_reducible repeat (first | apply Kd.R_alloc | apply Kd.R_drewN | apply Kd.R_drew)); exact HO228.out) (Kd.R_base ho62) hb); have n5_ := Aside0.mk (Kd.R_below (by (with_reducible repeat (first | apply Kd.R_alloc | apply Kd.R_drewN | apply Kd.R_drew)); exact HO232.out) hb); have n6_ := Aside0.mk (Kd.R_below (by (with_reducible repeat (first | apply Kd.R_alloc | apply Kd.R_drewN | apply Kd.R_drew)); exact HO238.out) hb); have n7_ := Aside0.mk (Kd.R_below (by (with_reducible repeat (first | apply Kd.R_alloc | apply Kd.R_drewN | apply Kd.R_drew)); exact HO241.out) hb); have n8_ := Aside0.mk (Kd.R_below (by (with_reducible repeat (first | apply Kd.R_alloc | apply Kd.R_drewN | apply Kd.R_drew)); exact HO245.out) hb); have n9_ := Aside0.mk (Kd.R_below (by (with_reducible repeat (first | apply Kd.R_alloc | apply Kd.R_drewN | apply Kd.R_drew)); exact HO248.out) hb); have n10_ := Aside0.mk (Kd.R_elder' (by (with_reducible repeat (first | apply Kd.R_alloc | apply Kd.R_drewN | apply Kd.R_drew)); exact HO252.out) (Kd.R_base ho62) hb); have n11_ := Aside0.mk (Kd.R_elder' (by (with_reducible repeat (first | apply Kd.R_alloc | apply Kd.R_drewN | apply Kd.R_drew)); exact HO255.out) (Kd.R_base ho62) hb); have n12_ := Aside0.mk (Kd.R_elder' (by (with_reducible repeat (first | apply Kd.R_alloc | apply Kd.R_drewN | apply Kd.R_drew)); exact HO259.out) (Kd.R_base ho62) hb); have n13_ := Aside0.mk (Kd.R_lower (Kd.R_new' (Kd.R_new' (Kd.R_new' (Kd.R_new' (Kd.R_new' ho62 (Kd.R_lt (by (with_reducible repeat (first | apply Kd.R_alloc | apply Kd.R_drewN | apply Kd.R_drew)); exact HO213.out))) (Kd.R_lt (by (with_reducible repeat (first | apply Kd.R_alloc | apply Kd.R_drewN | apply Kd.R_drew)); exact HO228.out))) (Kd.R_lt (by (with_reducible repeat (first | apply Kd.R_alloc | apply Kd.R_drewN | apply Kd.R_drew)); exact HO252.out))) (Kd.R_lt (by (with_reducible repeat (first | apply Kd.R_alloc | apply Kd.R_drewN | apply Kd.R_drew)); exact HO255.out))) (Kd.R_lt (by (with_reducible repeat (first | apply Kd.R_alloc | apply Kd.R_drewN | apply Kd.R_drew)); exact HO259.out))) (below_size (by repeat (first | (with_reducible first | exact HB.out | apply below_alloc | apply pw_below_drewN | apply below_drew1) | exact HB.out)))); have n14_ := Aside0.mk (below_step (by repeat (first | (with_reducible first | exact HB.out | apply below_alloc | apply pw_below_drewN | apply below_drew1) | exact HB.out)) hb); clear HO213; clear HO217; clear HO221; clear HO225; clear HO228; clear HO232; clear HO238; clear HO241; clear HO245; clear HO248; clear HO252; clear HO255; clear HO259; clear HB; have HO213 := n0_; have HO217 := n1_; have HO221 := n2_; have HO225 := n3_; have HO228 := n4_; have HO232 := n5_; have HO238 := n6_; have HO241 := n7_; have HO245 := n8_; have HO248 := n9_; have HO252 := n10_; have HO255 := n11_; have HO259 := n12_; have HO262 := n13_; have HB := n14_; clear n0_ n1_ n2_ n3_ n4_ n5_ n6_ n7_ n8_ n9_ n10_ n11_ n12_ n13_ n14_; clear hb ho62; obtain ⟨Ao63, co63, eo63⟩ := Kd.R_slice HO259.out; subst eo63; obtain ⟨Ao64, co64, eo64⟩ := Kd.R_slice HO262.out; subst eo64) | (go_at_call 18; (with_reducible refine (secateurref02_Nums.calls k _ _ t257 _ _ y260 true _ ?side1 ?side2 ?side3 ?side4 A22.out).mono ?_); (case side1 => repeat (first | exact (Kd.R_reads' HO259.out).2.2 | (with_reducible refine Kd.C_alloc ?_ _) | (with_reducible refine Kd.C_drewN ?_ _) | (with_reducible refine Kd.C_drew ?_))); (case side2 => exact (Kd.R_reads' HO259.out).2.1); (case side3 => repeat (first | exact (Kd.R_reads' HO262.out).2.2 | (with_reducible refine Kd.C_alloc ?_ _) | (with_reducible refine Kd.C_drewN ?_ _) | (with_reducible refine Kd.C_drew ?_))); (case side4 => exact (Kd.R_reads' HO262.out).2.1); rintro e w' ⟨rfl, ⟨nd, rfl⟩⟩) | (go_at_call 28; (with_reducible refine (dom_Size.calls k _ _ t214 t264 _ ?side1 ?side2 A25.out).mono ?_); (case side1 => repeat (first | exact (Kd.R_reads' HO217.out).2.2 | (with_reducible refine Kd.C_alloc ?_ _) | (with_reducible refine Kd.C_drewN ?_ _) | (with_reducible refine Kd.C_drew ?_))); (case side2 => exact (Kd.R_reads' HO217.out).2.1); rintro e w65 ⟨rfl, hb⟩; have n0_ := Aside0.mk (Kd.R_below (by (with_reducible repeat (first | apply Kd.R_alloc | apply Kd.R_drewN | apply Kd.R_drew)); exact HO213.out) hb); have n1_ := Aside0.mk (Kd.R_below (by (with_reducible repeat (first | apply Kd.R_alloc | apply Kd.R_drewN | apply Kd.R_drew)); exact HO217.out) hb); have n2_ := Aside0.mk (Kd.R_below (by (with_reducible repeat (first | apply Kd.R_alloc | apply Kd.R_drewN | apply Kd.R_drew)); exact HO221.out) hb); have n3_ := Aside0.mk (Kd.R_below (by (with_reducible repeat (first | apply Kd.R_alloc | apply Kd.R_drewN | apply Kd.R_drew)); exact HO225.out) hb); have n4_ := Aside0.mk (Kd.R_below (by (with_reducible repeat (first | apply Kd.R_alloc | apply Kd.R_drewN | apply Kd.R_drew)); exact HO228.out) hb); have n5_ := Aside0.mk (Kd.R_below (by (with_reducible repeat (first | apply Kd.R_alloc | apply Kd.R_drewN | apply Kd.R_drew)); exact HO232.out) hb); have n6_ := Aside0.mk (Kd.R_below (by (with_reducible repeat (first | apply Kd.R_alloc | apply Kd.R_drewN | apply Kd.R_drew)); exact HO238.out) hb); have n7_ := Aside0.mk (Kd.R_below (by (with_reducible repeat (first | apply Kd.R_alloc | apply Kd.R_drewN | apply Kd.R_drew)); exact HO241.out) hb); have n8_ := Aside0.mk (Kd.R_below (by (with_reducible repeat (first | apply Kd.R_alloc | apply Kd.R_drewN | apply Kd.R_drew)); exact HO245.out) hb); have n9_ := Aside0.mk (Kd.R_below (by (with_reducible repeat (first | apply Kd.R_alloc | apply Kd.R_drewN | apply Kd.R_drew)); exact HO248.out) hb); have n10_ := Aside0.mk (Kd.R_below (by (with_reducible repeat (first | apply Kd.R_alloc | apply Kd.R_drewN | apply Kd.R_drew)); exact HO252.out) hb); have n11_ := Aside0.mk (Kd.R_below (by (with_reducible repeat (first | apply Kd.R_alloc | apply Kd.R_drewN | apply Kd.R_drew)); exact HO255.out) hb); have n12_ := Aside0.mk (Kd.R_below (by (with_reducible repeat (first | apply Kd.R_alloc | apply Kd.R_drewN | apply Kd.R_drew)); exact HO259.out) hb); have n13_ := Aside0.mk (Kd.R_below (by (with_reducible repeat (first | apply Kd.R_alloc | apply Kd.R_drewN | apply Kd.R_drew)); exact HO262.out) hb); have n14_ := Aside0.mk (below_step (by repeat (first | (with_reducible first | exact HB.out | apply below_alloc | apply pw_below_drewN | apply below_drew1) | exact HB.out)) hb); clear HO213; clear HO217; clear HO221; clear HO225; clear HO228; clear HO232; clear HO238; clear HO241; clear HO245; clear HO248; clear HO252; clear HO255; clear HO259; clear HO262; clear HB; have HO213 := n0_; have HO217 := n1_; have HO221 := n2_; have HO225 := n3_; have HO228 := n4_; have HO232 := n5_; have HO238 := n6_; have HO241 := n7_; have HO245 := n8_; have HO248 := n9_; have HO252 := n10_; have HO255 := n11_; have HO259 := n12_; have HO262 := n13_; have HB := n14_; clear n0_ n1_ n2_ n3_ n4_ n5_ n6_ n7_ n8_ n9_ n10_ n11_ n12_ n13_ n14_; (try clear hb); (try clear hb2); (try clear hk); (try clear hi)) | (go_at_call 26; (with_reducible refine (dom_Has.calls _ _ t214 7 true _ ?side1 ?side2 A27.out).mono ?_); (case side1 => repeat (first | exact (Kd.R_reads' HO217.out).2.2 | (with_reducible refine Kd.C_alloc ?_ _) | (with_reducible refine Kd.C_drewN ?_ _) | (with_reducible refine Kd.C_drew ?_))); (case side2 => exact (Kd.R_reads' HO217.out).2.1); rintro e w66 ⟨rfl, hb⟩; have n0_ := Aside0.mk (Kd.R_below (by (with_reducible repeat (first | apply Kd.R_alloc | apply Kd.R_drewN | apply Kd.R_drew)); exact HO213.out) hb); have n1_ := Aside0.mk (Kd.R_below (by (with_reducible repeat (first | apply Kd.R_alloc | apply Kd.R_drewN | apply Kd.R_drew)); exact HO217.out) hb); have n2_ := Aside0.mk (Kd.R_below (by (with_reducible repeat (first | apply Kd.R_alloc | apply Kd.R_drewN | apply Kd.R_drew)); exact HO221.out) hb); have n3_ := Aside0.mk (Kd.R_below (by (with_reducible repeat (first | apply Kd.R_alloc | apply Kd.R_drewN | apply Kd.R_drew)); exact HO225.out) hb); have n4_ := Aside0.mk (Kd.R_below (by (with_reducible repeat (first | apply Kd.R_alloc | apply Kd.R_drewN | apply Kd.R_drew)); exact HO228.out) hb); have n5_ := Aside0.mk (Kd.R_below (by (with_reducible repeat (first | apply Kd.R_alloc | apply Kd.R_drewN | apply Kd.R_drew)); exact HO232.out) hb); have n6_ := Aside0.mk (Kd.R_below (by (with_reducible repeat (first | apply Kd.R_alloc | apply Kd.R_drewN | apply Kd.R_drew)); exact HO238.out) hb); have n7_ := Aside0.mk (Kd.R_below (by (with_reducible repeat (first | apply Kd.R_alloc | apply Kd.R_drewN | apply Kd.R_drew)); exact HO241.out) hb); have n8_ := Aside0.mk (Kd.R_below (by (with_reducible repeat (first | apply Kd.R_alloc | apply Kd.R_drewN | apply Kd.R_drew)); exact HO245.out) hb); have n9_ := Aside0.mk (Kd.R_below (by (with_reducible repeat (first | apply Kd.R_alloc | apply Kd.R_drewN | apply Kd.R_drew)); exact HO248.out) hb); have n10_ := Aside0.mk (Kd.R_below (by (with_reducible repeat (first | apply Kd.R_alloc | apply Kd.R_drewN | apply Kd.R_drew)); exact HO252.out) hb); have n11_ := Aside0.mk (Kd.R_below (by (with_reducible repeat (first | apply Kd.R_alloc | apply Kd.R_drewN | apply Kd.R_drew)); exact HO255.out) hb); have n12_ := Aside0.mk (Kd.R_below (by (with_reducible repeat (first | apply Kd.R_alloc | apply Kd.R_drewN | apply Kd.R_drew)); exact HO259.out) hb); have n13_ := Aside0.mk (Kd.R_below (by (with_reducible repeat (first | apply Kd.R_alloc | apply Kd.R_drewN | apply Kd.R_drew)); exact HO262.out) hb); have n14_ := Aside0.mk (below_step (by repeat (first | (with_reducible first | exact HB.out | apply below_alloc | apply pw_below_drewN | apply below_drew1) | exact HB.out)) hb); clear HO213; clear HO217; clear HO221; clear HO225; clear HO228; clear HO232; clear HO238; clear HO241; clear HO245; clear HO248; clear HO252; clear HO255; clear HO259; clear HO262; clear HB; have HO213 := n0_; have HO217 := n1_; have HO221 := n2_; have HO225 := n3_; have HO228 := n4_; have HO232 := n5_; have HO238 := n6_; have HO241 := n7_; have HO245 := n8_; have HO248 := n9_; have HO252 := n10_; have HO255 := n11_; have HO259 := n12_; have HO262 := n13_; have HB := n14_; clear n0_ n1_ n2_ n3_ n4_ n5_ n6_ n7_ n8_ n9_ n10_ n11_ n12_ n13_ n14_; (try clear hb); (try clear hb2); (try clear hk); (try clear hi)) | (go_at_call 26; (with_reducible refine (dom_Has.calls _ _ t214 4 false _ ?side1 ?side2 A29.out).mono ?_); (case side1 => repeat (first | exact (Kd.R_reads' HO217.out).2.2 | (with_reducible refine Kd.C_alloc ?_ _) | (with_reducible refine Kd.C_drewN ?_ _) | (with_reducible refine Kd.C_drew ?_))); (case side2 => exact (Kd.R_reads' HO217.out).2.1); rintro e w67 ⟨rfl, hb⟩; have n0_ := Aside0.mk (Kd.R_below (by (with_reducible repeat (first | apply Kd.R_alloc | apply Kd.R_drewN | apply Kd.R_drew)); exact HO213.out) hb); have n1_ := Aside0.mk (Kd.R_below (by (with_reducible repeat (first | apply Kd.R_alloc | apply Kd.R_drewN | apply Kd.R_drew)); exact HO217.out) hb); have n2_ := Aside0.mk (Kd.R_below (by (with_reducible repeat (first | apply Kd.R_alloc | apply Kd.R_drewN | apply Kd.R_drew)); exact HO221.out) hb); have n3_ := Aside0.mk (Kd.R_below (by (with_reducible repeat (first | apply Kd.R_alloc | apply Kd.R_drewN | apply Kd.R_drew)); exact HO225.out) hb); have n4_ := Aside0.mk (Kd.R_below (by (with_reducible repeat (first | apply Kd.R_alloc | apply Kd.R_drewN | apply Kd.R_drew)); exact HO228.out) hb); have n5_ := Aside0.mk (Kd.R_below (by (with_reducible repeat (first | apply Kd.R_alloc | apply Kd.R_drewN | apply Kd.R_drew)); exact HO232.out) hb); have n6_ := Aside0.mk (Kd.R_below (by (with_reducible repeat (first | apply Kd.R_alloc | apply Kd.R_drewN | apply Kd.R_drew)); exact HO238.out) hb); have n7_ := Aside0.mk (Kd.R_below (by (with_reducible repeat (first | apply Kd.R_alloc | apply Kd.R_drewN | apply Kd.R_drew)); exact HO241.out) hb); have n8_ := Aside0.mk (Kd.R_below (by (with_reducible repeat (first | apply Kd.R_alloc | apply Kd.R_drewN | apply Kd.R_drew)); exact HO245.out) hb); have n9_ := Aside0.mk (Kd.R_below (by (with_reducible repeat (first | apply Kd.R_alloc | apply Kd.R_drewN | apply Kd.R_drew)); exact HO248.out) hb); have n10_ := Aside0.mk (Kd.R_below (by (with_reducible repeat (first | apply Kd.R_alloc | apply Kd.R_drewN | apply Kd.R_drew)); exact HO252.out) hb); have n11_ := Aside0.mk (Kd.R_below (by (with_reducible repeat (first | apply Kd.R_alloc | apply Kd.R_drewN | apply Kd.R_drew)); exact HO255.out) hb); have n12_ := Aside0.mk (Kd.R_below (by (with_reducible repeat (first | apply Kd.R_alloc | apply Kd.R_drewN | apply Kd.R_drew)); exact HO259.out) hb); have n13_ := Aside0.mk (Kd.R_below (by (with_reducible repeat (first | apply Kd.R_alloc | apply Kd.R_drewN | apply Kd.R_drew)); exact HO262.out) hb); have n14_ := Aside0.mk (below_step (by repeat (first | (with_reducible first | exact HB.out | apply below_alloc | apply pw_below_drewN | apply below_drew1) | exact HB.out)) hb); clear HO213; clear HO217; clear HO221; clear HO225; clear HO228; clear HO232; clear HO238; clear HO241; clear HO245; clear HO248; clear HO252; clear HO255; clear HO259; clear HO262; clear HB; have HO213 := n0_; have HO217 := n1_; have HO221 := n2_; have HO225 := n3_; have HO228 := n4_; have HO232 := n5_; have HO238 := n6_; have HO241 := n7_; have HO245 := n8_; have HO248 := n9_; have HO252 := n10_; have HO255 := n11_; have HO259 := n12_; have HO262 := n13_; have HB := n14_; clear n0_ n1_ n2_ n3_ n4_ n5_ n6_ n7_ n8_ n9_ n10_ n11_ n12_ n13_ n14_; (try clear hb); (try clear hb2); (try clear hk); (try clear hi)) | ((with_reducible refine gate_dst (N := 112) rfl ?_); (try (refine gate_guard (by rfl) ?_; dsimp only)); refine Kd.R_lit k52 _ 52 ?hg (N := 112) ?hd (xs := ([(⟨1, 2⟩ : S52), (⟨3, 3⟩ : S52)] : List (S52))) (inner := [.int .i64 1, .int .i64 2, .int .i64 3, .int .i64 3]) (ok := fun _ => True) (okp := fun _ => True) ?hr ?hp (fun _ hk => hk) trivial (Below.refl _ _) (Nat.le_refl _) (by simp) ?_; (case hd => rfl); (case hg => rfl); (case hr => first | (go_simp; done) | (go_simp; rfl)); (case hp => exact (Reps.c2 (show Kd.M k52 _ _ _ (⟨1, 2⟩ : S52) [.int .i64 1, .int .i64 2] from (k52_mkM _ _ _ (⟨1, 2⟩ : S52) )) (Reps.c2 (show Kd.M k52 _ _ _ (⟨3, 3⟩ : S52) [.int .i64 3, .int .i64 3] from (k52_mkM _ _ _ (⟨3, 3⟩ : S52) )) (Reps.none _ _)))); intro v268 w68 ho69 hb hg_ hnew_; clear hg_ hnew_; (first | rw [← Ny267.out] at ho69 | (simp only [Int.reduceToNat] at ho69; rw [← Ny267.out] at ho69)); have n0_ := Aside0.mk (Kd.R_below (by (with_reducible repeat (first | apply Kd.R_alloc | apply Kd.R_drewN | apply Kd.R_drew)); exact HO213.out) hb); have n1_ := Aside0.mk (Kd.R_elder' (by (with_reducible repeat (first | apply Kd.R_alloc | apply Kd.R_drewN | apply Kd.R_drew)); exact HO217.out) (Kd.R_base ho69) hb); have n2_ := Aside0.mk (Kd.R_elder' (by (with_reducible repeat (first | apply Kd.R_alloc | apply Kd.R_drewN | apply Kd.R_drew)); exact HO221.out) (Kd.R_base ho69) hb); have n3_ := Aside0.mk (Kd.R_elder' (by (with_reducible repeat (first | apply Kd.R_alloc | apply Kd.R_drewN | apply Kd.R_drew)); exact HO225.out) (Kd.R_base ho69) hb); have n4_ := Aside0.mk (Kd.R_below (by (with_reducible repeat (first | apply Kd.R_alloc | apply Kd.R_drewN | apply Kd.R_drew)); exact HO228.out) hb); have n5_ := Aside0.mk (Kd.R_elder' (by (with_reducible repeat (first | apply Kd.R_alloc | apply Kd.R_drewN | apply Kd.R_drew)); exact HO232.out) (Kd.R_base ho69) hb); have n6_ := Aside0.mk (Kd.R_elder' (by (with_reducible repeat (first | apply Kd.R_alloc | apply Kd.R_drewN | apply Kd.R_drew)); exact HO238.out) (Kd.R_base ho69) hb); have n7_ := Aside0.mk (Kd.R_elder' (by (with_reducible repeat (first | apply Kd.R_alloc | apply Kd.R_drewN | apply Kd.R_drew)); exact HO241.out) (Kd.R_base ho69) hb); have n8_ := Aside0.mk (Kd.R_elder' (by (with_reducible repeat (first | apply Kd.R_alloc | apply Kd.R_drewN | apply Kd.R_drew)); exact HO245.out) (Kd.R_base ho69) hb); have n9_ := Aside0.mk (Kd.R_elder' (by (with_reducible repeat (first | apply Kd.R_alloc | apply Kd.R_drewN | apply Kd.R_drew)); exact HO248.out) (Kd.R_base ho69) hb); have n10_ := Aside0.mk (Kd.R_below (by (with_reducible repeat (first | apply Kd.R_alloc | apply Kd.R_drewN | apply Kd.R_drew)); exact HO252.out) hb); have n11_ := Aside0.mk (Kd.R_below (by (with_reducible repeat (first | apply Kd.R_alloc | apply Kd.R_drewN | apply Kd.R_drew)); exact HO255.out) hb); have n12_ := Aside0.mk (Kd.R_below (by (with_reducible repeat (first | apply Kd.R_alloc | apply Kd.R_drewN | apply Kd.R_drew)); exact HO259.out) hb); have n13_ := Aside0.mk (Kd.R_below (by (with_reducible repeat (first | apply Kd.R_alloc | apply Kd.R_drewN | apply Kd.R_drew)); exact HO262.out) hb); have n14_ := Aside0.mk (Kd.R_lower (Kd.R_new' (Kd.R_new' (Kd.R_new' (Kd.R_new' (Kd.R_new' (Kd.R_new' (Kd.R_new' (Kd.R_new' ho69 (Kd.R_lt (by (with_reducible repeat (first | apply Kd.R_alloc | apply Kd.R_drewN | apply Kd.R_drew)); exact HO217.out))) (Kd.R_lt (by (with_reducible repeat (first | apply Kd.R_alloc | apply Kd.R_drewN | apply Kd.R_drew)); exact HO221.out))) (Kd.R_lt (by (with_reducible repeat (first | apply Kd.R_alloc | apply Kd.R_drewN | apply Kd.R_drew)); exact HO225.out))) (Kd.R_lt (by (with_reducible repeat (first | apply Kd.R_alloc | apply Kd.R_drewN | apply Kd.R_drew)); exact HO232.out))) (Kd.R_lt (by (with_reducible repeat (first | apply Kd.R_alloc | apply Kd.R_drewN | apply Kd.R_drew)); exact HO238.out))) (Kd.R_lt (by (with_reducible repeat (first | apply Kd.R_alloc | apply Kd.R_drewN | apply Kd.R_drew)); exact HO241.out))) (Kd.R_lt (by (with_reducible repeat (first | apply Kd.R_alloc | apply Kd.R_drewN | apply Kd.R_drew)); exact HO245.out))) (Kd.R_lt (by (with_reducible repeat (first | apply Kd.R_alloc | apply Kd.R_drewN | apply Kd.R_drew)); exact HO248.out))) (below_size (by repeat (first | (with_reducible first | exact HB.out | apply below_alloc | apply pw_below_drewN | apply below_drew1) | exact HB.out)))); have n15_ := Aside0.mk (below_step (by repeat (first | (with_reducible first | exact HB.out | apply below_alloc | apply pw_below_drewN | apply below_drew1) | exact HB.out)) hb); clear HO213; clear HO217; clear HO221; clear HO225; clear HO228; clear HO232; clear HO238; clear HO241; clear HO245; clear HO248; clear HO252; clear HO255; clear HO259; clear HO262; clear HB; have HO213 := n0_; have HO217 := n1_; have HO221 := n2_; have HO225 := n3_; have HO228 := n4_; have HO232 := n5_; have HO238 := n6_; have HO241 := n7_; have HO245 := n8_; have HO248 := n9_; have HO252 := n10_; have HO255 := n11_; have HO259 := n12_; have HO262 := n13_; have HO269 := n14_; have HB := n15_; clear n0_ n1_ n2_ n3_ n4_ n5_ n6_ n7_ n8_ n9_ n10_ n11_ n12_ n13_ n14_ n15_; clear hb ho69; obtain ⟨Ao70, co70, eo70⟩ := Kd.R_slice HO269.out; subst eo70) | (go_at_call 15; (with_reducible refine (dom_Check.calls k _ _ y267 t270 _ ?side1 ?side2 A31.out).mono ?_); (case side1 => repeat (first | exact (Kd.R_reads' HO269.out).2.2 | (with_reducible refine Kd.C_alloc ?_ _) | (with_reducible refine Kd.C_drewN ?_ _) | (with_reducible refine Kd.C_drew ?_))); (case side2 => exact (Kd.R_reads' HO269.out).2.1); rintro e w71 ⟨rfl, hb⟩; have n0_ := Aside0.mk (Kd.R_below (by (with_reducible repeat (first | apply Kd.R_alloc | apply Kd.R_drewN | apply Kd.R_drew)); exact HO213.out) hb); have n1_ := Aside0.mk (Kd.R_below (by (with_reducible repeat (first | apply Kd.R_alloc | apply Kd.R_drewN | apply Kd.R_drew)); exact HO217.out) hb); have n2_ := Aside0.mk (Kd.R_below (by (with_reducible repeat (first | apply Kd.R_alloc | apply Kd.R_drewN | apply Kd.R_drew)); exact HO221.out) hb); have n3_ := Aside0.mk (Kd.R_below (by (with_reducible repeat (first | apply Kd.R_alloc | apply Kd.R_drewN | apply Kd.R_drew)); exact HO225.out) hb); have n4_ := Aside0.mk (Kd.R_below (by (with_reducible repeat (first | apply Kd.R_alloc | apply Kd.R_drewN | apply Kd.R_drew)); exact HO228.out) hb); have n5_ := Aside0.mk (Kd.R_below (by (with_reducible repeat (first | apply Kd.R_alloc | apply Kd.R_drewN | apply Kd.R_drew)); exact HO232.out) hb); have n6_ := Aside0.mk (Kd.R_below (by (with_reducible repeat (first | apply Kd.R_alloc | apply Kd.R_drewN | apply Kd.R_drew)); exact HO238.out) hb); have n7_ := Aside0.mk (Kd.R_below (by (with_reducible repeat (first | apply Kd.R_alloc | apply Kd.R_drewN | apply Kd.R_drew)); exact HO241.out) hb); have n8_ := Aside0.mk (Kd.R_below (by (with_reducible repeat (first | apply Kd.R_alloc | apply Kd.R_drewN | apply Kd.R_drew)); exact HO245.out) hb); have n9_ := Aside0.mk (Kd.R_below (by (with_reducible repeat (first | apply Kd.R_alloc | apply Kd.R_drewN | apply Kd.R_drew)); exact HO248.out) hb); have n10_ := Aside0.mk (Kd.R_below (by (with_reducible repeat (first | apply Kd.R_alloc | apply Kd.R_drewN | apply Kd.R_drew)); exact HO252.out) hb); have n11_ := Aside0.mk (Kd.R_below (by (with_reducible repeat (first | apply Kd.R_alloc | apply Kd.R_drewN | apply Kd.R_drew)); exact HO255.out) hb); have n12_ := Aside0.mk (Kd.R_below (by (with_reducible repeat (first | apply Kd.R_alloc | apply Kd.R_drewN | apply Kd.R_drew)); exact HO259.out) hb); have n13_ := Aside0.mk (Kd.R_below (by (with_reducible repeat (first | apply Kd.R_alloc | apply Kd.R_drewN | apply Kd.R_drew)); exact HO262.out) hb); have n14_ := Aside0.mk (Kd.R_below (by (with_reducible repeat (first | apply Kd.R_alloc | apply Kd.R_drewN | apply Kd.R_drew)); exact HO269.out) hb); have n15_ := Aside0.mk (below_step (by repeat (first | (with_reducible first | exact HB.out | apply below_alloc | apply pw_below_drewN | apply below_drew1) | exact HB.out)) hb); clear HO213; clear HO217; clear HO221; clear HO225; clear HO228; clear HO232; clear HO238; clear HO241; clear HO245; clear HO248; clear HO252; clear HO255; clear HO259; clear HO262; clear HO269; clear HB; have HO213 := n0_; have HO217 := n1_; have HO221 := n2_; have HO225 := n3_; have HO228 := n4_; have HO232 := n5_; have HO238 := n6_; have HO241 := n7_; have HO245 := n8_; have HO248 := n9_; have HO252 := n10_; have HO255 := n11_; have HO259 := n12_; have HO262 := n13_; have HO269 := n14_; have HB := n15_; clear n0_ n1_ n2_ n3_ n4_ n5_ n6_ n7_ n8_ n9_ n10_ n11_ n12_ n13_ n14_ n15_; (try clear hb); (try clear hb2); (try clear hk); (try clear hi)))
               go_ret
               exact ⟨by first | rfl | (simp [errW_none, errW_some] <;> rfl) | (simp [*, errW_none, errW_some] <;> rfl), by repeat (first | (with_reducible first | exact HB.out | apply below_alloc | apply pw_below_drewN | apply below_drew1) | exact HB.out)⟩
             ·replace c28 := Bool.eq_false_iff.mpr c28
              subst c28
              have H1 : (none) = some r := by rw [if_neg (show ¬ (false = true) by decide)] at H; exact H
              clear H
              have H := H1
              clear H1
              exact absurd H (by simp)
            ·rw [if_neg c26] at H
             exact absurd H (by simp)
           ·rw [if_neg c24] at H
            exact absurd H (by simp)
          ·replace c23 := Bool.eq_false_iff.mpr c23
           subst c23
           have H1 : (none) = some r := by rw [if_neg (show ¬ (false = true) by decide)] at H; exact H
           clear H
           have H := H1
           clear H1
           exact absurd H (by simp)
         ·replace c20 := Bool.eq_false_iff.mpr c20
          subst c20
          have H1 : (none) = some r := by rw [if_neg (show ¬ (false = true) by decide)] at H; exact H
          clear H
          have H := H1
          clear H1
          exact absurd H (by simp)
        ·rw [if_neg c19] at H
         exact absurd H (by simp)
       ·rw [if_neg c18] at H
        exact absurd H (by simp)
      ·rw [if_neg c17] at H
       exact absurd H (by simp)
     ·rw [if_neg c16] at H
      exact absurd H (by simp)
    ·replace c15 := Bool.eq_false_iff.mpr c15
     subst c15
     have H1 : (none) = some r := by rw [if_neg (show ¬ (false = true) by decide)] at H; exact H
     clear H
     have H := H1
     clear H1
     exact absurd H (by simp)
   ·replace c12 := Bool.eq_false_iff.mpr c12
    subst c12
    have H1 : (none) = some r := by rw [if_neg (show ¬ (false = true) by decide)] at H; exact H
    clear H
    have H := H1
    clear H1
    exact absurd H (by simp)
  ·rw [if_neg c9] at H
   exact absurd H (by simp)
 ·replace c8 := Bool.eq_false_iff.mpr c8
  subst c8
  have H1 : (none) = some r := by rw [if_neg (show ¬ (false = true) by decide)] at H; exact H
  clear H
  have H := H1
  clear H1
  exact absurd H (by simp)

end Go.Proofs.Ytklanjkndoikeaa.P

/- Plain: 'from some number of rounds on it tells a'; lists of numbers in order. No program in sight. -/
namespace Go.Proofs.Ytklanjkndoikeaa.P
open Go.RowKit Go.Proofs.YtklanjkndoikeaaW.PrintWords Go.Proofs.YtklanjkndoikeaaW.PrintLast Go.Proofs.YtklanjkndoikeaaW.PrintMore
set_option linter.unusedVariables false
set_option linter.unusedSimpArgs false

/-! ### From some number of rounds on -/
def Ev {α : Type} (F : Nat → Option α) (a : α) : Prop := ∃ k0, ∀ k, k0 ≤ k → F k = some a
section
variable {α β : Type} {F G : Nat → Option α} {a : α} {b : β}
theorem Ev.out (h : Ev F a) : ∃ k, F k = some a := by obtain ⟨k, h⟩ := h; exact ⟨k, h k (Nat.le_refl _)⟩
theorem Ev.const {x : Option α} (h : x = some a) : Ev (fun _ => x) a := ⟨0, fun _ _ => h⟩
theorem Ev.pure (a : α) : Ev (fun _ => some a) a := Ev.const rfl
theorem Ev.bind {H : Nat → α → Option β} (h : Ev F a) (g : Ev (fun k => H k a) b) : Ev (fun k => (F k).bind (H k)) b := by
  obtain ⟨k1, h1⟩ := h
  obtain ⟨k2, h2⟩ := g
  refine ⟨max k1 k2, fun k hk => ?_⟩
  show (F k).bind (H k) = some b
  rw [h1 k (by omega)]
  exact h2 k (by omega)
theorem Ev.step (h : ∀ k, F (k + 1) = G k) (g : Ev G a) : Ev F a := by
  obtain ⟨k1, h1⟩ := g
  refine ⟨k1 + 1, fun k hk => ?_⟩
  obtain ⟨m, rfl⟩ : ∃ m, k = m + 1 := ⟨k - 1, by omega⟩
  rw [h m]
  exact h1 m (by omega)
theorem Ev.eq (h : ∀ k, F k = G k) (g : Ev G a) : Ev F a := by
  obtain ⟨k1, h1⟩ := g
  exact ⟨k1, fun k hk => (h k).trans (h1 k hk)⟩
theorem Ev.of_mono (k : Nat) (h : F k = some a) (hm : ∀ k, LeO (F k) (F (k + 1))) : Ev F a := by
  refine ⟨k, fun m hm' => ?_⟩
  induction hm' with
  | refl => exact h
  | step _ ih => exact hm _ _ ih
theorem Ev.ite_pos {c : Prop} [Decidable c] (hc : c) (g : Ev F a) : Ev (fun k => if c then F k else G k) a := Ev.eq (fun k => if_pos hc) g
theorem Ev.ite_neg {c : Prop} [Decidable c] (hc : ¬ c) (g : Ev G a) : Ev (fun k => if c then F k else G k) a := Ev.eq (fun k => if_neg hc) g
theorem Ev.unique (h : Ev F a) {a' : α} (h' : Ev F a') : a = a' := by
  obtain ⟨k1, h1⟩ := h
  obtain ⟨k2, h2⟩ := h'
  exact Option.some.inj ((h1 (max k1 k2) (by omega)).symm.trans (h2 (max k1 k2) (by omega)))
end

/-! ### Numbers -/
theorem w64 {n : Int} (h1 : -9223372036854775808 ≤ n) (h2 : n ≤ 9223372036854775807) : wrap64 n = n := by unfold wrap64; omega
theorem w1 {n : Nat} (h : n < 4611686018427387904) : wrap64 ((n : Int) + 1) = ((n + 1 : Nat) : Int) := by rw [w64 (by omega) (by omega)]; omega
theorem wf64 {n : Int} (h : (Lit.int .i64 n).wf = true) : -9223372036854775808 ≤ n ∧ n ≤ 9223372036854775807 := by
  simp [Lit.wf, IntKind.min, IntKind.max, IntKind.signed, IntKind.bits] at h
  omega
theorem rd_nat (l : List Int) (n : Nat) (h : n < l.length) : rd l (n : Int) = l[n] := by simp [rd, List.getD_eq_getElem?_getD, List.getElem?_eq_getElem h]

/-! ### Lists in order, each number once -/
abbrev SS (l : List Int) : Prop := List.Pairwise (fun a b : Int => a < b) l
theorem SS.ext : ∀ {l m : List Int}, SS l → SS m → (∀ x, x ∈ l ↔ x ∈ m) → l = m
  | [], [], _, _, _ => rfl
  | [], y :: m, _, _, h => absurd ((h y).2 List.mem_cons_self) (by simp)
  | x :: l, [], _, _, h => absurd ((h x).1 List.mem_cons_self) (by simp)
  | x :: l, y :: m, h1, h2, h => by
    obtain ⟨hx, hl⟩ := List.pairwise_cons.1 h1
    obtain ⟨hy, hm⟩ := List.pairwise_cons.1 h2
    have e : x = y := by
      rcases List.mem_cons.1 ((h x).1 List.mem_cons_self) with e | h3
      · exact e
      · rcases List.mem_cons.1 ((h y).2 List.mem_cons_self) with e | h4
        · exact e.symm
        · have := hy x h3; have := hx y h4; omega
    subst e
    congr 1
    refine SS.ext hl hm (fun z => ⟨fun hz => ?_, fun hz => ?_⟩)
    · rcases List.mem_cons.1 ((h z).1 (List.mem_cons_of_mem _ hz)) with e | h3
      · have := hx z hz; omega
      · exact h3
    · rcases List.mem_cons.1 ((h z).2 (List.mem_cons_of_mem _ hz)) with e | h3
      · have := hy z hz; omega
      · exact h3
/-- x put into a list in order; once. -/
def insU (x : Int) : List Int → List Int
  | [] => [x]
  | y :: l => if x < y then x :: y :: l else if x = y then y :: l else y :: insU x l
theorem mem_insU (x z : Int) : ∀ l, z ∈ insU x l ↔ z = x ∨ z ∈ l
  | [] => by simp [insU]
  | y :: l => by
    unfold insU
    split
    · simp
    · split
      · rename_i h1 h2
        subst h2
        simp
      · rw [List.mem_cons, mem_insU x z l, List.mem_cons]
        constructor
        · rintro (h | h | h)
          · exact .inr (.inl h)
          · exact .inl h
          · exact .inr (.inr h)
        · rintro (h | h | h)
          · exact .inr (.inl h)
          · exact .inl h
          · exact .inr (.inr h)
theorem insU_ss (x : Int) : ∀ l, SS l → SS (insU x l)
  | [], _ => by simp [insU]
  | y :: l, h => by
    obtain ⟨hy, hl⟩ := List.pairwise_cons.1 h
    unfold insU
    split
    · refine List.pairwise_cons.2 ⟨fun z hz => ?_, h⟩
      rcases List.mem_cons.1 hz with rfl | hz
      · assumption
      · have := hy z hz; omega
    · split
      · exact h
      · refine List.pairwise_cons.2 ⟨fun z hz => ?_, insU_ss x l hl⟩
        rcases (mem_insU x z l).1 hz with rfl | hz
        · omega
        · exact hy z hz
/-- A list's numbers in order, each once. -/
def sd : List Int → List Int
  | [] => []
  | x :: l => insU x (sd l)
theorem mem_sd (z : Int) : ∀ l, z ∈ sd l ↔ z ∈ l
  | [] => by simp [sd]
  | x :: l => by rw [sd, mem_insU, mem_sd z l, List.mem_cons]
theorem sd_ss : ∀ l, SS (sd l)
  | [] => List.Pairwise.nil
  | x :: l => insU_ss x _ (sd_ss l)
theorem sd_eq {l m : List Int} (hm : SS m) (h : ∀ x, x ∈ m ↔ x ∈ l) : sd l = m := SS.ext (sd_ss l) hm (fun x => (mem_sd x l).trans (h x).symm)
theorem sd_self {m : List Int} (hm : SS m) : sd m = m := sd_eq hm (fun _ => Iff.rfl)
theorem sd_congr {l m : List Int} (h : ∀ x, x ∈ l ↔ x ∈ m) : sd l = sd m := sd_eq (sd_ss m) (fun x => (mem_sd x m).trans (h x).symm)
theorem insU_length (x : Int) : ∀ l, (insU x l).length ≤ l.length + 1
  | [] => by simp [insU]
  | y :: l => by
    unfold insU
    split
    · simp
    · split
      · simp
      · have := insU_length x l
        simp; omega
theorem sd_length : ∀ l, (sd l).length ≤ l.length
  | [] => by simp [sd]
  | x :: l => by
    have := insU_length x (sd l)
    have := sd_length l
    simp [sd]; omega
theorem mem_le_of_ss {l : List Int} {i j : Nat} (h : SS l) (hi : i < l.length) (hj : j < l.length) (hij : i < j) : l[i] < l[j] := List.pairwise_iff_getElem.1 h i j hi hj hij
/-- As many numbers in order as there is room for. -/
theorem ss_length {l : List Int} {a b : Int} (h : SS l) (hb : ∀ x ∈ l, a ≤ x ∧ x ≤ b) : (l.length : Int) ≤ max 0 (b + 1 - a) := by
  induction l generalizing a with
  | nil => simp; omega
  | cons x l ih =>
    obtain ⟨hx, hl⟩ := List.pairwise_cons.1 h
    have h1 := hb x List.mem_cons_self
    have := ih (a := x + 1) hl (fun y hy => ⟨by have := hx y hy; omega, (hb y (List.mem_cons_of_mem _ hy)).2⟩)
    simp
    omega
end Go.Proofs.Ytklanjkndoikeaa.P

/- Plain: domains as lists of ranges. A domain is told by its values: two good lists of ranges with the same values are one. -/
namespace Go.Proofs.Ytklanjkndoikeaa.P
open Go.RowKit Go.Proofs.YtklanjkndoikeaaW.PrintWords Go.Proofs.YtklanjkndoikeaaW.PrintLast Go.Proofs.YtklanjkndoikeaaW.PrintMore
set_option linter.unusedVariables false
set_option linter.unusedSimpArgs false

abbrev Rg := S52
abbrev rg (d : List Rg) (i : Int) : Rg := rd_T52 d i
theorem Rg.ext' {x y : Rg} (h0 : x.f0 = y.f0) (h1 : x.f1 = y.f1) : x = y := by cases x; cases y; simp at *; exact ⟨h0, h1⟩
theorem rg_nat (d : List Rg) (n : Nat) (h : n < d.length) : rg d (n : Int) = d[n] := by simp [rg, rd_T52, List.getD_eq_getElem?_getD, List.getElem?_eq_getElem h]

/-- Ranges in order with a gap between any two, none below b; values no greater than V. -/
def Gd (V : Int) : Int → List Rg → Prop
  | _, [] => True
  | b, x :: d => b ≤ x.f0 ∧ x.f0 ≤ x.f1 ∧ x.f1 ≤ V ∧ Gd V (x.f1 + 2) d
/-- v is a value of d. -/
def Va (d : List Rg) (v : Int) : Prop := ∃ x ∈ d, x.f0 ≤ v ∧ v ≤ x.f1
@[simp] theorem Va_nil (v : Int) : Va [] v ↔ False := by simp [Va]
@[simp] theorem Va_cons (x : Rg) (d : List Rg) (v : Int) : Va (x :: d) v ↔ (x.f0 ≤ v ∧ v ≤ x.f1) ∨ Va d v := by simp [Va]
theorem Va_append (d e : List Rg) (v : Int) : Va (d ++ e) v ↔ Va d v ∨ Va e v := by
  induction d with
  | nil => simp
  | cons x d ih => simp [ih, or_assoc]
theorem Gd.mono {V b c : Int} {d : List Rg} (h : Gd V b d) (hc : c ≤ b) : Gd V c d := by
  cases d with
  | nil => trivial
  | cons x d => obtain ⟨h1, h2, h3, h4⟩ := h; exact ⟨by omega, h2, h3, h4⟩
theorem Gd.ge {V : Int} : ∀ {b : Int} {d : List Rg} {v : Int}, Gd V b d → Va d v → b ≤ v
  | _, [], _, _, h => absurd h (by simp)
  | b, x :: d, v, ⟨h1, h2, h3, h4⟩, h => by
    rcases (Va_cons x d v).1 h with h | h
    · omega
    · have := Gd.ge h4 h; omega
theorem Gd.le {V : Int} : ∀ {b : Int} {d : List Rg} {v : Int}, Gd V b d → Va d v → v ≤ V
  | _, [], _, _, h => absurd h (by simp)
  | b, x :: d, v, ⟨h1, h2, h3, h4⟩, h => by
    rcases (Va_cons x d v).1 h with h | h
    · omega
    · exact Gd.le h4 h
/-- **Two good lists of ranges with the same values are one.** -/
theorem Gd.ext {V : Int} : ∀ {b c : Int} {d e : List Rg}, Gd V b d → Gd V c e → (∀ v, Va d v ↔ Va e v) → d = e
  | _, _, [], [], _, _, _ => rfl
  | _, _, [], y :: e, _, ⟨_, h2, _, _⟩, h => absurd ((h y.f0).2 ((Va_cons _ _ _).2 (.inl ⟨Int.le_refl _, h2⟩))) (by simp)
  | _, _, x :: d, [], ⟨_, h2, _, _⟩, _, h => absurd ((h x.f0).1 ((Va_cons _ _ _).2 (.inl ⟨Int.le_refl _, h2⟩))) (by simp)
  | b, c, x :: d, y :: e, ⟨h1, h2, h3, h4⟩, ⟨k1, k2, k3, k4⟩, h => by
    have gx : ∀ v, Va (x :: d) v → x.f0 ≤ v := fun v hv => Gd.ge (V := V) (b := x.f0) (d := x :: d) ⟨Int.le_refl _, h2, h3, h4⟩ hv
    have gy : ∀ v, Va (y :: e) v → y.f0 ≤ v := fun v hv => Gd.ge (V := V) (b := y.f0) (d := y :: e) ⟨Int.le_refl _, k2, k3, k4⟩ hv
    have a1 := gy _ ((h x.f0).1 ((Va_cons _ _ _).2 (.inl ⟨Int.le_refl _, h2⟩)))
    have a2 := gx _ ((h y.f0).2 ((Va_cons _ _ _).2 (.inl ⟨Int.le_refl _, k2⟩)))
    have e0 : x.f0 = y.f0 := by omega
    have no1 : ¬ x.f1 < y.f1 := fun hlt => by
      have := (h (x.f1 + 1)).2 ((Va_cons _ _ _).2 (.inl ⟨by omega, by omega⟩))
      rcases (Va_cons _ _ _).1 this with h | h
      · omega
      · have := Gd.ge h4 h; omega
    have no2 : ¬ y.f1 < x.f1 := fun hlt => by
      have := (h (y.f1 + 1)).1 ((Va_cons _ _ _).2 (.inl ⟨by omega, by omega⟩))
      rcases (Va_cons _ _ _).1 this with h | h
      · omega
      · have := Gd.ge k4 h; omega
    have e1 : x.f1 = y.f1 := by omega
    obtain rfl := Rg.ext' e0 e1
    congr 1
    refine Gd.ext h4 k4 (fun v => ⟨fun hv => ?_, fun hv => ?_⟩)
    · have hg := Gd.ge h4 hv
      rcases (Va_cons _ _ _).1 ((h v).1 ((Va_cons _ _ _).2 (.inr hv))) with h | h
      · omega
      · exact h
    · have hg := Gd.ge k4 hv
      rcases (Va_cons _ _ _).1 ((h v).2 ((Va_cons _ _ _).2 (.inr hv))) with h | h
      · omega
      · exact h
/-- Where the next range may begin. -/
def endB (b : Int) (d : List Rg) : Int := (d.getLast?.map fun x => x.f1 + 2).getD b
theorem endB_snoc (b : Int) (d : List Rg) (x : Rg) : endB b (d ++ [x]) = x.f1 + 2 := by simp [endB]
theorem endB_cons (b : Int) (x : Rg) (d : List Rg) : endB b (x :: d) = endB (x.f1 + 2) d := by
  cases d with
  | nil => simp [endB]
  | cons y d => simp [endB, List.getLast?_cons]
theorem Gd_append (V : Int) : ∀ (b : Int) (d e : List Rg), Gd V b (d ++ e) ↔ Gd V b d ∧ Gd V (endB b d) e
  | b, [], e => by simp [Gd, endB]
  | b, x :: d, e => by
    rw [List.cons_append, Gd, Gd, Gd_append V (x.f1 + 2) d e, endB_cons]
    simp [and_assoc]
theorem Gd_snoc {V b : Int} {d : List Rg} {x : Rg} : Gd V b (d ++ [x]) ↔ Gd V b d ∧ endB b d ≤ x.f0 ∧ x.f0 ≤ x.f1 ∧ x.f1 ≤ V := by
  rw [Gd_append]
  simp [Gd]
theorem Gd.lt_end {V : Int} : ∀ {b : Int} {d : List Rg} {v : Int}, Gd V b d → Va d v → v + 2 ≤ endB b d
  | _, [], _, _, h => absurd h (by simp)
  | b, x :: d, v, ⟨h1, h2, h3, h4⟩, h => by
    rw [endB_cons]
    have h5 : x.f1 + 2 ≤ endB (x.f1 + 2) d := by
      cases d with
      | nil => simp [endB]
      | cons y d =>
        obtain ⟨k1, k2, k3, k4⟩ := h4
        have := Gd.lt_end (V := V) (b := x.f1 + 2) (d := y :: d) (v := y.f1) ⟨k1, k2, k3, k4⟩ ((Va_cons _ _ _).2 (.inl ⟨k2, Int.le_refl _⟩))
        omega
    rcases (Va_cons _ _ _).1 h with h | h
    · omega
    · exact Gd.lt_end h4 h
theorem Gd.end_ge {V b : Int} {d : List Rg} (h : Gd V b d) : b ≤ endB b d := by
  cases d with
  | nil => simp [endB]
  | cons y d =>
    obtain ⟨k1, k2, k3, k4⟩ := h
    have := Gd.lt_end (V := V) (b := b) (d := y :: d) (v := y.f1) ⟨k1, k2, k3, k4⟩ ((Va_cons _ _ _).2 (.inl ⟨k2, Int.le_refl _⟩))
    omega

/-! ### The values as a list -/
def vals : List Rg → List Int
  | [] => []
  | x :: d => upTo (x.f1 + 1 - x.f0).toNat x.f0 x.f1 ++ vals d
theorem mem_upTo : ∀ (r : Nat) (v hi z : Int), z ∈ upTo r v hi ↔ v ≤ z ∧ z ≤ hi ∧ z < v + r
  | 0, v, hi, z => by simp [upTo]; omega
  | r + 1, v, hi, z => by
    unfold upTo
    split
    · rw [List.mem_cons, mem_upTo r (v + 1) hi z]
      omega
    · simp
      omega
theorem upTo_ss : ∀ (r : Nat) (v hi : Int), SS (upTo r v hi)
  | 0, v, hi => by simp [upTo]
  | r + 1, v, hi => by
    unfold upTo
    split
    · refine List.pairwise_cons.2 ⟨fun z hz => ?_, upTo_ss r (v + 1) hi⟩
      have := (mem_upTo r (v + 1) hi z).1 hz
      omega
    · exact List.Pairwise.nil
theorem upTo_len : ∀ (r : Nat) (v hi : Int), ((upTo r v hi).length : Int) = min (r : Int) (max 0 (hi + 1 - v))
  | 0, v, hi => by simp [upTo]; omega
  | r + 1, v, hi => by
    unfold upTo
    split
    · have := upTo_len r (v + 1) hi
      simp
      omega
    · simp
      omega
theorem mem_vals (z : Int) : ∀ d, z ∈ vals d ↔ Va d z
  | [] => by simp [vals]
  | x :: d => by
    rw [vals, List.mem_append, mem_vals z d, Va_cons, mem_upTo]
    have : (x.f0 ≤ z ∧ z ≤ x.f1 ∧ z < x.f0 + ((x.f1 + 1 - x.f0).toNat : Int)) ↔ (x.f0 ≤ z ∧ z ≤ x.f1) := by omega
    rw [this]
theorem vals_ss {V : Int} : ∀ {b : Int} {d : List Rg}, Gd V b d → SS (vals d)
  | _, [], _ => List.Pairwise.nil
  | b, x :: d, ⟨h1, h2, h3, h4⟩ => by
    rw [vals]
    refine List.pairwise_append.2 ⟨upTo_ss _ _ _, vals_ss h4, fun y hy z hz => ?_⟩
    have := (mem_upTo _ _ _ _).1 hy
    have := Gd.ge h4 ((mem_vals z d).1 hz)
    omega
theorem vals_length {V b : Int} {d : List Rg} (h : Gd V b d) : ((vals d).length : Int) ≤ max 0 (V + 1 - b) :=
  ss_length (vals_ss h) (fun x hx => ⟨Gd.ge h ((mem_vals x d).1 hx), Gd.le h ((mem_vals x d).1 hx)⟩)
theorem length_le_vals {V : Int} : ∀ {b : Int} {d : List Rg}, Gd V b d → d.length ≤ (vals d).length
  | _, [], _ => by simp
  | b, x :: d, ⟨h1, h2, h3, h4⟩ => by
    have h5 := length_le_vals h4
    have h6 := upTo_len (x.f1 + 1 - x.f0).toNat x.f0 x.f1
    rw [vals]
    simp
    omega
/-- The domain of numbers in order. -/
def pack : List Int → List Rg
  | [] => []
  | x :: l => match pack l with
    | [] => [⟨x, x⟩]
    | r :: rs => if r.f0 = x + 1 then ⟨x, r.f1⟩ :: rs else ⟨x, x⟩ :: r :: rs
theorem pack_good {V : Int} : ∀ {b : Int} {l : List Int}, SS l → (∀ x ∈ l, b ≤ x ∧ x ≤ V) → Gd V b (pack l) ∧ ∀ v, Va (pack l) v ↔ v ∈ l
  | b, [], _, _ => ⟨trivial, fun v => by simp [pack]⟩
  | b, x :: l, h, hb => by
    obtain ⟨hx, hl⟩ := List.pairwise_cons.1 h
    obtain ⟨g, m⟩ := pack_good (V := V) (b := x + 1) hl (fun y hy => ⟨by have := hx y hy; omega, (hb y (List.mem_cons_of_mem _ hy)).2⟩)
    obtain ⟨b1, b2⟩ := hb x List.mem_cons_self
    unfold pack
    cases hp : pack l with
    | nil =>
      rw [hp] at m
      refine ⟨⟨b1, Int.le_refl _, b2, trivial⟩, fun v => ?_⟩
      have := m v
      simp at this
      simp [this]
      omega
    | cons r rs =>
      rw [hp] at g m
      obtain ⟨g1, g2, g3, g4⟩ := g
      dsimp only
      split
      · rename_i e
        refine ⟨⟨b1, by show x ≤ r.f1; omega, g3, g4⟩, fun v => ?_⟩
        have := m v
        rw [List.mem_cons, ← this, Va_cons, Va_cons]
        dsimp only
        constructor
        · rintro (h | h)
          · by_cases e2 : v = x
            · exact .inl e2
            · exact .inr (.inl ⟨by omega, h.2⟩)
          · exact .inr (.inr h)
        · rintro (h | h | h)
          · exact .inl ⟨by omega, by omega⟩
          · exact .inl ⟨by omega, h.2⟩
          · exact .inr h
      · rename_i e
        refine ⟨⟨b1, Int.le_refl _, b2, by show x + 2 ≤ r.f0; omega, g2, g3, g4⟩, fun v => ?_⟩
        have := m v
        rw [List.mem_cons, ← this, Va_cons]
        dsimp only
        constructor
        · rintro (h | h)
          · exact .inl (by omega)
          · exact .inr h
        · rintro (h | h)
          · exact .inl ⟨by omega, by omega⟩
          · exact .inr h
/-- A good list of ranges is the domain of the numbers that are its values. -/
theorem pack_eq {V b : Int} {d : List Rg} {l : List Int} (hd : Gd V b d) (hl : SS l) (h : ∀ v, Va d v ↔ v ∈ l) : d = pack l := by
  obtain ⟨g, m⟩ := pack_good (V := V) (b := b) hl (fun x hx => ⟨Gd.ge hd ((h x).2 hx), Gd.le hd ((h x).2 hx)⟩)
  exact Gd.ext hd g (fun v => (h v).trans (m v).symm)
theorem vals_pack {l : List Int} (hl : SS l) : vals (pack l) = l := by
  have hb : ∃ b V : Int, ∀ x ∈ l, b ≤ x ∧ x ≤ V := by
    clear hl
    induction l with
    | nil => exact ⟨0, 0, fun x hx => by simp at hx⟩
    | cons y l ih =>
      obtain ⟨b, V, ih⟩ := ih
      refine ⟨min b y, max V y, fun x hx => ?_⟩
      rcases List.mem_cons.1 hx with rfl | hx
      · omega
      · have := ih x hx; omega
  obtain ⟨b, V, hb⟩ := hb
  obtain ⟨g, m⟩ := pack_good (V := V) (b := b) hl hb
  exact SS.ext (vals_ss g) hl (fun x => (mem_vals x _).trans (m x))
theorem pack_vals {V b : Int} {d : List Rg} (hd : Gd V b d) : pack (vals d) = d := (pack_eq hd (vals_ss hd) (fun v => (mem_vals v d).symm)).symm
theorem pack_length_le (l : List Int) : (pack l).length ≤ l.length := by
  induction l with
  | nil => simp [pack]
  | cons x l ih =>
    unfold pack
    cases hp : pack l with
    | nil => simp
    | cons r rs =>
      rw [hp] at ih
      dsimp only
      split
      · simp at *; omega
      · simp at *; omega
/-- dom.all's values are all, where there are not too many. -/
theorem upTo_enough {r : Nat} {v hi : Int} (h : hi + 1 - v ≤ r) : upTo r v hi = upTo (hi + 1 - v).toNat v hi :=
  SS.ext (upTo_ss _ _ _) (upTo_ss _ _ _) (fun z => by rw [mem_upTo, mem_upTo]; omega)
theorem allV_vals : ∀ (d : List Rg) (r : Nat), (vals d).length ≤ r → allV r d = vals d
  | [], r, _ => by simp [allV, vals]
  | x :: d, r, h => by
    rw [vals, List.length_append] at h
    have h1 := upTo_len (x.f1 + 1 - x.f0).toNat x.f0 x.f1
    have e : upTo r x.f0 x.f1 = upTo (x.f1 + 1 - x.f0).toNat x.f0 x.f1 := upTo_enough (by omega)
    rw [allV, vals, e, allV_vals d _ (by omega)]
theorem niceD_good {b : Int} {d : List Rg} (h : Gd 1048576 b d) (hb : -1048576 ≤ b) : niceD d = true := by
  induction d generalizing b with
  | nil => rfl
  | cons x d ih =>
    obtain ⟨h1, h2, h3, h4⟩ := h
    have := ih h4 (by omega)
    unfold niceD at *
    rw [List.all_cons, this]
    simp
    omega
end Go.Proofs.Ytklanjkndoikeaa.P

-- Written by wip/tools/px.py out of the translation. Lean checks it.
namespace Go.Proofs.Ytklanjkndoikeaa.P
open Go.RowKit Go.Proofs.YtklanjkndoikeaaW.PrintWords Go.Proofs.YtklanjkndoikeaaW.PrintLast Go.Proofs.YtklanjkndoikeaaW.PrintMore
attribute [local go_sem] max2_int min2_int max_two min_two max_three min_three max_four min_four   -- for this text's walks alone
set_option linter.unusedVariables false
set_option linter.unusedSimpArgs false

/-! ### secateurref02_Values: function 30 -/
mutual
def secateurref02_Values.l0 : Nat → List (S52) → List Int → Int → Option (List Int)
 | 0, _, _, _ => none
 | k + 1, x0, x3, x4 => if x4 < (x0.length : Int) then (if 0 ≤ x4 then (secateurref02_Values.l1 k x0 x3 x4 ((rd_T52 x0 x4).f0)) else (none)) else (some x3)
def secateurref02_Values.l1 : Nat → List (S52) → List Int → Int → Int → Option (List Int)
 | 0, _, _, _, _ => none
 | k + 1, x0, x3, x4, x5 => if 0 ≤ x4 then (if x4 < (x0.length : Int) then (if x5 ≤ ((rd_T52 x0 x4).f1) then (if x3.length < 17592186044416 then (secateurref02_Values.l1 k x0 (x3 ++ [x5]) x4 (wrap64 (x5 + 1))) else (none)) else (secateurref02_Values.l0 k x0 x3 (wrap64 (x4 + 1)))) else (none)) else (none)
end
def secateurref02_Values.f (k : Nat) (l0 : List (S52)) : Option (List Int) := secateurref02_Values.l0 k l0 (([] : List Int)) 0
theorem secateurref02_Values.mono_l : ∀ k, (∀ y0 y1 y2, LeO (secateurref02_Values.l0 k y0 y1 y2) (secateurref02_Values.l0 (k + 1) y0 y1 y2)) ∧ (∀ y0 y1 y2 y3, LeO (secateurref02_Values.l1 k y0 y1 y2 y3) (secateurref02_Values.l1 (k + 1) y0 y1 y2 y3))
 | 0 => ⟨fun _ _ _ r h => by simp [secateurref02_Values.l0] at h, fun _ _ _ _ r h => by simp [secateurref02_Values.l1] at h⟩
 | k + 1 => by
  obtain ⟨ih0, ih1⟩ := secateurref02_Values.mono_l k
  refine ⟨?_, ?_⟩
  ·intro y0 y1 y2
   unfold secateurref02_Values.l0
   repeat' first
   | (with_reducible exact ih0 _ _ _)
   | (with_reducible exact ih1 _ _ _ _)
   | (with_reducible exact LeO.refl _)
   | (with_reducible exact LeO.none _)
   | (with_reducible refine LeO.ite ?_ ?_)
   | (with_reducible refine LeO.bind ?_ (fun _ => ?_))
   | exact ih0 _ _ _
   | exact ih1 _ _ _ _
   | exact LeO.none _
   | refine LeO.ite ?_ ?_
   | refine LeO.bind ?_ (fun _ => ?_)
  ·intro y0 y1 y2 y3
   unfold secateurref02_Values.l1
   repeat' first
   | (with_reducible exact ih0 _ _ _)
   | (with_reducible exact ih1 _ _ _ _)
   | (with_reducible exact LeO.refl _)
   | (with_reducible exact LeO.none _)
   | (with_reducible refine LeO.ite ?_ ?_)
   | (with_reducible refine LeO.bind ?_ (fun _ => ?_))
   | exact ih0 _ _ _
   | exact ih1 _ _ _ _
   | exact LeO.none _
   | refine LeO.ite ?_ ?_
   | refine LeO.bind ?_ (fun _ => ?_)
theorem secateurref02_Values.mono : ∀ a0 k, LeO (secateurref02_Values.f k a0) (secateurref02_Values.f (k + 1) a0) := by
 intro a0 k
 obtain ⟨ih0, ih1⟩ := secateurref02_Values.mono_l k
 unfold secateurref02_Values.f
 repeat' first
   | (with_reducible exact ih0 _ _ _)
   | (with_reducible exact ih1 _ _ _ _)
   | (with_reducible exact LeO.refl _)
   | (with_reducible exact LeO.none _)
   | (with_reducible refine LeO.ite ?_ ?_)
   | (with_reducible refine LeO.bind ?_ (fun _ => ?_))
   | exact ih0 _ _ _
   | exact ih1 _ _ _ _
   | exact LeO.none _
   | refine LeO.ite ?_ ?_
   | refine LeO.bind ?_ (fun _ => ?_)
set_option maxHeartbeats 8000000 in
set_option maxRecDepth 100000 in
theorem secateurref02_Values.calls (k : Nat) (A0 : Option Addr) (c0 : Nat) (l0 : List (S52)) (r : List Int) (w : World) (hr0 : Kd.C k52 w A0 l0.length l0) (hc0 : l0.length ≤ c0) (h : secateurref02_Values.f k l0 = some r) :
  Calls Try.prog 30 #[.slice A0 l0.length c0] w fun e w' => ∃ v0_ : Value, e = .returned (v0_) ∧ Kd.R (Kd.int .i64) 3 w' w.heap.size (fun _ => True) v0_ r ∧ Below w.heap.size w w' := by
 have HR0 := Aside0.mk hr0
 have HC0 := Aside0.mk hc0
 clear hr0 hc0
 have HB := Aside0.mk (Below.refl w.heap.size w)
 have H : (secateurref02_Values.l0 k l0 (([] : List Int)) 0) = some r := h
 clear h
 obtain ⟨y310, hy310⟩ : ∃ y_ : List Int, y_ = (([] : List Int)) := ⟨_, rfl⟩
 replace H : (secateurref02_Values.l0 k l0 y310 0) = some r := by first | (rw [hy310]; with_reducible exact H) | (have H2_ := (Option.bind_some _ _).symm.trans H; rw [hy310]; with_reducible exact H2_) | (have H2_ := (Option.bind_some _ _).symm.trans H; with_reducible exact H2_) | with_reducible exact H | (rw [hy310]; exact H) | exact H
 have Ny310 := Aside0.mk hy310
 clear hy310
 have H' := Aside0.mk H
 clear H
 go_enter Try.func30, Try.ntmps30
 go_wp2_with (first | ((with_reducible refine gate_dst (N := 6) rfl ?_); refine Kd.R_lit (Kd.int .i64) _ 3 ?hg (N := 6) ?hd (xs := ([] : List Int)) (inner := []) (ok := fun _ => True) (okp := fun _ => True) ?hr ?hp (fun _ hk => hk) trivial (Below.refl _ _) (Nat.le_refl _) (by simp) ?_; (case hd => rfl); (case hg => rfl); (case hr => first | (go_simp; done) | (go_simp; rfl)); (case hp => exact (Reps.none _ _)); intro v311 w2 ho3 hb hg_ hnew_; clear hg_ hnew_; (first | rw [← Ny310.out] at ho3 | (simp only [Int.reduceToNat] at ho3; rw [← Ny310.out] at ho3)); have n0_ := Aside0.mk (Kd.R_lower ho3 (below_size (by repeat (first | (with_reducible first | exact HB.out | apply below_alloc | apply pw_below_drewN | apply below_drew1) | exact HB.out)))); have n1_ := Aside0.mk (below_step (by repeat (first | (with_reducible first | exact HB.out | apply below_alloc | apply pw_below_drewN | apply below_drew1) | exact HB.out)) hb); clear HB; have HO312 := n0_; have HB := n1_; clear n0_ n1_; clear hb ho3))
 go_loopg [3, 4] k (fun kq v3 v4 w' => ∃ (x3_1 : List Int) (x4_1 : Int), v4 = .int .i64 x4_1 ∧ Aside0 (secateurref02_Values.l0 kq l0 x3_1 x4_1 = some r) ∧ Aside0 (kq ≤ k) ∧ Aside0 (Kd.R (Kd.int .i64) 3 w' w.heap.size (fun _ => True) v3 x3_1) ∧ Aside0 (Below w.heap.size w w'))
 case atStart => exact ⟨(y310), (0), (by first | rfl | (simp; done) | (simp [*]; done)), H', ⟨Nat.le_refl _⟩, ⟨by (with_reducible repeat (first | apply Kd.R_alloc | apply Kd.R_drewN | apply Kd.R_drew)); exact HO312.out⟩, ⟨by repeat (first | (with_reducible first | exact HB.out | apply below_alloc | apply pw_below_drewN | apply below_drew1) | exact HB.out)⟩⟩
 case round =>
  clear H'
  try clear p2
  try clear c3
  obtain ⟨x3_1, x4_1, rfl, HA, HK1, HO_3, HB⟩ := hrel
  cases gk with
  | zero => exact absurd HA.out (by simp [secateurref02_Values.l0])
  | succ k1 =>
   have H := HA.out
   clear HA
   simp only [secateurref02_Values.l0] at H
   by_cases c4 : x4_1 < (l0.length : Int)
   ·rw [if_pos c4] at H
    have c4b0 : decide (x4_1 < (l0.length : Int)) = true := decide_eq_true c4
    clear c4
    by_cases c5 : 0 ≤ x4_1
    ·rw [if_pos c5] at H
     have c5b0 : decide (0 ≤ x4_1) = true := decide_eq_true c5
     clear c5
     have H' := Aside0.mk H
     clear H
     have p313 : 0 ≤ (x4_1 : Int) := of_decide_eq_true (by first | (with_reducible assumption) | assumption)
     have q313 : x4_1 < (l0.length : Int) := of_decide_eq_true (by first | (with_reducible assumption) | assumption)
     obtain ⟨ad313, e313, hx313_0, hx313_1⟩ := at_T52 HR0.out x4_1 p313 q313
     cases e313
     replace hx313_0 := (HB.out.cell (World.block_lt_of_cell? w _ hx313_0)).trans hx313_0
     replace hx313_1 := (HB.out.cell (World.block_lt_of_cell? w _ hx313_1)).trans hx313_1
     replace p313 := eq_true p313
     replace q313 := eq_true q313
     go_wp2
     go_loopg [3, 5] k1 (fun kq v3 v5 w' => ∃ (x3_2 : List Int) (x5_2 : Int), v5 = .int .i64 x5_2 ∧ Aside0 (secateurref02_Values.l1 kq l0 x3_2 x4_1 x5_2 = some r) ∧ Aside0 (kq ≤ k1) ∧ Aside0 (Kd.R (Kd.int .i64) 3 w' w.heap.size (fun _ => True) v3 x3_2) ∧ Aside0 (Below w.heap.size w w'))
     case atStart => exact ⟨(x3_1), ((rd_T52 l0 x4_1).f0), (by first | rfl | (simp; done) | (simp [*]; done)), H', ⟨Nat.le_refl _⟩, ⟨by (with_reducible repeat (first | apply Kd.R_alloc | apply Kd.R_drewN | apply Kd.R_drew)); exact HO_3.out⟩, ⟨by repeat (first | (with_reducible first | exact HB.out | apply below_alloc | apply pw_below_drewN | apply below_drew1) | exact HB.out)⟩⟩
     case round =>
      clear H'
      try clear p2
      try clear c3
      try clear p3
      try clear q3
      try clear hx3
      try clear c4
      try clear c4b0
      try clear c5
      try clear c5b0
      try clear hx313_0
      try clear hx313_1
      try clear p2
      try clear p313
      try clear q313
      obtain ⟨x3_2, x5_2, rfl, HA, HK2, HO_3, HB⟩ := hrel
      cases gk with
      | zero => exact absurd HA.out (by simp [secateurref02_Values.l1])
      | succ k2 =>
       have H := HA.out
       clear HA
       simp only [secateurref02_Values.l1] at H
       by_cases c6 : 0 ≤ x4_1
       ·rw [if_pos c6] at H
        have c6b0 : decide (0 ≤ x4_1) = true := decide_eq_true c6
        clear c6
        by_cases c7 : x4_1 < (l0.length : Int)
        ·rw [if_pos c7] at H
         have c7b0 : decide (x4_1 < (l0.length : Int)) = true := decide_eq_true c7
         clear c7
         by_cases c8 : x5_2 ≤ ((rd_T52 l0 x4_1).f1)
         ·rw [if_pos c8] at H
          have c8b0 : decide (x5_2 ≤ ((rd_T52 l0 x4_1).f1)) = true := decide_eq_true c8
          clear c8
          by_cases c9 : x3_2.length < 17592186044416
          ·rw [if_pos c9] at H
           have LMc9 := Aside0.mk c9
           clear c9
           obtain ⟨y315, hy315⟩ : ∃ y_ : List Int, y_ = (x3_2 ++ [x5_2]) := ⟨_, rfl⟩
           replace H : (secateurref02_Values.l1 k2 l0 y315 x4_1 (wrap64 (x5_2 + 1))) = some r := by first | (rw [hy315]; with_reducible exact H) | (have H2_ := (Option.bind_some _ _).symm.trans H; rw [hy315]; with_reducible exact H2_) | (have H2_ := (Option.bind_some _ _).symm.trans H; with_reducible exact H2_) | with_reducible exact H | (rw [hy315]; exact H) | exact H
           have Ny315 := Aside0.mk hy315
           clear hy315
           have H' := Aside0.mk H
           clear H
           have p314 : 0 ≤ (x4_1 : Int) := of_decide_eq_true (by first | (with_reducible assumption) | assumption)
           have q314 : x4_1 < (l0.length : Int) := of_decide_eq_true (by first | (with_reducible assumption) | assumption)
           obtain ⟨ad314, e314, hx314_0, hx314_1⟩ := at_T52 HR0.out x4_1 p314 q314
           obtain rfl : ad313 = ad314 := (by injection e314)
           replace hx314_0 := (HB.out.cell (World.block_lt_of_cell? w _ hx314_0)).trans hx314_0
           replace hx314_1 := (HB.out.cell (World.block_lt_of_cell? w _ hx314_1)).trans hx314_1
           replace p314 := eq_true p314
           replace q314 := eq_true q314
           go_wp2_with (first | ((with_reducible refine gate_builtin (b := .append) (xs := #[.tmp 27, .tmp 29]) rfl ?_); at_builtin; refine Kd.R_append (Kd.int .i64) (w0 := w) w.heap.size rfl (.tmp 27) (.tmp 29) 23 3 (.int .i64 0) 8 rfl Try.underlying23 info3 rfl (by decide) (by omega) u3 x3_2 x5_2 [.int .i64 x5_2] (fun _ => True) (fun _ => False) rfl rfl ?aP (fun _ hk => hk.elim) ?aF ?aO ?aB ?aS ?aL ?_; (case aP => exact rfl); (case aB => exact (by repeat (first | (with_reducible first | exact HB.out | apply below_alloc | apply pw_below_drewN | apply below_drew1) | exact HB.out))); (case aF => exact (fun _ _ => trivial)); (case aO => exact (by (with_reducible repeat (first | apply Kd.R_alloc | apply Kd.R_drewN | apply Kd.R_drew)); exact HO_3.out)); (case aS => exact (below_size (by repeat (first | (with_reducible first | exact HB.out | apply below_alloc | apply pw_below_drewN | apply below_drew1) | exact HB.out)))); (case aL => have := LMc9.out; omega); intro v316 w10 ho hb hg hat; rw [← Ny315.out] at ho; have n0_ := Aside0.mk (hb); have n1_ := Aside0.mk (ho); clear HB; clear HO_3; have HB := n0_; have HO317 := n1_; clear n0_ n1_; clear ho hb hg hat))
           go_roundg k2
           case measure => have := HK1.out; have := HK2.out; omega
           case rel => exact ⟨(y315), (wrap64 (x5_2 + 1)), (by first | rfl | (simp; done) | (simp [*]; done)), H', ⟨by have := HK1.out; have := HK2.out; omega⟩, ⟨by (with_reducible repeat (first | apply Kd.R_alloc | apply Kd.R_drewN | apply Kd.R_drew)); exact HO317.out⟩, ⟨by repeat (first | (with_reducible first | exact HB.out | apply below_alloc | apply pw_below_drewN | apply below_drew1) | exact HB.out)⟩⟩
          ·rw [if_neg c9] at H
           exact absurd H (by simp)
         ·rw [if_neg c8] at H
          have c8b0 : decide (x5_2 ≤ ((rd_T52 l0 x4_1).f1)) = false := decide_eq_false c8
          clear c8
          have H' := Aside0.mk H
          clear H
          have p314 : 0 ≤ (x4_1 : Int) := of_decide_eq_true (by first | (with_reducible assumption) | assumption)
          have q314 : x4_1 < (l0.length : Int) := of_decide_eq_true (by first | (with_reducible assumption) | assumption)
          obtain ⟨ad314, e314, hx314_0, hx314_1⟩ := at_T52 HR0.out x4_1 p314 q314
          obtain rfl : ad313 = ad314 := (by injection e314)
          replace hx314_0 := (HB.out.cell (World.block_lt_of_cell? w _ hx314_0)).trans hx314_0
          replace hx314_1 := (HB.out.cell (World.block_lt_of_cell? w _ hx314_1)).trans hx314_1
          replace p314 := eq_true p314
          replace q314 := eq_true q314
          go_wp2
          go_roundg k2
          case measure => have := HK1.out; have := HK2.out; omega
          case rel => exact ⟨(x3_2), (wrap64 (x4_1 + 1)), (by first | rfl | (simp; done) | (simp [*]; done)), H', ⟨by have := HK1.out; have := HK2.out; omega⟩, ⟨by (with_reducible repeat (first | apply Kd.R_alloc | apply Kd.R_drewN | apply Kd.R_drew)); exact HO_3.out⟩, ⟨by repeat (first | (with_reducible first | exact HB.out | apply below_alloc | apply pw_below_drewN | apply below_drew1) | exact HB.out)⟩⟩
        ·rw [if_neg c7] at H
         exact absurd H (by simp)
       ·rw [if_neg c6] at H
        exact absurd H (by simp)
    ·rw [if_neg c5] at H
     exact absurd H (by simp)
   ·rw [if_neg c4] at H
    have c4b0 : decide (x4_1 < (l0.length : Int)) = false := decide_eq_false c4
    clear c4
    obtain rfl := Option.some.inj H
    go_wp2
    go_ret
    exact ⟨_, by first | rfl | (simp [errW_none, errW_some] <;> rfl) | (simp [*, errW_none, errW_some] <;> rfl), by (with_reducible repeat (first | apply Kd.R_alloc | apply Kd.R_drewN | apply Kd.R_drew)); exact HO_3.out, by repeat (first | (with_reducible first | exact HB.out | apply below_alloc | apply pw_below_drewN | apply below_drew1) | exact HB.out)⟩

end Go.Proofs.Ytklanjkndoikeaa.P

-- Written by wip/tools/px.py out of the translation. Lean checks it.
namespace Go.Proofs.Ytklanjkndoikeaa.P
open Go.RowKit Go.Proofs.YtklanjkndoikeaaW.PrintWords Go.Proofs.YtklanjkndoikeaaW.PrintLast Go.Proofs.YtklanjkndoikeaaW.PrintMore
attribute [local go_sem] max2_int min2_int max_two min_two max_three min_three max_four min_four   -- for this text's walks alone
set_option linter.unusedVariables false
set_option linter.unusedSimpArgs false

/-! ### secateurref02_Has: function 34 -/
def secateurref02_Has.l0 : Nat → List Int → Int → Int → Option (Bool)
 | 0, _, _, _ => none
 | k + 1, x0, x1, x5 => if x5 < (x0.length : Int) then (if 0 ≤ x5 then (if (rd x0 x5) = x1 then (some true) else (secateurref02_Has.l0 k x0 x1 (wrap64 (x5 + 1)))) else (none)) else (some false)
def secateurref02_Has.f (k : Nat) (l0 : List Int) (a1 : Int) : Option (Bool) := secateurref02_Has.l0 k l0 a1 0
theorem secateurref02_Has.mono_l : ∀ k, (∀ y0 y1 y2, LeO (secateurref02_Has.l0 k y0 y1 y2) (secateurref02_Has.l0 (k + 1) y0 y1 y2))
 | 0 => fun _ _ _ r h => by simp [secateurref02_Has.l0] at h
 | k + 1 => by
  have ih0 := secateurref02_Has.mono_l k
  ·intro y0 y1 y2
   unfold secateurref02_Has.l0
   repeat' first
   | (with_reducible exact ih0 _ _ _)
   | (with_reducible exact LeO.refl _)
   | (with_reducible exact LeO.none _)
   | (with_reducible refine LeO.ite ?_ ?_)
   | (with_reducible refine LeO.bind ?_ (fun _ => ?_))
   | exact ih0 _ _ _
   | exact LeO.none _
   | refine LeO.ite ?_ ?_
   | refine LeO.bind ?_ (fun _ => ?_)
theorem secateurref02_Has.mono : ∀ a0 a1 k, LeO (secateurref02_Has.f k a0 a1) (secateurref02_Has.f (k + 1) a0 a1) := by
 intro a0 a1 k
 have ih0 := secateurref02_Has.mono_l k
 unfold secateurref02_Has.f
 repeat' first
   | (with_reducible exact ih0 _ _ _)
   | (with_reducible exact LeO.refl _)
   | (with_reducible exact LeO.none _)
   | (with_reducible refine LeO.ite ?_ ?_)
   | (with_reducible refine LeO.bind ?_ (fun _ => ?_))
   | exact ih0 _ _ _
   | exact LeO.none _
   | refine LeO.ite ?_ ?_
   | refine LeO.bind ?_ (fun _ => ?_)
set_option maxHeartbeats 8000000 in
set_option maxRecDepth 100000 in
theorem secateurref02_Has.calls (k : Nat) (A0 : Option Addr) (c0 : Nat) (l0 : List Int) (a1 : Int) (r : Bool) (w : World) (hr0 : Kd.C (Kd.int .i64) w A0 l0.length l0) (hc0 : l0.length ≤ c0) (h : secateurref02_Has.f k l0 a1 = some r) :
  Calls Try.prog 34 #[.slice A0 l0.length c0, .int .i64 a1] w fun e w' => e = .returned (.bool r) ∧ Drawn0 w w' := by
 have HR0 := Aside0.mk hr0
 have HC0 := Aside0.mk hc0
 clear hr0 hc0
 have H : (secateurref02_Has.l0 k l0 a1 0) = some r := h
 clear h
 have H' := Aside0.mk H
 clear H
 go_enter Try.func34, Try.ntmps34
 go_wp2
 go_loopg [5] k (fun kq v5 w' => ∃ (x5_1 : Int), v5 = .int .i64 x5_1 ∧ Aside0 (secateurref02_Has.l0 kq l0 a1 x5_1 = some r) ∧ Aside0 (kq ≤ k) ∧ Drawn0 w w')
 case atStart => exact ⟨(0), (by first | rfl | (simp; done) | (simp [*]; done)), H', ⟨Nat.le_refl _⟩, by repeat (first | exact Drawn0.refl _ | apply Drawn0.step)⟩
 case round =>
  clear H'
  try clear p2
  obtain ⟨x5_1, rfl, HA, HK1, ⟨m1, rfl⟩⟩ := hrel
  cases gk with
  | zero => exact absurd HA.out (by simp [secateurref02_Has.l0])
  | succ k1 =>
   have H := HA.out
   clear HA
   simp only [secateurref02_Has.l0] at H
   by_cases c3 : x5_1 < (l0.length : Int)
   ·rw [if_pos c3] at H
    have c3b0 : decide (x5_1 < (l0.length : Int)) = true := decide_eq_true c3
    clear c3
    by_cases c4 : 0 ≤ x5_1
    ·rw [if_pos c4] at H
     have c4b0 : decide (0 ≤ x5_1) = true := decide_eq_true c4
     clear c4
     by_cases c5 : (rd l0 x5_1) = a1
     ·rw [if_pos c5] at H
      have c5b0 : ((rd l0 x5_1) == a1) = true := beq_iff_eq.mpr c5
      have c5b1 : ((rd l0 x5_1) != a1) = false := bne_eq_false_iff_eq.mpr c5
      clear c5
      obtain rfl := Option.some.inj H
      have p113 : 0 ≤ (x5_1 : Int) := of_decide_eq_true (by first | (with_reducible assumption) | assumption)
      have q113 : x5_1 < (l0.length : Int) := of_decide_eq_true (by first | (with_reducible assumption) | assumption)
      obtain ⟨ad113, e113, hx113_0⟩ := Kd.at_int HR0.out x5_1 p113 q113
      cases e113
      replace p113 := eq_true p113
      replace q113 := eq_true q113
      go_wp2
      go_ret
      exact ⟨by first | rfl | (simp; done) | (simp [*]; done), by repeat (first | exact Drawn0.refl _ | apply Drawn0.step)⟩
     ·rw [if_neg c5] at H
      have c5b0 : ((rd l0 x5_1) == a1) = false := beq_eq_false_iff_ne.mpr c5
      have c5b1 : ((rd l0 x5_1) != a1) = true := bne_iff_ne.mpr c5
      have H' := Aside0.mk H
      clear H
      have p113 : 0 ≤ (x5_1 : Int) := of_decide_eq_true (by first | (with_reducible assumption) | assumption)
      have q113 : x5_1 < (l0.length : Int) := of_decide_eq_true (by first | (with_reducible assumption) | assumption)
      obtain ⟨ad113, e113, hx113_0⟩ := Kd.at_int HR0.out x5_1 p113 q113
      cases e113
      replace p113 := eq_true p113
      replace q113 := eq_true q113
      go_wp2
      go_roundg k1
      case measure => have := HK1.out; omega
      case rel => exact ⟨(wrap64 (x5_1 + 1)), (by first | rfl | (simp; done) | (simp [*]; done)), H', ⟨by have := HK1.out; omega⟩, by repeat (first | exact Drawn0.refl _ | apply Drawn0.step)⟩
    ·rw [if_neg c4] at H
     exact absurd H (by simp)
   ·rw [if_neg c3] at H
    have c3b0 : decide (x5_1 < (l0.length : Int)) = false := decide_eq_false c3
    clear c3
    obtain rfl := Option.some.inj H
    go_wp2
    go_ret
    exact ⟨by first | rfl | (simp; done) | (simp [*]; done), by repeat (first | exact Drawn0.refl _ | apply Drawn0.step)⟩

end Go.Proofs.Ytklanjkndoikeaa.P
