/- Proved: what each function of the program that the statements of this seat reach comes to, for whatever memory and arguments it is called with (on condition that its plain text tells a result). -/
import Derived.Test.YteopgafbamipeaaU1
import Derived.Test.YteopgafbamipeaaProg
import Derived.Below
import Derived.Deep.Draws
import Derived.Deep.AppendLies
import Derived.Maps.AppendAt
import Derived.OwnWalk
import Derived.Laws.BytesArg
import Derived.Laws.MakeOwn
import Derived.Laws.OwnMore
import Derived.Deep.OwnRows
import Derived.Tactics
import Derived.Lib.ConvBytes
import Derived.Laws.Slices
import Derived.WalkKit
import Derived.KernelRfl
import Derived.RowKit3
import Derived.Deep.LoopGhost
import Derived.Deep.QuietTactic
import Derived.BigQuiet
import Derived.WideLaws
import Derived.Deep.DeepCutAuto
import Derived.Deep.CutBlock
import Derived.Deep.RegionHeld3
import Derived.Laws.Rows
import Derived.Lib.AppendStr
import Derived.ArgAppend
import Derived.Laws.IdiomCopy
import Derived.OrdersHeld
import Derived.Laws.BitsLemmas
import Derived.RowKit
import Derived.RangeFuncNested
import Derived.RangeFuncBox
import Derived.RangeFuncBound
import Derived.RangeFuncCalls
import Derived.RangeFuncLeaves
import Derived.Shelf.Abstract
import Derived.Shelf.AbstractIn
import Derived.OwnWalkIn
import Derived.TacticsInMore
import Derived.LoopNIn
import Derived.LoopIn
import Derived.Shelf.SlLaysF
import Derived.Shelf.SlLaysM
import Derived.Shelf.SortM.Plain
import Derived.Shelf.SortM.SortNone
import Derived.Sort.OwnSortedInts
import Derived.Shelf.GgClosure.Gives
import Derived.Lib.SlBy
import Derived.Lib.SlKept
import Derived.Lib.SlicesCompact
import Derived.Shelf.SlicesE.Kit
import Derived.Sort.WalkB12
import Derived.Lib.SliceRun
import Derived.Shelf.SlSortCmp.Whole1
import Derived.Shelf.SlSortCmp.NoneTotal
import Derived.Laws.CopyOwn
import Derived.Laws.Tables
import Derived.Maps.OwnOps
import Derived.Maps.Views
import Derived.DeepKeys4
import Derived.WideKeyArr
import Derived.Maps.OwnSet

/- Reading an element that is itself a slice (or of one cell), whatever its kind. -/
namespace Go.Proofs.Yteopgafbamipeaa.P
open Go.RowKit Go.Proofs.YteopgafbamipeaaW.PrintWords
set_option linter.unusedVariables false
set_option linter.unusedSimpArgs false

theorem at_one {α : Type} {d : Kd α} (hd : d.sz = 1) {w : World} {A : Option Addr} {n : Nat} {xs : List α} (h : d.C w A n xs) (k : Nat) (hk : k < xs.length) : ∃ ad u, A = some ad ∧ w.cell? (ad.add k) = some u ∧ d.K w xs[k] [u] := by
  obtain ⟨hl, _, h3⟩ := h
  obtain ⟨ad, rfl, hc⟩ := h3 (by omega)
  obtain ⟨c, hcl, hK, hcell⟩ := hc k _ (List.getElem?_eq_getElem hk)
  rw [hd] at hcl hcell
  obtain ⟨u, rfl⟩ := List.length_eq_one_iff.1 hcl
  have := hcell 0 u rfl
  rw [Nat.mul_one, Nat.add_zero] at this
  exact ⟨ad, u, rfl, this, hK⟩
theorem Zdk {α : Type} {d : Kd α} {e : Nat} {w : World} {A : Option Addr} {n : Nat} {xs : List (List α)} (h : (Kd.slice e d).C w A n xs) (k : Nat) (hk : k < xs.length) :
    ∃ ad A0 c0, A = some ad ∧ w.cell? (ad.add k) = some (.slice A0 xs[k].length c0) ∧ xs[k].length ≤ c0 ∧ d.C w A0 xs[k].length xs[k] := by
  obtain ⟨ad, u, hA, hc, A0, c0, hu, hl, hC⟩ := at_one (d := Kd.slice e d) rfl h k hk
  obtain rfl : u = _ := List.singleton_inj.1 hu
  exact ⟨ad, A0, c0, hA, hc, hl, hC⟩
theorem reads_one {α : Type} {d : Kd α} (hd : d.sz = 1) {w : World} {ad : Addr} {xs : List α} (hn : xs.length ≤ 9223372036854775807) (h : ∀ k (hk : k < xs.length), ∃ u, w.cell? (ad.add k) = some u ∧ d.K w xs[k] [u]) : d.C w (some ad) xs.length xs := by
  refine ⟨rfl, hn, fun _ => ⟨ad, rfl, fun j p hj => ?_⟩⟩
  obtain ⟨hj', rfl⟩ := List.getElem?_eq_some_iff.1 hj
  obtain ⟨u, hu, hK⟩ := h j hj'
  refine ⟨[u], by rw [hd]; rfl, hK, fun i v hi => ?_⟩
  rcases i with _ | i
  · obtain rfl : u = v := by simpa using hi
    rw [hd, Nat.mul_one, Nat.add_zero]
    exact hu
  simp at hi
theorem Zcw (g k : Nat) : (⟨g, 0, none⟩ : Addr).add k = ⟨g, k, none⟩ := by
  by_cases h : k = 0
  · subst h; rfl
  simp [Addr.add, h]
end Go.Proofs.Yteopgafbamipeaa.P
-- Written by wip/tools/px.py out of the translation. Lean checks it.
namespace Go.Proofs.Yteopgafbamipeaa.P
open Go.RowKit Go.Proofs.YteopgafbamipeaaW.PrintWords Go.Proofs.YteopgafbamipeaaW.PrintLast Go.Proofs.YteopgafbamipeaaW.PrintMore
attribute [local go_sem] Zb4 Zb6 Zcg Zch Zbs Zbt Zb5 Zb7   -- for this text's walks alone
set_option linter.unusedVariables false
set_option linter.unusedSimpArgs false



def errW : Option Int → Value
 | none => .nilIface
 | some c => .iface 0 (.int .i64 c)
theorem Zau : errW none = .nilIface := rfl
theorem Zav (c : Int) : errW (some c) = .iface 0 (.int .i64 c) := rfl

theorem info3 : (Try.prog.info? 3).map (fun i => (i.zero, i.size, i.bytes)) = some (some (.int .i64 0), 1, 8) := by kernel_rfl
theorem Zcm : (Try.prog.info? 22).map (fun i => (i.zero, i.size, i.bytes)) = some (some (.slice none 0 0), 1, 24) := by kernel_rfl
-- the values' own types
def Za3 (xs : List (List Int)) (i : Int) : (List Int) := xs.getD i.toNat ([] : List Int)
theorem Zc8 {w : World} {A : Option Addr} {n : Nat} {xs : List (List Int)} (h : Kd.C (Kd.slice 3 (Kd.int .i64)) w A n xs) (i : Int) (h0 : 0 ≤ i) (h1 : i < n) : ∃ ad A0 c0, A = some ad ∧ w.cell? (ad.add i.toNat) = some (.slice A0 (Za3 xs i).length c0) ∧ (Za3 xs i).length ≤ c0 ∧ (Kd.int .i64).C w A0 (Za3 xs i).length (Za3 xs i) := by
 obtain ⟨ad, c, e, _, hK, hc0⟩ := Kd.C_get h ([] : List Int) i h0 h1
 have hc : ∀ j u, c[j]? = some u → w.cell? (ad.add (i.toNat * 1 + j)) = some u := hc0
 obtain ⟨A0, c0, rfl, l0, g0⟩ := hK
 exact ⟨ad, A0, c0, e, by have hq := hc 0 _ rfl; rwa [Nat.mul_one, Nat.add_zero] at hq, l0, g0⟩

end Go.Proofs.Yteopgafbamipeaa.P
/- Literals: a row of things that are there already (shared or not), as a row that is read. -/
namespace Go.Proofs.Yteopgafbamipeaa.P
open Go.RowKit Go.Proofs.YteopgafbamipeaaW.PrintWords Go.Proofs.YteopgafbamipeaaW.PrintLast Go.Proofs.YteopgafbamipeaaW.PrintMore
set_option linter.unusedVariables false
set_option linter.unusedSimpArgs false

/-- A block whose cells are a row's elements, is the row. -/
theorem C_block {α : Type} {d : Kd α} {W : World} {g : Nat} {cells : Array Value} {e : Nat} (hb : W.heap[g]? = some (.cells cells e (0, 0))) (xs : List α) (hn : xs.length ≤ 9223372036854775807) (h : Reps (d.K W) d.sz xs cells.toList) :
    d.C W (some ⟨g, 0, none⟩) xs.length xs := by
  refine ⟨rfl, hn, fun _ => ⟨⟨g, 0, none⟩, rfl, fun j p hj => ⟨_, ?_, h.2 j p hj, fun i u hi => ?_⟩⟩⟩
  · obtain ⟨hjl, _⟩ := List.getElem?_eq_some_iff.1 hj
    have hl := h.1
    have : (j + 1) * d.sz ≤ xs.length * d.sz := Nat.mul_le_mul_right _ hjl
    rw [Nat.add_mul] at this
    simp only [Array.length_toList] at hl
    rw [List.length_take, List.length_drop, Array.length_toList, hl]
    omega
  rw [Zcw]
  simp only [World.cell?, hb, Option.isSome_none, Bool.false_eq_true, if_false]
  rw [List.getElem?_take] at hi
  split at hi
  · rw [List.getElem?_drop] at hi
    rw [← Array.getElem?_toList]
    exact hi
  cases hi
theorem Reps.one_ {α : Type} {R : α → List Value → Prop} {size : Nat} {p : α} {c : List Value} (h : R p c) (hc : c.length = size) : Reps R size [p] c := by
  have := (Reps.none R size).snoc h hc
  simpa using this
theorem Reps.cons_ {α : Type} {R : α → List Value → Prop} {size : Nat} {p : α} {ps : List α} {c cs : List Value} (h : R p c) (hc : c.length = size) (hs : Reps R size ps cs) : Reps R size (p :: ps) (c ++ cs) := by
  have := Kd.Zdy (Reps.one_ h hc) hs
  simpa using this
theorem ints_reps (W : World) (xs : List Int) : Reps ((Kd.int .i64).K W) 1 xs (xs.map (Value.int .i64)) := by
  induction xs with
  | nil => exact Reps.none _ _
  | cons x xs ih => exact Reps.cons_ (c := [Value.int .i64 x]) rfl rfl ih
theorem Zb1 {W : World} {g : Nat} {e : Nat} (xs : List Int) (hn : xs.length ≤ 9223372036854775807) (hb : W.heap[g]? = some (.cells (xs.map (Value.int .i64)).toArray e (0, 0))) : (Kd.int .i64).C W (some ⟨g, 0, none⟩) xs.length xs :=
  C_block hb xs hn (by rw [List.toList_toArray]; exact ints_reps W xs)
/-- Each value is a slice that reads as its list. -/
def RowsK {α : Type} (e : Nat) (d : Kd α) (W : World) : List (List α) → List Value → Prop
  | [], [] => True
  | x :: xs, v :: vs => (Kd.slice e d).K W x [v] ∧ RowsK e d W xs vs
  | _, _ => False
theorem rows_reps {α : Type} {d : Kd α} {e : Nat} (W : World) : ∀ (xs : List (List α)) (vs : List Value), RowsK e d W xs vs → Reps ((Kd.slice e d).K W) 1 xs vs
  | [], [], _ => Reps.none _ _
  | x :: xs, v :: vs, h => Reps.cons_ (c := [v]) h.1 rfl (rows_reps W xs vs h.2)
  | [], _ :: _, h => h.elim
  | _ :: _, [], h => h.elim
theorem Zeh {α : Type} {d : Kd α} {e e' : Nat} {W : World} {g : Nat} (xs : List (List α)) (vs : List Value) (hn : xs.length ≤ 9223372036854775807) (hb : W.heap[g]? = some (.cells vs.toArray e' (0, 0))) (h : RowsK e d W xs vs) : (Kd.slice e d).C W (some ⟨g, 0, none⟩) xs.length xs :=
  C_block hb xs hn (by rw [List.toList_toArray]; exact rows_reps W xs vs h)
theorem Zep {α : Type} {d : Kd α} {e : Nat} {W : World} {A : Option Addr} {n c : Nat} {xs : List α} (hn : n = xs.length) (hc : n ≤ c) (h : d.C W A xs.length xs) : (Kd.slice e d).K W xs [.slice A n c] := by
  subst hn
  exact ⟨A, c, rfl, hc, h⟩
/-- A call in a world of which we know enough: the world is a variable from here on. -/
theorem Zbb {F : World → Prop} {P : Program} {f : FuncId} {args : Array Value} {W : World} {Q : Ending → World → Prop} (hF : F W) (h : ∀ W', F W' → Calls P f args W' Q) : Calls P f args W Q := h W hF
theorem heap_alloc_size (W : World) (o : Obj) : (W.alloc o).heap.size = W.heap.size + 1 := by simp
theorem Zcz {W : World} {g : Nat} (o : Obj) (h : g = W.heap.size) : (W.alloc o).heap[g]? = some o := by subst h; exact Ze0 W o
end Go.Proofs.Yteopgafbamipeaa.P
/- The iterators that the program goes over: the values of a slice (slices.Values); what comes, round by round, for every loop body that keeps the rest of memory. -/
namespace Go.Proofs.Yteopgafbamipeaa.P
open Go.RowKit Go.Shelf Go.Proofs.YteopgafbamipeaaW.PrintWords Go.Proofs.YteopgafbamipeaaW.PrintLast Go.Proofs.YteopgafbamipeaaW.PrintMore
set_option linter.unusedVariables false
set_option linter.unusedSimpArgs false
attribute [local go_sem] Oper.semAt_some

/-- Blocks of cells of type t stay as they are. -/
def KeepsTy (t : Nat) (W W' : World) : Prop := ∀ (k : Nat) (cs : Array Value) (fr : Nat × Nat), W.heap[k]? = some (Obj.cells cs t fr) → W'.heap[k]? = some (Obj.cells cs t fr)
theorem KeepsTy.refl (t : Nat) (W : World) : KeepsTy t W W := fun _ _ _ h => h
theorem KeepsTy.trans {t : Nat} {A B C : World} (h : KeepsTy t A B) (k : KeepsTy t B C) : KeepsTy t A C := fun i cs fr hi => k i cs fr (h i cs fr hi)
theorem KeepsTy.grown {t : Nat} {W W' : World} {row : Option Nat} (hg : W.grownBy W' row) (hr : ∀ r, row = some r → ∀ cs fr, W.heap[r]? ≠ some (Obj.cells cs t fr)) : KeepsTy t W W' := fun k cs fr h =>
  (hg.block k (Array.getElem?_eq_some_iff.1 h).1 (fun e => hr k e.symm cs fr h)).trans h
theorem KeepsTy.alloc (t : Nat) (W : World) (o : Obj) : KeepsTy t W (W.alloc o) := KeepsTy.grown (World.grownBy_alloc W o none) (fun r e => by cases e)
theorem KeepsTy.box {t t' B : Nat} {W : World} {v v' : Value} (h : Boxed W B t' v) (hne : t' ≠ t) : KeepsTy t W (W.setCell ⟨B, 0, none⟩ v') :=
  KeepsTy.grown (grownBy_setCell' W B v') (fun r e cs fr hh => by
    cases e
    have := (show W.heap[B]? = _ from h).symm.trans hh
    simp at this
    exact hne this.2.1)
theorem KeepsTy.putObj {t l : Nat} {W : World} {o : Obj} (o' : Obj) (h : W.heap[l]? = some o) (ho : o.isCells = false) : KeepsTy t W (W.putObj l o') :=
  KeepsTy.grown (grownBy_putObj' W l o') (fun r e cs fr hh => by
    cases e
    rw [h] at hh
    cases hh
    cases ho)
/-- A row of elements of another type is written. -/
theorem KeepsTy.row {t e base size n : Nat} {W W' : World} {v : Value} {xs : List Value} (hr : W.ownsRow base e size v n xs) (hne : e ≠ t) (hg : W.grownBy W' v.ownBlock) : KeepsTy t W W' :=
  KeepsTy.grown hg (fun r er cs fr hh => by
    rcases hr.2 with ⟨rfl, _⟩ | ⟨g, cap, cur, rfl, _, hgb, _⟩
    · simp [Value.ownBlock] at er
    obtain rfl : g = r := by simpa [Value.ownBlock] using er
    rw [hgb] at hh
    simp at hh
    exact hne hh.2.1)

/-- What a round that goes on keeps: all that lay below n₀, and the blocks of ranges. -/
def Kp (n₀ : Nat) (W W' : World) : Prop := Below n₀ W W' ∧ KeepsTy 999 W W'
theorem Kp.t {n₀ : Nat} {A B C : World} (h : Kp n₀ A B) (k : Kp n₀ B C) : Kp n₀ A C := ⟨h.1.trans k.1, h.2.trans k.2⟩
theorem Kp.b {n₀ : Nat} {w : World} (hn : n₀ ≤ w.heap.size) (W : World) (l : Nat) (o o' : Obj) (hl : w.heap.size ≤ l) (h : W.heap[l]? = some o) (hc : o.isCells = false) (hw : o.isWalk = false) : Kp n₀ W (W.putObj l o') :=
  ⟨belowK_b hn W l o o' hl h hc hw, KeepsTy.putObj o' h hc⟩

/-! ### slices.Values: the values of a slice -/
set_option maxRecDepth 100000 in
set_option maxHeartbeats 4000000 in
theorem values1_in (F : Fence) (n : Nat) (h1 : F.fn 41) (hro : F.round = none) (hn : 1 ≤ n) (l Bs : Nat) (w : World) (A : Option Addr) (c : Nat) (zs : List Int) (hr : Kd.C (Kd.int .i64) w A zs.length zs) (J Jx : List Int → World → Prop)
    (hY : ∀ pre x W, J pre W → pre.length < zs.length → YieldAt F (n - 1) Try.prog l #[.int .i64 x] W fun e W' =>
      (e = .returned (.bool true) ∧ J (pre ++ [x]) W' ∧ Kp w.heap.size W W') ∨ (e = .returned (.bool false) ∧ Jx (pre ++ [x]) W'))
    (W : World) (hW : Below w.heap.size w W) (hBs : W.cell? ⟨Bs, 0, none⟩ = some (.slice A zs.length c)) (h0 : J [] W) :
    CallsIn F n Try.prog 41 #[.func (.yield l) #[] #[], .pointer (some ⟨Bs, 0, none⟩)] W fun e W' => (∃ v, e = .returned v) ∧
      ((∃ ys, ys = zs ∧ J ys W') ∨ (∃ pre, pre <+: zs ∧ Jx pre W')) := by
  refine callsIn_of_wp Try.func41 rfl h1 ?_ hro
  simp only [Try.ntmps41, List.size_toArray, List.length_cons, List.length_nil, Nat.reduceAdd, Nat.reduceSub, Array.replicate_succ, Array.replicate_zero, List.push_toArray, List.append_toArray, List.nil_append, List.cons_append]
  have hlen : zs.length ≤ 9223372036854775807 := hr.2.1
  gi_wp2
  gi_loopw [7] (fun i7 wr => ∃ (k : Nat), k ≤ zs.length ∧ i7 = .int .i64 k ∧ J (zs.take k) wr ∧ Below w.heap.size w wr)
    (fun i _ => zs.length - (intOf i).toNat)
  case atStart => exact ⟨0, Nat.zero_le _, rfl, by simpa using h0, hW⟩
  case round =>
    obtain ⟨k, hk, rfl, hJs, hb⟩ := hrel
    by_cases hlt : k < zs.length
    rotate_left
    · obtain rfl : k = zs.length := by omega
      gi_wp2
      go_end0
      exact ⟨⟨_, rfl⟩, .inl ⟨zs, rfl, by simpa using hJs⟩⟩

    obtain ⟨ad, rfl, hx0⟩ := Kd.Zbi hr (k : Int) (by omega) (by omega)
    have hx0 := (hb.cell (World.block_lt_of_cell? w _ hx0)).trans hx0
    simp only [Int.toNat_natCast] at hx0
    have htk : zs.take (k + 1) = zs.take k ++ [rd zs (k : Int)] := by
      rw [List.take_succ_eq_append_getElem hlt]
      simp [rd, List.getD_eq_getElem?_getD, List.getElem?_eq_getElem hlt]
    have HT := Zaa.mk htk
    clear htk
    have hy0 := hY (zs.take k) (rd zs (k : Int)) wr hJs (by rw [List.length_take]; omega)
    generalize rd zs (k : Int) = x at *
    obtain ⟨fn, tmps, assign, body, hy, hR⟩ := hy0
    gi_wp2
    refine hR.mono ?_
    rintro e W3 (⟨rfl, hJ3, hk3⟩ | ⟨rfl, hJx3⟩)
    · have hb3 := hb.trans hk3.1
      clear hR hy hx0
      gi_wp2
      go_roundw
      case rel => exact ⟨k + 1, by omega, by first | rfl | go_num, by rw [HT.out]; exact hJ3, hb3⟩
      case measure => simp [intOf]; omega
    gi_wp2
    refine bodyPost_ret (results_none rfl _ _ _) rfl ?_
    exact ⟨⟨_, rfl⟩, .inr ⟨_, by rw [← HT.out]; exact List.take_prefix _ _, hJx3⟩⟩
theorem values_in (F : Fence) (n : Nat) (h : F.fn 34) (hro : F.round = none) (A : Option Addr) (len cap : Nat) (w : World) :
    CallsIn F n Try.prog 34 #[.slice A len cap] w fun e w' => e = .returned (.func (.func 41) #[] #[.pointer (some ⟨w.heap.size, 0, none⟩)]) ∧ w' = w.alloc (.cells #[.slice A len cap] 22) := by
  refine callsIn_of_wp Try.func34 rfl h ?_ hro
  simp only [Try.ntmps34, List.size_toArray, List.length_cons, List.length_nil, Nat.reduceAdd, Nat.reduceSub, Array.replicate_succ, Array.replicate_zero, List.push_toArray, List.append_toArray, List.nil_append, List.cons_append]
  gi_wp2
  go_ret
  exact ⟨rfl, rfl⟩

theorem values_stops (F : Fence) (n : Nat) (h1 : F.fn 41) (hro : F.round = none) (hn : 1 ≤ n) (Bs : Nat) (w0 w : World) (A : Option Addr) (c : Nat) (zs : List Int) (hr : Kd.C (Kd.int .i64) w0 A zs.length zs) (hBs : Bs < w.heap.size) (hw : Below w0.heap.size w0 w)
    (hc : w.cell? ⟨Bs, 0, none⟩ = some (.slice A zs.length c)) :
    SeqStopsK F n Try.prog 41 #[.pointer (some ⟨Bs, 0, none⟩)] (fun x : Int => #[Value.int .i64 x]) (Kp w0.heap.size) (fun ys => ys = zs) (fun pre => pre <+: zs) zs.length w := fun l J Jx W hW _ _ hY h0 =>
  values1_in F n h1 hro hn l Bs w0 A c zs hr J Jx hY W (hw.trans (hW.mono hw.size)) ((hW.cell (p := ⟨Bs, 0, none⟩) hBs).trans hc) h0

/-! ### slices.AppendSeq(nil, seq), slices.Collect -/
theorem infoI : (Try.prog.info? 3).map (fun i => (i.zero, i.size, i.bytes)) = some (some (.int .i64 0), 1, 8) := by kernel_rfl

set_option maxRecDepth 100000 in
set_option maxHeartbeats 4000000 in
theorem appendSeq_in (F : Fence) (n : Nat) (h : F.fn 47) (hro : F.round = none) (hn : 2 ≤ n) (g : Nat) (lb : Array Value) (hFg : F.fn g) (eg : ∀ args w, (callFunc g args).run Try.prog w = .ok (.enter g args) w)
    (n0 : Nat) (S Sp : List Int → Prop) (N : Nat) (hN : N * 8 ≤ 140737488355328) (w0 w : World) (hw : Below w0.heap.size w0 w) (hn0 : n0 ≤ w.heap.size) (hseq : SeqStopsK F (n - 1) Try.prog g lb (fun x : Int => #[Value.int .i64 x]) (Kp n0) S Sp N w0) :
    CallsIn F n Try.prog 47 #[.slice none 0 0, .func (.func g) #[] lb] w fun e w' => ∃ (v : Value) (xs : List Int), e = .returned v ∧ S xs ∧ w'.ownsRow w.heap.size 3 1 v xs.length (xs.map (Value.int .i64)) ∧ Below w.heap.size w w' := by
  have h1 : 1 ≤ n := by omega
  obtain ⟨i0, hi, hz0, hz1, hz2⟩ := info_parts infoI
  refine callsIn_of_wp_marks Try.func47 rfl h ?_ hro
  simp only [Try.ntmps47, List.size_toArray, List.length_cons, List.length_nil, Nat.reduceAdd, Nat.reduceSub, Array.replicate_succ, Array.replicate_zero, List.push_toArray, List.append_toArray, List.nil_append, List.cons_append]
  gi_wp2
  have bO := Boxed.new w 22 (.slice none 0 0)
  have hB0 : Below w.heap.size w (w.alloc (.cells #[.slice none 0 0] 22)) := (Below.refl _ w).alloc (Nat.le_refl _) _
  have hseq' : SeqStopsK F (n - 1) Try.prog g lb (fun x : Int => #[Value.int .i64 x]) (Kp n0) S Sp N (w.alloc (.cells #[.slice none 0 0] 22)) := fun l J Jx W hW a b c d => hseq l J Jx W (hw.trans ((hB0.mono hw.size).trans (hW.mono (by have := hw.size; simp; omega)))) a b c d
  refine wpIn_rangeFunc_ownG hro h1 (gf := g) (lb := lb) rfl hFg eg hseq' Kp.t (Kp.b (by simp; omega)) (Below.refl _ _) (fun _ => rfl)
    (fun pre W => (∃ v, Boxed W w.heap.size 22 v ∧ W.ownsRow w.heap.size 3 1 v pre.length (pre.map (Value.int .i64)) ∧ True) ∧ Below w.heap.size w W)
    (fun _ _ _ => False)
    (OwnFrom.and (Own.from (holdsRow_own w.heap.size w.heap.size 22 3 1 (fun pre : List Int => pre.length) (fun pre => pre.map (Value.int .i64)) (fun _ _ => True)) _) (ownFrom_below (Nat.le_refl _) (by simp)))
    (fun _ _ _ _ _ hs _ _ => hs)
    ⟨⟨_, bO, World.ownsRow_nil _ _ _ _, trivial⟩, hB0⟩
    (fun x => { tmps := #[.slice none 0 0, .func (.func g) #[] lb, .pointer (some ⟨w.heap.size, 0, none⟩), undef, .slice none 0 0, .int .i64 x, .func (.func g) #[] lb, .int .i64 x, undef, undef, undef, undef, undef], defers := [] }) ?assign ?body ?done ?stop
  case assign =>
    intro l x W K hK
    gi_wp2
    exact hK
  case body =>
    rintro l pre x W ⟨⟨v, hv, hrow, _⟩, hB⟩ hlt
    have hc := hv.cell
    gi_wp2_with (gi_at_builtin; refine wpListIn_append_own _ rfl _ _ 22 rfl w.heap.size 3 i0 (.int .i64 0) 1 8 Try.underlying22 hi hz0 hz1 hz2 rfl (by decide) _ _ _ rfl (hrow.alloc _) ⟨W.heap.size, 0, none⟩ 1 1 [.int .i64 x] rfl rfl (cell_one_new _ _ _) (by simp [Value.oneCell']) (by unfold maxLen; omega) (by omega) (by have := hB.size; simp; omega) ?_; intro v' w1 hown' hgrow _; obtain ⟨g', cap', rfl⟩ := ownsRow_succ hown'; have hty := (KeepsTy.alloc 999 W (.cells #[.int .i64 x] 3)).trans (KeepsTy.row (hrow.alloc _) (by decide) hgrow); obtain ⟨hv1, hv2, hr2, hk2, hb2⟩ := hv.appended (by decide) hrow hB.size (Nat.le_refl _) hown' hgrow; have hty2 := hty.trans (KeepsTy.box hv1 (v' := .slice (some ⟨g', 0, none⟩) (pre.length + 1) cap') (by decide)); have hc1 := hv1.cell; have hf1 := hv1.frozen)
    exact ⟨hk2.from _, ⟨hb2.mono hn0, hty2⟩, ⟨_, hv2, by simpa using hr2, trivial⟩, hB.trans hb2⟩
  case done =>
    rintro D ys W hD hS ⟨⟨v, hv, hrow, _⟩, hB⟩ hK
    have hc := hv.cell
    gi_wp2
    refine ⟨by simp, .inl ⟨_, _, rfl, run_takeDeferred hK, ?_⟩⟩
    exact ⟨_, results_tmp rfl _ _ _, v, ys, rfl, hS, ownsRow_putObj hrow _ hK rfl, hB.trans (belowK_b (w := w) (Nat.le_refl _) W D _ _ (by simp at hD; omega) hK rfl rfl)⟩
  case stop =>
    rintro D c pre W _ _ h _
    exact h.elim

set_option maxHeartbeats 1000000 in
theorem collect_in (F : Fence) (n : Nat) (h : F.fn 39) (h2 : F.fn 47) (hro : F.round = none) (hn : 3 ≤ n) (g : Nat) (lb : Array Value) (hFg : F.fn g) (eg : ∀ args w, (callFunc g args).run Try.prog w = .ok (.enter g args) w)
    (n0 : Nat) (S Sp : List Int → Prop) (N : Nat) (hN : N * 8 ≤ 140737488355328) (w0 w : World) (hw : Below w0.heap.size w0 w) (hn0 : n0 ≤ w.heap.size) (hseq : SeqStopsK F (n - 1 - 1) Try.prog g lb (fun x : Int => #[Value.int .i64 x]) (Kp n0) S Sp N w0) :
    CallsIn F n Try.prog 39 #[.func (.func g) #[] lb] w fun e w' => ∃ (v : Value) (xs : List Int), e = .returned v ∧ S xs ∧ w'.ownsRow w.heap.size 3 1 v xs.length (xs.map (Value.int .i64)) ∧ Below w.heap.size w w' := by
  have h1 : 1 ≤ n := by omega
  refine callsIn_of_wp Try.func39 rfl h ?_ hro
  simp only [Try.ntmps39, List.size_toArray, List.length_cons, List.length_nil, Nat.reduceAdd, Nat.reduceSub, Array.replicate_succ, Array.replicate_zero, List.push_toArray, List.append_toArray, List.nil_append, List.cons_append]
  have cA := fun W (hw : Below w0.heap.size w0 W) hn0 => appendSeq_in F (n - 1) h2 hro (by omega) g lb hFg eg n0 S Sp N hN w0 W hw hn0 hseq
  gi_wp2_with (gi_at_call 47; refine (cA _ hw hn0).mono ?_; rintro e w' ⟨v, xs, rfl, hS, hrow, hb⟩)
  go_ret
  exact ⟨v, xs, rfl, hS, hrow, hb⟩
end Go.Proofs.Yteopgafbamipeaa.P
/- The library's sort and its like, laid at this program (the shelf's contracts). -/
namespace Go.Proofs.Yteopgafbamipeaa.P
open Go.Shelf Go.Proofs
/-- slices.Sort   int int : function 40. -/
def lsort_ren : Go.Shelf.Ren := ⟨fun | 5 => 40 | 7 => 48 | 8 => 49 | 10 => 52 | 11 => 53 | 12 => 54 | 13 => 55 | 14 => 56 | 15 => 57 | 16 => 58 | 17 => 59 | 18 => 60 | 19 => 61 | 20 => 62 | 30 => 71 | 31 => 72 | 32 => 73 | 33 => 74 | 34 => 75 | 35 => 51 | 40 => 79 | n => n, fun | 0 => 0 | 3 => 3 | 4 => 4 | 5 => 5 | 9 => 9 | 22 => 22 | 23 => 22 | 25 => 3 | 32 => 61 | 35 => 64 | 36 => 65 | 41 => 70 | 44 => 73 | 46 => 75 | 53 => 81 | 57 => 85 | 63 => 89 | 64 => 90 | n => n, fun n => n⟩
theorem lsort : SlLaysM.n5 Try.prog lsort_ren := {
  mixed := by kernel_rfl,
  f5 := ⟨Try.f40.name, by decide, Try.func40.trans (congrArg some (by kernel_rfl))⟩,
  f7 := ⟨Try.f48.name, by decide, Try.func48.trans (congrArg some (by kernel_rfl))⟩,
  f8 := Try.func49.trans (congrArg some (by kernel_rfl)),
  f10 := ⟨Try.f52.name, by decide, Try.func52.trans (congrArg some (by kernel_rfl))⟩,
  f11 := ⟨Try.f53.name, by decide, Try.func53.trans (congrArg some (by kernel_rfl))⟩,
  f12 := ⟨Try.f54.name, by decide, Try.func54.trans (congrArg some (by kernel_rfl))⟩,
  f13 := ⟨Try.f55.name, by decide, Try.func55.trans (congrArg some (by kernel_rfl))⟩,
  f14 := ⟨Try.f56.name, by decide, Try.func56.trans (congrArg some (by kernel_rfl))⟩,
  f15 := ⟨Try.f57.name, by decide, Try.func57.trans (congrArg some (by kernel_rfl))⟩,
  f16 := ⟨Try.f58.name, by decide, Try.func58.trans (congrArg some (by kernel_rfl))⟩,
  f17 := ⟨Try.f59.name, by decide, Try.func59.trans (congrArg some (by kernel_rfl))⟩,
  f18 := ⟨Try.f60.name, by decide, Try.func60.trans (congrArg some (by kernel_rfl))⟩,
  f19 := Try.func61.trans (congrArg some (by kernel_rfl)),
  f20 := Try.func62.trans (congrArg some (by kernel_rfl)),
  f30 := ⟨Try.f71.name, by decide, Try.func71.trans (congrArg some (by kernel_rfl))⟩,
  f31 := Try.func72.trans (congrArg some (by kernel_rfl)),
  f32 := Try.func73.trans (congrArg some (by kernel_rfl)),
  f33 := ⟨Try.f74.name, by decide, Try.func74.trans (congrArg some (by kernel_rfl))⟩,
  f34 := ⟨Try.f75.name, by decide, Try.func75.trans (congrArg some (by kernel_rfl))⟩,
  f35 := ⟨Try.f51.name, by decide, Try.func51.trans (congrArg some (by kernel_rfl))⟩,
  f40 := ⟨Try.f79.name, by decide, Try.func79.trans (congrArg some (by kernel_rfl))⟩,
  t0 := Try.underlying0,
  a0 := Try.isAgg0,
  z0 := Try.sizeOf0,
  v0 := Try.zeroValue0,
  t3 := Try.underlying3,
  a3 := Try.isAgg3,
  z3 := Try.sizeOf3,
  v3 := Try.zeroValue3,
  t4 := Try.underlying4,
  a4 := Try.isAgg4,
  z4 := Try.sizeOf4,
  v4 := Try.zeroValue4,
  t5 := Try.underlying5,
  a5 := Try.isAgg5,
  z5 := Try.sizeOf5,
  v5 := Try.zeroValue5,
  t9 := Try.underlying9,
  a9 := Try.isAgg9,
  z9 := Try.sizeOf9,
  v9 := Try.zeroValue9,
  t22 := Try.underlying22,
  a22 := Try.isAgg22,
  z22 := Try.sizeOf22,
  v22 := Try.zeroValue22,
  t23 := Try.underlying22,
  a23 := Try.isAgg22,
  z23 := Try.sizeOf22,
  v23 := Try.zeroValue22,
  t25 := Try.underlying3,
  a25 := Try.isAgg3,
  z25 := Try.sizeOf3,
  v25 := Try.zeroValue3,
  t32 := Try.underlying61,
  a32 := Try.isAgg61,
  z32 := Try.sizeOf61,
  v32 := Try.zeroValue61,
  t35 := Try.underlying64,
  a35 := Try.isAgg64,
  z35 := Try.sizeOf64,
  v35 := Try.zeroValue64,
  t36 := Try.underlying65,
  a36 := Try.isAgg65,
  z36 := Try.sizeOf65,
  v36 := Try.zeroValue65,
  t41 := Try.underlying70,
  a41 := Try.isAgg70,
  z41 := Try.sizeOf70,
  v41 := Try.zeroValue70,
  t44 := Try.underlying73,
  a44 := Try.isAgg73,
  z44 := Try.sizeOf73,
  v44 := Try.zeroValue73,
  t46 := Try.underlying75,
  a46 := Try.isAgg75,
  z46 := Try.sizeOf75,
  v46 := Try.zeroValue75,
  t53 := Try.underlying81,
  a53 := Try.isAgg81,
  z53 := Try.sizeOf81,
  v53 := Try.zeroValue81,
  t57 := Try.underlying85,
  a57 := Try.isAgg85,
  z57 := Try.sizeOf85,
  v57 := Try.zeroValue85,
  t63 := Try.underlying89,
  a63 := Try.isAgg89,
  z63 := Try.sizeOf89,
  v63 := Try.zeroValue89,
  t64 := Try.underlying90,
  a64 := Try.isAgg90,
  z64 := Try.sizeOf90,
  v64 := Try.zeroValue90 }
/-- slices.SortFunc     int   int : function 43. -/
def lsortL_ren : Go.Shelf.Ren := ⟨fun | 6 => 43 | 14 => 50 | 15 => 49 | 20 => 63 | 21 => 64 | 22 => 65 | 23 => 66 | 24 => 67 | 25 => 68 | 26 => 69 | 27 => 70 | 28 => 61 | 29 => 62 | 46 => 76 | 47 => 72 | 48 => 73 | 49 => 77 | 50 => 78 | 57 => 80 | n => n, fun | 0 => 0 | 3 => 3 | 4 => 4 | 5 => 5 | 9 => 9 | 22 => 32 | 24 => 22 | 25 => 51 | 39 => 61 | 45 => 64 | 46 => 65 | 50 => 70 | 53 => 73 | 55 => 75 | 66 => 81 | 70 => 85 | 76 => 89 | 77 => 90 | n => n, fun n => n⟩
theorem lsortL : SlLaysF.n6 Try.prog lsortL_ren := {
  mixed := by kernel_rfl,
  f6 := ⟨Try.f43.name, by decide, Try.func43.trans (congrArg some (by kernel_rfl))⟩,
  f14 := ⟨Try.f50.name, by decide, Try.func50.trans (congrArg some (by kernel_rfl))⟩,
  f15 := Try.func49.trans (congrArg some (by kernel_rfl)),
  f20 := ⟨Try.f63.name, by decide, Try.func63.trans (congrArg some (by kernel_rfl))⟩,
  f21 := ⟨Try.f64.name, by decide, Try.func64.trans (congrArg some (by kernel_rfl))⟩,
  f22 := ⟨Try.f65.name, by decide, Try.func65.trans (congrArg some (by kernel_rfl))⟩,
  f23 := ⟨Try.f66.name, by decide, Try.func66.trans (congrArg some (by kernel_rfl))⟩,
  f24 := ⟨Try.f67.name, by decide, Try.func67.trans (congrArg some (by kernel_rfl))⟩,
  f25 := ⟨Try.f68.name, by decide, Try.func68.trans (congrArg some (by kernel_rfl))⟩,
  f26 := ⟨Try.f69.name, by decide, Try.func69.trans (congrArg some (by kernel_rfl))⟩,
  f27 := ⟨Try.f70.name, by decide, Try.func70.trans (congrArg some (by kernel_rfl))⟩,
  f28 := Try.func61.trans (congrArg some (by kernel_rfl)),
  f29 := Try.func62.trans (congrArg some (by kernel_rfl)),
  f46 := ⟨Try.f76.name, by decide, Try.func76.trans (congrArg some (by kernel_rfl))⟩,
  f47 := Try.func72.trans (congrArg some (by kernel_rfl)),
  f48 := Try.func73.trans (congrArg some (by kernel_rfl)),
  f49 := ⟨Try.f77.name, by decide, Try.func77.trans (congrArg some (by kernel_rfl))⟩,
  f50 := ⟨Try.f78.name, by decide, Try.func78.trans (congrArg some (by kernel_rfl))⟩,
  f57 := ⟨Try.f80.name, by decide, Try.func80.trans (congrArg some (by kernel_rfl))⟩,
  t0 := Try.underlying0,
  a0 := Try.isAgg0,
  z0 := Try.sizeOf0,
  v0 := Try.zeroValue0,
  t3 := Try.underlying3,
  a3 := Try.isAgg3,
  z3 := Try.sizeOf3,
  v3 := Try.zeroValue3,
  t4 := Try.underlying4,
  a4 := Try.isAgg4,
  z4 := Try.sizeOf4,
  v4 := Try.zeroValue4,
  t5 := Try.underlying5,
  a5 := Try.isAgg5,
  z5 := Try.sizeOf5,
  v5 := Try.zeroValue5,
  t9 := Try.underlying9,
  a9 := Try.isAgg9,
  z9 := Try.sizeOf9,
  v9 := Try.zeroValue9,
  t22 := Try.underlying32,
  a22 := Try.isAgg32,
  z22 := Try.sizeOf32,
  v22 := Try.zeroValue32,
  a24 := Try.isAgg22,
  z24 := Try.sizeOf22,
  t25 := Try.underlying51,
  a25 := Try.isAgg51,
  z25 := Try.sizeOf51,
  v25 := Try.zeroValue51,
  t39 := Try.underlying61,
  a39 := Try.isAgg61,
  z39 := Try.sizeOf61,
  v39 := Try.zeroValue61,
  t45 := Try.underlying64,
  a45 := Try.isAgg64,
  z45 := Try.sizeOf64,
  v45 := Try.zeroValue64,
  t46 := Try.underlying65,
  a46 := Try.isAgg65,
  z46 := Try.sizeOf65,
  v46 := Try.zeroValue65,
  t50 := Try.underlying70,
  a50 := Try.isAgg70,
  z50 := Try.sizeOf70,
  v50 := Try.zeroValue70,
  t53 := Try.underlying73,
  a53 := Try.isAgg73,
  z53 := Try.sizeOf73,
  v53 := Try.zeroValue73,
  t55 := Try.underlying75,
  a55 := Try.isAgg75,
  z55 := Try.sizeOf75,
  v55 := Try.zeroValue75,
  t66 := Try.underlying81,
  a66 := Try.isAgg81,
  z66 := Try.sizeOf81,
  v66 := Try.zeroValue81,
  t70 := Try.underlying85,
  a70 := Try.isAgg85,
  z70 := Try.sizeOf85,
  v70 := Try.zeroValue85,
  t76 := Try.underlying89,
  a76 := Try.isAgg89,
  z76 := Try.sizeOf89,
  v76 := Try.zeroValue89,
  t77 := Try.underlying90,
  a77 := Try.isAgg90,
  z77 := Try.sizeOf90,
  v77 := Try.zeroValue90 }
end Go.Proofs.Yteopgafbamipeaa.P
/- slices.Sorted over an iterator (the seat that has no slices.ContainsFunc). -/
namespace Go.Proofs.Yteopgafbamipeaa.P
open Go.RowKit Go.Shelf Go.Proofs.YteopgafbamipeaaW.PrintWords Go.Proofs.YteopgafbamipeaaW.PrintLast Go.Proofs.YteopgafbamipeaaW.PrintMore
set_option linter.unusedVariables false
set_option linter.unusedSimpArgs false

/-- A list in order (by insertion: the kernel can reckon it). -/
def insI (x : Int) : List Int → List Int
  | [] => [x]
  | y :: ys => if x ≤ y then x :: y :: ys else y :: insI x ys
def sortI : List Int → List Int
  | [] => []
  | x :: xs => insI x (sortI xs)
theorem Ze5 (x : Int) : ∀ l, List.Perm (insI x l) (x :: l)
  | [] => List.Perm.refl _
  | y :: ys => by
    unfold insI
    split
    · exact List.Perm.refl _
    exact ((Ze5 x ys).cons y).trans (List.Perm.swap x y ys)
theorem Zc0 : ∀ l, List.Perm (sortI l) l
  | [] => List.Perm.refl _
  | x :: xs => (Ze5 x _).trans ((Zc0 xs).cons x)
theorem insI_le (x : Int) : ∀ l, List.Pairwise (fun a b : Int => a ≤ b) l → List.Pairwise (fun a b : Int => a ≤ b) (insI x l)
  | [], _ => by simp [insI]
  | y :: ys, h => by
    unfold insI
    split
    · rename_i hxy
      refine List.pairwise_cons.2 ⟨fun z hz => ?_, h⟩
      rcases List.mem_cons.1 hz with rfl | hz
      · exact hxy
      have := (List.pairwise_cons.1 h).1 z hz
      omega
    rename_i hxy
    refine List.pairwise_cons.2 ⟨fun z hz => ?_, insI_le x ys (List.pairwise_cons.1 h).2⟩
    rcases List.mem_cons.1 ((Ze5 x ys).mem_iff.1 hz) with rfl | hz
    · omega
    exact (List.pairwise_cons.1 h).1 z hz
theorem sortI_le : ∀ l, List.Pairwise (fun a b : Int => a ≤ b) (sortI l)
  | [] => List.Pairwise.nil
  | x :: xs => insI_le x _ (sortI_le xs)
theorem Zfc (l : List Int) : (l.mergeSort fun x y => decide (x ≤ y)) = sortI l := by
  refine List.Perm.eq_of_pairwise (le := fun a b : Int => a ≤ b) (fun a b _ _ h1 h2 => by omega) ?_ (sortI_le l) ((List.mergeSort_perm l _).trans (Zc0 l).symm)
  have := List.pairwise_mergeSort (le := fun x y : Int => decide (x ≤ y)) (fun a b c h1 h2 => by simp at *; omega) (fun a b => by simp; omega) l
  exact this.imp (fun h => by simpa using h)
theorem Zdi (l : List Int) : (sortI l).length = l.length := (Zc0 l).length_eq

set_option maxHeartbeats 2000000 in
theorem sorted_int (v : Value) (xs : List Int) (w0 w : World) (hx : xs.length < 4611686018427387904) (hS : w0.heap.size ≤ w.heap.size) (hrow : w.ownsRow w0.heap.size 3 1 v xs.length (xs.map (Value.int .i64))) (hB : Below w0.heap.size w0 w) :
    Calls Try.prog 40 #[v] w fun e w' => e = .returned (.tuple #[]) ∧ w'.ownsRow w0.heap.size 3 1 v xs.length ((sortI xs).map (Value.int .i64)) ∧ Below w0.heap.size w0 w' := by
  rcases hrow.2 with ⟨rfl, h0⟩ | ⟨g, cap, cur, rfl, hg, hb, hn, hcap, hsz, htk⟩
  · have hx : xs = [] := List.length_eq_zero_iff.1 h0
    subst hx
    refine (AnyM.slices_Sort_int_none lsort none 0 w).mono ?_
    rintro e w' ⟨rfl, rfl⟩
    exact ⟨rfl, hrow, hB⟩
  have hlt : g < w.heap.size := (Array.getElem?_eq_some_iff.1 hb).1
  refine (AnyM.slices_Sort_int lsort g 0 cap xs w (holds_of_blockI hb (by simpa using htk)) hlt hx).mono ?_
  rintro e w' ⟨rfl, n, os, rfl⟩
  rw [Zfc]
  refine ⟨rfl, ownsRow_sortedI (Zdi xs) hg hb hn hcap hsz, ?_⟩
  exact hB.grown (grownBy_sortedI _) hS (fun k e => by cases e; exact hg)

set_option maxHeartbeats 1000000 in
theorem sorted_calls (g : Nat) (lb : Array Value) (eg : ∀ args w, (callFunc g args).run Try.prog w = .ok (.enter g args) w) (n0 : Nat) (S Sp : List Int → Prop) (N : Nat) (hN : N * 8 ≤ 140737488355328) (hSN : ∀ xs, S xs → xs.length ≤ N) (w0 w : World) (hw : Below w0.heap.size w0 w) (hn0 : n0 ≤ w.heap.size)
    (hseq : SeqStopsK Fence.wide 7 Try.prog g lb (fun x : Int => #[Value.int .i64 x]) (Kp n0) S Sp N w0) :
    Calls Try.prog 33 #[.func (.func g) #[] lb] w fun e w' => ∃ (v : Value) (xs : List Int), e = .returned v ∧ S xs ∧ w'.ownsRow w.heap.size 3 1 v xs.length ((sortI xs).map (Value.int .i64)) ∧ Below w.heap.size w w' := by
  have cB := callsIn_wide.1 (collect_in Fence.wide 9 trivial trivial rfl (by omega) g lb trivial eg n0 S Sp N hN w0 w hw hn0 hseq)
  go_enter Try.func33, Try.ntmps33
  go_wp2_with (first | (go_at_call 39; refine cB.mono ?_; rintro e w' ⟨v, xs, rfl, hS, hrow, hb⟩) | (go_at_call 40; refine (sorted_int v xs w w' (by have := hSN xs hS; omega) hb.size hrow hb).mono ?_; rintro e w'' ⟨rfl, hrow2, hb2⟩))
  go_ret
  exact ⟨v, xs, rfl, hS, hrow2, hb2⟩
end Go.Proofs.Yteopgafbamipeaa.P
/- same.Right: are all numbers there, each once? -/
namespace Go.Proofs.Yteopgafbamipeaa.P
open Go.RowKit Go.Shelf Go.Proofs.YteopgafbamipeaaW.PrintWords Go.Proofs.YteopgafbamipeaaW.PrintLast Go.Proofs.YteopgafbamipeaaW.PrintMore
set_option linter.unusedVariables false
set_option linter.unusedSimpArgs false
/-- From n on each stands where it is told. -/
def idB : Nat → List Int → Bool
  | _, [] => true
  | n, v :: vs => decide ((n : Int) = v) && idB (n + 1) vs
def Za2.f (l0 : List Int) : Option Bool := if l0.length ≤ 1000000 then some (idB 0 (sortI l0)) else none
theorem row_ofS (W : World) (base : Nat) (v : Value) (xs : List Int) {n : Nat} (hn : xs.length = n) (h : W.ownsRow base 3 1 v n (xs.map (Value.int .i64))) : Kd.R (Kd.int .i64) 3 W base (fun _ => True) v xs := by
  subst hn
  exact Kd.R_of_own (enc := Value.int .i64) h (fun _ _ => trivial)
set_option maxRecDepth 100000 in
set_option maxHeartbeats 2000000 in
theorem Za2.calls (A0 : Option Addr) (c0 : Nat) (l0 : List Int) (r : Bool) (w : World) (hr0 : Kd.C (Kd.int .i64) w A0 l0.length l0) (hc0 : l0.length ≤ c0) (h : Za2.f l0 = some r) :
    Calls Try.prog 27 #[.slice A0 l0.length c0] w fun e w' => e = .returned (.bool r) ∧ Below w.heap.size w w' := by
  have HR := Zaa.mk hr0
  clear hr0
  have hlen : l0.length ≤ 9223372036854775807 := HR.out.2.1
  have cV := fun (W : World) => callsIn_wide.1 (values_in Fence.wide 9 trivial rfl A0 l0.length c0 W)
  unfold Za2.f at h
  split at h
  case isFalse => cases h
  case isTrue hbig =>
    have hr := Zaa.mk (Option.some.inj h)
    clear h
    have cS := sorted_calls 41 #[.pointer (some ⟨w.heap.size, 0, none⟩)] (enters_of Try.func41 (by kernel_rfl) rfl) w.heap.size _ _ l0.length (by omega) (fun xs e => by rw [e]; exact Nat.le_refl _)
      (w.alloc (.cells #[.slice A0 l0.length c0] 22)) (w.alloc (.cells #[.slice A0 l0.length c0] 22)) (Below.refl _ _) (by simp)
      (values_stops Fence.wide 7 trivial rfl (by omega) w.heap.size w _ A0 c0 l0 HR.out (by simp) ((Below.refl _ w).alloc (by simp) _) ((Boxed.new w 22 (.slice A0 l0.length c0)).cell))
    have hsl := Zaa.mk (Zdi l0)
    have HBG := Zaa.mk hbig
    clear hbig
    obtain ⟨wo, rfl⟩ : ∃ wo : World, wo = w := ⟨_, rfl⟩
    go_enter Try.func27, Try.ntmps27
    go_wp2_with (first | (go_at_call 34; refine (cV _).mono ?_; rintro e w' ⟨rfl, rfl⟩) | (go_at_call 33; go_loud (refine cS.mono ?_; rintro e W1 ⟨v, xs, rfl, rfl, hrow, hb⟩; obtain ⟨A1, c1, rfl, hcl1, hC1⟩ := Kd.Zc3 (row_ofS _ _ _ _ hsl.out hrow))))
    have HBl0 := Zaa.mk (Zan (Zac (Below.refl _ wo) (.cells #[.slice A0 xs.length c0] 22 (0, 0))) hb)
    have HS := Zaa.mk (show (sortI xs).length ≤ 1000000 by rw [hsl.out]; exact HBG.out)
    clear hrow hb
    generalize sortI xs = s at hr hcl1 hC1 HS ⊢
    have HC0 := Zaa.mk hC1
    clear hC1
    go_loopg [4, 5, 11] s.length (fun gg s4 s5 s11 wl => ∃ n : Nat, s11 = .int .i64 n ∧ n ≤ s.length ∧ s.length - n ≤ gg ∧ Zaa (idB n (s.drop n) = r) ∧ Zaa (Kd.C (Kd.int .i64) wl A1 s.length s) ∧ Zaa (Below wo.heap.size wo wl))
    case atStart => exact ⟨0, rfl, by omega, by omega, ⟨by simpa using hr.out⟩, HC0, HBl0⟩
    case round =>
      obtain ⟨n, rfl, hn, hgg, HI, HC, HBl⟩ := hrel
      have hi := HI.out
      by_cases hlt : n < s.length
      rotate_left
      · rw [List.drop_eq_nil_iff.2 (by omega)] at hi
        unfold idB at hi
        subst hi
        have hltz : ¬ (n : Int) < (s.length : Int) := by omega
        have d1 : decide ((n : Int) < (s.length : Int)) = false := decide_eq_false hltz
        clear hlt
        go_wp2
        go_ret
        exact ⟨rfl, HBl.out⟩
      have hltz : (n : Int) < (s.length : Int) := by omega
      obtain ⟨ad, rfl, hx⟩ := Kd.Zbi HC.out (n : Int) (by omega) hltz
      have ev : Go.Proofs.YteopgafbamipeaaW.PrintWords.rd s (n : Int) = s[n] := by simp [Go.Proofs.YteopgafbamipeaaW.PrintWords.rd, List.getD_eq_getElem?_getD, List.getElem?_eq_getElem hlt]
      rw [ev, Int.toNat_natCast] at hx
      rw [List.drop_eq_getElem_cons hlt] at hi
      unfold idB at hi
      clear ev
      generalize s[n] = v at hx hi
      by_cases hv : (n : Int) = v
      rotate_left
      · have hz : ((n : Int) != v) = true := by simp [hv]
        rw [decide_eq_false hv, Bool.false_and] at hi
        subst hi
        clear hv
        go_wp2
        go_ret
        exact ⟨rfl, HBl.out⟩
      have hz : ((n : Int) != v) = false := by simp [hv]
      rw [decide_eq_true hv, Bool.true_and] at hi
      have HI' := Zaa.mk hi
      clear hi hv
      go_wp2
      go_roundg (s.length - (n + 1))
      case measure => omega
      case rel => exact ⟨n + 1, by rw [show wrap64 ((n : Int) + 1) = ((n + 1 : Nat) : Int) from by have := HS.out; unfold wrap64; omega], by omega, Nat.le_refl _, HI', HC, HBl⟩
end Go.Proofs.Yteopgafbamipeaa.P
/- Changes of places as lists of whole numbers: one behind another one, the way back, values in other places. -/
namespace Go.Proofs.Yteopgafbamipeaa.P
namespace G
open Go.Proofs.YteopgafbamipeaaW.PrintWords
set_option linter.unusedVariables false
set_option linter.unusedSimpArgs false
theorem Zdx : ∀ (l m : List Int), l.Nodup → (∀ x ∈ l, x ∈ m) → m.length ≤ l.length → List.Perm l m
  | [], m, _, _, hl => by
    have : m = [] := List.length_eq_zero_iff.1 (by simpa using hl)
    subst this; exact List.Perm.refl _
  | x :: l, m, hd, hs, hl => by
    have hx : x ∈ m := hs x (by simp)
    have hd' := List.nodup_cons.1 hd
    have h1 : List.Perm m (x :: m.erase x) := List.perm_cons_erase hx
    have h2 := Zdx l (m.erase x) hd'.2 (fun y hy => by
      have hne : y ≠ x := fun e => hd'.1 (e ▸ hy)
      exact (List.mem_erase_of_ne hne).2 (hs y (by simp [hy]))) (by
      rw [List.length_erase_of_mem hx]; simp at hl; omega)
    exact (h2.cons x).trans h1.symm
def ids (n : Nat) : List Int := (List.range n).map Int.ofNat
theorem Zbr (n : Nat) : (ids n).length = n := by simp [ids]
theorem Zfb {n : Nat} {x : Int} : x ∈ ids n ↔ 0 ≤ x ∧ x < n := by
  unfold ids
  rw [List.mem_map]
  constructor
  · rintro ⟨i, hi, rfl⟩
    have := List.mem_range.1 hi
    exact ⟨Int.natCast_nonneg i, by simpa using this⟩
  intro h
  exact ⟨x.toNat, List.mem_range.2 (by omega), by simp; omega⟩
theorem ids_nodup (n : Nat) : (ids n).Nodup := by
  unfold ids
  refine (List.pairwise_map).2 ?_
  exact List.Pairwise.imp (fun {a b} h e => h (Int.ofNat.inj e)) (List.nodup_range (n := n))
def Rt (p : List Int) : Prop := ∀ i : Nat, i < p.length → (i : Int) ∈ p
theorem Rt.perm {p : List Int} (h : Rt p) : List.Perm (ids p.length) p :=
  Zdx _ _ (ids_nodup _) (fun x hx => by
    obtain ⟨h1, h2⟩ := Zfb.1 hx
    have := h x.toNat (by omega)
    rwa [show ((x.toNat : Nat) : Int) = x from by omega] at this) (by rw [Zbr]; exact Nat.le_refl _)
theorem Rt.nodup {p : List Int} (h : Rt p) : p.Nodup := h.perm.nodup_iff.1 (ids_nodup _)
theorem Rt.mem {p : List Int} (h : Rt p) (x : Int) : x ∈ p ↔ 0 ≤ x ∧ x < p.length := (h.perm.mem_iff).symm.trans Zfb
theorem Rt_of {p : List Int} (hd : p.Nodup) (h : ∀ x ∈ p, 0 ≤ x ∧ x < p.length) : Rt p := fun i hi => by
  have := Zdx p (ids p.length) hd (fun x hx => Zfb.2 (h x hx)) (by rw [Zbr]; exact Nat.le_refl _)
  exact this.mem_iff.2 (Zfb.2 ⟨by omega, by omega⟩)

theorem Zfd {xs : List Int} {i : Nat} (h : i < xs.length) : rd xs (i : Int) = xs[i] := by
  simp [rd, List.getD_eq_getElem?_getD, List.getElem?_eq_getElem h]
theorem rd_mem {xs : List Int} {i : Int} (h0 : 0 ≤ i) (h : i < xs.length) : rd xs i ∈ xs := by
  obtain ⟨k, rfl⟩ : ∃ k : Nat, (k : Int) = i := ⟨i.toNat, by omega⟩
  rw [Zfd (by omega)]
  exact List.getElem_mem _
theorem Zel {a b : List Int} (hl : a.length = b.length) (h : ∀ i : Nat, i < a.length → rd a i = rd b i) : a = b := by
  refine List.ext_getElem hl fun i h1 h2 => ?_
  have := h i h1
  rwa [Zfd h1, Zfd h2] at this
theorem nodup_rd {p : List Int} (hd : p.Nodup) {i j : Nat} (hi : i < p.length) (hj : j < p.length) (h : rd p i = rd p j) : i = j := by
  rw [Zfd hi, Zfd hj] at h
  have hw := List.pairwise_iff_getElem.1 hd
  rcases Nat.lt_trichotomy i j with g | g | g
  · exact absurd h (hw i j hi hj g)
  · exact g
  exact absurd h.symm (hw j i hj hi g)
theorem Zf0 {p : List Int} {x : Int} (h : x ∈ p) : ∃ i : Nat, i < p.length ∧ rd p i = x := by
  obtain ⟨i, hi, rfl⟩ := List.mem_iff_getElem.1 h
  exact ⟨i, hi, Zfd hi⟩
/-- one change behind another one. -/
def comp (p q : List Int) : List Int := p.map (rd q)
theorem Zb (p q : List Int) : (comp p q).length = p.length := by simp [comp]
theorem Zb0 {p q : List Int} {i : Nat} (h : i < p.length) : rd (comp p q) i = rd q (rd p i) := by
  rw [Zfd (by rw [Zb]; exact h), Zfd h]
  simp [comp]
theorem Rt.rng {p : List Int} (h : Rt p) {i : Nat} (hi : i < p.length) : 0 ≤ rd p i ∧ rd p i < p.length :=
  (h.mem _).1 (rd_mem (by omega) (by omega))
theorem Ze1 {p q : List Int} (hp : Rt p) (hq : Rt q) (hl : p.length = q.length) : Rt (comp p q) := by
  intro i hi
  rw [Zb] at hi
  obtain ⟨j, hj, hji⟩ := Zf0 (hq i (by omega))
  obtain ⟨k, hk, hkj⟩ := Zf0 (hp j (by omega))
  have := rd_mem (xs := comp p q) (i := (k : Int)) (by omega) (by rw [Zb]; omega)
  rwa [Zb0 hk, hkj, hji] at this
theorem comp_assoc {p q r : List Int} (hp : Rt p) (hl : p.length = q.length) : comp (comp p q) r = comp p (comp q r) := by
  refine Zel (by simp [Zb]) fun i hi => ?_
  rw [Zb, Zb] at hi
  rw [Zb0 (by rw [Zb]; exact hi), Zb0 hi, Zb0 hi]
  obtain ⟨h0, h1⟩ := hp.rng hi
  obtain ⟨k, hk⟩ : ∃ k : Nat, (k : Int) = rd p i := ⟨(rd p i).toNat, by omega⟩
  rw [← hk, Zb0 (by omega)]
theorem ids_Rt (n : Nat) : Rt (ids n) := fun i hi => Zfb.2 (by rw [Zbr] at hi; omega)
theorem Zdf {n i : Nat} (h : i < n) : rd (ids n) i = i := by
  rw [Zfd (by rw [Zbr]; exact h)]
  simp [ids]
theorem ids_comp {q : List Int} {n : Nat} (h : q.length = n) : comp (ids n) q = q := by
  refine Zel (by rw [Zb, Zbr, h]) fun i hi => ?_
  rw [Zb, Zbr] at hi
  rw [Zb0 (by rw [Zbr]; exact hi), Zdf hi]
theorem comp_ids {q : List Int} {n : Nat} (hq : Rt q) (h : q.length = n) : comp q (ids n) = q := by
  refine Zel (by rw [Zb]) fun i hi => ?_
  rw [Zb] at hi
  rw [Zb0 hi]
  obtain ⟨h0, h1⟩ := hq.rng hi
  obtain ⟨k, hk⟩ : ∃ k : Nat, (k : Int) = rd q i := ⟨(rd q i).toNat, by omega⟩
  rw [← hk, Zdf (by omega)]
/-- values in other places: what stands at p[v] is a's at v. -/
def Sc (a p r : List Int) : Prop := r.length = p.length ∧ ∀ v : Nat, v < p.length → rd r (rd p v) = rd a v
theorem Sc.uniq {a p r s : List Int} (hp : Rt p) (hr : Sc a p r) (hs : Sc a p s) : r = s := by
  refine Zel (hr.1.trans hs.1.symm) fun i hi => ?_
  obtain ⟨v, hv, hvi⟩ := Zf0 (hp i (by have := hr.1; omega))
  rw [← hvi, hr.2 v hv, hs.2 v hv]
/-- so far as the first n places are told. -/
def ScN (n : Nat) (a p r : List Int) : Prop := r.length = p.length ∧ ∀ v : Nat, v < n → rd r (rd p v) = rd a v
theorem rd_set {r : List Int} {i j : Int} {x : Int} (hi : 0 ≤ i) (hi' : i < r.length) (hj : 0 ≤ j) : rd (r.set i.toNat x) j = if i = j then x else rd r j := by
  unfold rd
  rw [List.getD_eq_getElem?_getD, List.getElem?_set]
  by_cases h : i = j
  rotate_left
  · rw [if_neg (by omega), if_neg h, List.getD_eq_getElem?_getD]
  subst h
  rw [if_pos rfl, if_pos rfl, if_pos (by omega)]
  rfl
theorem ScN.step {n : Nat} {a p r : List Int} (hp : Rt p) (hn : n < p.length) (h : ScN n a p r) : ScN (n + 1) a p (r.set (rd p n).toNat (rd a n)) := by
  refine ⟨by rw [List.length_set]; exact h.1, fun v hv => ?_⟩
  obtain ⟨h0, h1⟩ := hp.rng hn
  obtain ⟨v0, v1⟩ := hp.rng (i := v) (by omega)
  rw [rd_set h0 (by have := h.1; omega) v0]
  split
  · rename_i e
    have := nodup_rd hp.nodup hn (by omega) e
    rw [this]
  rename_i e
  have : v ≠ n := fun e' => e (by rw [e'])
  exact h.2 v (by omega)
theorem ScN.start {a p r : List Int} (h : r.length = p.length) : ScN 0 a p r := ⟨h, fun v hv => absurd hv (Nat.not_lt_zero _)⟩
theorem ScN.done {n : Nat} {a p r : List Int} (h : ScN n a p r) (hn : n = p.length) : Sc a p r := ⟨h.1, fun v hv => h.2 v (by omega)⟩
/-- the way back. -/
theorem back_Rt {p b : List Int} (hp : Rt p) (h : Sc (ids p.length) p b) : Rt b := by
  intro i hi
  have hi' : i < p.length := by have := h.1; omega
  have e := h.2 i hi'
  rw [Zdf hi'] at e
  obtain ⟨h0, h1⟩ := hp.rng hi'
  rw [← e]
  exact rd_mem h0 (by have := h.1; omega)
theorem back_comp {p b : List Int} (hp : Rt p) (h : Sc (ids p.length) p b) : comp p b = ids p.length := by
  refine Zel (by rw [Zb, Zbr]) fun i hi => ?_
  rw [Zb] at hi
  rw [Zb0 hi, h.2 i hi]
theorem comp_back {p b : List Int} (hp : Rt p) (h : Sc (ids p.length) p b) : comp b p = ids p.length := by
  refine Zel (by rw [Zb, Zbr, h.1]) fun i hi => ?_
  rw [Zb] at hi
  have hi' : i < p.length := by have := h.1; omega
  obtain ⟨v, hv, hvi⟩ := Zf0 (hp i hi')
  rw [Zb0 hi, ← hvi, h.2 v hv, Zdf hv, hvi, Zdf hi']
/-- values moved twice. -/
theorem Sc.comp {a p q x y : List Int} (hp : Rt p) (hq : Rt q) (hl : p.length = q.length) (h1 : Sc a p x) (h2 : Sc x q y) : Sc a (comp p q) y := by
  refine ⟨by rw [Zb, h2.1, hl], fun v hv => ?_⟩
  rw [Zb] at hv
  rw [Zb0 hv]
  obtain ⟨h0, h3⟩ := hp.rng hv
  obtain ⟨k, hk⟩ : ∃ k : Nat, (k : Int) = rd p v := ⟨(rd p v).toNat, by omega⟩
  rw [← hk, h2.2 k (by omega), hk, h1.2 v hv]
theorem Sc.of_ids {a : List Int} {n : Nat} (h : a.length = n) : Sc a (ids n) a := ⟨by rw [Zbr, h], fun v hv => by rw [Zbr] at hv; rw [Zdf hv]⟩
/-- the way back of two. -/
theorem back_two {p q x y z : List Int} (hp : Rt p) (hq : Rt q) (hl : p.length = q.length) (hx : Sc (ids (comp p q).length) (comp p q) x) (hy : Sc (ids p.length) p y) (hz : Sc (ids q.length) q z) : x = comp z y := by
  have hpq := Ze1 hp hq hl
  refine Sc.uniq hpq hx ⟨by rw [Zb, Zb, hz.1, hl], fun v hv => ?_⟩
  rw [Zb] at hv
  rw [Zb0 hv, Zb, Zdf hv]
  obtain ⟨h0, h1⟩ := hp.rng hv
  obtain ⟨k, hk⟩ : ∃ k : Nat, (k : Int) = rd p v := ⟨(rd p v).toNat, by omega⟩
  rw [← hk]
  obtain ⟨g0, g1⟩ := hq.rng (i := k) (by omega)
  obtain ⟨m, hm⟩ : ∃ m : Nat, (m : Int) = rd q k := ⟨(rd q k).toNat, by omega⟩
  rw [← hm, Zb0 (by have := hz.1; omega), hm, hz.2 k (by omega), Zdf (by omega), hk, hy.2 v hv, Zdf hv]

theorem idB_iff : ∀ (l : List Int) (n : Nat), idB n l = true ↔ ∀ i : Nat, i < l.length → rd l i = n + i
  | [], n => by simp [idB]
  | v :: vs, n => by
    unfold idB
    rw [Bool.and_eq_true, decide_eq_true_iff, idB_iff vs (n + 1)]
    constructor
    · rintro ⟨rfl, h⟩ i hi
      cases i with
      | zero => simp [rd]
      | succ i =>
        have := h i (by simpa using hi)
        have e : rd ((n : Int) :: vs) ((i + 1 : Nat) : Int) = rd vs (i : Int) := by
          unfold rd
          simp
        rw [e, this]
        omega
    intro h
    refine ⟨?_, fun i hi => ?_⟩
    · have := h 0 (by simp)
      simp [rd] at this
      omega
    have := h (i + 1) (by simpa using hi)
    have e : rd (v :: vs) ((i + 1 : Nat) : Int) = rd vs (i : Int) := by
      unfold rd
      simp
    rw [e] at this
    rw [this]
    omega
theorem ids_le (n : Nat) : List.Pairwise (fun a b : Int => a ≤ b) (ids n) := by
  unfold ids
  refine List.pairwise_map.2 (List.Pairwise.imp (fun {a b} h => ?_) (List.pairwise_lt_range (n := n)))
  exact Int.ofNat_le.2 (Nat.le_of_lt h)
theorem Zd4 (p : List Int) : idB 0 (sortI p) = true ↔ Rt p := by
  rw [idB_iff]
  constructor
  · intro h i hi
    have hl : (sortI p).length = p.length := Zdi p
    have := h i (by omega)
    have hm := rd_mem (xs := sortI p) (i := (i : Int)) (by omega) (by omega)
    rw [this] at hm
    have e : ((0 : Nat) : Int) + (i : Int) = i := by omega
    rw [e] at hm
    exact (Zc0 p).mem_iff.1 hm
  intro h i hi
  have e : sortI p = ids p.length := by
    refine List.Perm.eq_of_pairwise (le := fun a b : Int => a ≤ b) (fun a b _ _ h1 h2 => by omega) (sortI_le p) (ids_le _) ((Zc0 p).trans h.perm.symm)
  rw [e] at hi ⊢
  rw [Zbr] at hi
  rw [Zdf hi]
  omega
theorem Zfh {p : List Int} (hl : p.length ≤ 1000000) : Za2.f p = some (idB 0 (sortI p)) := by
  unfold Za2.f
  rw [if_pos hl]
theorem right_some {p : List Int} {r : Bool} (h : Za2.f p = some r) : (r = true ↔ Rt p) := by
  unfold Za2.f at h
  split at h
  · obtain rfl := Option.some.inj h
    exact Zd4 p
  cases h
end G
end Go.Proofs.Yteopgafbamipeaa.P
/- Plain: 'from some number of rounds on it tells a'; lists of numbers in order. No program in sight. -/
namespace Go.Proofs.Yteopgafbamipeaa.P
open Go.RowKit Go.Proofs.YteopgafbamipeaaW.PrintWords Go.Proofs.YteopgafbamipeaaW.PrintLast Go.Proofs.YteopgafbamipeaaW.PrintMore
set_option linter.unusedVariables false
set_option linter.unusedSimpArgs false

/-! ### From some number of rounds on -/
def Ev {α : Type} (F : Nat → Option α) (a : α) : Prop := ∃ k0, ∀ k, k0 ≤ k → F k = some a
section
variable {α β : Type} {F G : Nat → Option α} {a : α} {b : β}
theorem Ev.out (h : Ev F a) : ∃ k, F k = some a := by obtain ⟨k, h⟩ := h; exact ⟨k, h k (Nat.le_refl _)⟩
theorem Ev.const {x : Option α} (h : x = some a) : Ev (fun _ => x) a := ⟨0, fun _ _ => h⟩
theorem Ev.pure (a : α) : Ev (fun _ => some a) a := Ev.const rfl
theorem Ev.bind {H : Nat → α → Option β} (h : Ev F a) (g : Ev (fun k => H k a) b) : Ev (fun k => (F k).bind (H k)) b := by
  obtain ⟨k1, h1⟩ := h
  obtain ⟨k2, h2⟩ := g
  refine ⟨max k1 k2, fun k hk => ?_⟩
  show (F k).bind (H k) = some b
  rw [h1 k (by omega)]
  exact h2 k (by omega)
theorem Ev.step (h : ∀ k, F (k + 1) = G k) (g : Ev G a) : Ev F a := by
  obtain ⟨k1, h1⟩ := g
  refine ⟨k1 + 1, fun k hk => ?_⟩
  obtain ⟨m, rfl⟩ : ∃ m, k = m + 1 := ⟨k - 1, by omega⟩
  rw [h m]
  exact h1 m (by omega)
theorem Ev.eq (h : ∀ k, F k = G k) (g : Ev G a) : Ev F a := by
  obtain ⟨k1, h1⟩ := g
  exact ⟨k1, fun k hk => (h k).trans (h1 k hk)⟩
theorem Ev.of_mono (k : Nat) (h : F k = some a) (hm : ∀ k, LeO (F k) (F (k + 1))) : Ev F a := by
  refine ⟨k, fun m hm' => ?_⟩
  induction hm' with
  | refl => exact h
  | step _ ih => exact hm _ _ ih
theorem Ev.Zby {c : Prop} [Decidable c] (hc : c) (g : Ev F a) : Ev (fun k => if c then F k else G k) a := Ev.eq (fun k => if_pos hc) g
theorem Ev.Zcf {c : Prop} [Decidable c] (hc : ¬ c) (g : Ev G a) : Ev (fun k => if c then F k else G k) a := Ev.eq (fun k => if_neg hc) g
theorem Ev.unique (h : Ev F a) {a' : α} (h' : Ev F a') : a = a' := by
  obtain ⟨k1, h1⟩ := h
  obtain ⟨k2, h2⟩ := h'
  exact Option.some.inj ((h1 (max k1 k2) (by omega)).symm.trans (h2 (max k1 k2) (by omega)))
end

/-! ### Numbers -/
theorem w64 {n : Int} (h1 : -9223372036854775808 ≤ n) (h2 : n ≤ 9223372036854775807) : wrap64 n = n := by unfold wrap64; omega
theorem w1 {n : Nat} (h : n < 4611686018427387904) : wrap64 ((n : Int) + 1) = ((n + 1 : Nat) : Int) := by rw [w64 (by omega) (by omega)]; omega
theorem wf64 {n : Int} (h : (Lit.int .i64 n).wf = true) : -9223372036854775808 ≤ n ∧ n ≤ 9223372036854775807 := by
  simp [Lit.wf, IntKind.min, IntKind.max, IntKind.signed, IntKind.bits] at h
  omega
theorem Zds (l : List Int) (n : Nat) (h : n < l.length) : rd l (n : Int) = l[n] := by simp [rd, List.getD_eq_getElem?_getD, List.getElem?_eq_getElem h]

/-! ### Lists in order, each number once -/
abbrev SS (l : List Int) : Prop := List.Pairwise (fun a b : Int => a < b) l
theorem SS.ext : ∀ {l m : List Int}, SS l → SS m → (∀ x, x ∈ l ↔ x ∈ m) → l = m
  | [], [], _, _, _ => rfl
  | [], y :: m, _, _, h => absurd ((h y).2 List.mem_cons_self) (by simp)
  | x :: l, [], _, _, h => absurd ((h x).1 List.mem_cons_self) (by simp)
  | x :: l, y :: m, h1, h2, h => by
    obtain ⟨hx, hl⟩ := List.pairwise_cons.1 h1
    obtain ⟨hy, hm⟩ := List.pairwise_cons.1 h2
    have e : x = y := by
      rcases List.mem_cons.1 ((h x).1 List.mem_cons_self) with e | h3
      · exact e
      rcases List.mem_cons.1 ((h y).2 List.mem_cons_self) with e | h4
      · exact e.symm
      have := hy x h3; have := hx y h4; omega
    subst e
    congr 1
    refine SS.ext hl hm (fun z => ⟨fun hz => ?_, fun hz => ?_⟩)
    · rcases List.mem_cons.1 ((h z).1 (List.mem_cons_of_mem _ hz)) with e | h3
      · have := hx z hz; omega
      exact h3
    rcases List.mem_cons.1 ((h z).2 (List.mem_cons_of_mem _ hz)) with e | h3
    · have := hy z hz; omega
    exact h3
/-- x put into a list in order; once. -/
def insU (x : Int) : List Int → List Int
  | [] => [x]
  | y :: l => if x < y then x :: y :: l else if x = y then y :: l else y :: insU x l
theorem mem_insU (x z : Int) : ∀ l, z ∈ insU x l ↔ z = x ∨ z ∈ l
  | [] => by simp [insU]
  | y :: l => by
    unfold insU
    split
    · simp
    split
    · rename_i h1 h2
      subst h2
      simp
    rw [List.mem_cons, mem_insU x z l, List.mem_cons]
    constructor
    · rintro (h | h | h)
      · exact .inr (.inl h)
      · exact .inl h
      exact .inr (.inr h)
    rintro (h | h | h)
    · exact .inr (.inl h)
    · exact .inl h
    exact .inr (.inr h)
theorem insU_ss (x : Int) : ∀ l, SS l → SS (insU x l)
  | [], _ => by simp [insU]
  | y :: l, h => by
    obtain ⟨hy, hl⟩ := List.pairwise_cons.1 h
    unfold insU
    split
    · refine List.pairwise_cons.2 ⟨fun z hz => ?_, h⟩
      rcases List.mem_cons.1 hz with rfl | hz
      · assumption
      have := hy z hz; omega
    split
    · exact h
    refine List.pairwise_cons.2 ⟨fun z hz => ?_, insU_ss x l hl⟩
    rcases (mem_insU x z l).1 hz with rfl | hz
    · omega
    exact hy z hz
/-- A list's numbers in order, each once. -/
def sd : List Int → List Int
  | [] => []
  | x :: l => insU x (sd l)
theorem mem_sd (z : Int) : ∀ l, z ∈ sd l ↔ z ∈ l
  | [] => by simp [sd]
  | x :: l => by rw [sd, mem_insU, mem_sd z l, List.mem_cons]
theorem sd_ss : ∀ l, SS (sd l)
  | [] => List.Pairwise.nil
  | x :: l => insU_ss x _ (sd_ss l)
theorem sd_eq {l m : List Int} (hm : SS m) (h : ∀ x, x ∈ m ↔ x ∈ l) : sd l = m := SS.ext (sd_ss l) hm (fun x => (mem_sd x l).trans (h x).symm)
theorem sd_self {m : List Int} (hm : SS m) : sd m = m := sd_eq hm (fun _ => Iff.rfl)
theorem sd_congr {l m : List Int} (h : ∀ x, x ∈ l ↔ x ∈ m) : sd l = sd m := sd_eq (sd_ss m) (fun x => (mem_sd x m).trans (h x).symm)
theorem Ze7 (x : Int) : ∀ l, (insU x l).length ≤ l.length + 1
  | [] => by simp [insU]
  | y :: l => by
    unfold insU
    split
    · simp
    split
    · simp
    have := Ze7 x l
    simp; omega
theorem sd_length : ∀ l, (sd l).length ≤ l.length
  | [] => by simp [sd]
  | x :: l => by
    have := Ze7 x (sd l)
    have := sd_length l
    simp [sd]; omega
theorem mem_le_of_ss {l : List Int} {i j : Nat} (h : SS l) (hi : i < l.length) (hj : j < l.length) (hij : i < j) : l[i] < l[j] := List.pairwise_iff_getElem.1 h i j hi hj hij
/-- As many numbers in order as there is room for. -/
theorem ss_length {l : List Int} {a b : Int} (h : SS l) (hb : ∀ x ∈ l, a ≤ x ∧ x ≤ b) : (l.length : Int) ≤ max 0 (b + 1 - a) := by
  induction l generalizing a with
  | nil => simp; omega
  | cons x l ih =>
    obtain ⟨hx, hl⟩ := List.pairwise_cons.1 h
    have h1 := hb x List.mem_cons_self
    have := ih (a := x + 1) hl (fun y hy => ⟨by have := hx y hy; omega, (hb y (List.mem_cons_of_mem _ hy)).2⟩)
    simp
    omega
end Go.Proofs.Yteopgafbamipeaa.P
/- Plain: lists of numbers, one ahead of another (as words in a book); lists of lists in order, each once. -/
namespace Go.Proofs.Yteopgafbamipeaa.P
open Go.RowKit Go.Proofs.YteopgafbamipeaaW.PrintWords Go.Proofs.YteopgafbamipeaaW.PrintLast Go.Proofs.YteopgafbamipeaaW.PrintMore
set_option linter.unusedVariables false
set_option linter.unusedSimpArgs false

/-- a stands ahead of b. -/
def lexLt : List Int → List Int → Bool
  | _, [] => false
  | [], _ :: _ => true
  | x :: a, y :: b => decide (x < y) || (decide (x = y) && lexLt a b)
theorem Zbm : ∀ a, lexLt a a = false
  | [] => rfl
  | x :: a => by simp [lexLt, Zbm a]
theorem Zb8 : ∀ {a b c : List Int}, lexLt a b = true → lexLt b c = true → lexLt a c = true
  | _, [], _, h, _ => by simp [lexLt] at h
  | _, _ :: _, [], _, h => by simp [lexLt] at h
  | [], _ :: _, _ :: _, _, _ => rfl
  | x :: a, y :: b, z :: c, h, k => by
    simp only [lexLt, Bool.or_eq_true, Bool.and_eq_true, decide_eq_true_iff] at h k ⊢
    rcases h with h | ⟨rfl, h⟩
    · rcases k with k | ⟨rfl, k⟩
      · exact .inl (by omega)
      exact .inl h
    rcases k with k | ⟨rfl, k⟩
    · exact .inl k
    exact .inr ⟨rfl, Zb8 h k⟩
theorem Zce : ∀ {a b : List Int}, a ≠ b → lexLt a b = true ∨ lexLt b a = true
  | [], [], h => absurd rfl h
  | [], _ :: _, _ => .inl rfl
  | _ :: _, [], _ => .inr rfl
  | x :: a, y :: b, h => by
    simp only [lexLt, Bool.or_eq_true, Bool.and_eq_true, decide_eq_true_iff]
    by_cases e : x = y
    rotate_left
    · by_cases hlt : x < y
      · exact .inl (.inl hlt)
      exact .inr (.inl (by omega))
    subst e
    have : a ≠ b := fun e => h (by rw [e])
    rcases Zce this with k | k
    · exact .inl (.inr ⟨rfl, k⟩)
    exact .inr (.inr ⟨rfl, k⟩)
theorem Zfa {a b : List Int} (h : lexLt a b = true) : lexLt b a = false := by
  cases hb : lexLt b a with
  | false => rfl
  | true =>
    have := Zb8 h hb
    rw [Zbm] at this
    cases this
/-- below 0: a stands ahead; 0: they are one. -/
def lexCmp (a b : List Int) : Int := if lexLt a b = true then -1 else if lexLt b a = true then 1 else 0
theorem Zdw {a b : List Int} : lexCmp a b = 0 ↔ a = b := by
  unfold lexCmp
  constructor
  · intro h
    by_cases e : a = b
    · exact e
    rcases Zce e with k | k
    · rw [if_pos k] at h; omega
    rw [if_neg (by rw [Zfa k]; simp), if_pos k] at h; omega
  rintro rfl
  rw [Zbm]
  rfl
theorem Zef {a b : List Int} : lexCmp a b < 0 ↔ lexLt a b = true := by
  unfold lexCmp
  split
  · rename_i h; simp [h]
  rename_i h; split <;> simp [h]

abbrev SSL (l : List (List Int)) : Prop := List.Pairwise (fun a b => lexLt a b = true) l
theorem SSL.ext : ∀ {l m : List (List Int)}, SSL l → SSL m → (∀ x, x ∈ l ↔ x ∈ m) → l = m
  | [], [], _, _, _ => rfl
  | [], y :: m, _, _, h => absurd ((h y).2 List.mem_cons_self) (by simp)
  | x :: l, [], _, _, h => absurd ((h x).1 List.mem_cons_self) (by simp)
  | x :: l, y :: m, h1, h2, h => by
    obtain ⟨hx, hl⟩ := List.pairwise_cons.1 h1
    obtain ⟨hy, hm⟩ := List.pairwise_cons.1 h2
    have e : x = y := by
      rcases List.mem_cons.1 ((h x).1 List.mem_cons_self) with e | h3
      · exact e
      rcases List.mem_cons.1 ((h y).2 List.mem_cons_self) with e | h4
      · exact e.symm
      have a1 := Zfa (hy x h3)
      rw [hx y h4] at a1
      cases a1
    subst e
    congr 1
    refine SSL.ext hl hm (fun z => ⟨fun hz => ?_, fun hz => ?_⟩)
    · rcases List.mem_cons.1 ((h z).1 (List.mem_cons_of_mem _ hz)) with e | h3
      · have := hx z hz; rw [e, Zbm] at this; cases this
      exact h3
    rcases List.mem_cons.1 ((h z).2 (List.mem_cons_of_mem _ hz)) with e | h3
    · have := hy z hz; rw [e, Zbm] at this; cases this
    exact h3
/-- x put into lists in order; once. -/
def insL (x : List Int) : List (List Int) → List (List Int)
  | [] => [x]
  | y :: l => if lexLt x y = true then x :: y :: l else if x = y then y :: l else y :: insL x l
theorem Zet (x z : List Int) : ∀ l, z ∈ insL x l ↔ z = x ∨ z ∈ l
  | [] => by simp [insL]
  | y :: l => by
    unfold insL
    split
    · simp
    split
    · rename_i h1 h2
      subst h2
      simp
    rw [List.mem_cons, Zet x z l, List.mem_cons]
    constructor
    · rintro (h | h | h)
      · exact .inr (.inl h)
      · exact .inl h
      exact .inr (.inr h)
    rintro (h | h | h)
    · exact .inr (.inl h)
    · exact .inl h
    exact .inr (.inr h)
theorem insL_ss (x : List Int) : ∀ l, SSL l → SSL (insL x l)
  | [], _ => by simp [insL]
  | y :: l, h => by
    obtain ⟨hy, hl⟩ := List.pairwise_cons.1 h
    unfold insL
    split
    · rename_i hlt
      refine List.pairwise_cons.2 ⟨fun z hz => ?_, h⟩
      rcases List.mem_cons.1 hz with rfl | hz
      · exact hlt
      exact Zb8 hlt (hy z hz)
    split
    · exact h
    rename_i h1 h2
    refine List.pairwise_cons.2 ⟨fun z hz => ?_, insL_ss x l hl⟩
    rcases (Zet x z l).1 hz with rfl | hz
    · exact (Zce h2).resolve_left h1
    exact hy z hz
/-- Lists in order, each once. -/
def sdL : List (List Int) → List (List Int)
  | [] => []
  | x :: l => insL x (sdL l)
theorem Zcn (z : List Int) : ∀ l, z ∈ sdL l ↔ z ∈ l
  | [] => by simp [sdL]
  | x :: l => by rw [sdL, Zet, Zcn z l, List.mem_cons]
theorem Zfj : ∀ l, SSL (sdL l)
  | [] => List.Pairwise.nil
  | x :: l => insL_ss x _ (Zfj l)
theorem sdL_eq {l m : List (List Int)} (hm : SSL m) (h : ∀ x, x ∈ m ↔ x ∈ l) : sdL l = m := SSL.ext (Zfj l) hm (fun x => (Zcn x l).trans (h x).symm)
theorem sdL_self {m : List (List Int)} (hm : SSL m) : sdL m = m := sdL_eq hm (fun _ => Iff.rfl)
theorem sdL_congr {l m : List (List Int)} (h : ∀ x, x ∈ l ↔ x ∈ m) : sdL l = sdL m := sdL_eq (Zfj m) (fun x => (Zcn x m).trans (h x).symm)
theorem Ze6 (x : List Int) : ∀ l, (insL x l).length ≤ l.length + 1
  | [] => by simp [insL]
  | y :: l => by
    unfold insL
    split
    · simp
    split
    · simp
    have := Ze6 x l
    simp; omega
theorem Zdm : ∀ l, (sdL l).length ≤ l.length
  | [] => by simp [sdL]
  | x :: l => by
    have := Ze6 x (sdL l)
    have := Zdm l
    simp [sdL]; omega
/-- Lists in order (equal ones beside one another), each run cut to its first: what CompactFunc leaves. -/
def uniqL : List (List Int) → List (List Int)
  | [] => []
  | [x] => [x]
  | x :: y :: l => if x = y then uniqL (y :: l) else x :: uniqL (y :: l)
theorem Zd5 (z : List Int) : ∀ l, z ∈ uniqL l ↔ z ∈ l
  | [] => by simp [uniqL]
  | [x] => by simp [uniqL]
  | x :: y :: l => by
    unfold uniqL
    split
    · rename_i e
      subst e
      rw [Zd5 z (x :: l)]
      simp
    rw [List.mem_cons, Zd5 z (y :: l), List.mem_cons, List.mem_cons, List.mem_cons]
theorem uniqL_ss : ∀ l, List.Pairwise (fun a b => lexLt b a = false) l → SSL (uniqL l)
  | [], _ => List.Pairwise.nil
  | [x], _ => by simp [uniqL]
  | x :: y :: l, h => by
    obtain ⟨hx, hl⟩ := List.pairwise_cons.1 h
    unfold uniqL
    split
    · exact uniqL_ss (y :: l) hl
    rename_i hne
    refine List.pairwise_cons.2 ⟨fun z hz => ?_, uniqL_ss (y :: l) hl⟩
    have hz' := (Zd5 z (y :: l)).1 hz
    have hxy : lexLt x y = true := (Zce hne).resolve_right (by rw [hx y List.mem_cons_self]; simp)
    rcases List.mem_cons.1 hz' with rfl | hz'
    · exact hxy
    have h2 := (List.pairwise_cons.1 hl).1 z hz'
    by_cases e : y = z
    · subst e; exact hxy
    exact Zb8 hxy ((Zce e).resolve_right (by rw [h2]; simp))
theorem uniqL_sorted {l m : List (List Int)} (hs : List.Pairwise (fun a b => lexLt b a = false) m) (hp : List.Perm m l) : uniqL m = sdL l :=
  (sdL_eq (uniqL_ss m hs) (fun x => (Zd5 x m).trans hp.mem_iff)).symm
theorem Zfz (b : List Int) : lexCmp [] b = if b = [] then 0 else -1 := by
  cases b with
  | nil => rfl
  | cons y b => rfl
theorem Zf (a : List Int) : lexCmp a [] = if a = [] then 0 else 1 := by
  cases a with
  | nil => rfl
  | cons y b => rfl
theorem Ze9 (x y : Int) (a b : List Int) : lexCmp (x :: a) (y :: b) = if x < y then -1 else if y < x then 1 else lexCmp a b := by
  unfold lexCmp
  simp only [lexLt]
  by_cases h1 : x < y
  · simp [h1]
  by_cases h2 : y < x
  rotate_left
  · have : x = y := by omega
    subst this
    simp
  have h3 : ¬ x = y := by omega
  simp [h1, h2, h3]
end Go.Proofs.Yteopgafbamipeaa.P
namespace Go.Proofs.Yteopgafbamipeaa.P
open Go.RowKit Go.Proofs.YteopgafbamipeaaW.PrintWords Go.Proofs.YteopgafbamipeaaW.PrintLast Go.Proofs.YteopgafbamipeaaW.PrintMore
attribute [local go_sem] Zb4 Zb6 Zcg Zch Zbs Zbt Zb5 Zb7
set_option linter.unusedVariables false
set_option linter.unusedSimpArgs false
/-! ### cmp_isNaN_int: function 51 -/
def cmp_isNaN_int.f (a0 : Int) : Option (Bool) := some (a0 != a0)
set_option maxHeartbeats 8000000 in
set_option maxRecDepth 100000 in
theorem cmp_isNaN_int.calls (a0 : Int) (r : Bool) (w : World) (h : cmp_isNaN_int.f a0 = some r) :
  Calls Try.prog 51 #[.int .i64 a0] w fun e w' => e = .returned (.bool r) ∧ Zat w w' := by
 have H : (some (a0 != a0)) = some r := h
 clear h
 obtain rfl := Option.some.inj H
 go_enter Try.func51, Try.ntmps51
 go_wp2
 go_ret
 exact ⟨by first | rfl | (simp; done) | (simp [*]; done), by repeat (first | exact Zat.refl _ | apply Zat.step)⟩

/-! ### cmp_Compare_int: function 46 -/
def cmp_Compare_int.f (a0 : Int) (a1 : Int) : Option (Int) := (cmp_isNaN_int.f a0).bind fun t141 => ((cmp_isNaN_int.f a1).bind fun t142 => (if t141 = true then (if t142 = true then (some 0) else (some (-1))) else (if t142 = true then (some 1) else (if a0 < a1 then (some (-1)) else (if a0 > a1 then (some 1) else (some 0))))))
set_option maxHeartbeats 8000000 in
set_option maxRecDepth 100000 in
theorem cmp_Compare_int.calls (a0 : Int) (a1 : Int) (r : Int) (w : World) (h : cmp_Compare_int.f a0 a1 = some r) :
  Calls Try.prog 46 #[.int .i64 a0, .int .i64 a1] w fun e w' => e = .returned (.int .i64 r) ∧ Zat w w' := by
 have H : ((cmp_isNaN_int.f a0).bind fun t141 => ((cmp_isNaN_int.f a1).bind fun t142 => (if t141 = true then (if t142 = true then (some 0) else (some (-1))) else (if t142 = true then (some 1) else (if a0 < a1 then (some (-1)) else (if a0 > a1 then (some 1) else (some 0))))))) = some r := h
 clear h
 replace H := Option.bind_eq_some_iff.mp H
 obtain ⟨t141, A30, H⟩ := H
 replace H : ((cmp_isNaN_int.f a1).bind fun t142 => (if t141 = true then (if t142 = true then (some 0) else (some (-1))) else (if t142 = true then (some 1) else (if a0 < a1 then (some (-1)) else (if a0 > a1 then (some 1) else (some 0)))))) = some r := H
 have A3 := Zaa.mk A30
 clear A30
 replace H := Option.bind_eq_some_iff.mp H
 obtain ⟨t142, A40, H⟩ := H
 replace H : (if t141 = true then (if t142 = true then (some 0) else (some (-1))) else (if t142 = true then (some 1) else (if a0 < a1 then (some (-1)) else (if a0 > a1 then (some 1) else (some 0))))) = some r := H
 have A4 := Zaa.mk A40
 clear A40
 by_cases c5 : t141 = true
 ·subst c5
  have H1 : (if t142 = true then (some 0) else (some (-1))) = some r := by rw [if_pos rfl] at H; exact H
  clear H
  have H := H1
  clear H1
  by_cases c6 : t142 = true
  ·subst c6
   have H1 : (some 0) = some r := by rw [if_pos rfl] at H; exact H
   clear H
   have H := H1
   clear H1
   obtain rfl := Option.some.inj H
   go_enter Try.func46, Try.ntmps46
   go_wp2_with (first | ((with_reducible refine Zaw (f := 51) rfl ?_); refine Zbl (some 8) rfl rfl Try.func51 (by kernel_rfl) rfl #[.int .i64 a0] rfl (by (try simp only [List.map_toArray, List.map_cons, List.map_nil]); first | done | rfl | (simp only [List.length_drop, List.length_take]; rfl)) ?_; (with_reducible refine (cmp_isNaN_int.calls a0 true _ A3.out).mono ?_); rintro e w' ⟨rfl, ⟨nd, rfl⟩⟩; refine ⟨_, rfl, ?_⟩) | ((with_reducible refine Zaw (f := 51) rfl ?_); refine Zbl (some 10) rfl rfl Try.func51 (by kernel_rfl) rfl #[.int .i64 a1] rfl (by (try simp only [List.map_toArray, List.map_cons, List.map_nil]); first | done | rfl | (simp only [List.length_drop, List.length_take]; rfl)) ?_; (with_reducible refine (cmp_isNaN_int.calls a1 true _ A4.out).mono ?_); rintro e w' ⟨rfl, ⟨nd, rfl⟩⟩; refine ⟨_, rfl, ?_⟩))
   go_ret
   exact ⟨by first | rfl | (simp; done) | (simp [*]; done), by repeat (first | exact Zat.refl _ | apply Zat.step)⟩
  replace c6 := Bool.eq_false_iff.mpr c6
  subst c6
  have H1 : (some (-1)) = some r := by rw [if_neg (show ¬ (false = true) by decide)] at H; exact H
  clear H
  have H := H1
  clear H1
  obtain rfl := Option.some.inj H
  go_enter Try.func46, Try.ntmps46
  go_wp2_with (first | ((with_reducible refine Zaw (f := 51) rfl ?_); refine Zbl (some 8) rfl rfl Try.func51 (by kernel_rfl) rfl #[.int .i64 a0] rfl (by (try simp only [List.map_toArray, List.map_cons, List.map_nil]); first | done | rfl | (simp only [List.length_drop, List.length_take]; rfl)) ?_; (with_reducible refine (cmp_isNaN_int.calls a0 true _ A3.out).mono ?_); rintro e w' ⟨rfl, ⟨nd, rfl⟩⟩; refine ⟨_, rfl, ?_⟩) | ((with_reducible refine Zaw (f := 51) rfl ?_); refine Zbl (some 10) rfl rfl Try.func51 (by kernel_rfl) rfl #[.int .i64 a1] rfl (by (try simp only [List.map_toArray, List.map_cons, List.map_nil]); first | done | rfl | (simp only [List.length_drop, List.length_take]; rfl)) ?_; (with_reducible refine (cmp_isNaN_int.calls a1 false _ A4.out).mono ?_); rintro e w' ⟨rfl, ⟨nd, rfl⟩⟩; refine ⟨_, rfl, ?_⟩))
  go_ret
  exact ⟨by first | rfl | (simp; done) | (simp [*]; done), by repeat (first | exact Zat.refl _ | apply Zat.step)⟩
 replace c5 := Bool.eq_false_iff.mpr c5
 subst c5
 have H1 : (if t142 = true then (some 1) else (if a0 < a1 then (some (-1)) else (if a0 > a1 then (some 1) else (some 0)))) = some r := by rw [if_neg (show ¬ (false = true) by decide)] at H; exact H
 clear H
 have H := H1
 clear H1
 by_cases c7 : t142 = true
 ·subst c7
  have H1 : (some 1) = some r := by rw [if_pos rfl] at H; exact H
  clear H
  have H := H1
  clear H1
  obtain rfl := Option.some.inj H
  go_enter Try.func46, Try.ntmps46
  go_wp2_with (first | ((with_reducible refine Zaw (f := 51) rfl ?_); refine Zbl (some 8) rfl rfl Try.func51 (by kernel_rfl) rfl #[.int .i64 a0] rfl (by (try simp only [List.map_toArray, List.map_cons, List.map_nil]); first | done | rfl | (simp only [List.length_drop, List.length_take]; rfl)) ?_; (with_reducible refine (cmp_isNaN_int.calls a0 false _ A3.out).mono ?_); rintro e w' ⟨rfl, ⟨nd, rfl⟩⟩; refine ⟨_, rfl, ?_⟩) | ((with_reducible refine Zaw (f := 51) rfl ?_); refine Zbl (some 10) rfl rfl Try.func51 (by kernel_rfl) rfl #[.int .i64 a1] rfl (by (try simp only [List.map_toArray, List.map_cons, List.map_nil]); first | done | rfl | (simp only [List.length_drop, List.length_take]; rfl)) ?_; (with_reducible refine (cmp_isNaN_int.calls a1 true _ A4.out).mono ?_); rintro e w' ⟨rfl, ⟨nd, rfl⟩⟩; refine ⟨_, rfl, ?_⟩))
  go_ret
  exact ⟨by first | rfl | (simp; done) | (simp [*]; done), by repeat (first | exact Zat.refl _ | apply Zat.step)⟩
 replace c7 := Bool.eq_false_iff.mpr c7
 subst c7
 have H1 : (if a0 < a1 then (some (-1)) else (if a0 > a1 then (some 1) else (some 0))) = some r := by rw [if_neg (show ¬ (false = true) by decide)] at H; exact H
 clear H
 have H := H1
 clear H1
 by_cases c8 : a0 < a1
 ·rw [if_pos c8] at H
  have c8b0 : decide (a0 < a1) = true := decide_eq_true c8
  clear c8
  obtain rfl := Option.some.inj H
  go_enter Try.func46, Try.ntmps46
  go_wp2_with (first | ((with_reducible refine Zaw (f := 51) rfl ?_); refine Zbl (some 8) rfl rfl Try.func51 (by kernel_rfl) rfl #[.int .i64 a0] rfl (by (try simp only [List.map_toArray, List.map_cons, List.map_nil]); first | done | rfl | (simp only [List.length_drop, List.length_take]; rfl)) ?_; (with_reducible refine (cmp_isNaN_int.calls a0 false _ A3.out).mono ?_); rintro e w' ⟨rfl, ⟨nd, rfl⟩⟩; refine ⟨_, rfl, ?_⟩) | ((with_reducible refine Zaw (f := 51) rfl ?_); refine Zbl (some 10) rfl rfl Try.func51 (by kernel_rfl) rfl #[.int .i64 a1] rfl (by (try simp only [List.map_toArray, List.map_cons, List.map_nil]); first | done | rfl | (simp only [List.length_drop, List.length_take]; rfl)) ?_; (with_reducible refine (cmp_isNaN_int.calls a1 false _ A4.out).mono ?_); rintro e w' ⟨rfl, ⟨nd, rfl⟩⟩; refine ⟨_, rfl, ?_⟩))
  go_ret
  exact ⟨by first | rfl | (simp; done) | (simp [*]; done), by repeat (first | exact Zat.refl _ | apply Zat.step)⟩
 rw [if_neg c8] at H
 have c8b0 : decide (a0 < a1) = false := decide_eq_false c8
 clear c8
 by_cases c9 : a0 > a1
 ·rw [if_pos c9] at H
  have c9b0 : decide (a1 < a0) = true := decide_eq_true c9
  clear c9
  obtain rfl := Option.some.inj H
  go_enter Try.func46, Try.ntmps46
  go_wp2_with (first | ((with_reducible refine Zaw (f := 51) rfl ?_); refine Zbl (some 8) rfl rfl Try.func51 (by kernel_rfl) rfl #[.int .i64 a0] rfl (by (try simp only [List.map_toArray, List.map_cons, List.map_nil]); first | done | rfl | (simp only [List.length_drop, List.length_take]; rfl)) ?_; (with_reducible refine (cmp_isNaN_int.calls a0 false _ A3.out).mono ?_); rintro e w' ⟨rfl, ⟨nd, rfl⟩⟩; refine ⟨_, rfl, ?_⟩) | ((with_reducible refine Zaw (f := 51) rfl ?_); refine Zbl (some 10) rfl rfl Try.func51 (by kernel_rfl) rfl #[.int .i64 a1] rfl (by (try simp only [List.map_toArray, List.map_cons, List.map_nil]); first | done | rfl | (simp only [List.length_drop, List.length_take]; rfl)) ?_; (with_reducible refine (cmp_isNaN_int.calls a1 false _ A4.out).mono ?_); rintro e w' ⟨rfl, ⟨nd, rfl⟩⟩; refine ⟨_, rfl, ?_⟩))
  go_ret
  exact ⟨by first | rfl | (simp; done) | (simp [*]; done), by repeat (first | exact Zat.refl _ | apply Zat.step)⟩
 rw [if_neg c9] at H
 have c9b0 : decide (a1 < a0) = false := decide_eq_false c9
 clear c9
 obtain rfl := Option.some.inj H
 go_enter Try.func46, Try.ntmps46
 go_wp2_with (first | ((with_reducible refine Zaw (f := 51) rfl ?_); refine Zbl (some 8) rfl rfl Try.func51 (by kernel_rfl) rfl #[.int .i64 a0] rfl (by (try simp only [List.map_toArray, List.map_cons, List.map_nil]); first | done | rfl | (simp only [List.length_drop, List.length_take]; rfl)) ?_; (with_reducible refine (cmp_isNaN_int.calls a0 false _ A3.out).mono ?_); rintro e w' ⟨rfl, ⟨nd, rfl⟩⟩; refine ⟨_, rfl, ?_⟩) | ((with_reducible refine Zaw (f := 51) rfl ?_); refine Zbl (some 10) rfl rfl Try.func51 (by kernel_rfl) rfl #[.int .i64 a1] rfl (by (try simp only [List.map_toArray, List.map_cons, List.map_nil]); first | done | rfl | (simp only [List.length_drop, List.length_take]; rfl)) ?_; (with_reducible refine (cmp_isNaN_int.calls a1 false _ A4.out).mono ?_); rintro e w' ⟨rfl, ⟨nd, rfl⟩⟩; refine ⟨_, rfl, ?_⟩))
 go_ret
 exact ⟨by first | rfl | (simp; done) | (simp [*]; done), by repeat (first | exact Zat.refl _ | apply Zat.step)⟩

/-! ### Zar: function 36 -/
def Zar.l0 : Nat → List Int → List Int → List Int → Int → Int → Option (Int)
 | 0, _, _, _, _, _ => none
 | k + 1, x0, x1, x9, x10, x11 => if x11 < x10 then (if 0 ≤ x11 then (if x11 < (x9.length : Int) then (if x11 ≥ (x1.length : Int) then (some 1) else (if x11 < (x1.length : Int) then ((cmp_Compare_int.f (rd x9 x11) (rd x1 x11)).bind fun t145 => (if t145 = 0 then (Zar.l0 k x0 x1 x9 x10 (wrap64 (x11 + 1))) else (some t145))) else (none))) else (none)) else (none)) else (if (x0.length : Int) < (x1.length : Int) then (some (-1)) else (some 0))
def Zar.f (k : Nat) (l0 : List Int) (l1 : List Int) : Option (Int) := Zar.l0 k l0 l1 l0 (l0.length : Int) 0
theorem Zar.Za6 : ∀ k, (∀ y0 y1 y2 y3 y4, LeO (Zar.l0 k y0 y1 y2 y3 y4) (Zar.l0 (k + 1) y0 y1 y2 y3 y4))
 | 0 => fun _ _ _ _ _ r h => by simp [Zar.l0] at h
 | k + 1 => by
  have ih0 := Zar.Za6 k
  intro y0 y1 y2 y3 y4
  unfold Zar.l0
  repeat' first
  | (with_reducible exact ih0 _ _ _ _ _)
  | (with_reducible exact LeO.refl _)
  | (with_reducible exact LeO.none _)
  | (with_reducible refine LeO.ite ?_ ?_)
  | (with_reducible refine LeO.bind ?_ (fun _ => ?_))
  | exact ih0 _ _ _ _ _
  | exact LeO.none _
  | refine LeO.ite ?_ ?_
  | refine LeO.bind ?_ (fun _ => ?_)
theorem Zar.mono : ∀ a0 a1 k, LeO (Zar.f k a0 a1) (Zar.f (k + 1) a0 a1) := by
 intro a0 a1 k
 have ih0 := Zar.Za6 k
 unfold Zar.f
 repeat' first
   | (with_reducible exact ih0 _ _ _ _ _)
   | (with_reducible exact LeO.refl _)
   | (with_reducible exact LeO.none _)
   | (with_reducible refine LeO.ite ?_ ?_)
   | (with_reducible refine LeO.bind ?_ (fun _ => ?_))
   | exact ih0 _ _ _ _ _
   | exact LeO.none _
   | refine LeO.ite ?_ ?_
   | refine LeO.bind ?_ (fun _ => ?_)
set_option maxHeartbeats 8000000 in
set_option maxRecDepth 100000 in
theorem Zar.calls (k : Nat) (A0 : Option Addr) (c0 : Nat) (l0 : List Int) (A1 : Option Addr) (c1 : Nat) (l1 : List Int) (r : Int) (w : World) (hr0 : Kd.C (Kd.int .i64) w A0 l0.length l0) (hc0 : l0.length ≤ c0) (hr1 : Kd.C (Kd.int .i64) w A1 l1.length l1) (hc1 : l1.length ≤ c1) (h : Zar.f k l0 l1 = some r) :
  Calls Try.prog 36 #[.slice A0 l0.length c0, .slice A1 l1.length c1] w fun e w' => e = .returned (.int .i64 r) ∧ Zat w w' := by
 have HR0 := Zaa.mk hr0
 have HC0 := Zaa.mk hc0
 clear hr0 hc0
 have HR1 := Zaa.mk hr1
 have HC1 := Zaa.mk hc1
 clear hr1 hc1
 have H : (Zar.l0 k l0 l1 l0 (l0.length : Int) 0) = some r := h
 clear h
 have H' := Zaa.mk H
 clear H
 go_enter Try.func36, Try.ntmps36
 go_wp2
 go_loopg [11] k (fun kq v11 w' => ∃ (x11_1 : Int), v11 = .int .i64 x11_1 ∧ Zaa (Zar.l0 kq l0 l1 l0 (l0.length : Int) x11_1 = some r) ∧ Zaa (kq ≤ k) ∧ Zat w w')
 case atStart => exact ⟨(0), (by first | rfl | (simp; done) | (simp [*]; done)), H', ⟨Nat.le_refl _⟩, by repeat (first | exact Zat.refl _ | apply Zat.step)⟩
 case round =>
  clear H'
  try clear c1
  try clear p2
  obtain ⟨x11_1, rfl, HA, HK1, ⟨m1, rfl⟩⟩ := hrel
  cases gk with
  | zero => exact absurd HA.out (by simp [Zar.l0])
  | succ k1 =>
   have H := HA.out
   clear HA
   simp only [Zar.l0] at H
   by_cases c3 : x11_1 < (l0.length : Int)
   rotate_left
   ·rw [if_neg c3] at H
    have c3b0 : decide (x11_1 < (l0.length : Int)) = false := decide_eq_false c3
    clear c3
    by_cases c10 : (l0.length : Int) < (l1.length : Int)
    ·rw [if_pos c10] at H
     have c10b0 : decide ((l0.length : Int) < (l1.length : Int)) = true := decide_eq_true c10
     have c10b1 : decide (l0.length < l1.length) = true := decide_eq_true (Int.ofNat_lt.mp c10)
     clear c10
     obtain rfl := Option.some.inj H
     go_wp2
     go_ret
     exact ⟨by first | rfl | (simp; done) | (simp [*]; done), by repeat (first | exact Zat.refl _ | apply Zat.step)⟩
    rw [if_neg c10] at H
    have c10b0 : decide ((l0.length : Int) < (l1.length : Int)) = false := decide_eq_false c10
    have c10b1 : decide (l0.length < l1.length) = false := decide_eq_false (fun h => c10 (Int.ofNat_lt.mpr h))
    clear c10
    obtain rfl := Option.some.inj H
    go_wp2
    go_ret
    exact ⟨by first | rfl | (simp; done) | (simp [*]; done), by repeat (first | exact Zat.refl _ | apply Zat.step)⟩

   rw [if_pos c3] at H
   have c3b0 : decide (x11_1 < (l0.length : Int)) = true := decide_eq_true c3
   clear c3
   by_cases c4 : 0 ≤ x11_1
   rotate_left
   ·rw [if_neg c4] at H
    exact absurd H (by simp)
   rw [if_pos c4] at H
   have c4b0 : decide (0 ≤ x11_1) = true := decide_eq_true c4
   clear c4
   by_cases c5 : x11_1 < (l0.length : Int)
   rotate_left
   ·rw [if_neg c5] at H
    exact absurd H (by simp)
   rw [if_pos c5] at H
   have c5b0 : decide (x11_1 < (l0.length : Int)) = true := decide_eq_true c5
   clear c5
   by_cases c6 : x11_1 ≥ (l1.length : Int)
   ·rw [if_pos c6] at H
    have c6b0 : decide ((l1.length : Int) ≤ x11_1) = true := decide_eq_true c6
    clear c6
    obtain rfl := Option.some.inj H
    have p143 : 0 ≤ (x11_1 : Int) := of_decide_eq_true (by first | (with_reducible assumption) | assumption)
    have q143 : x11_1 < (l0.length : Int) := of_decide_eq_true (by first | (with_reducible assumption) | assumption)
    obtain ⟨ad143, e143, hx143_0⟩ := Kd.Zbi HR0.out x11_1 p143 q143
    cases e143
    replace p143 := eq_true p143
    replace q143 := eq_true q143
    go_wp2
    go_ret
    exact ⟨by first | rfl | (simp; done) | (simp [*]; done), by repeat (first | exact Zat.refl _ | apply Zat.step)⟩
   rw [if_neg c6] at H
   have c6b0 : decide ((l1.length : Int) ≤ x11_1) = false := decide_eq_false c6
   clear c6
   by_cases c7 : x11_1 < (l1.length : Int)
   rotate_left
   ·rw [if_neg c7] at H
    exact absurd H (by simp)
   rw [if_pos c7] at H
   have c7b0 : decide (x11_1 < (l1.length : Int)) = true := decide_eq_true c7
   clear c7
   replace H := Option.bind_eq_some_iff.mp H
   obtain ⟨t145, A80, H⟩ := H
   replace H : (if t145 = 0 then (Zar.l0 k1 l0 l1 l0 (l0.length : Int) (wrap64 (x11_1 + 1))) else (some t145)) = some r := H
   have A8 := Zaa.mk A80
   clear A80
   by_cases c9 : t145 = 0
   rotate_left
   ·rw [if_neg c9] at H
    have c9b0 : (t145 == 0) = false := beq_eq_false_iff_ne.mpr c9
    have c9b1 : (t145 != 0) = true := bne_iff_ne.mpr c9
    obtain rfl := Option.some.inj H
    have p143 : 0 ≤ (x11_1 : Int) := of_decide_eq_true (by first | (with_reducible assumption) | assumption)
    have q143 : x11_1 < (l0.length : Int) := of_decide_eq_true (by first | (with_reducible assumption) | assumption)
    obtain ⟨ad143, e143, hx143_0⟩ := Kd.Zbi HR0.out x11_1 p143 q143
    cases e143
    replace p143 := eq_true p143
    replace q143 := eq_true q143
    have p144 : 0 ≤ (x11_1 : Int) := of_decide_eq_true (by first | (with_reducible assumption) | assumption)
    have q144 : x11_1 < (l1.length : Int) := of_decide_eq_true (by first | (with_reducible assumption) | assumption)
    obtain ⟨ad144, e144, hx144_0⟩ := Kd.Zbi HR1.out x11_1 p144 q144
    cases e144
    replace p144 := eq_true p144
    replace q144 := eq_true q144
    go_wp2_with (first | ((with_reducible refine Zaw (f := 46) rfl ?_); refine Zbl (some 26) rfl rfl Try.func46 (by kernel_rfl) rfl #[.int .i64 (rd l0 x11_1), .int .i64 (rd l1 x11_1)] rfl (by (try simp only [List.map_toArray, List.map_cons, List.map_nil]); first | done | rfl | (simp only [List.length_drop, List.length_take]; rfl)) ?_; (with_reducible refine (cmp_Compare_int.calls (rd l0 x11_1) (rd l1 x11_1) t145 _ A8.out).mono ?_); rintro e w' ⟨rfl, ⟨nd, rfl⟩⟩; refine ⟨_, rfl, ?_⟩))
    go_ret
    exact ⟨by first | rfl | (simp; done) | (simp [*]; done), by repeat (first | exact Zat.refl _ | apply Zat.step)⟩
   rw [if_pos c9] at H
   have c9b0 : (t145 == 0) = true := beq_iff_eq.mpr c9
   have c9b1 : (t145 != 0) = false := bne_eq_false_iff_eq.mpr c9
   clear c9
   have H' := Zaa.mk H
   clear H
   have p143 : 0 ≤ (x11_1 : Int) := of_decide_eq_true (by first | (with_reducible assumption) | assumption)
   have q143 : x11_1 < (l0.length : Int) := of_decide_eq_true (by first | (with_reducible assumption) | assumption)
   obtain ⟨ad143, e143, hx143_0⟩ := Kd.Zbi HR0.out x11_1 p143 q143
   cases e143
   replace p143 := eq_true p143
   replace q143 := eq_true q143
   have p144 : 0 ≤ (x11_1 : Int) := of_decide_eq_true (by first | (with_reducible assumption) | assumption)
   have q144 : x11_1 < (l1.length : Int) := of_decide_eq_true (by first | (with_reducible assumption) | assumption)
   obtain ⟨ad144, e144, hx144_0⟩ := Kd.Zbi HR1.out x11_1 p144 q144
   cases e144
   replace p144 := eq_true p144
   replace q144 := eq_true q144
   go_wp2_with (first | ((with_reducible refine Zaw (f := 46) rfl ?_); refine Zbl (some 26) rfl rfl Try.func46 (by kernel_rfl) rfl #[.int .i64 (rd l0 x11_1), .int .i64 (rd l1 x11_1)] rfl (by (try simp only [List.map_toArray, List.map_cons, List.map_nil]); first | done | rfl | (simp only [List.length_drop, List.length_take]; rfl)) ?_; (with_reducible refine (cmp_Compare_int.calls (rd l0 x11_1) (rd l1 x11_1) t145 _ A8.out).mono ?_); rintro e w' ⟨rfl, ⟨nd, rfl⟩⟩; refine ⟨_, rfl, ?_⟩))
   go_roundg k1
   case measure => have := HK1.out; omega
   case rel => exact ⟨(wrap64 (x11_1 + 1)), (by first | rfl | (simp; done) | (simp [*]; done)), H', ⟨by have := HK1.out; omega⟩, by repeat (first | exact Zat.refl _ | apply Zat.step)⟩
end Go.Proofs.Yteopgafbamipeaa.P
/- slices.Compare of whole numbers: what stands ahead. -/
namespace Go.Proofs.Yteopgafbamipeaa.P
open Go.RowKit Go.Proofs.YteopgafbamipeaaW.PrintWords Go.Proofs.YteopgafbamipeaaW.PrintLast Go.Proofs.YteopgafbamipeaaW.PrintMore
set_option linter.unusedVariables false
set_option linter.unusedSimpArgs false

theorem cmp_f (x y : Int) : cmp_Compare_int.f x y = some (if x < y then -1 else if y < x then 1 else 0) := by
  unfold cmp_Compare_int.f
  simp only [cmp_isNaN_int.f]
  by_cases h1 : x < y
  · simp [h1]
  by_cases h2 : y < x
  · simp [h1, h2]
  have : x = y := by omega
  subst this
  simp
theorem compare_l0 (a b : List Int) (ha : a.length ≤ 9223372036854775807) (hb : b.length ≤ 9223372036854775807) : ∀ (m n : Nat), n + m = a.length → n ≤ b.length → Ev (fun k => Zar.l0 k a b a (a.length : Int) (n : Int)) (lexCmp (a.drop n) (b.drop n)) := by
  have hend : ∀ n, n = a.length → n ≤ b.length → (if (a.length : Int) < (b.length : Int) then some (-1 : Int) else some 0) = some (lexCmp (a.drop n) (b.drop n)) → True := fun _ _ _ _ => trivial
  intro m
  induction m with
  | zero =>
    intro n h hn
    rw [List.drop_of_length_le (by omega), Zfz]
    by_cases hlt : a.length < b.length
    rotate_left
    · refine Ev.step (fun k => by rw [Zar.l0, if_neg (by omega), if_neg (by omega)]) ?_
      rw [List.drop_of_length_le (by omega)]
      exact Ev.pure _
    refine Ev.step (fun k => by rw [Zar.l0, if_neg (by omega), if_pos (by omega)]) ?_
    rw [if_neg (by intro e; have := congrArg List.length e; simp at this; omega)]
    exact Ev.pure _
  | succ m ih =>
    intro n h hn
    have hna : n < a.length := by omega
    by_cases hnb : n < b.length
    rotate_left
    · rw [List.drop_of_length_le (show b.length ≤ n by omega), Zf, if_neg (by intro e; have := congrArg List.length e; simp at this; omega)]
      refine Ev.step (fun k => by rw [Zar.l0, if_pos (by omega), if_pos (by omega), if_pos (by omega), if_pos (by omega)]) (Ev.pure _)
    rw [List.drop_eq_getElem_cons hna, List.drop_eq_getElem_cons hnb, Ze9]
    have h1 : wrap64 ((n : Int) + 1) = ((n + 1 : Nat) : Int) := by rw [w64 (by omega) (by omega)]; omega
    refine Ev.step (fun k => by rw [Zar.l0, if_pos (by omega), if_pos (by omega), if_pos (by omega), if_neg (by omega), if_pos (by omega), Zds a n hna, Zds b n hnb, cmp_f, Option.bind_some, h1]) ?_
    by_cases c1 : a[n] < b[n]
    · simp only [if_pos c1]
      exact Ev.pure _
    by_cases c2 : b[n] < a[n]
    · simp only [if_neg c1, if_pos c2]
      exact Ev.pure _
    simp only [if_neg c1, if_neg c2]
    exact ih (n + 1) (by omega) (by omega)
theorem compare_ev (a b : List Int) (ha : a.length ≤ 9223372036854775807) (hb : b.length ≤ 9223372036854775807) : Ev (fun k => Zar.f k a b) (lexCmp a b) :=
  compare_l0 a b ha hb a.length 0 (by omega) (by omega)
theorem compareL (A0 : Option Addr) (c0 : Nat) (l0 : List Int) (A1 : Option Addr) (c1 : Nat) (l1 : List Int) (w : World) (hr0 : Kd.C (Kd.int .i64) w A0 l0.length l0) (hc0 : l0.length ≤ c0) (hr1 : Kd.C (Kd.int .i64) w A1 l1.length l1) (hc1 : l1.length ≤ c1) :
    Calls Try.prog 36 #[.slice A0 l0.length c0, .slice A1 l1.length c1] w fun e w' => e = .returned (.int .i64 (lexCmp l0 l1)) ∧ Zat w w' := by
  obtain ⟨k, hk⟩ := (compare_ev l0 l1 hr0.2.1 hr1.2.1).out
  exact Zar.calls k A0 c0 l0 A1 c1 l1 _ w hr0 hc0 hr1 hc1 hk
end Go.Proofs.Yteopgafbamipeaa.P
/- slices.CompactFunc of lists of whole numbers (rows): what stands behind an equal one goes. Turned from the library's text for slices.Compact and slices.DeleteFunc. -/
namespace Go.Proofs.Yteopgafbamipeaa.P
open Go.RowKit Go.Shelf Go.Lib Go.Sort Go.Proofs.YteopgafbamipeaaW.PrintWords Go.Proofs.YteopgafbamipeaaW.PrintLast Go.Proofs.YteopgafbamipeaaW.PrintMore
set_option linter.unusedVariables false
set_option linter.unusedSimpArgs false

theorem store_world_l {α : Type} [Inhabited α] (enc : α → Value) {w wr : World} {n m blk off : Nat} {dk : Array α} {i : Nat} (hi : i < dk.size) (hwr : wr = putRow enc (Sort.ahead w n) blk off dk) (x : α) :
    (wr.drewN m).setCell ⟨blk, off + i, none⟩ (enc x) = putRow enc (Sort.ahead w (n + m)) blk off (dk.setIfInBounds i x) := by
  subst hwr
  rw [show (putRow enc (Sort.ahead w n) blk off dk).drewN m = putRow enc (Sort.ahead w (n + m)) blk off dk from putRow_drewN _ _ _ _ _ _ _, putRow_set enc _ blk off dk i x hi]
/-- Which stay. -/
def stayL {α : Type} [Inhabited α] (eqb : α → α → Bool) (d : Array α) (j : Nat) : Bool := decide (j = 0) || !eqb d[j]! d[j - 1]!
theorem w64' {n : Int} (h1 : -9223372036854775808 ≤ n) (h2 : n ≤ 9223372036854775807) : wrap64 n = n := by unfold wrap64; omega
theorem stayL_lt {α : Type} [Inhabited α] (eqb : α → α → Bool) (d : Array α) : ∀ j, j < 1 → stayL eqb d j = true := fun j hj => by
  obtain rfl : j = 0 := by omega
  rfl
theorem stayL_yes {α : Type} [Inhabited α] {eqb : α → α → Bool} {d : Array α} {j : Nat} (h : eqb d[j]! d[j - 1]! = false) : stayL eqb d j = true := by simp [stayL, h]
theorem stayL_no {α : Type} [Inhabited α] {eqb : α → α → Bool} {d : Array α} {j : Nat} (hj : 0 < j) (h : eqb d[j]! d[j - 1]! = true) : stayL eqb d j = false := by
  simp [stayL, h]
  omega
set_option maxHeartbeats 8000000 in
set_option maxRecDepth 1000000 in
theorem compactL_ {α : Type} [Inhabited α] (enc : α → Value) (hO : OneCell enc) (eqb : α → α → Bool) (g : Nat) (lb : Array Value) (eg : ∀ args w, (callFunc g args).run Try.prog w = .ok (.enter g args) w) (zr : α) (hz : enc zr = .slice none 0 0)
    (blk cap : Nat) (d : Array α) (w : World) (hH : Holds enc w blk 0 d)
    (hC : ∀ (q : Nat) (dk : Array α) (x y : α), dk.size = d.size → Calls Try.prog g (#[enc x, enc y] ++ lb) (putRow enc (Sort.ahead w q) blk 0 dk) fun e w' => e = .returned (.bool (eqb x y)) ∧ ∃ q', w' = (putRow enc (Sort.ahead w q) blk 0 dk).drewN q')
    (hsz : d.size ≤ 9223372036854775807) (hcap : d.size ≤ cap) (kp : Nat → Bool) (HK : Hid (kp = stayL eqb d)) :
    Calls Try.prog 44 #[.slice (some ⟨blk, 0, none⟩) d.size cap, .func (.func g) #[] lb] w fun e w' => e = .returned (.slice (some ⟨blk, 0, none⟩) (keptUpTo kp d d.size).length cap) ∧
      ∃ q, w' = putRow enc (Sort.ahead w q) blk 0 (keptUpTo kp d d.size ++ List.replicate (d.size - (keptUpTo kp d d.size).length) zr).toArray := by
  have hcl0 := hO.cells
  simp only [Value.cells] at hcl0
  have hst := hO.store Try.prog
  have hC0 : ∀ (q : Nat) (x y : α), Calls Try.prog g (#[enc x, enc y] ++ lb) (w.drewN q) fun e w' => e = .returned (.bool (eqb x y)) ∧ ∃ q', w' = (w.drewN q).drewN q' := fun q x y => by
    have := hC q d x y rfl
    rwa [show putRow enc (Sort.ahead w q) blk 0 d = w.drewN q from putRow_self enc (Sort.ahead w q) blk 0 d (holds_ahead enc w q blk 0 d hH)] at this
  have HS : Aside (∀ q, (∀ j, j < d.size → kp j = true) → (keptUpTo kp d d.size).length = d.size ∧ w.drewN q = putRow enc (Sort.ahead w q) blk 0 (keptUpTo kp d d.size ++ List.replicate (d.size - (keptUpTo kp d d.size).length) zr).toArray) := by
    intro q hall
    have e : keptUpTo kp d d.size = d.toList := by rw [keptUpTo_all kp d _ hall, range_map_get]
    rw [e]
    refine ⟨by simp, ?_⟩
    simp only [Array.length_toList, Nat.sub_self, List.replicate_zero, List.append_nil, Array.toArray_toList]
    exact (putRow_self enc (Sort.ahead w q) blk 0 d (holds_ahead enc w q blk 0 d hH)).symm
  have HC : Aside _ := hC
  have HC0 : Aside _ := hC0
  clear hC hC0
  have KY : Aside (∀ j, eqb d[j]! d[j - 1]! = false → kp j = true) := fun j h => by rw [HK.out]; exact stayL_yes h
  have KN : Aside (∀ j, 0 < j → eqb d[j]! d[j - 1]! = true → kp j = false) := fun j hj h => by rw [HK.out]; exact stayL_no hj h
  have K1 : Aside (∀ j, j < 1 → kp j = true) := fun j hj => by rw [HK.out]; exact stayL_lt eqb d j hj
  by_cases h2 : d.size < 2
  · clear hH
    have hs2 : decide ((d.size : Int) < 2) = true := decide_eq_true (by omega)
    go_enter Try.func44, Try.ntmps44
    go_wp2
    go_ret
    obtain ⟨e1, e2⟩ := HS.out 0 (fun j hj => K1.out j (by omega))
    exact ⟨by rw [e1]; rfl, 0, e2⟩
  have hs2 : decide ((d.size : Int) < 2) = false := decide_eq_false (by omega)
  go_enter Try.func44, Try.ntmps44
  go_wp2
  go_loopg [5] d.size (fun gg s5 wr => ∃ k q : Nat, 1 ≤ k ∧ k ≤ d.size ∧ d.size - k ≤ gg ∧ s5 = .int .i64 k ∧ wr = w.drewN q ∧ Aside (∀ j, j < k → kp j = true))
  case atStart => exact ⟨1, 0, Nat.le_refl _, by omega, by omega, rfl, rfl, K1⟩
  case round =>
    obtain ⟨k, q, hk1, hk, hg, rfl, rfl, A⟩ := hrel
    by_cases hlt : k < d.size
    rotate_left
    · have : k = d.size := by omega
      subst this
      clear hH
      go_wp2
      go_ret
      obtain ⟨e1, e2⟩ := HS.out q A.out
      exact ⟨by rw [e1]; rfl, q, e2⟩
    obtain ⟨p, hp⟩ : ∃ p, p = k - 1 := ⟨_, rfl⟩
    have hp1 : p < d.size := by omega
    have hp2 : (p : Int) < (d.size : Int) := by omega
    obtain ⟨c1, f1⟩ := hH k hlt
    obtain ⟨c0, f0⟩ := hH p (by omega)
    have HH : Aside (Holds enc w blk 0 d) := hH
    clear hH
    generalize hx : d[k]! = x at c1
    generalize hy : d[p]! = y at c0
    have B : Aside (d[k]! = x ∧ d[k - 1]! = y) := ⟨hx, by rw [← hp]; exact hy⟩
    have hw : IntKind.i64.wrap ((k : Int) - 1) = (p : Int) := by rw [Zbe, w64' (by omega) (by omega)]; omega
    have HP : Aside (p = k - 1) := hp
    clear hp
    clear hx hy
    have hcall : ∀ n, Calls Try.prog g (#[enc x, enc y] ++ lb) (w.drewN (q + n)) fun e w' => e = .returned (.bool (eqb x y)) ∧ ∃ q', w' = w.drewN (q + q') := fun n => (HC0.out (q + n) x y).mono fun _ _ ⟨he, q', hq⟩ => ⟨he, n + q', by rw [hq, World.drewN_drewN, Nat.add_assoc]⟩
    have HCC : Aside _ := hcall
    clear hcall
    rw [Nat.zero_add] at c0 c1
    cases hdup : eqb x y with
    | true =>
      have D : Aside (eqb x y = true) := hdup
      have hcall := HCC.out
      rw [hdup] at hcall
      have HCC : Aside _ := hcall
      clear hdup hcall
      go_wp2_with (fail)
      go_quiet (first | exact HCC.out _)
      go_wp2
      clear c0 c1 f0 f1 HCC
      go_loopg [5, 7] d.size (fun gg s5 s7 wr => ∃ (kk k2 q2 : Nat) (dk : Array α), s5 = .int .i64 kk ∧ s7 = .int .i64 k2 ∧ 1 ≤ k2 ∧ k + k2 ≤ d.size ∧ d.size - (k + k2) ≤ gg ∧ wr = putRow enc (Sort.ahead w q2) blk 0 dk ∧ Aside (KeptInv kp d (k + k2) kk dk))
      case atStart => exact ⟨k, 1, _, d, rfl, rfl, Nat.le_refl _, by omega, by omega, (putRow_self enc (Sort.ahead w _) blk 0 d (holds_ahead enc w _ blk 0 d HH.out)).symm, KeptInv.start A.out (KN.out k hk1 (by rw [B.out.1, B.out.2]; exact D.out))⟩
      case round =>
        obtain ⟨kk, k2, q2, dk, rfl, rfl, h1, hle, hg2, hwr, I2⟩ := hrel
        have hkk := I2.out.lt
        have hds := I2.out.size
        have hHk : Holds enc wr blk 0 dk := by rw [hwr]; exact holds_putRow enc _ blk 0 d dk (holds_ahead enc w q2 blk 0 d HH.out) hds
        have W2 : Aside (wr = putRow enc (Sort.ahead w q2) blk 0 dk) := hwr
        clear hwr
        by_cases hlt2 : k + k2 < d.size
        rotate_left
        · have hend : k + k2 = d.size := by omega
          have hcl : ∀ ty, (Builtin.clear_ #[32] ty #[.slice (some ⟨blk, kk, none⟩) (d.size - kk) (cap - kk)]).run Try.prog wr = .ok (.tuple #[]) (wr.setCells blk kk (List.replicate (d.size - kk) (enc zr))) :=
            fun ty => Lib.run_clear_slice wr _ _ ty _ Try.underlying32 (by rw [hz]; exact Try.zeroValue22) (hO.cells zr) (hO zr) blk kk _ _ (by omega) (fun j hj => by rw [show kk + j = 0 + (kk + j) by omega, (hHk (kk + j) (by omega)).1]; rfl) (fun j hj => by rw [show kk + j = 0 + (kk + j) by omega]; exact (hHk (kk + j) (by omega)).2)
          clear hHk
          go_wp2
          go_ret
          have hI := I2.out
          rw [hend] at hI
          refine ⟨by rw [hI.len]; rfl, q2, ?_⟩
          have h3 := putRow_setCells enc (Sort.ahead w q2) blk 0 (List.replicate (d.size - kk) zr) dk kk (by simp; omega)
          rw [Nat.zero_add] at h3
          rw [hI.len, ← hI.done zr, ← h3, ← W2.out, List.map_replicate, hz]
        obtain ⟨p2, hp2⟩ : ∃ p2, k2 = p2 + 1 := ⟨k2 - 1, by omega⟩
        obtain ⟨cm, _⟩ := hHk (k + k2) (by omega)
        obtain ⟨cp, _⟩ := hHk (k + p2) (by omega)
        obtain ⟨ck, fk⟩ := hHk kk (by omega)
        rw [I2.out.high (k + k2) (by omega), Nat.zero_add] at cm
        rw [I2.out.high (k + p2) (by omega), Nat.zero_add] at cp
        rw [Nat.zero_add] at ck fk
        have hq1 : (p2 : Int) < ((d.size - k : Nat) : Int) := by omega
        have hq2 : (k2 : Int) < ((d.size - k : Nat) : Int) := by omega
        have hq3 : IntKind.i64.wrap ((k2 : Int) - 1) = (p2 : Int) := by rw [Zbe, w64' (by omega) (by omega)]; omega
        clear hHk
        generalize hu : d[k + k2]! = u at cm
        generalize hv : d[k + p2]! = v at cp
        generalize dk[kk]! = old at ck
        have C : Aside (d[k + k2]! = u ∧ d[k + k2 - 1]! = v) := ⟨hu, by rw [show k + k2 - 1 = k + p2 by omega]; exact hv⟩
        have HP2 : Aside (k2 = p2 + 1) := hp2
        have hlt3 := Zaa.mk hlt2
        have hcall : ∀ n, Calls Try.prog g (#[enc u, enc v] ++ lb) (wr.drewN n) fun e w' => e = .returned (.bool (eqb u v)) ∧ ∃ q', w' = wr.drewN q' := fun n => by
          have h := HC.out (q2 + n) dk u v hds
          rw [← show (putRow enc (Sort.ahead w q2) blk 0 dk).drewN n = putRow enc (Sort.ahead w (q2 + n)) blk 0 dk from putRow_drewN _ _ _ _ _ _ _, ← W2.out] at h
          exact h.mono fun _ _ ⟨he, q', hq⟩ => ⟨he, n + q', by rw [hq, World.drewN_drewN]⟩
        clear hu hv hp2
        cases huv : eqb u v with
        | true =>
          have E : Aside (eqb u v = true) := huv
          rw [huv] at hcall
          have HCC : Aside _ := hcall
          clear huv hcall
          go_wp2_with (fail)
          go_quiet (first | exact HCC.out _)
          go_wp2
          go_roundg (d.size - (k + (k2 + 1)))
          case measure => omega
          case rel => exact ⟨kk, k2 + 1, q2 + nq, dk, rfl, by go_num, by omega, by omega, Nat.le_refl _, by rw [W2.out]; exact putRow_drewN _ _ _ _ _ _ _, I2.out.skip (KN.out _ (by omega) (by rw [C.out.1, C.out.2]; exact E.out))⟩
        | false =>
          have E : Aside (eqb u v = false) := huv
          rw [huv] at hcall
          have HCC : Aside _ := hcall
          clear huv hcall
          go_wp2_with (fail)
          go_quiet (first | exact HCC.out _)
          go_wp2
          go_roundg (d.size - (k + (k2 + 1)))
          case measure => omega
          case rel => exact ⟨kk + 1, k2 + 1, q2 + nq, dk.setIfInBounds kk u, by go_num, by go_num, by omega, by omega, Nat.le_refl _, by have := store_world_l enc (m := nq) (i := kk) (by omega) W2.out u; rwa [Nat.zero_add] at this, by have := I2.out.keep hlt3.out (KY.out _ (by rw [C.out.1, C.out.2]; exact E.out)); rwa [C.out.1] at this⟩
    | false =>
      have D : Aside (eqb x y = false) := hdup
      have hcall := HCC.out
      rw [hdup] at hcall
      have HCC : Aside _ := hcall
      clear hdup hcall
      go_wp2_with (fail)
      go_quiet (first | exact HCC.out _)
      go_wp2
      go_roundg (d.size - (k + 1))
      case measure => omega
      case rel =>
        refine ⟨k + 1, _, by omega, by omega, Nat.le_refl _, by go_num, rfl, fun j hj => ?_⟩
        by_cases e : j = k
        rotate_left
        · exact A.out j (by omega)
        subst e
        exact KY.out _ (by rw [B.out.1, B.out.2]; exact D.out)
end Go.Proofs.Yteopgafbamipeaa.P
/- slices.Clone of lists of whole numbers: a new row of the same lists (where they came in). -/
namespace Go.Proofs.Yteopgafbamipeaa.P
open Go.RowKit Go.Proofs.YteopgafbamipeaaW.PrintWords Go.Proofs.YteopgafbamipeaaW.PrintLast Go.Proofs.YteopgafbamipeaaW.PrintMore
set_option linter.unusedVariables false
set_option linter.unusedSimpArgs false

abbrev kInts : Kd (List Int) := Kd.slice 3 (Kd.int .i64)
set_option maxRecDepth 100000 in
set_option maxHeartbeats 2000000 in
theorem cloneL.calls (A0 : Option Addr) (c0 : Nat) (l0 : List (List Int)) (w : World) (hr0 : Kd.C kInts w A0 l0.length l0) (hc0 : l0.length ≤ c0) (hl : l0.length < 5864062014805) :
    Calls Try.prog 42 #[.slice A0 l0.length c0] w fun e w' => ∃ v0_ : Value, e = .returned (v0_) ∧ Kd.R (Kd.fixed kInts w) 22 w' w.heap.size (fun _ => True) v0_ l0 ∧ Below w.heap.size w w' := by
  have hu := Try.underlying22
  have q22 : ∀ (w : World) (a : Option Addr) (n c n' c' : Nat), (binOp .eql 32 (.slice a n c) (.slice none n' c')).run Try.prog w = .ok (.bool a.isNone) w := fun w a n c n' c' => Lib.run_eql_slice_nil w _ _ a n c n' c' Try.underlying32
  have HL := Zaa.mk hl
  clear hl
  have HR := Zaa.mk hr0
  have hlen : l0.length ≤ 9223372036854775807 := hr0.2.1
  cases A0 with
  | none =>
    have h0 : l0 = [] := by
      rcases Nat.eq_zero_or_pos l0.length with h | h
      · exact List.length_eq_zero_iff.1 h
      obtain ⟨ad, e, _⟩ := hr0.2.2 h; cases e
    subst h0
    clear hr0
    go_enter Try.func42, Try.ntmps42
    go_wp2
    go_ret
    exact ⟨_, rfl, Kd.Zdo _ _ _ _ _, Below.refl _ _⟩
  | some ad =>
    clear hr0
    have HB := Zaa.mk (Below.refl w.heap.size w)
    go_enter Try.func42, Try.ntmps42
    go_wp2_with (first | ((with_reducible refine Zbn (N := 5) rfl ?_); refine Kd.Zex (Kd.fixed kInts w) _ 22 ?hg (N := 5) ?hd (xs := ([] : List (List Int))) (inner := []) (ok := fun _ => True) (okp := fun _ => True) ?hr ?hp (fun _ hk => hk) trivial (Below.refl w.heap.size w) (Nat.le_refl _) (by simp) ?_; (case hd => rfl); (case hg => rfl); (case hr => first | (go_simp; done) | (go_simp; rfl)); (case hp => exact (Reps.none _ _)); intro v1 w1 ho hb hg_ hnew_; have HO := Zaa.mk ho; have HB := Zaa.mk hb; clear ho hb hg_ hnew_) | ((with_reducible refine Za1 (b := .append) (xs := #[.tmp 5, .tmp 6]) rfl ?_); at_builtin; go_loud (refine Kd.Zcj (Kd.fixed kInts w) (Rr := kInts.K w) (w0 := w) w.heap.size rfl (.tmp 5) (.tmp 6) 32 22 (.slice none 0 0) 24 rfl Try.underlying32 Zcm rfl (Nat.lt_succ_self 0) (by omega) v1 ([] : List (List Int)) l0 _ _ _ (fun _ => True) (fun _ => False) rfl rfl ?aO ?aR ?aK (fun _ h => h.elim) ?aF ?aB ?aS ?aL ?_; (case aR => exact ReadsRow.imp_ HR.out HB.out (fun _ _ h => h)); (case aK => intro x cs h; exact h); (case aB => exact HB.out); (case aF => exact (fun _ _ => trivial)); (case aO => exact HO.out); (case aS => exact HB.out.size); (case aL => have := HL.out; simp; omega); intro v2 w2 ho2 hb2 hg hat; have HO2 := Zaa.mk ho2; have HB2 := Zaa.mk hb2; clear ho2 hb2 hg hat)))
    go_ret
    exact ⟨_, rfl, by simpa using HO2.out, HB2.out⟩
end Go.Proofs.Yteopgafbamipeaa.P
/- slices.Clone of whole numbers. -/
namespace Go.Proofs.Yteopgafbamipeaa.P
open Go.RowKit Go.Proofs.YteopgafbamipeaaW.PrintWords Go.Proofs.YteopgafbamipeaaW.PrintLast Go.Proofs.YteopgafbamipeaaW.PrintMore
set_option linter.unusedVariables false
set_option linter.unusedSimpArgs false

def cloneI.f (l0 : List Int) : Option (List Int) := if l0.length < 17592186044416 then some l0 else none
set_option maxRecDepth 100000 in
set_option maxHeartbeats 2000000 in
theorem cloneI.calls (A0 : Option Addr) (c0 : Nat) (l0 : List Int) (r : List Int) (w : World) (hr0 : Kd.C (Kd.int .i64) w A0 l0.length l0) (hc0 : l0.length ≤ c0) (h : cloneI.f l0 = some r) :
    Calls Try.prog 37 #[.slice A0 l0.length c0] w fun e w' => ∃ v0_ : Value, e = .returned (v0_) ∧ Kd.R (Kd.int .i64) 3 w' w.heap.size (fun _ => True) v0_ r ∧ Below w.heap.size w w' := by
  have hu := Try.underlying3
  have q22 : ∀ (w : World) (a : Option Addr) (n c n' c' : Nat), (binOp .eql 22 (.slice a n c) (.slice none n' c')).run Try.prog w = .ok (.bool a.isNone) w := fun w a n c n' c' => Lib.run_eql_slice_nil w _ _ a n c n' c' Try.underlying22
  unfold cloneI.f at h
  split at h
  case isFalse => cases h
  case isTrue hl =>
    obtain rfl := Option.some.inj h
    have HL := Zaa.mk hl
    clear h hl
    have HR := Zaa.mk hr0
    have hlen : l0.length ≤ 9223372036854775807 := hr0.2.1
    cases A0 with
    | none =>
      have h0 : l0 = [] := by
        rcases Nat.eq_zero_or_pos l0.length with h | h
        · exact List.length_eq_zero_iff.1 h
        obtain ⟨ad, e, _⟩ := hr0.2.2 h; cases e
      subst h0
      clear hr0
      go_enter Try.func37, Try.ntmps37
      go_wp2
      go_ret
      exact ⟨_, rfl, Kd.Zdo _ _ _ _ _, Below.refl _ _⟩
    | some ad =>
      clear hr0
      have HB := Zaa.mk (Below.refl w.heap.size w)
      go_enter Try.func37, Try.ntmps37
      go_wp2_with (first | ((with_reducible refine Zbn (N := 5) rfl ?_); refine Kd.Zex (Kd.int .i64) _ 3 ?hg (N := 5) ?hd (xs := ([] : List Int)) (inner := []) (ok := fun _ => True) (okp := fun _ => True) ?hr ?hp (fun _ hk => hk) trivial (Below.refl w.heap.size w) (Nat.le_refl _) (by simp) ?_; (case hd => rfl); (case hg => rfl); (case hr => first | (go_simp; done) | (go_simp; rfl)); (case hp => exact (Reps.none _ _)); intro v1 w1 ho hb hg_ hnew_; have HO := Zaa.mk ho; have HB := Zaa.mk hb; clear ho hb hg_ hnew_) | ((with_reducible refine Za1 (b := .append) (xs := #[.tmp 5, .tmp 6]) rfl ?_); at_builtin; go_loud (refine Kd.Zcj (Kd.int .i64) (Rr := (Kd.int .i64).K w1) (w0 := w) w.heap.size rfl (.tmp 5) (.tmp 6) 22 3 (.int .i64 0) 8 rfl Try.underlying22 info3 rfl (by decide) (by omega) v1 ([] : List Int) l0 _ _ _ (fun _ => True) (fun _ => False) rfl rfl ?aO ?aR ?aK (fun _ h => h.elim) ?aF ?aB ?aS ?aL ?_; (case aR => exact Kd.Zaq HR.out HB.out); (case aK => intro x cs h; have e_ := h; subst e_; rfl); (case aB => exact HB.out); (case aF => exact (fun _ _ => trivial)); (case aO => exact HO.out); (case aS => exact HB.out.size); (case aL => have := HL.out; simp; omega); intro v2 w2 ho2 hb2 hg hat; have HO2 := Zaa.mk ho2; have HB2 := Zaa.mk hb2; clear ho2 hb2 hg hat)))
      go_ret
      exact ⟨_, rfl, by simpa using HO2.out, HB2.out⟩
end Go.Proofs.Yteopgafbamipeaa.P
/- table.Sorted: lists in order, each once. -/
namespace Go.Proofs.Yteopgafbamipeaa.P
open Go.RowKit Go.Shelf Go.Lib Go.Sort Go.Proofs.YteopgafbamipeaaW.PrintWords Go.Proofs.YteopgafbamipeaaW.PrintLast Go.Proofs.YteopgafbamipeaaW.PrintMore
set_option linter.unusedVariables false
set_option linter.unusedSimpArgs false

/-- A list that lies in w0, by its header. -/
structure SubL (w0 : World) where
  v : Value
  l : List Int
  ok : kInts.K w0 l [v]
theorem nilL (w0 : World) : kInts.K w0 [] [.slice none 0 0] := ⟨none, 0, rfl, Nat.le_refl _, rfl, by simp, fun h => absurd h (by simp)⟩
instance (w0 : World) : Inhabited (SubL w0) := ⟨⟨.slice none 0 0, [], nilL w0⟩⟩
theorem oneL (w0 : World) : OneCell (SubL.v (w0 := w0)) := fun x => kInts.K_one x.ok x.v (by simp)
def cfL {w0 : World} (x y : SubL w0) : Int := lexCmp x.l y.l
theorem ltL {w0 : World} (x y : SubL w0) : ltOf cfL x y = lexLt x.l y.l := by
  unfold ltOf cfL
  rw [Bool.eq_iff_iff, decide_eq_true_iff]
  exact Zef
theorem swoL (w0 : World) : Go.Sort.SWO (ltOf (cfL (w0 := w0))) := by
  refine ⟨fun x => ?_, fun x y z h1 h2 => ?_, fun x y z h1 h2 => ?_⟩
  · rw [ltL, Zbm]
  · rw [ltL] at *; exact Zb8 h1 h2
  rw [ltL] at *
  cases hz : lexLt x.l z.l with
  | false => rfl
  | true =>
    by_cases e : x.l = y.l
    · rw [e] at hz; rw [hz] at h2; cases h2
    have h3 := (Zce e).resolve_left (by rw [h1]; simp)
    have := Zb8 h3 hz
    rw [h2] at this; cases this
def eqL {w0 : World} (x y : SubL w0) : Bool := decide (x.l = y.l)

/-! ### What is kept -/
theorem kept_sorted {w0 : World} (d : Array (SubL w0)) (hs : SortedIn (ltOf cfL) 0 d.size d) : SSL ((keptUpTo (stayL eqL d) d d.size).map (·.l)) := by
  have hle : ∀ i j, i ≤ j → j < d.size → lexLt d[j]!.l d[i]!.l = false := fun i j hij hj => by
    rcases Nat.lt_or_eq_of_le hij with h | rfl
    · have := hs i j (Nat.zero_le _) h hj
      rwa [ltL] at this
    exact Zbm _
  unfold keptUpTo
  rw [List.map_map]
  refine List.Pairwise.map _ (fun a b h => h) ?_
  have h1 : List.Pairwise (fun a b : Nat => a < b) ((List.range d.size).filter (stayL eqL d)) := List.Pairwise.filter _ List.pairwise_lt_range
  refine (List.pairwise_iff_forall_sublist.2 fun {a b} hab => ?_)
  have hlt : a < b := List.pairwise_iff_forall_sublist.1 h1 hab
  have hb : b ∈ (List.range d.size).filter (stayL eqL d) := hab.subset (by simp)
  obtain ⟨hb1, hb2⟩ := List.mem_filter.1 hb
  have hbs : b < d.size := List.mem_range.1 hb1
  have hne : d[b]!.l ≠ d[b - 1]!.l := by
    unfold stayL eqL at hb2
    simp at hb2
    exact hb2.resolve_left (by omega)
  have h2 := hle (b - 1) b (by omega) hbs
  have h3 := hle a (b - 1) (by omega) (by omega)
  have h4 : lexLt d[b - 1]!.l d[b]!.l = true := (Zce hne).resolve_left (by rw [h2]; simp)
  show lexLt d[a]!.l d[b]!.l = true
  by_cases e : d[a]!.l = d[b - 1]!.l
  · rw [e]; exact h4
  exact Zb8 ((Zce e).resolve_right (by rw [h3]; simp)) h4
theorem kept_mem {w0 : World} (d : Array (SubL w0)) (x : List Int) : x ∈ (keptUpTo (stayL eqL d) d d.size).map (·.l) ↔ ∃ j, j < d.size ∧ d[j]!.l = x := by
  unfold keptUpTo
  rw [List.map_map]
  constructor
  · intro h
    obtain ⟨j, hj, rfl⟩ := List.mem_map.1 h
    exact ⟨j, List.mem_range.1 (List.mem_filter.1 hj).1, rfl⟩
  rintro ⟨j, hj, rfl⟩
  induction j with
  | zero => exact List.mem_map.2 ⟨0, List.mem_filter.2 ⟨List.mem_range.2 hj, rfl⟩, rfl⟩
  | succ j ih =>
    cases hs : stayL eqL d (j + 1) with
    | true => exact List.mem_map.2 ⟨j + 1, List.mem_filter.2 ⟨List.mem_range.2 hj, hs⟩, rfl⟩
    | false =>
      have e : d[j + 1]!.l = d[j]!.l := by
        unfold stayL eqL at hs
        simpa using hs
      rw [e]
      exact ih (by omega)
theorem kept_sdL {w0 : World} (d d' : Array (SubL w0)) (l0 : List (List Int)) (hd : d.toList.map (·.l) = l0) (hp : PermIn 0 d.size d d') (hs : SortedIn (ltOf cfL) 0 d.size d') : (keptUpTo (stayL eqL d') d' d'.size).map (·.l) = sdL l0 := by
  have hsz := hp.1
  refine (sdL_eq (kept_sorted d' (by rw [hsz]; exact hs)) (fun x => (kept_mem d' x).trans ?_)).symm
  have hperm : List.Perm d'.toList d.toList := by
    have h := hp.2.2
    have e1 : d.extract 0 d.size = d := by simp
    have e2 : d'.extract 0 d.size = d' := by rw [← hsz]; simp
    rwa [e1, e2] at h
  have h1 : (∃ j, j < d'.size ∧ d'[j]!.l = x) ↔ x ∈ d'.toList.map (·.l) := by
    rw [List.mem_map]
    constructor
    · rintro ⟨j, hj, rfl⟩
      exact ⟨d'[j]!, by rw [getElem!_pos d' j hj]; exact Array.getElem_mem_toList hj, rfl⟩
    rintro ⟨a, ha, rfl⟩
    obtain ⟨j, hj, rfl⟩ := List.mem_iff_getElem.1 ha
    have hj' : j < d'.size := by simpa using hj
    exact ⟨j, hj', by rw [getElem!_pos d' j hj', Array.getElem_toList]⟩
  rw [h1, ← hd]
  exact (hperm.map _).mem_iff

/-! ### The sort -/
theorem Zfy {α : Type} [Inhabited α] (enc : α → Value) (w : World) (g off n : Nat) (d : Array α) (os : Array Obj) : w.grownBy (sortWorld enc w g off n d os) (some g) := by
  unfold sortWorld
  refine ⟨rfl, rfl, rfl, by simp [size_putRow], fun k hk hne => ?_⟩
  have hs : (putRow enc (Sort.ahead w n) g off d).heap.size = w.heap.size := size_putRow _ _ _ _ _
  rw [Go.Sort.heap_grow_old _ _ (by rw [hs]; exact hk)]
  have : g ≠ k := fun e => hne (by rw [e])
  simp [Go.Sort.putRow, Go.Sort.mapBlock, Go.Sort.ahead, Array.getElem?_modify, this]
theorem compareAt {w0 : World} (x y : SubL w0) (W : World) (hW : Below w0.heap.size w0 W) : Calls Try.prog 36 #[x.v, y.v] W fun e w' => e = .returned (.int .i64 (cfL x y)) ∧ ∃ q, w' = W.drewN q := by
  obtain ⟨xv, xl, A, c, hx, hl, hC⟩ := x
  obtain ⟨yv, yl, A', c', hy, hl', hC'⟩ := y
  obtain rfl : xv = _ := List.singleton_inj.1 hx
  obtain rfl : yv = _ := List.singleton_inj.1 hy
  refine (compareL A c xl A' c' yl W (Kd.Zaq hC hW) hl (Kd.Zaq hC' hW) hl').mono ?_
  rintro e w' ⟨rfl, ⟨nd, rfl⟩⟩
  exact ⟨rfl, nd, rfl⟩
/-- A row of lists, sorted. -/
def SortedQ (wb : World) (l0 : List (List Int)) (w : World) (v : Value) : Prop :=
  (v = .slice none 0 0 ∧ l0 = []) ∨ ∃ (g cap : Nat) (d : Array (SubL wb)), v = .slice (some ⟨g, 0, none⟩) d.size cap ∧ d.size ≤ cap ∧ d.size ≤ 9223372036854775807 ∧ Holds SubL.v w g 0 d ∧ g < w.heap.size ∧ wb.heap.size ≤ g ∧ (keptUpTo (stayL eqL d) d d.size).map (·.l) = sdL l0
theorem sub_of (wb : World) (l0 : List (List Int)) (inner : List Value) (h : Reps (fun (x : List Int) cs => kInts.K wb x cs) 1 l0 inner) : ∃ l : List (SubL wb), l.map (·.v) = inner ∧ l.map (·.l) = l0 := by
  have hlen : inner.length = l0.length := by rw [h.1, Nat.mul_one]
  clear hlen
  induction l0 generalizing inner with
  | nil =>
    have : inner = [] := List.length_eq_zero_iff.1 (by rw [h.1]; simp)
    subst this
    exact ⟨[], rfl, rfl⟩
  | cons x l0 ih =>
    obtain ⟨u, inner, rfl⟩ : ∃ u t, inner = u :: t := by
      cases inner with
      | nil => have := h.1; simp at this
      | cons u t => exact ⟨u, t, rfl⟩
    have hx : kInts.K wb x [u] := by
      have := h.2 0 x rfl
      simpa using this
    have hrest : Reps (fun (x : List Int) cs => kInts.K wb x cs) 1 l0 inner := by
      refine ⟨by have := h.1; simp at this ⊢; omega, fun j p hj => ?_⟩
      have := h.2 (j + 1) p (by simpa using hj)
      simpa [Nat.add_mul] using this
    obtain ⟨l, h1, h2⟩ := ih inner hrest
    exact ⟨⟨u, x, hx⟩ :: l, by simp [h1], by simp [h2]⟩
set_option maxHeartbeats 2000000 in
theorem sortStep (wb w : World) (v : Value) (l0 : List (List Int)) (hl : l0.length < 1000000000) (hB : Below wb.heap.size wb w) (hR : Kd.R (Kd.fixed kInts wb) 22 w wb.heap.size (fun _ => True) v l0) :
    Calls Try.prog 43 #[v, .func (.func 36) #[] #[]] w fun e w' => e = .returned (.tuple #[]) ∧ SortedQ wb l0 w' v ∧ Below wb.heap.size wb w' := by
  obtain ⟨hP, inner, hown, hreps⟩ := hR
  rcases hown.2 with ⟨rfl, h0⟩ | ⟨g, cap, cur, rfl, hg, hb, hn, hcap, hcs, htk⟩
  · refine (AnyF.slices_SortFunc_none { lsortL with } none 0 _ w).mono ?_
    rintro e w' ⟨rfl, rfl⟩
    exact ⟨rfl, .inl ⟨rfl, List.length_eq_zero_iff.1 h0⟩, hB⟩
  have hgl : g < w.heap.size := (Array.getElem?_eq_some_iff.1 hb).1
  obtain ⟨l, hlv, hll⟩ := sub_of wb l0 inner hreps
  have hlen : l.length = l0.length := by rw [← hll]; simp
  have hH : Holds (SubL.v (w0 := wb)) w g 0 l.toArray := by
    intro j hj
    have hj' : j < l.length := by simpa using hj
    refine ⟨?_, by simp [World.frozen?, hb]⟩
    have h1 : (cur.toList.take (l0.length * 1))[j]? = inner[j]? := by rw [← htk]; rfl
    rw [List.getElem?_take_of_lt (by omega), ← hlv, Array.getElem?_toList, List.getElem?_map, List.getElem?_eq_getElem hj'] at h1
    simp only [World.cell?, hb, Nat.zero_add]
    simp only [Option.isSome_none, Bool.false_eq_true, if_false]
    rw [h1, getElem!_pos _ j hj]
    rfl
  have hS := Any.slices_SortFunc lsortL (SubL.v (w0 := wb)) (oneL wb) cfL (swoL wb) 36 #[] g 0 cap l.toArray w
    (enters_of Try.func36 (by kernel_rfl) rfl) (fun m os dk hs x y => by
      refine (compareAt x y _ ?_).mono ?_
      · have hgr : w.grownBy (sortWorld (SubL.v (w0 := wb)) w g 0 m dk os) (some g) := Zfy _ _ _ _ _ _ _
        exact hB.grown hgr hB.size (fun k e => by cases e; exact hg)
      rintro e w' ⟨rfl, q, rfl⟩
      exact ⟨rfl, q, #[], by rw [grow_empty]⟩) hH hgl (by simp; omega)
  have hsz : l.toArray.size = l0.length := by simpa using hlen
  rw [hsz] at hS
  refine Calls.mono (P := Try.prog) (f := 43) hS ?_
  rintro e w' ⟨rfl, d', n, os, hp, hs, rfl⟩
  have hgr : w.grownBy (sortWorld (SubL.v (w0 := wb)) w g 0 n d' os) (some g) := Zfy _ _ _ _ _ _ _
  have hsz' : d'.size = l0.length := by rw [hp.1, hsz]
  refine ⟨rfl, .inr ⟨g, cap, d', by rw [hsz'], by omega, by omega, holds_sortWorld _ w g 0 n l.toArray d' os hgl hH hp.1, Nat.lt_of_lt_of_le hgl hgr.size, hg, ?_⟩, hB.grown hgr hB.size (fun k e => by cases e; exact hg)⟩
  exact kept_sdL l.toArray d' l0 (by simpa using hll) (by rw [hsz]; exact hp) (by rw [hsz]; exact hs)

/-! ### What is there twice -/
set_option maxHeartbeats 2000000 in
theorem compact_few (A : Option Addr) (n c : Nat) (f : Value) (w : World) (hn : n < 2) : Calls Try.prog 44 #[.slice A n c, f] w fun e w' => e = .returned (.slice A n c) ∧ w' = w := by
  have hs2 : decide ((n : Int) < 2) = true := decide_eq_true (by omega)
  go_enter Try.func44, Try.ntmps44
  go_wp2
  go_ret
  exact ⟨rfl, rfl⟩
set_option maxHeartbeats 2000000 in
theorem sameAt {w0 : World} (bx : Nat) (hbx : bx < w0.heap.size) (hb : w0.cell? ⟨bx, 0, none⟩ = some (.func (.func 36) #[] #[])) (x y : SubL w0) (W : World) (hW : Below w0.heap.size w0 W) :
    Calls Try.prog 45 (#[x.v, y.v] ++ #[.pointer (some ⟨bx, 0, none⟩)]) W fun e w' => e = .returned (.bool (eqL x y)) ∧ ∃ q, w' = W.drewN q := by
  have hc : W.cell? ⟨bx, 0, none⟩ = some (.func (.func 36) #[] #[]) := (hW.cell (p := ⟨bx, 0, none⟩) hbx).trans hb
  have cC := compareAt x y W hW
  show Calls Try.prog 45 #[x.v, y.v, .pointer (some ⟨bx, 0, none⟩)] W fun e w' => e = .returned (.bool (eqL x y)) ∧ ∃ q, w' = W.drewN q
  have eg := enters_of (P := Try.prog) Try.func36 (by kernel_rfl) rfl
  obtain ⟨r, hr⟩ : ∃ r, r = eqL x y := ⟨_, rfl⟩
  have hz : decide (cfL x y = 0) = r := by
    rw [hr]
    unfold cfL eqL
    exact decide_eq_decide.2 Zdw
  rw [← hr]
  have HR := Zaa.mk hr
  clear hr
  generalize x.v = xv at cC ⊢
  generalize y.v = yv at cC ⊢
  generalize cfL x y = cf at cC hz
  clear HR
  go_enter Try.func45, Try.ntmps45
  go_wp2_with (go_at_call 36; refine cC.mono ?_; rintro e w' ⟨rfl, q, rfl⟩)
  go_ret
  exact ⟨by rw [← hz]; first | rfl | (simp; done), q, rfl⟩

theorem size_ahead (w : World) (n : Nat) : (Sort.ahead w n).heap.size = w.heap.size := rfl
theorem Ze4 {α : Type} [Inhabited α] (enc : α → Value) (w : World) (g off n : Nat) (d : Array α) : w.grownBy (putRow enc (Sort.ahead w n) g off d) (some g) := by
  refine ⟨rfl, rfl, rfl, by simp [size_putRow, size_ahead], fun k hk hne => ?_⟩
  have : g ≠ k := fun e => hne (by rw [e])
  simp [Go.Sort.putRow, Go.Sort.mapBlock, Go.Sort.ahead, Array.getElem?_modify, this]
set_option maxHeartbeats 2000000 in
theorem compactStep (wb w : World) (v : Value) (l0 : List (List Int)) (bx : Nat) (hbx : bx < wb.heap.size) (hb : wb.cell? ⟨bx, 0, none⟩ = some (.func (.func 36) #[] #[])) (hB : Below wb.heap.size wb w) (hQ : SortedQ wb l0 w v) :
    Calls Try.prog 44 #[v, .func (.func 45) #[] #[.pointer (some ⟨bx, 0, none⟩)]] w fun e w' => ∃ A c, e = .returned (.slice A (sdL l0).length c) ∧ (sdL l0).length ≤ c ∧ Kd.C kInts w' A (sdL l0).length (sdL l0) ∧ Below wb.heap.size wb w' := by
  rcases hQ with ⟨rfl, rfl⟩ | ⟨g, cap, d, rfl, hcap, hmax, hH, hg, hgb, hk⟩
  · refine (compact_few none 0 0 _ w (by omega)).mono ?_
    rintro e w' ⟨rfl, rfl⟩
    exact ⟨none, 0, rfl, Nat.le_refl _, Kd.C_nil _ _, hB⟩
  refine (compactL_ (SubL.v (w0 := wb)) (oneL wb) eqL 45 _ (enters_of Try.func45 (by kernel_rfl) rfl) default rfl g cap d w hH (fun q dk x y hs => sameAt bx hbx hb x y _ ?_) hmax hcap (stayL eqL d) rfl).mono ?_
  · exact hB.grown (Ze4 _ _ _ _ _ _) hB.size (fun k e => by cases e; exact hgb)
  rintro e w' ⟨rfl, q, rfl⟩
  have hlen : (keptUpTo (stayL eqL d) d d.size).length = (sdL l0).length := by rw [← hk]; simp
  have hle : (keptUpTo (stayL eqL d) d d.size).length ≤ d.size := by
    unfold keptUpTo
    rw [List.length_map]
    exact Nat.le_trans (List.length_filter_le _ _) (by simp)
  have hB2 : Below wb.heap.size wb (putRow (SubL.v (w0 := wb)) (Sort.ahead w q) g 0 (keptUpTo (stayL eqL d) d d.size ++ List.replicate (d.size - (keptUpTo (stayL eqL d) d d.size).length) default).toArray) := hB.grown (Ze4 _ _ _ _ _ _) hB.size (fun k e => by cases e; exact hgb)
  refine ⟨some ⟨g, 0, none⟩, cap, by rw [hlen], by omega, reads_one (d := kInts) rfl (by omega) (fun k hk1 => ?_), hB2⟩
  have hk2 : k < (keptUpTo (stayL eqL d) d d.size).length := by omega
  have hsz : (keptUpTo (stayL eqL d) d d.size ++ List.replicate (d.size - (keptUpTo (stayL eqL d) d d.size).length) (default : SubL wb)).toArray.size = d.size := by simp; omega
  have hHp := holds_putRow (SubL.v (w0 := wb)) (Sort.ahead w q) g 0 d _ (holds_ahead _ w q g 0 d hH) hsz
  have h1 := (hHp k (by rw [hsz]; omega)).1
  rw [Nat.zero_add, getElem!_pos _ k (by rw [hsz]; omega)] at h1
  rw [Zcw]
  refine ⟨_, h1, ?_⟩
  have e1 : (sdL l0)[k] = ((keptUpTo (stayL eqL d) d d.size)[k]).l := by simp only [← hk]; simp
  have e2 : (keptUpTo (stayL eqL d) d d.size ++ List.replicate (d.size - (keptUpTo (stayL eqL d) d d.size).length) (default : SubL wb)).toArray[k]'(by rw [hsz]; omega) = (keptUpTo (stayL eqL d) d d.size)[k] := by
    rw [List.getElem_toArray, List.getElem_append_left hk2]
  rw [e1, e2]
  exact kInts.K_below hB2 (keptUpTo (stayL eqL d) d d.size)[k].ok

set_option maxRecDepth 100000 in
set_option maxHeartbeats 2000000 in
theorem sortedL (A0 : Option Addr) (c0 : Nat) (l0 : List (List Int)) (w : World) (hr0 : Kd.C kInts w A0 l0.length l0) (hc0 : l0.length ≤ c0) (hl : l0.length < 1000000000) :
    Calls Try.prog 35 #[.slice A0 l0.length c0, .func (.func 36) #[] #[]] w fun e w' => ∃ A c, e = .returned (.slice A (sdL l0).length c) ∧ (sdL l0).length ≤ c ∧ Kd.C kInts w' A (sdL l0).length (sdL l0) ∧ Below w.heap.size w w' := by
  obtain ⟨wb, hwb⟩ : ∃ wb, wb = w.alloc (.cells #[.func (.func 36) #[] #[]] 51) := ⟨_, rfl⟩
  have hB : Below w.heap.size w wb := by rw [hwb]; exact (Below.refl _ w).alloc (Nat.le_refl _) _
  have hbx : w.heap.size < wb.heap.size := by rw [hwb]; simp
  have hcell : wb.cell? ⟨w.heap.size, 0, none⟩ = some (.func (.func 36) #[] #[]) := by rw [hwb]; simp
  have cC := cloneL.calls A0 c0 l0 wb (Kd.Zaq hr0 hB) hc0 (by omega)
  have cS := fun (W : World) (v : Value) (h1 : Below wb.heap.size wb W) (h2 : Kd.R (Kd.fixed kInts wb) 22 W wb.heap.size (fun _ => True) v l0) => sortStep wb W v l0 hl h1 h2
  have cK := fun (W : World) (v : Value) (h1 : Below wb.heap.size wb W) (h2 : SortedQ wb l0 W v) => compactStep wb W v l0 w.heap.size hbx hcell h1 h2
  have HC := Zaa.mk hcell
  have HB := Zaa.mk hB
  have HW := Zaa.mk hwb
  clear hr0 hcell hB hl
  have hload : ∀ W, Below wb.heap.size wb W → W.cell? ⟨w.heap.size, 0, none⟩ = some (.func (.func 36) #[] #[]) := fun W h => (h.cell (p := ⟨w.heap.size, 0, none⟩) hbx).trans HC.out
  have HL := Zaa.mk hload
  clear hload
  go_enter Try.func35, Try.ntmps35
  rw [hwb] at cC
  go_wp2_with (first | (go_at_call 42; refine cC.mono ?_; rw [← hwb]; rintro e W1 ⟨v1, rfl, hR1, hb1⟩; have hc1 := HL.out W1 hb1; have HR1 := Zaa.mk hR1; have HB1 := Zaa.mk hb1; clear hR1 hb1) | (go_at_call 43; refine (cS _ _ HB1.out HR1.out).mono ?_; rintro e W2 ⟨rfl, hQ, hb2⟩; have hc2 := HL.out W2 hb2; have HQ := Zaa.mk hQ; have HB2 := Zaa.mk hb2; clear hQ hb2) | (go_at_call 44; refine (cK _ _ HB2.out HQ.out).mono ?_; rintro e W3 ⟨A, c, rfl, hc, hC, hb3⟩))
  go_ret
  exact ⟨A, c, rfl, hc, hC, HB.out.trans (hb3.mono HB.out.size)⟩

def Za8.f (l0 : List (List Int)) : Option (List (List Int)) := if l0.length < 1000000000 then (if (l0.all fun x => decide (x.length < 17592186044416)) = true then some (sdL l0) else none) else none
set_option maxRecDepth 100000 in
set_option maxHeartbeats 4000000 in
theorem Za8.calls (A0 : Option Addr) (c0 : Nat) (l0 : List (List Int)) (r : List (List Int)) (w : World) (hr0 : Kd.C kInts w A0 l0.length l0) (hc0 : l0.length ≤ c0) (h : Za8.f l0 = some r) :
    Calls Try.prog 30 #[.slice A0 l0.length c0] w fun e w' => ∃ v0_ : Value, e = .returned (v0_) ∧ Kd.S kInts 22 w' w.heap.size (fun _ => True) v0_ r ∧ Below w.heap.size w w' := by
  unfold Za8.f at h
  split at h
  case isFalse => cases h
  case isTrue hl =>
    split at h
    case isFalse => cases h
    case isTrue hall =>
      obtain rfl := Option.some.inj h
      have hlen := Zdm l0
      have hin : Zaa (∀ x ∈ sdL l0, x.length < 17592186044416) := ⟨fun x hx => by simpa using List.all_eq_true.1 hall x ((Zcn x l0).1 hx)⟩
      clear h hall
      have cS := sortedL A0 c0 l0 w hr0 hc0 hl
      clear hr0
      generalize sdL l0 = ls at *
      have hmax : ls.length ≤ 1000000000 := by omega
      clear hlen hl
      go_enter Try.func30, Try.ntmps30
      go_wp2_with (first | (go_at_call 35; refine cS.mono ?_; rintro e W1 ⟨A1, c1, rfl, hc1, hC1, hb1⟩; have HC1 := Zaa.mk hC1; have HB1 := Zaa.mk hb1; clear hC1 hb1))
      go_loopg [3, 9] ls.length (fun gg v3 s9 wr => ∃ kk : Nat, kk ≤ ls.length ∧ ls.length - kk ≤ gg ∧ s9 = .int .i64 kk ∧ Zaa (Kd.S kInts 22 wr W1.heap.size (fun _ => True) v3 (ls.take kk)) ∧ Zaa (Below W1.heap.size W1 wr))
      case atStart => exact ⟨0, Nat.zero_le _, by omega, rfl, ⟨Kd.Zd _ _ _ _ _⟩, ⟨Below.refl _ _⟩⟩
      case round =>
        obtain ⟨kk, hkk, hg, rfl, HO, HBW⟩ := hrel
        by_cases hlt : kk < ls.length
        rotate_left
        · obtain rfl : kk = ls.length := by omega
          go_wp2
          go_ret
          have := HO.out
          rw [List.take_length] at this
          exact ⟨_, rfl, Kd.Zed this HB1.out.size, HB1.out.trans (HBW.out.mono HB1.out.size)⟩
        obtain ⟨ad, Ai, ci, rfl, hx, hci, hCi⟩ := Zdk (Kd.Zaq HC1.out HBW.out) kk hlt
        have hil := hin.out _ (List.getElem_mem hlt)
        have htk : Zaa (ls.take (kk + 1) = ls.take kk ++ [ls[kk]]) := ⟨List.take_succ_eq_append_getElem hlt⟩
        have htl : Zaa ((ls.take kk).length ≤ 1000000000) := ⟨by rw [List.length_take]; omega⟩
        have cI := fun W (hW : Below wr.heap.size wr W) => cloneI.calls Ai ci ls[kk] ls[kk] W (Kd.Zaq hCi hW) hci (by unfold cloneI.f; rw [if_pos hil])
        generalize ls[kk] = x at *
        have HCI := Zaa.mk cI
        clear cI hCi
        go_wp2_with (first | (go_at_call 37; refine (HCI.out _ (by repeat (first | exact Below.refl _ _ | apply Zac | apply Zab | apply Zad))).mono ?_; rintro e w23 ⟨v314, rfl, ho0, hb⟩; have n0_ := Zaa.mk (Kd.Zc4 (by (with_reducible repeat (first | apply Kd.S_alloc | apply Kd.S_drewN | apply Kd.Zbv)); exact HO.out) (Kd.Zcb ho0) hb); have n1_ := Zaa.mk (Kd.Zbu ho0 (Zas (by repeat (first | exact HBW.out | apply Zac | apply Zab | apply Zad)))); have n4_ := Zaa.mk (Zan (by repeat (first | exact HBW.out | apply Zac | apply Zab | apply Zad)) hb); clear HO HBW ho0 hb; have HO := n0_; have HOx := n1_; have HBW := n4_; clear n0_ n1_ n4_; obtain ⟨Ao25, co25, eo25⟩ := Kd.Zcc HOx.out; subst eo25) | ((with_reducible refine Za1 (b := .append) (xs := #[.tmp 13, .tmp 16]) rfl ?_); at_builtin; go_loud (refine Kd.Zes kInts (w0 := W1) W1.heap.size rfl (.tmp 13) (.tmp 16) 32 22 (.slice none 0 0) 24 rfl Try.underlying32 Zcm rfl (Nat.lt_succ_self 0) (by omega) u3 (ls.take kk) x [.slice Ao25 x.length co25] (fun _ => True) (fun k_ => some k_ = (.slice Ao25 x.length co25 : Value).ownBlock) rfl rfl ?aP (fun k_ hk_ => ((Kd.Zbf (ok' := fun k_ => ((fun _ => True)) k_ ∧ some k_ ≠ (u3 : Value).ownBlock) (Kd.Zb3 (HOx.out) (Kd.Zcl HO.out) (by decide)) (fun k_ hk => ⟨trivial, hk.2⟩))).1 k_ hk_.symm) ?aF ?aO ?aB ?aS ?aL ?_; (case aP => exact Kd.M_row (Kd.Zbf (Kd.Zc9 rfl (Kd.Zbf (ok' := fun k_ => ((fun _ => True)) k_ ∧ some k_ ≠ (u3 : Value).ownBlock) (Kd.Zb3 (HOx.out) (Kd.Zcl HO.out) (by decide)) (fun k_ hk => ⟨trivial, hk.2⟩))) (fun _ h_ => h_))); (case aB => exact HBW.out); (case aF => exact (fun _ _ => trivial)); (case aO => exact Kd.Zdp HO.out (fun k_ hk => ⟨trivial, fun e_ => hk.2 e_⟩)); (case aS => exact HBW.out.size); (case aL => have := htl.out; omega); intro v2 w2 ho2 hb2 hg2 hat2)))
        go_roundg (ls.length - (kk + 1))
        case measure => omega
        case rel => exact ⟨kk + 1, by omega, by omega, by go_num, ⟨by rw [htk.out]; exact ho2⟩, ⟨hb2⟩⟩
theorem sorted_some {l : List (List Int)} (hl : l.length < 1000000000) (hin : ∀ x ∈ l, x.length < 17592186044416) : Za8.f l = some (sdL l) := by
  unfold Za8.f
  rw [if_pos hl, if_pos (List.all_eq_true.2 (fun x hx => decide_eq_true (hin x hx)))]
end Go.Proofs.Yteopgafbamipeaa.P
namespace Go.Proofs.Yteopgafbamipeaa.P
open Go.RowKit Go.Proofs.YteopgafbamipeaaW.PrintWords Go.Proofs.YteopgafbamipeaaW.PrintLast Go.Proofs.YteopgafbamipeaaW.PrintMore
attribute [local go_sem] Zb4 Zb6 Zcg Zch Zbs Zbt Zb5 Zb7
set_option linter.unusedVariables false
set_option linter.unusedSimpArgs false
/-! ### Zal: function 9 -/
mutual
def Zal.j0 : Nat → List Int → List Int → Bool → Option (List Int × Int)
 | 0, _, _, _ => none
 | k + 1, x0, x1, x23 => if x23 = true then (some (([] : List Int), 1)) else (Zal.l0 k x1 ([] : List Int) x0 (x0.length : Int) 0)
def Zal.l0 : Nat → List Int → List Int → List Int → Int → Int → Option (List Int × Int)
 | 0, _, _, _, _, _ => none
 | k + 1, x1, x6, x24, x25, x26 => if x26 < x25 then (if 0 ≤ x26 then (if x26 < (x24.length : Int) then (if 0 ≤ (rd x24 x26) then (if (rd x24 x26) < (x1.length : Int) then (if x6.length < 17592186044416 then (Zal.l0 k x1 (x6 ++ [rd x1 (rd x24 x26)]) x24 x25 (wrap64 (x26 + 1))) else (none)) else (none)) else (none)) else (none)) else (none)) else (some (x6, 0))
end
def Zal.f (k : Nat) (l0 : List Int) (l1 : List Int) : Option (List Int × Int) := if (l0.length : Int) = (l1.length : Int) then ((Za2.f l0).bind fun t101 => (if t101 = true then ((Za2.f l1).bind fun t102 => (Zal.j0 k l0 l1 (!t102))) else (Zal.j0 k l0 l1 true))) else (Zal.j0 k l0 l1 true)
theorem Zal.Za6 : ∀ k, (∀ y0 y1 y2, LeO (Zal.j0 k y0 y1 y2) (Zal.j0 (k + 1) y0 y1 y2)) ∧ (∀ y0 y1 y2 y3 y4, LeO (Zal.l0 k y0 y1 y2 y3 y4) (Zal.l0 (k + 1) y0 y1 y2 y3 y4))
 | 0 => ⟨fun _ _ _ r h => by simp [Zal.j0] at h, fun _ _ _ _ _ r h => by simp [Zal.l0] at h⟩
 | k + 1 => by
  obtain ⟨ih0, ih1⟩ := Zal.Za6 k
  refine ⟨?_, ?_⟩
  ·intro y0 y1 y2
   unfold Zal.j0
   repeat' first
   | (with_reducible exact ih0 _ _ _)
   | (with_reducible exact ih1 _ _ _ _ _)
   | (with_reducible exact LeO.refl _)
   | (with_reducible exact LeO.none _)
   | (with_reducible refine LeO.ite ?_ ?_)
   | (with_reducible refine LeO.bind ?_ (fun _ => ?_))
   | exact ih0 _ _ _
   | exact ih1 _ _ _ _ _
   | exact LeO.none _
   | refine LeO.ite ?_ ?_
   | refine LeO.bind ?_ (fun _ => ?_)
  intro y0 y1 y2 y3 y4
  unfold Zal.l0
  repeat' first
  | (with_reducible exact ih0 _ _ _)
  | (with_reducible exact ih1 _ _ _ _ _)
  | (with_reducible exact LeO.refl _)
  | (with_reducible exact LeO.none _)
  | (with_reducible refine LeO.ite ?_ ?_)
  | (with_reducible refine LeO.bind ?_ (fun _ => ?_))
  | exact ih0 _ _ _
  | exact ih1 _ _ _ _ _
  | exact LeO.none _
  | refine LeO.ite ?_ ?_
  | refine LeO.bind ?_ (fun _ => ?_)
theorem Zal.mono : ∀ a0 a1 k, LeO (Zal.f k a0 a1) (Zal.f (k + 1) a0 a1) := by
 intro a0 a1 k
 obtain ⟨ih0, ih1⟩ := Zal.Za6 k
 unfold Zal.f
 repeat' first
   | (with_reducible exact ih0 _ _ _)
   | (with_reducible exact ih1 _ _ _ _ _)
   | (with_reducible exact LeO.refl _)
   | (with_reducible exact LeO.none _)
   | (with_reducible refine LeO.ite ?_ ?_)
   | (with_reducible refine LeO.bind ?_ (fun _ => ?_))
   | exact ih0 _ _ _
   | exact ih1 _ _ _ _ _
   | exact LeO.none _
   | refine LeO.ite ?_ ?_
   | refine LeO.bind ?_ (fun _ => ?_)
set_option maxHeartbeats 8000000 in
set_option maxRecDepth 100000 in
theorem Zal.calls (k : Nat) (A0 : Option Addr) (c0 : Nat) (l0 : List Int) (A1 : Option Addr) (c1 : Nat) (l1 : List Int) (r1 : List Int) (r2 : Int) (w : World) (hr0 : Kd.C (Kd.int .i64) w A0 l0.length l0) (hc0 : l0.length ≤ c0) (hr1 : Kd.C (Kd.int .i64) w A1 l1.length l1) (hc1 : l1.length ≤ c1) (h : Zal.f k l0 l1 = some (r1, r2)) :
  Calls Try.prog 9 #[.slice A0 l0.length c0, .slice A1 l1.length c1] w fun e w' => ∃ v0_ : Value, e = .returned (.tuple #[v0_, .int .i64 r2]) ∧ Kd.R (Kd.int .i64) 3 w' w.heap.size (fun _ => True) v0_ r1 ∧ Below w.heap.size w w' := by
 have HR0 := Zaa.mk hr0
 have HC0 := Zaa.mk hc0
 clear hr0 hc0
 have HR1 := Zaa.mk hr1
 have HC1 := Zaa.mk hc1
 clear hr1 hc1
 have HB := Zaa.mk (Below.refl w.heap.size w)
 have H : (if (l0.length : Int) = (l1.length : Int) then ((Za2.f l0).bind fun t101 => (if t101 = true then ((Za2.f l1).bind fun t102 => (Zal.j0 k l0 l1 (!t102))) else (Zal.j0 k l0 l1 true))) else (Zal.j0 k l0 l1 true)) = some (r1, r2) := h
 clear h
 have HC3 := Zaa.mk H
 clear H
 go_enter Try.func9, Try.ntmps9
 go_upto_region 1 with (fail)
 go_cut [23] (fun v23 wc => ∃ (kq : Nat) (x23_2 : Bool), v23 = .bool x23_2 ∧ Zaa (Zal.j0 kq l0 l1 x23_2 = some (r1, r2)) ∧ Zaa (kq ≤ k) ∧ Zaa (Below w.heap.size w wc))
 case first =>
  have H := HC3.out
  clear HC3
  by_cases c4 : (l0.length : Int) = (l1.length : Int)
  rotate_left
  ·rw [if_neg c4] at H
   have c4b0 : ((l0.length : Int) == (l1.length : Int)) = false := beq_eq_false_iff_ne.mpr c4
   have c4b1 : ((l0.length : Int) != (l1.length : Int)) = true := bne_iff_ne.mpr c4
   have c4b2 : (l0.length == l1.length) = false := by first | simpa using c4 | (simp at c4 ⊢; omega)
   (first | rw [c4b0] | (simp only [Zbe, Zbg]; rw [c4b0]) | skip)
   have H' := Zaa.mk H
   clear H
   go_wp2
   go_meet
   case rel => exact ⟨_, (true), (by first | rfl | (simp; done) | (simp [*]; done)), H', ⟨by first | omega | exact Nat.le_refl _⟩, ⟨by repeat (first | (with_reducible first | exact HB.out | apply Zac | apply Zab | apply Zad) | exact HB.out)⟩⟩
  rw [if_pos c4] at H
  have c4b0 : ((l0.length : Int) == (l1.length : Int)) = true := beq_iff_eq.mpr c4
  have c4b1 : ((l0.length : Int) != (l1.length : Int)) = false := bne_eq_false_iff_eq.mpr c4
  have c4b2 : (l0.length == l1.length) = true := by first | simpa using c4 | (simp at c4 ⊢; omega)
  clear c4
  (first | rw [c4b0] | (simp only [Zbe, Zbg]; rw [c4b0]) | skip)
  replace H := Option.bind_eq_some_iff.mp H
  obtain ⟨t101, A50, H⟩ := H
  replace H : (if t101 = true then ((Za2.f l1).bind fun t102 => (Zal.j0 k l0 l1 (!t102))) else (Zal.j0 k l0 l1 true)) = some (r1, r2) := H
  have A5 := Zaa.mk A50
  clear A50
  by_cases c6 : t101 = true
  rotate_left
  ·replace c6 := Bool.eq_false_iff.mpr c6
   subst c6
   have H1 : (Zal.j0 k l0 l1 true) = some (r1, r2) := by rw [if_neg (show ¬ (false = true) by decide)] at H; exact H
   clear H
   have H := H1
   clear H1
   have H' := Zaa.mk H
   clear H
   go_wp2_with (first | (go_at_call 27; (with_reducible refine (Za2.calls _ _ l0 false _ ?side1 ?side2 A5.out).mono ?_); (case side1 => repeat (first | exact (Kd.Zaq HR0.out HB.out) | (with_reducible refine Kd.Za0 ?_ _) | (with_reducible refine Kd.C_drewN ?_ _) | (with_reducible refine Kd.C_drew ?_))); (case side2 => exact HC0.out); rintro e w10 ⟨rfl, hb⟩; have n0_ := Zaa.mk (Zan (by repeat (first | (with_reducible first | exact HB.out | apply Zac | apply Zab | apply Zad) | exact HB.out)) hb); clear HB; have HB := n0_; clear n0_; (try clear hb); (try clear hb2); (try clear hk); (try clear hi)))
   go_meet
   case rel => exact ⟨_, (true), (by first | rfl | (simp; done) | (simp [*]; done)), H', ⟨by first | omega | exact Nat.le_refl _⟩, ⟨by repeat (first | (with_reducible first | exact HB.out | apply Zac | apply Zab | apply Zad) | exact HB.out)⟩⟩
  subst c6
  have H1 : ((Za2.f l1).bind fun t102 => (Zal.j0 k l0 l1 (!t102))) = some (r1, r2) := by rw [if_pos rfl] at H; exact H
  clear H
  have H := H1
  clear H1
  replace H := Option.bind_eq_some_iff.mp H
  obtain ⟨t102, A70, H⟩ := H
  replace H : (Zal.j0 k l0 l1 (!t102)) = some (r1, r2) := H
  have A7 := Zaa.mk A70
  clear A70
  have H' := Zaa.mk H
  clear H
  go_wp2_with (first | (go_at_call 27; (with_reducible refine (Za2.calls _ _ l0 true _ ?side1 ?side2 A5.out).mono ?_); (case side1 => repeat (first | exact (Kd.Zaq HR0.out HB.out) | (with_reducible refine Kd.Za0 ?_ _) | (with_reducible refine Kd.C_drewN ?_ _) | (with_reducible refine Kd.C_drew ?_))); (case side2 => exact HC0.out); rintro e w8 ⟨rfl, hb⟩; have n0_ := Zaa.mk (Zan (by repeat (first | (with_reducible first | exact HB.out | apply Zac | apply Zab | apply Zad) | exact HB.out)) hb); clear HB; have HB := n0_; clear n0_; (try clear hb); (try clear hb2); (try clear hk); (try clear hi)) | (go_at_call 27; (with_reducible refine (Za2.calls _ _ l1 t102 _ ?side1 ?side2 A7.out).mono ?_); (case side1 => repeat (first | exact (Kd.Zaq HR1.out HB.out) | (with_reducible refine Kd.Za0 ?_ _) | (with_reducible refine Kd.C_drewN ?_ _) | (with_reducible refine Kd.C_drew ?_))); (case side2 => exact HC1.out); rintro e w9 ⟨rfl, hb⟩; have n0_ := Zaa.mk (Zan (by repeat (first | (with_reducible first | exact HB.out | apply Zac | apply Zab | apply Zad) | exact HB.out)) hb); clear HB; have HB := n0_; clear n0_; (try clear hb); (try clear hb2); (try clear hk); (try clear hi)))
  go_meet
  case rel => exact ⟨_, (!t102), (by first | rfl | (simp; done) | (simp [*]; done)), H', ⟨by first | omega | exact Nat.le_refl _⟩, ⟨by repeat (first | (with_reducible first | exact HB.out | apply Zac | apply Zab | apply Zad) | exact HB.out)⟩⟩
 case rest =>
  clear HC3
  try clear c1
  try clear p2
  try clear c4
  try clear c4b0
  try clear c4b1
  try clear c4b2
  try clear c6
  try clear c9
  obtain ⟨kq, x23_2, rfl, HA, HJ2, HB⟩ := hcut
  cases kq with
  | zero => exact absurd HA.out (by simp [Zal.j0])
  | succ kj2 =>
   have H := HA.out
   clear HA
   simp only [Zal.j0] at H
   by_cases c11 : x23_2 = true
   ·subst c11
    have H1 : (some (([] : List Int), 1)) = some (r1, r2) := by rw [if_pos rfl] at H; exact H
    clear H
    have H := H1
    clear H1
    simp only [Option.some.injEq, Prod.mk.injEq] at H
    obtain ⟨rfl, rfl⟩ := H
    go_wp2
    go_ret2
    exact ⟨_, by first | rfl | (simp [Zau, Zav] <;> rfl) | (simp [*, Zau, Zav] <;> rfl), by first | exact Kd.Zdo _ _ _ _ _ | exact Kd.Zeq _ _ _ _ _ | exact Kd.V_nil _ _ _ _ _ | exact Kd.Q_nil _ _ _ _ _ | exact Kd.Zd _ _ _ _ _, by repeat (first | (with_reducible first | exact HB.out | apply Zac | apply Zab | apply Zad) | exact HB.out)⟩
   replace c11 := Bool.eq_false_iff.mpr c11
   subst c11
   have H1 : (Zal.l0 kj2 l1 ([] : List Int) l0 (l0.length : Int) 0) = some (r1, r2) := by rw [if_neg (show ¬ (false = true) by decide)] at H; exact H
   clear H
   have H := H1
   clear H1
   have H' := Zaa.mk H
   clear H
   go_wp2
   go_loopg [6, 26] kj2 (fun kq v6 v26 w' => ∃ (x6_2 : List Int) (x26_2 : Int), v26 = .int .i64 x26_2 ∧ Zaa (Zal.l0 kq l1 x6_2 l0 (l0.length : Int) x26_2 = some (r1, r2)) ∧ Zaa (kq ≤ kj2) ∧ Zaa (Kd.R (Kd.int .i64) 3 w' w.heap.size (fun _ => True) v6 x6_2) ∧ Zaa (Below w.heap.size w w'))
   case atStart => exact ⟨(([] : List Int)), (0), (by first | rfl | (simp; done) | (simp [*]; done)), H', ⟨Nat.le_refl _⟩, ⟨by first | exact Kd.Zdo _ _ _ _ _ | exact Kd.Zeq _ _ _ _ _ | exact Kd.V_nil _ _ _ _ _ | exact Kd.Q_nil _ _ _ _ _ | exact Kd.Zd _ _ _ _ _⟩, ⟨by repeat (first | (with_reducible first | exact HB.out | apply Zac | apply Zab | apply Zad) | exact HB.out)⟩⟩
   case round =>
    clear H'
    try clear c1
    try clear p2
    try clear c4
    try clear c4b0
    try clear c4b1
    try clear c4b2
    try clear c6
    try clear c9
    try clear c11
    try clear p2
    obtain ⟨x6_2, x26_2, rfl, HA, HK2, HO_6, HB⟩ := hrel
    cases gk with
    | zero => exact absurd HA.out (by simp [Zal.l0])
    | succ k2 =>
     have H := HA.out
     clear HA
     simp only [Zal.l0] at H
     by_cases c12 : x26_2 < (l0.length : Int)
     rotate_left
     ·rw [if_neg c12] at H
      have c12b0 : decide (x26_2 < (l0.length : Int)) = false := decide_eq_false c12
      clear c12
      simp only [Option.some.injEq, Prod.mk.injEq] at H
      obtain ⟨rfl, rfl⟩ := H
      go_wp2
      go_ret2
      exact ⟨_, by first | rfl | (simp [Zau, Zav] <;> rfl) | (simp [*, Zau, Zav] <;> rfl), by (with_reducible repeat (first | apply Kd.Zbk | apply Kd.R_drewN | apply Kd.Zbz)); exact HO_6.out, by repeat (first | (with_reducible first | exact HB.out | apply Zac | apply Zab | apply Zad) | exact HB.out)⟩

     rw [if_pos c12] at H
     have c12b0 : decide (x26_2 < (l0.length : Int)) = true := decide_eq_true c12
     clear c12
     by_cases c13 : 0 ≤ x26_2
     rotate_left
     ·rw [if_neg c13] at H
      exact absurd H (by simp)
     rw [if_pos c13] at H
     have c13b0 : decide (0 ≤ x26_2) = true := decide_eq_true c13
     clear c13
     by_cases c14 : x26_2 < (l0.length : Int)
     rotate_left
     ·rw [if_neg c14] at H
      exact absurd H (by simp)
     rw [if_pos c14] at H
     have c14b0 : decide (x26_2 < (l0.length : Int)) = true := decide_eq_true c14
     clear c14
     by_cases c15 : 0 ≤ (rd l0 x26_2)
     rotate_left
     ·rw [if_neg c15] at H
      exact absurd H (by simp)
     rw [if_pos c15] at H
     have c15b0 : decide (0 ≤ (rd l0 x26_2)) = true := decide_eq_true c15
     clear c15
     by_cases c16 : (rd l0 x26_2) < (l1.length : Int)
     rotate_left
     ·rw [if_neg c16] at H
      exact absurd H (by simp)
     rw [if_pos c16] at H
     have c16b0 : decide ((rd l0 x26_2) < (l1.length : Int)) = true := decide_eq_true c16
     clear c16
     by_cases c17 : x6_2.length < 17592186044416
     rotate_left
     ·rw [if_neg c17] at H
      exact absurd H (by simp)
     rw [if_pos c17] at H
     have LMc17 := Zaa.mk c17
     clear c17
     obtain ⟨y105, hy105⟩ : ∃ y_ : List Int, y_ = (x6_2 ++ [rd l1 (rd l0 x26_2)]) := ⟨_, rfl⟩
     replace H : (Zal.l0 k2 l1 y105 l0 (l0.length : Int) (wrap64 (x26_2 + 1))) = some (r1, r2) := by first | (rw [hy105]; with_reducible exact H) | (have H2_ := (Option.bind_some _ _).symm.trans H; rw [hy105]; with_reducible exact H2_) | (have H2_ := (Option.bind_some _ _).symm.trans H; with_reducible exact H2_) | with_reducible exact H | (rw [hy105]; exact H) | exact H
     have Ny105 := Zaa.mk hy105
     clear hy105
     have H' := Zaa.mk H
     clear H
     have p103 : 0 ≤ (x26_2 : Int) := of_decide_eq_true (by first | (with_reducible assumption) | assumption)
     have q103 : x26_2 < (l0.length : Int) := of_decide_eq_true (by first | (with_reducible assumption) | assumption)
     obtain ⟨ad103, e103, hx103_0⟩ := Kd.Zbi HR0.out x26_2 p103 q103
     cases e103
     replace hx103_0 := (HB.out.cell (World.block_lt_of_cell? w _ hx103_0)).trans hx103_0
     replace p103 := eq_true p103
     replace q103 := eq_true q103
     have p104 : 0 ≤ ((rd l0 x26_2) : Int) := of_decide_eq_true (by first | (with_reducible assumption) | assumption)
     have q104 : (rd l0 x26_2) < (l1.length : Int) := of_decide_eq_true (by first | (with_reducible assumption) | assumption)
     obtain ⟨ad104, e104, hx104_0⟩ := Kd.Zbi HR1.out (rd l0 x26_2) p104 q104
     cases e104
     replace hx104_0 := (HB.out.cell (World.block_lt_of_cell? w _ hx104_0)).trans hx104_0
     replace p104 := eq_true p104
     replace q104 := eq_true q104
     go_wp2_with (first | ((with_reducible refine Za1 (b := .append) (xs := #[.tmp 30, .tmp 35]) rfl ?_); at_builtin; refine Kd.Zca (Kd.int .i64) (w0 := w) w.heap.size rfl (.tmp 30) (.tmp 35) 22 3 (.int .i64 0) 8 rfl Try.underlying22 info3 rfl (by decide) (by omega) u6 x6_2 (rd l1 (rd l0 x26_2)) [.int .i64 (rd l1 (rd l0 x26_2))] (fun _ => True) (fun _ => False) rfl rfl ?aP (fun _ hk => hk.elim) ?aF ?aO ?aB ?aS ?aL ?_; (case aP => exact rfl); (case aB => exact (by repeat (first | (with_reducible first | exact HB.out | apply Zac | apply Zab | apply Zad) | exact HB.out))); (case aF => exact (fun _ _ => trivial)); (case aO => exact (by (with_reducible repeat (first | apply Kd.Zbk | apply Kd.R_drewN | apply Kd.Zbz)); exact HO_6.out)); (case aS => exact (Zas (by repeat (first | (with_reducible first | exact HB.out | apply Zac | apply Zab | apply Zad) | exact HB.out)))); (case aL => have := LMc17.out; omega); intro v106 w18 ho hb hg hat; rw [← Ny105.out] at ho; have n0_ := Zaa.mk (hb); have n1_ := Zaa.mk (ho); clear HB; clear HO_6; have HB := n0_; have HO107 := n1_; clear n0_ n1_; clear ho hb hg hat))
     go_roundg k2
     case measure => have := HJ2.out; have := HK2.out; omega
     case rel => exact ⟨(y105), (wrap64 (x26_2 + 1)), (by first | rfl | (simp; done) | (simp [*]; done)), H', ⟨by have := HJ2.out; have := HK2.out; omega⟩, ⟨by (with_reducible repeat (first | apply Kd.Zbk | apply Kd.R_drewN | apply Kd.Zbz)); exact HO107.out⟩, ⟨by repeat (first | (with_reducible first | exact HB.out | apply Zac | apply Zab | apply Zad) | exact HB.out)⟩⟩
end Go.Proofs.Yteopgafbamipeaa.P
/- group.Close in plain words. -/
namespace Go.Proofs.Yteopgafbamipeaa.P
open Go.RowKit Go.Proofs.YteopgafbamipeaaW.PrintWords Go.Proofs.YteopgafbamipeaaW.PrintLast Go.Proofs.YteopgafbamipeaaW.PrintMore
set_option linter.unusedVariables false
set_option linter.unusedSimpArgs false
/-- Each of l behind x: what is new comes to the end. -/
def Za7 (x : List Int) : List (List Int) → List (List Int) → List (List Int)
  | [], out => out
  | p :: l, out => Za7 x l (if G.comp x p ∈ out then out else out ++ [G.comp x p])
def Zbx (l : List (List Int)) : Nat → Nat → List (List Int) → Option (List (List Int))
  | 0, _, _ => none
  | k + 1, i, out => if h : i < out.length then (if (Za7 out[i] l out).length ≤ 1000000 then Zbx l k (i + 1) (Za7 out[i] l out) else none) else some out
/-- Are all changes of n places? -/
def Zc5 (l : List (List Int)) (n : Int) : Bool := l.all fun p => decide ((p.length : Int) = n) && idB 0 (sortI p)
def Za4.f (k : Nat) (l : List (List Int)) (n : Int) : Option (List (List Int) × Int) :=
  if n < 0 ∨ 7 < n then some ([], 1) else (if Zc5 l n = true then (Zbx l k 0 [G.ids n.toNat]).bind fun out => (Za8.f out).map fun s => (s, 0) else some ([], 1))
theorem Zbx.mono (l : List (List Int)) : ∀ k i out, LeO (Zbx l k i out) (Zbx l (k + 1) i out)
  | 0, _, _ => fun r h => by simp [Zbx] at h
  | k + 1, i, out => by
    intro r h
    rw [Zbx] at h ⊢
    split at h
    · split at h
      · rename_i h1 h2
        rw [dif_pos h1, if_pos h2]
        exact Zbx.mono l k _ _ r h
      cases h
    rename_i h1
    rw [dif_neg h1]
    exact h
theorem Za4.mono : ∀ a0 a1 k, LeO (Za4.f k a0 a1) (Za4.f (k + 1) a0 a1) := by
  intro l n k r h
  unfold Za4.f at h ⊢
  split at h
  · rename_i hc
    rw [if_pos hc]
    exact h
  rename_i hc
  rw [if_neg hc]
  split at h
  · rename_i ho
    rw [if_pos ho]
    obtain ⟨out, h1, h2⟩ := Option.bind_eq_some_iff.1 h
    exact Option.bind_eq_some_iff.2 ⟨out, Zbx.mono l k _ _ _ h1, h2⟩
  rename_i ho
  rw [if_neg ho]
  exact h
theorem Zcq (x : List Int) : ∀ l out, out.length ≤ (Za7 x l out).length
  | [], out => Nat.le_refl _
  | p :: l, out => by
    unfold Za7
    refine Nat.le_trans ?_ (Zcq x l _)
    split
    · exact Nat.le_refl _
    simp
theorem Zd2 (x p : List Int) : ∀ l out, Za7 x (l ++ [p]) out = if G.comp x p ∈ Za7 x l out then Za7 x l out else Za7 x l out ++ [G.comp x p]
  | [], out => rfl
  | q :: l, out => by
    rw [List.cons_append, Za7, Zd2 x p l]
    rfl
theorem Zek (x : List Int) : ∀ l m out, Za7 x (l ++ m) out = Za7 x m (Za7 x l out)
  | [], m, out => rfl
  | q :: l, m, out => by
    rw [List.cons_append, Za7, Zek x l m]
    rfl
theorem Zbw (x : List Int) (y : List Int) : ∀ l out, y ∈ Za7 x l out ↔ y ∈ out ∨ ∃ p ∈ l, y = G.comp x p
  | [], out => by simp [Za7]
  | p :: l, out => by
    unfold Za7
    rw [Zbw x y l]
    constructor
    · rintro (h | ⟨q, hq, rfl⟩)
      · split at h
        · exact .inl h
        rcases List.mem_append.1 h with h | h
        · exact .inl h
        exact .inr ⟨p, by simp, List.mem_singleton.1 h⟩
      exact .inr ⟨q, by simp [hq], rfl⟩
    rintro (h | ⟨q, hq, rfl⟩)
    · left
      split
      · exact h
      exact List.mem_append_left _ h
    rcases List.mem_cons.1 hq with rfl | hq
    · left
      split
      · assumption
      simp
    exact .inr ⟨q, hq, rfl⟩
theorem Zdc (x : List Int) : ∀ l out (i : Nat), i < out.length → (Za7 x l out)[i]? = out[i]?
  | [], out, i, _ => rfl
  | p :: l, out, i, h => by
    unfold Za7
    rw [Zdc x l _ i (by split <;> (first | exact h | (rw [List.length_append]; exact Nat.lt_of_lt_of_le h (Nat.le_add_right _ _))))]
    split
    · rfl
    rw [List.getElem?_append_left h]
/-- Behind of changes. -/
theorem Zdv (p q : List Int) (hp : G.Rt p) (hl : p.length = q.length) (hb : p.length ≤ 1000000) : ∀ (d j : Nat), j + d = p.length → Zal.l0 (d + 1) q (G.comp (p.take j) q) p (p.length : Int) (j : Int) = some (G.comp p q, 0)
  | 0, j, h => by
    obtain rfl : j = p.length := by omega
    rw [Zal.l0, if_neg (by omega), List.take_length]
  | d + 1, j, h => by
    have hj : j < p.length := by omega
    obtain ⟨h0, h1⟩ := hp.rng hj
    rw [Zal.l0, if_pos (by omega), if_pos (by omega), if_pos (by omega), if_pos h0, if_pos (by omega), if_pos (by rw [G.Zb, List.length_take]; omega), show wrap64 ((j : Int) + 1) = ((j + 1 : Nat) : Int) from by unfold wrap64; omega]
    have e : G.comp (p.take j) q ++ [rd q (rd p j)] = G.comp (p.take (j + 1)) q := by
      unfold G.comp
      rw [List.take_succ_eq_append_getElem hj, List.map_append, G.Zfd hj]
      rfl
    rw [e]
    exact Zdv p q hp hl hb d (j + 1) (by omega)
theorem behind_some {p q : List Int} (hp : G.Rt p) (hq : G.Rt q) (hl : p.length = q.length) (hb : p.length ≤ 1000000) : Zal.f (p.length + 2) p q = some (G.comp p q, 0) := by
  unfold Zal.f
  rw [if_pos (by omega), G.Zfh hb, Option.bind_some, if_pos ((G.Zd4 p).2 hp), G.Zfh (by omega), Option.bind_some, (G.Zd4 q).2 hq]
  rw [Zal.j0, if_neg (by simp)]
  have := Zdv p q hp hl hb p.length 0 (by omega)
  exact this
end Go.Proofs.Yteopgafbamipeaa.P
/- group.key: a change as an array of seven; the map of those that came. -/
namespace Go.Proofs.Yteopgafbamipeaa.P
open Go.RowKit Go.Proofs.YteopgafbamipeaaW.PrintWords Go.Proofs.YteopgafbamipeaaW.PrintLast Go.Proofs.YteopgafbamipeaaW.PrintMore
set_option linter.unusedVariables false
set_option linter.unusedSimpArgs false

/-- The seven cells of a change's key. -/
def keyC (l : List Int) : List Value := splice (List.replicate 7 (Value.int .i64 0)) 0 (l.map (Value.int .i64))
def keyV (l : List Int) : Value := .agg (keyC l).toArray
theorem Zcr (l : List Int) (h : l.length ≤ 7) : (keyC l).length = 7 := by
  unfold keyC
  rw [length_splice]
  · simp
  simp; omega
theorem keyC_one (l : List Int) : ∀ v ∈ keyC l, ∃ a : Int, v = .int .i64 a := by
  intro v hv
  unfold keyC splice at hv
  simp only [List.take_zero, List.nil_append, List.mem_append] at hv
  rcases hv with hv | hv
  · obtain ⟨a, _, rfl⟩ := List.mem_map.1 hv
    exact ⟨a, rfl⟩
  have := List.mem_of_mem_drop hv
  obtain ⟨_, rfl⟩ := List.mem_replicate.1 this
  exact ⟨0, rfl⟩
theorem blk_new2' (w : World) (o1 o2 : Obj) : ((w.alloc o1).alloc o2).heap[w.heap.size + 1]? = some o2 := by
  have h := Ze0 (w.alloc o1) o2
  rwa [show (w.alloc o1).heap.size = w.heap.size + 1 from by simp] at h
theorem Zb2 {l : List Int} (h : (keyC l).length = 7) : (keyC l).toArray.size = 7 := by rw [List.size_toArray, h]
theorem key_below (w : World) (o1 o2 : Obj) : Below (w.heap.size + 1) (w.alloc o1) ((w.alloc o1).alloc o2) := by
  have h : (w.alloc o1).heap.size = w.heap.size + 1 := by simp
  rw [← h]
  exact Zac (Below.refl _ _) _
theorem key_below2 {w w2 : World} {o1 : Obj} (h : Below (w.heap.size + 1) (w.alloc o1) w2) : Below w.heap.size w w2 :=
  (Zac (Below.refl _ w) o1).trans (h.mono (Nat.le_succ _))
theorem key_old {w w2 : World} {o1 : Obj} (h : Below (w.heap.size + 1) (w.alloc o1) w2) : w2.heap[w.heap.size]? = some o1 :=
  (h.block _ (Nat.lt_succ_self _)).trans (Ze0 w o1)
theorem keyC_all (l : List Int) : (keyC l).toArray.all (fun v => v.oneCell') = true := by
  rw [List.all_toArray]
  rw [List.all_eq_true]
  intro v hv
  obtain ⟨a, rfl⟩ := keyC_one l v hv
  rfl
theorem key_src {w : World} {A0 : Option Addr} {l0 : List Int} {cs : List Value} (hcs : cs = l0.map (Value.int .i64)) (h : Kd.C (Kd.int .i64) w A0 l0.length l0) (o1 o2 : Obj) : 0 < cs.length → (some (⟨w.heap.size + 1, 0, none⟩ : Addr) = some ⟨w.heap.size + 1, 0, none⟩ ∧ ∃ ad, A0 = some ad ∧ ∀ j v, cs[j]? = some v → ((w.alloc o1).alloc o2).cell? (ad.add j) = some v) := by
  subst hcs
  intro hp
  rw [List.length_map] at hp
  obtain ⟨ad, _, rfl, _⟩ := at_one (d := Kd.int .i64) rfl h 0 hp
  refine ⟨rfl, ad, rfl, fun j v hv => ?_⟩
  obtain ⟨hj, rfl⟩ := List.getElem?_eq_some_iff.1 hv
  rw [List.length_map] at hj
  obtain ⟨ad', u, e, hu, hK⟩ := at_one (d := Kd.int .i64) rfl h j hj
  obtain rfl := Option.some.inj e
  obtain rfl : u = Value.int .i64 l0[j] := by
    have : [u] = [Value.int .i64 l0[j]] := hK
    exact List.singleton_inj.1 this
  rw [List.getElem_map]
  exact ((Zac (Zac (Below.refl _ w) o1) o2).cell (World.block_lt_of_cell? w _ hu)).trans hu
theorem key_ones {l0 : List Int} {cs : List Value} (hcs : cs = l0.map (Value.int .i64)) : ∀ v ∈ cs, v.oneCell' = true := by
  subst hcs
  intro v hv
  obtain ⟨a, _, rfl⟩ := List.mem_map.1 hv
  rfl
set_option maxRecDepth 100000 in
set_option maxHeartbeats 1000000 in
theorem Zdd.calls (A0 : Option Addr) (c0 : Nat) (l0 : List Int) (w : World) (hr0 : Kd.C (Kd.int .i64) w A0 l0.length l0) (hc0 : l0.length ≤ c0) (hn : l0.length ≤ 7) :
    Calls Try.prog 29 #[.slice A0 l0.length c0] w fun e w' => e = .returned (keyV l0) ∧ Below w.heap.size w w' := by
  have HR := Zaa.mk hr0
  have HL := Zaa.mk (Zcr l0 hn)
  obtain ⟨cs, hcs⟩ : ∃ cs, cs = l0.map (Value.int .i64) := ⟨_, rfl⟩
  have hcl : cs.length = l0.length := by rw [hcs]; simp
  obtain ⟨n0, hn0⟩ : ∃ n0, n0 = l0.length := ⟨_, rfl⟩
  have HN := Zaa.mk hn0
  have HCS := Zaa.mk hcs
  rw [← hn0] at hn hc0 hcl ⊢
  have HCL := Zaa.mk hcl
  clear hr0 hn0 hcs hcl
  go_enter Try.func29, Try.ntmps29
  go_wp2_with (first
    | ((with_reducible refine Za1 (b := .copy) (xs := #[.tmp 4, .tmp 5]) rfl ?_); go_loud (refine wpList_copy_splice rfl (.tmp 4) (.tmp 5) 22 22 rfl 3 Try.underlying22 (by kernel_rfl) (some ⟨w.heap.size + 1, 0, none⟩) A0 7 7 n0 c0 rfl rfl (w.heap.size + 1) 0 (List.replicate 7 (Value.int .i64 0)) 43 ?b1 cs ?b2 ?b3 ?b4 ?b5 (w.heap.size + 1) (w.alloc (.cells #[.int .i64 0, .int .i64 0, .int .i64 0, .int .i64 0, .int .i64 0, .int .i64 0, .int .i64 0] 43 (0, 0))) ?b6 (Nat.le_refl _) ?_; (case b1 => exact blk_new2' w _ _); (case b2 => rw [HCL.out]; exact (Nat.min_eq_left hn).symm); (case b3 => exact key_src HCS.out HR.out _ _); (case b4 => rw [HCL.out]; simpa using hn); (case b5 => exact key_ones HCS.out); (case b6 => exact key_below w _ _); intro w2 HG2 hB2; have HG := Zaa.mk (show w2.heap[w.heap.size + 1]? = some (.cells (keyC l0).toArray 43 (0, 0)) from by rw [keyC, ← HCS.out]; exact HG2.out); clear HG2; have HB := Zaa.mk (key_below2 hB2); have HZ := Zaa.mk (key_old hB2); clear hB2))
    | (with_reducible refine wpList_load_row rfl 43 (.tmp 3) rfl (w.heap.size + 1) rfl 43 (keyC l0).toArray (0, 0) _ HG.out Try.underlying43 rfl ?l1 ?_; (case l1 => rw [Zb2 HL.out]; kernel_rfl))
    | (refine wpList_store_row rfl 43 (.tmp 2) (.tmp 7) rfl w.heap.size (keyC l0).toArray rfl rfl 43 _ HZ.out ?s1 ?s2 ?s3 ?_; (case s1 => rw [Zb2 HL.out]; kernel_rfl); (case s2 => exact (Zb2 HL.out).symm); (case s3 => exact keyC_all l0))
    )
  exact bodyPost_ret (v := keyV l0) (results_cell_row rfl _ _ w.heap.size 43 (keyC l0).toArray (0, 0) _ rfl (setRow_heap _ _ _ _ 43 _ HZ.out) Try.underlying43 rfl (by rw [Zb2 HL.out]; kernel_rfl)) rfl ⟨rfl, below_setRow HB.out (Nat.le_refl _) _⟩
theorem Zdd.at (A0 : Option Addr) (c0 n : Nat) (l0 : List Int) (w : World) (hl : l0.length = n) (hr0 : Kd.C (Kd.int .i64) w A0 l0.length l0) (hc0 : l0.length ≤ c0) (hn : l0.length ≤ 7) :
    Calls Try.prog 29 #[.slice A0 n c0] w fun e w' => e = .returned (keyV l0) ∧ Below w.heap.size w w' := by
  subst hl
  exact Zdd.calls A0 c0 l0 w hr0 hc0 hn
end Go.Proofs.Yteopgafbamipeaa.P
/- The map of those changes that came: a set. -/
namespace Go.Proofs.Yteopgafbamipeaa.P
open Go.RowKit Go.WideMaps Go.Maps Go.Proofs.YteopgafbamipeaaW.PrintWords Go.Proofs.YteopgafbamipeaaW.PrintLast Go.Proofs.YteopgafbamipeaaW.PrintMore
set_option linter.unusedVariables false
set_option linter.unusedSimpArgs false

theorem arr7 : ArrKey Try.prog 43 3 7 := ⟨Try.underlying43, by kernel_rfl, by kernel_rfl, by kernel_rfl⟩
theorem keyed7 : Keyed Try.prog 43 := Keyed.of_law arr7.law
theorem size_types : ∃ m, Try.prog.types.size = m + 1 := ⟨Try.prog.types.size - 1, by
  have : 0 < Try.prog.types.size := of_decide_eq_true (by kernel_rfl)
  omega⟩
theorem Zc6 (d : Nat) (a : Int) (h : (Lit.int .i64 a).wf = true) : Try.prog.keyLits (d + 1) 3 [.int .i64 a] = some [.int .i64 a] := by
  simp [Program.keyLits, Try.underlying3, h]
theorem keyOf7 (a0 a1 a2 a3 a4 a5 a6 : Int) (h0 : (Lit.int .i64 a0).wf = true) (h1 : (Lit.int .i64 a1).wf = true) (h2 : (Lit.int .i64 a2).wf = true) (h3 : (Lit.int .i64 a3).wf = true) (h4 : (Lit.int .i64 a4).wf = true) (h5 : (Lit.int .i64 a5).wf = true) (h6 : (Lit.int .i64 a6).wf = true) :
    ∃ kl, keyOf Try.prog 43 (.agg #[.int .i64 a0, .int .i64 a1, .int .i64 a2, .int .i64 a3, .int .i64 a4, .int .i64 a5, .int .i64 a6]) = some kl := by
  have hc : Try.prog.cellsOf 3 = 1 := by kernel_rfl
  obtain ⟨m, hm⟩ := size_types
  have hk : Try.prog.keyType 43 = true := arr7.keyType ⟨m, hm⟩
  have hm' : ∃ q, m = q + 1 := ⟨m - 1, by have : 1 < Try.prog.types.size := of_decide_eq_true (by kernel_rfl); omega⟩
  obtain ⟨q, rfl⟩ := hm'
  have hl : Try.prog.keyLits (q + 1 + 1 + 1) 43 [.int .i64 a0, .int .i64 a1, .int .i64 a2, .int .i64 a3, .int .i64 a4, .int .i64 a5, .int .i64 a6] = some [.int .i64 a0, .int .i64 a1, .int .i64 a2, .int .i64 a3, .int .i64 a4, .int .i64 a5, .int .i64 a6] := by
    rw [Program.keyLits.eq_def]
    simp only [Try.underlying43, arr7.size, hc]
    simp [List.range, List.range.loop, Zc6 (q + 1) _ h0, Zc6 (q + 1) _ h1, Zc6 (q + 1) _ h2, Zc6 (q + 1) _ h3, Zc6 (q + 1) _ h4, Zc6 (q + 1) _ h5, Zc6 (q + 1) _ h6]
  refine ⟨.string (keyBytes [.int .i64 a0, .int .i64 a1, .int .i64 a2, .int .i64 a3, .int .i64 a4, .int .i64 a5, .int .i64 a6]), ?_⟩
  have hf : (Value.agg #[.int .i64 a0, .int .i64 a1, .int .i64 a2, .int .i64 a3, .int .i64 a4, .int .i64 a5, .int .i64 a6]).formed Try.prog 43 = true := by simp [Value.formed, Try.underlying43, arr7.size]
  unfold keyOf
  simp only [Try.underlying43, hk, hf, Bool.and_true, if_true, hm, Value.cells]
  rw [hl]
  rfl
/-- A list that may be a key: of n small numbers. -/
def Sm (n : Nat) (l : List Int) : Prop := l.length = n ∧ n ≤ 7 ∧ ∀ x ∈ l, 0 ≤ x ∧ x < 7
theorem seven {α : Type} : ∀ {l : List α}, l.length = 7 → ∃ a0 a1 a2 a3 a4 a5 a6, l = [a0, a1, a2, a3, a4, a5, a6]
  | [a0, a1, a2, a3, a4, a5, a6], _ => ⟨_, _, _, _, _, _, _, rfl⟩
theorem keyC_small {n : Nat} {l : List Int} (h : Sm n l) : ∀ v ∈ keyC l, ∃ a : Int, v = .int .i64 a ∧ (Lit.int .i64 a).wf = true := by
  intro v hv
  unfold keyC splice at hv
  simp only [List.take_zero, List.nil_append, List.mem_append] at hv
  have hw : ∀ a : Int, 0 ≤ a → a < 7 → (Lit.int .i64 a).wf = true := fun a h0 h1 => by
    have : a = 0 ∨ a = 1 ∨ a = 2 ∨ a = 3 ∨ a = 4 ∨ a = 5 ∨ a = 6 := by omega
    rcases this with rfl | rfl | rfl | rfl | rfl | rfl | rfl <;> decide
  rcases hv with hv | hv
  · obtain ⟨a, ha, rfl⟩ := List.mem_map.1 hv
    exact ⟨a, rfl, hw a (h.2.2 a ha).1 (h.2.2 a ha).2⟩
  have := List.mem_of_mem_drop hv
  obtain ⟨_, rfl⟩ := List.mem_replicate.1 this
  exact ⟨0, rfl, hw 0 (by omega) (by omega)⟩
noncomputable def keyLit (l : List Int) : Lit := (keyOf Try.prog 43 (keyV l)).getD (.bool false)
theorem Zde {n : Nat} {l : List Int} (h : Sm n l) : keyOf Try.prog 43 (keyV l) = some (keyLit l) := by
  have hs := keyC_small h
  obtain ⟨a0, a1, a2, a3, a4, a5, a6, e⟩ := seven (Zcr l (by rw [h.1]; exact h.2.1))
  have : ∃ kl, keyOf Try.prog 43 (keyV l) = some kl := by
    unfold keyV
    rw [e] at hs ⊢
    obtain ⟨b0, rfl, h0⟩ := hs a0 (by simp)
    obtain ⟨b1, rfl, h1⟩ := hs a1 (by simp)
    obtain ⟨b2, rfl, h2⟩ := hs a2 (by simp)
    obtain ⟨b3, rfl, h3⟩ := hs a3 (by simp)
    obtain ⟨b4, rfl, h4⟩ := hs a4 (by simp)
    obtain ⟨b5, rfl, h5⟩ := hs a5 (by simp)
    obtain ⟨b6, rfl, h6⟩ := hs a6 (by simp)
    exact keyOf7 b0 b1 b2 b3 b4 b5 b6 h0 h1 h2 h3 h4 h5 h6
  obtain ⟨kl, hk⟩ := this
  unfold keyLit
  rw [hk]
  rfl
theorem keyLit_key {n : Nat} {l : List Int} (h : Sm n l) : WideAt.IsKeyLit (keyLit l) := keyed7.key (Zde h)
theorem keyLit_inj {n : Nat} {l l' : List Int} (h : Sm n l) (h' : Sm n l') (e : keyLit l = keyLit l') : l = l' := by
  have h1 := Zde h
  rw [e] at h1
  have h2 := keyed7.inj h1 (Zde h')
  unfold keyV keyC splice at h2
  simp only [Value.agg.injEq, List.take_zero, List.nil_append, Nat.zero_add] at h2
  have h3 := congrArg (fun a : Array Value => a.toList.take n) h2
  simp only [List.toList_toArray] at h3
  rw [List.take_append_of_le_length (by rw [List.length_map, h.1]; exact Nat.le_refl _), List.take_append_of_le_length (by rw [List.length_map, h'.1]; exact Nat.le_refl _), List.take_of_length_le (by rw [List.length_map, h.1]; exact Nat.le_refl _), List.take_of_length_le (by rw [List.length_map, h'.1]; exact Nat.le_refl _)] at h3
  exact (List.map_inj_right (fun a b e => by cases e; rfl)).1 h3

/-- What a set holds at a key. -/
theorem Zcx {H : Type} (u z : DataW H) (k : Lit) : ∀ (acc : List Lit) (m : DataW H), k ∉ acc → (acc.foldl (fun m x => m.put x u) m).atKey k z = m.atKey k z
  | [], m, _ => rfl
  | x :: r, m, h => by
    rw [List.foldl_cons, Zcx u z k r (m.put x u) (fun e => h (by simp [e])), atKey_put_other (fun e => h (by simp [e]))]
theorem Zd1 {H : Type} (u z : DataW H) (k : Lit) (hk : WideAt.IsKeyLit k) : ∀ (acc : List Lit) (m : DataW H), IsMap m → k ∈ acc → (acc.foldl (fun m x => m.put x u) m).atKey k z = u
  | [], m, _, h => by cases h
  | x :: r, m, hm, h => by
    rw [List.foldl_cons]
    rcases Classical.em (k ∈ r) with hr | hr
    · exact Zd1 u z k hk r (m.put x u) (hm.put x u) hr
    rw [Zcx u z k r _ hr]
    obtain rfl : k = x := (List.mem_cons.1 h).resolve_right hr
    exact atKey_put_same hm hk u z
/-- Block b is a map that has just the lists of L for keys. -/
def SetL (w : World) (b : Nat) (L : List (List Int)) : Prop := w.ownsMap (H := Unit) Try.prog 43 (plainElem Try.prog 4) b L.length (setOf (.lit (.bool true)) (L.map keyLit))
theorem SetL.kept {w w' : World} {b : Nat} {L : List (List Int)} {row : Option Nat} (h : SetL w b L) (hg : w.grownBy w' row) (hne : some b ≠ row) : SetL w' b L := World.ownsMap.kept h hg hne
theorem SetL.alloc {w : World} {b : Nat} {L : List (List Int)} (h : SetL w b L) (o : Obj) : SetL (w.alloc o) b L := World.ownsMap.alloc h o
theorem SetL.block {w : World} {b : Nat} {L : List (List Int)} (h : SetL w b L) : ∃ es clock, w.heap[b]? = some (.map es clock) := by
  obtain ⟨es, clock, hb, _⟩ := h
  exact ⟨es, clock, hb⟩
theorem SetL.below {w w' : World} {b : Nat} {L : List (List Int)} (h : SetL w b L) (hb : Below w.heap.size w w') : SetL w' b L := by
  have hlt := World.ownsMap.lt h
  obtain ⟨es, clock, h1, F, hs, hD⟩ := h
  exact ⟨es, clock, (hb.block b hlt).trans h1, F, hs, hD⟩
theorem SetL.look {w : World} {b n : Nat} {L : List (List Int)} {x : List Int} (h : SetL w b L) (hL : ∀ y ∈ L, Sm n y) (hx : Sm n x) : (Instr.lookup 45 (.map (some b)) (keyV x) false).run Try.prog w = .ok (.bool (decide (x ∈ L))) w := by
  obtain ⟨v, ps, hrun, hv⟩ := World.ownsMap.lookup h keyed7 Try.underlying45 (z := .bool false) (by kernel_rfl) (plainElem_bool Try.underlying4 false) (Zde hx)
  have e : (keyLit x ∈ L.map keyLit) ↔ x ∈ L := by
    rw [List.mem_map]
    constructor
    · rintro ⟨y, hy, e⟩
      rwa [← keyLit_inj (hL y hy) hx e]
    intro hy
    exact ⟨x, hy, rfl⟩
  rw [hrun]
  have hb : v = .bool (decide (x ∈ L)) := by
    have hc : ∃ c, v = .bool c ∧ ((setOf (.lit (.bool true)) (L.map keyLit)).atKey (keyLit x) (.lit (.bool false)) : DataW Unit) = .lit (.bool c) := by
      unfold plainElem at hv
      rw [Try.underlying4] at hv
      cases v <;> simp at hv
      exact ⟨_, rfl, hv.1.symm⟩
    obtain ⟨c, rfl, hc⟩ := hc
    by_cases hm : x ∈ L
    · have := (Zd1 (.lit (.bool true)) (.lit (.bool false)) _ (keyLit_key hx) _ _ isMap_empty (e.2 hm)).symm.trans hc
      simp at this
      rw [decide_eq_true hm, this]
    have := (Zcx (.lit (.bool true)) (.lit (.bool false)) (keyLit x) (L.map keyLit) (.map []) (fun h => hm (e.1 h))).symm.trans hc
    have e2 : ((DataW.map [] : DataW Unit).atKey (keyLit x) (.lit (.bool false))) = .lit (.bool false) := rfl
    rw [e2] at this
    simp at this
    rw [decide_eq_false hm, this]
  rw [hb]
/-- Made empty. -/
theorem SetL.made (w : World) : SetL (w.alloc (.map #[] 0)) w.heap.size [] := World.ownsMap_made w _ _ _
/-- At the operation: a look-up. -/
theorem Zfo {w : World} {ops : Array Oper} {rest : List Oper} {o : Oper} {a : Act} {Q : Exit → Act → World → Prop} (hg : o.guard = none) (m x : Operand) (hop : o.op = Op.lookup 45 m x false) {b n : Nat} {L : List (List Int)} {q : List Int}
    (hm : a.eval m = .map (some b)) (h : SetL w b L) (hx : a.eval x = keyV q) (hL : ∀ y ∈ L, Sm n y) (hq : Sm n q) (hK : wpList Try.prog ops Q rest (a.put o.dst (.bool (decide (q ∈ L)))) w) : wpList Try.prog ops Q (o :: rest) a w := by
  refine wpList_plain hg fun K' hK' => ?_
  have hrun := h.look hL hq
  unfold Oper.wp
  simp [execOp, hop, hm, hx, hrun, Result.andThen]
  exact hK' _ _ hK
/-- A store, or an entry of a literal. -/
theorem Zf4 {w : World} {ops : Array Oper} {rest : List Oper} {o : Oper} {a : Act} {Q : Exit → Act → World → Prop} (hg : o.guard = none) (m x v : Operand) (hop : o.op = Op.mapUpdate 45 m x v ∨ o.op = Op.insert 45 m x v) {b n : Nat} {L : List (List Int)} {q : List Int}
    (hm : a.eval m = .map (some b)) (h : SetL w b L) (hx : a.eval x = keyV q) (hv : a.eval v = .bool true) (hq : Sm n q) (hn : L.length < maxLen) (hK : ∀ w', SetL w' b (L ++ [q]) → w.grownBy w' (some b) → wpList Try.prog ops Q rest (a.put o.dst undef) w') : wpList Try.prog ops Q (o :: rest) a w := by
  refine wpList_plain hg fun K' hK' => ?_
  obtain ⟨w', hrun, r1, r2⟩ := World.ownsMap.update h keyed7 Try.underlying45 hn (Zde hq) (plainElem_bool Try.underlying4 true)
  have r3 : SetL w' b (L ++ [q]) := by
    unfold SetL
    rw [List.map_append, List.map_cons, List.map_nil, setOf_snoc, List.length_append]
    exact r1
  rcases hop with hop | hop
  · unfold Oper.wp
    simp [execOp, hop, hm, hx, hv, hrun, Result.andThen]
    exact hK' _ _ (hK w' r3 r2)
  unfold Oper.wp
  simp [execOp, hop, hm, hx, hv, hrun, Result.andThen]
  exact hK' _ _ (hK w' r3 r2)
/-- A whole row stored: the world is a variable from here on. -/
theorem Zc1 {ops : Array Oper} {rest : List Oper} {o : Oper} {a : Act} {w : World} {Q : Exit → Act → World → Prop} (hgd : o.guard = none) (ty : TypeId) (x y : Operand) (ho : o.op = .store ty x y)
    (g : Nat) (cells : Array Value) (hx : a.eval x = .pointer (some ⟨g, 0, none⟩)) (hy : a.eval y = .agg cells)
    (t : TypeId) (old : Array Value) (hg : w.heap[g]? = some (.cells old t (0, 0))) (hi : (Try.prog.info? ty).map (·.size) = some cells.size)
    (hold : old.size = cells.size) (h1 : cells.all (·.oneCell') = true)
    (h : ∀ w', w'.heap[g]? = some (.cells cells t (0, 0)) → w.grownBy w' (some g) → wpList Try.prog ops Q rest (a.put o.dst undef) w') : wpList Try.prog ops Q (o :: rest) a w :=
  wpList_store_row hgd ty x y ho g cells hx hy t old hg hi hold h1 (h _ (setRow_heap _ _ _ _ _ _ hg) ⟨rfl, rfl, rfl, by simp [World.setRow], fun k hk hne => setRow_other w g k cells (fun e => hne (by rw [e]))⟩)
/-- A row of rows of the call's own has nothing in a map's block. -/
theorem S_notmap {α : Type} {d : Kd α} {e base b : Nat} {ok : Nat → Prop} {w : World} {v : Value} {xs : List α} {L : List (List Int)} (h : Kd.S d e w base ok v xs) (hs : SetL w b L) : Kd.S d e w base (fun k => ok k ∧ k ≠ b) v xs := by
  obtain ⟨es, clock, hb⟩ := hs.block
  refine Kd.Zdp (Kd.Zey h) (fun k hk => ⟨hk.1, fun e => ?_⟩)
  obtain ⟨_, _, _, q, _, cells, hc⟩ := hk
  subst e
  rw [hb] at hc
  cases hc
theorem S_own_notmap {α : Type} {d : Kd α} {e base b : Nat} {ok : Nat → Prop} {w : World} {v : Value} {xs : List α} {L : List (List Int)} (h : Kd.S d e w base ok v xs) (hs : SetL w b L) : some b ≠ v.ownBlock := by
  obtain ⟨es, clock, hb⟩ := hs.block
  intro e
  obtain ⟨cells, hc⟩ := Kd.Zcl h b e.symm
  rw [hb] at hc
  cases hc
end Go.Proofs.Yteopgafbamipeaa.P
/- group.Close: what it computes, for whatever memory and arguments it is called with. -/
namespace Go.Proofs.Yteopgafbamipeaa.P
open Go.RowKit Go.Shelf Go.Proofs.YteopgafbamipeaaW.PrintWords Go.Proofs.YteopgafbamipeaaW.PrintLast Go.Proofs.YteopgafbamipeaaW.PrintMore
set_option linter.unusedVariables false
set_option linter.unusedSimpArgs false

theorem cl_cases {k : Nat} {l : List (List Int)} {n : Int} {r1 : List (List Int)} {r2 : Int} (h : Za4.f k l n = some (r1, r2)) :
    (n < 0 ∧ r1 = [] ∧ r2 = 1) ∨ (7 < n ∧ r1 = [] ∧ r2 = 1) ∨ (0 ≤ n ∧ n ≤ 7 ∧ ((Zc5 l n = false ∧ r1 = [] ∧ r2 = 1) ∨ (Zc5 l n = true ∧ r2 = 0 ∧ ∃ out, Zbx l k 0 [G.ids n.toNat] = some out ∧ Za8.f out = some r1))) := by
  unfold Za4.f at h
  split at h
  · rename_i hc
    cases h
    rcases hc with hc | hc
    · exact .inl ⟨hc, rfl, rfl⟩
    exact .inr (.inl ⟨hc, rfl, rfl⟩)
  rename_i hc
  refine .inr (.inr ⟨by omega, by omega, ?_⟩)
  split at h
  · rename_i ho
    obtain ⟨out, h1, h2⟩ := Option.bind_eq_some_iff.1 h
    obtain ⟨s, h3, h4⟩ := Option.map_eq_some_iff.1 h2
    cases h4
    exact .inr ⟨ho, rfl, out, h1, h3⟩
  rename_i ho
  cases h
  exact .inl ⟨(Bool.not_eq_true _).mp ho, rfl, rfl⟩
theorem cl_ok_mem {l : List (List Int)} {n : Int} (h : Zc5 l n = true) {p : List Int} (hp : p ∈ l) : (p.length : Int) = n ∧ G.Rt p := by
  have := List.all_eq_true.1 h p hp
  simp only [Bool.and_eq_true, decide_eq_true_iff] at this
  exact ⟨this.1, (G.Zd4 p).1 this.2⟩
theorem cl_ok_not {l : List (List Int)} {n : Int} (i : Nat) (hi : i < l.length) (h : ¬ ((l[i].length : Int) = n ∧ idB 0 (sortI l[i]) = true)) : Zc5 l n = false := by
  unfold Zc5
  rw [List.all_eq_false]
  exact ⟨l[i], List.getElem_mem hi, by simpa using h⟩
theorem cl_ok_all {l : List (List Int)} {n : Int} (h : ∀ i (hi : i < l.length), (l[i].length : Int) = n ∧ idB 0 (sortI l[i]) = true) : Zc5 l n = true := by
  unfold Zc5
  rw [List.all_eq_true]
  intro p hp
  obtain ⟨i, hi, rfl⟩ := List.mem_iff_getElem.1 hp
  simpa using h i hi
/-- What the main loop holds. -/
structure ClI (wo w : World) (b : Nat) (v : Value) (L : List (List Int)) : Prop where
  s : Kd.S (Kd.slice 3 (Kd.int .i64)) 22 w wo.heap.size (fun _ => True) v L
  m : SetL w b L
  be : Below wo.heap.size wo w
  h : wo.heap.size ≤ b
/-- .. with a row that is not yet among them. -/
structure ClQ (wo w : World) (b : Nat) (v : Value) (L : List (List Int)) (u : Value) (q : List Int) : Prop where
  s : Kd.S (Kd.slice 3 (Kd.int .i64)) 22 w wo.heap.size (fun k => True ∧ some k ≠ u.ownBlock) v L
  r : Kd.R (Kd.int .i64) 3 w wo.heap.size (fun _ => True) u q
  m : SetL w b L
  be : Below wo.heap.size wo w
  h : wo.heap.size ≤ b
theorem ClI.born {wo w w1 : World} {b : Nat} {v u : Value} {L : List (List Int)} {q : List Int} (h : ClI wo w b v L) (ho : Kd.R (Kd.int .i64) 3 w1 w.heap.size (fun _ => True) u q) (hb : Below w.heap.size w w1) : ClQ wo w1 b v L u q :=
  ⟨Kd.Zc4 h.s (Kd.Zcb ho) hb, Kd.Zbu ho (Zas h.be), h.m.below hb, Zan h.be hb, h.h⟩
theorem ClQ.below {wo w w1 : World} {b : Nat} {v u : Value} {L : List (List Int)} {q : List Int} (h : ClQ wo w b v L u q) (hb : Below w.heap.size w w1) : ClQ wo w1 b v L u q :=
  ⟨Kd.S_below h.s hb, Kd.Zec h.r hb, h.m.below hb, Zan h.be hb, h.h⟩
theorem ClQ.old {wo w : World} {b : Nat} {v u : Value} {L : List (List Int)} {q : List Int} (h : ClQ wo w b v L u q) : ClI wo w b v L := ⟨Kd.S_drop h.s, h.m, h.be, h.h⟩
theorem Zez {w w' : World} {o : Obj} (hg : (w.alloc o).grownBy w' (some w.heap.size)) : Below w.heap.size w w' :=
  (Zac (Below.refl _ w) o).grown hg (by simp) (fun k e => by cases e; exact Nat.le_refl _)
/-- Put into the map, not yet into the list. -/
structure ClP (wo w : World) (b : Nat) (v : Value) (L : List (List Int)) (u : Value) (q : List Int) : Prop where
  s : Kd.S (Kd.slice 3 (Kd.int .i64)) 22 w wo.heap.size (fun k => True ∧ some k ≠ u.ownBlock) v L
  r : Kd.R (Kd.int .i64) 3 w wo.heap.size (fun _ => True) u q
  m : SetL w b (L ++ [q])
  be : Below wo.heap.size wo w
  h : wo.heap.size ≤ b
theorem ClQ.put {wo w w1 : World} {b : Nat} {v u : Value} {L : List (List Int)} {q : List Int} (h : ClQ wo w b v L u q) (hm : SetL w1 b (L ++ [q])) (hg : w.grownBy w1 (some b)) : ClP wo w1 b v L u q := by
  obtain ⟨es, clock, hblk⟩ := h.m.block
  refine ⟨Kd.Zdp (Kd.S_grown (S_notmap h.s h.m) hg (fun k hk e => hk.2 (Option.some.inj e))) (fun k hk => hk.1), Kd.R_grown2 h.r rfl hg (fun k e e2 => ?_), hm, h.be.grown hg h.be.size (fun k e => by cases e; exact h.h), h.h⟩
  cases e
  obtain ⟨cells, hc⟩ := Kd.R_typed h.r b e2.symm
  rw [hblk] at hc
  cases hc
theorem ClP.appended {wo w w1 : World} {b : Nat} {v v1 u : Value} {L : List (List Int)} {q : List Int} (h : ClP wo w b v L u q) (hs : Kd.S (Kd.slice 3 (Kd.int .i64)) 22 w1 wo.heap.size (fun _ => True) v1 (L ++ [q])) (hb : Below wo.heap.size wo w1) (hg : w.grownBy w1 v.ownBlock) : ClI wo w1 b v1 (L ++ [q]) :=
  ⟨hs, h.m.kept hg (S_own_notmap h.s h.m), hb, h.h⟩
theorem sm_of {n : Nat} {x : List Int} (hn : n ≤ 7) (hx : G.Rt x) (hl : x.length = n) : Sm n x := ⟨hl, hn, fun v hv => by have := (hx.mem v).1 hv; omega⟩
theorem one_hp {w : World} {base : Nat} {v : Value} {x : List Int} (h : Kd.R (Kd.int .i64) 3 w base (fun _ => True) v x) : ∀ (j : Nat) (y : List Int), [x][j]? = some y → (Kd.slice 3 (Kd.int .i64)).M w base (fun k => j = 0 ∧ some k = v.ownBlock) y (([v].drop (j * (Kd.slice 3 (Kd.int .i64)).sz)).take (Kd.slice 3 (Kd.int .i64)).sz)
  | 0, y, hy => by
    obtain rfl := Option.some.inj hy
    exact Kd.M_row (Kd.Zbf (Kd.Zc9 rfl h) (fun k hk => ⟨rfl, hk⟩))
  | j + 1, y, hy => by simp at hy
/-- The first j places told. -/
def fillN (n j : Nat) : List Int := (List.range n).map fun i => if i < j then Int.ofNat i else 0
theorem Zd3 (n j : Nat) : (fillN n j).length = n := by simp [fillN]
theorem fillN_zero (n : Nat) : fillN n 0 = List.replicate n 0 := by
  refine List.ext_getElem (by simp [fillN]) fun i h1 h2 => ?_
  simp [fillN]
theorem fillN_all (n : Nat) : fillN n n = G.ids n := by
  refine List.ext_getElem (by simp [fillN, G.ids]) fun i h1 h2 => ?_
  have : i < n := by rw [Zd3] at h1; exact h1
  simp [fillN, G.ids, this]
theorem fillN_set (n j : Nat) (h : j < n) : (fillN n j).set j (j : Int) = fillN n (j + 1) := by
  refine List.ext_getElem (by simp [fillN]) fun i h1 h2 => ?_
  rw [List.getElem_set]
  split
  · rename_i e
    subst e
    simp [fillN]
  rename_i e
  simp only [fillN, List.getElem_map, List.getElem_range]
  by_cases hi : i < j
  · rw [if_pos hi, if_pos (by omega)]
  rw [if_neg hi, if_neg (by omega)]
set_option maxHeartbeats 8000000 in
set_option maxRecDepth 1000000 in
theorem Za4.calls (k : Nat) (A0 : Option Addr) (c0 : Nat) (l0 : List (List Int)) (a1 : Int) (r1 : List (List Int)) (r2 : Int) (w : World) (hr0 : Kd.C (Kd.slice 3 (Kd.int .i64)) w A0 l0.length l0) (hc0 : l0.length ≤ c0) (h : Za4.f k l0 a1 = some (r1, r2)) :
    Calls Try.prog 20 #[.slice A0 l0.length c0, .int .i64 a1] w fun e w' => ∃ v0_ : Value, e = .returned (.tuple #[v0_, .int .i64 r2]) ∧ Kd.S (Kd.slice 3 (Kd.int .i64)) 22 w' w.heap.size (fun _ => True) v0_ r1 ∧ Below w.heap.size w w' := by
  have HR := Zaa.mk hr0
  have HC := Zaa.mk hc0
  have hlen : l0.length ≤ 9223372036854775807 := hr0.2.1
  have HL := Zaa.mk hlen
  clear hr0 hc0
  have hcs := cl_cases h
  clear h
  obtain ⟨wo, rfl⟩ : ∃ wo : World, wo = w := ⟨_, rfl⟩
  rcases hcs with ⟨hn, rfl, rfl⟩ | ⟨hn, rfl, rfl⟩ | ⟨h0, h7, hcs⟩
  · go_enter Try.func20, Try.ntmps20
    try simp only [List.append]
    go_wp2
    go_ret2
    exact ⟨_, rfl, Kd.Zd _ _ _ _ _, Below.refl _ _⟩
  · have h8 : ¬ a1 < 0 := by omega
    go_enter Try.func20, Try.ntmps20
    try simp only [List.append]
    go_wp2
    go_ret2
    exact ⟨_, rfl, Kd.Zd _ _ _ _ _, Below.refl _ _⟩
  have h8 : ¬ a1 < 0 := by omega
  have h9 : ¬ 7 < a1 := by omega
  have HCS := Zaa.mk hcs
  clear hcs
  go_enter Try.func20, Try.ntmps20
  try simp only [List.append]
  go_wp2
  go_loopg [26] l0.length (fun gg s26 wr => ∃ n : Nat, s26 = .int .i64 n ∧ n ≤ l0.length ∧ l0.length - n ≤ gg ∧ Zaa (∀ i (hi : i < n), ∃ hj : i < l0.length, (l0[i].length : Int) = a1 ∧ idB 0 (sortI l0[i]) = true) ∧ Zaa (Below wo.heap.size wo wr))
  case atStart => exact ⟨0, rfl, by omega, by omega, ⟨fun i hi => absurd hi (Nat.not_lt_zero _)⟩, ⟨Below.refl _ _⟩⟩
  case round =>
    obtain ⟨n, rfl, hn, hgg, HI, HB⟩ := hrel
    by_cases hlt : n < l0.length
    · have hltz : (n : Int) < (l0.length : Int) := by omega
      obtain ⟨ad, Ap, cp, rfl, hx, hcp, hCp⟩ := Zdk HR.out n hlt
      replace hx := (HB.out.cell (World.block_lt_of_cell? wo _ hx)).trans hx
      have HN := Zaa.mk (show l0[n] = l0[n] from rfl)
      obtain ⟨x, hxe⟩ : ∃ x, l0[n] = x := ⟨_, rfl⟩
      rw [hxe] at hx hcp hCp
      have HX := Zaa.mk hxe
      have HCP := Zaa.mk (Kd.Zaq hCp HB.out)
      have HCC := Zaa.mk hcp
      clear HN hxe hCp hcp
      by_cases hl : (x.length : Int) = a1
      rotate_left
      · have hz : ((x.length : Int) != a1) = true := by simp [hl]
        have HLx := Zaa.mk hl
        rcases HCS.out with ⟨_, rfl, rfl⟩ | ⟨hok, _⟩
        · clear hl
          go_wp2
          go_ret2
          exact ⟨_, rfl, Kd.Zd _ _ _ _ _, HB.out⟩
        rw [cl_ok_not n hlt (by rw [HX.out]; intro h; exact HLx.out h.1)] at hok
        cases hok
      have hz : ((x.length : Int) != a1) = false := by simp [hl]
      have HLx := Zaa.mk hl
      by_cases hr : idB 0 (sortI x) = true
      rotate_left
      · have hr' : idB 0 (sortI x) = false := (Bool.not_eq_true _).mp hr
        have HRx := Zaa.mk hr'
        rcases HCS.out with ⟨_, rfl, rfl⟩ | ⟨hok, _⟩
        · clear hl hr hr'
          go_wp2_with (first | (go_at_call 27; go_loud (refine (Za2.calls _ _ x false _ HCP.out HCC.out (by rw [G.Zfh (by have := HLx.out; omega), HRx.out])).mono ?_; rintro e w1 ⟨rfl, hb1⟩; have n1_ := Zaa.mk (Zan HB.out hb1); clear HB hb1; have HB := n1_; clear n1_)))
          go_ret2
          exact ⟨_, rfl, Kd.Zd _ _ _ _ _, HB.out⟩
        rw [cl_ok_not n hlt (by rw [HX.out]; intro h; rw [HRx.out] at h; exact absurd h.2 (by simp))] at hok
        cases hok
      have HRx := Zaa.mk hr
      clear hl hr
      go_wp2_with (first | (go_at_call 27; go_loud (refine (Za2.calls _ _ x true _ HCP.out HCC.out (by rw [G.Zfh (by have := HLx.out; omega), HRx.out])).mono ?_; rintro e w1 ⟨rfl, hb1⟩; have n1_ := Zaa.mk (Zan HB.out hb1); clear HB hb1; have HB := n1_; clear n1_)))
      go_roundg (l0.length - (n + 1))
      case measure => omega
      case rel => exact ⟨n + 1, by go_num, by omega, Nat.le_refl _, ⟨fun i hi => by
        rcases Nat.lt_or_ge i n with h | h
        · exact HI.out i h
        obtain rfl : i = n := by omega
        exact ⟨hlt, by rw [HX.out]; exact ⟨HLx.out, HRx.out⟩⟩⟩, HB⟩
    obtain rfl : n = l0.length := by omega
    rcases HCS.out with ⟨hok, _⟩ | ⟨hok, rfl, out, hloop, hsort⟩
    · rw [cl_ok_all (fun i hi => by obtain ⟨_, h⟩ := HI.out i hi; exact h)] at hok
      cases hok
    have HOK := Zaa.mk (fun p (hp : p ∈ l0) => cl_ok_mem hok hp)
    have HLP := Zaa.mk hloop
    have HST := Zaa.mk hsort
    clear HI HCS hok hloop hsort hgg hn hlt
    obtain ⟨n, rfl⟩ : ∃ n : Nat, a1 = n := ⟨a1.toNat, by omega⟩
    rw [Int.toNat_natCast] at HLP
    have hn7 : n ≤ 7 := by omega
    go_wp2_with (first | ((with_reducible refine Zbn (N := 41) rfl ?_); go_loud (refine Kd.R_make (Kd.int .i64) _ 3 rfl (N := 41) rfl 22 _ _ rfl (n : Int) rfl rfl Try.underlying22 (.int .i64 0) 8 info3 rfl (by decide) (by omega) 0 (ok := fun _ => True) (okp := fun _ => True) rfl (fun _ hk => hk) trivial (by omega) (by omega) (Below.refl _ _) (Nat.le_refl _) ?_; intro v1 w1 ho hb hg_ hnew_; clear hg_ hnew_; rw [Int.toNat_natCast, ← fillN_zero] at ho; have HV := Zaa.mk (Kd.Zbu ho (Zas HB.out)); have n1_ := Zaa.mk (Zan HB.out hb); clear HB hb ho; have HB := n1_; clear n1_; obtain ⟨Ay, cy, ey⟩ := Kd.Zcc HV.out; rw [Zd3] at ey; subst ey)))
    go_loopg [44] n (fun gg s44 wr => ∃ j : Nat, s44 = .int .i64 j ∧ j ≤ n ∧ n - j ≤ gg ∧ Zaa (Kd.R (Kd.int .i64) 3 wr wo.heap.size (fun _ => True) (.slice Ay n cy) (fillN n j)) ∧ Zaa (Below wo.heap.size wo wr))
    case atStart => exact ⟨0, rfl, by omega, by omega, HV, HB⟩
    case round =>
      clear HV HB
      obtain ⟨j, rfl, hj, hgg, HV, HB⟩ := hrel
      by_cases hlt : j < n
      · have hltz : (j : Int) < (n : Int) := by omega
        have hj7 : (j : Int) < 7 := by omega
        obtain ⟨gy, cy', ey, hgb, hgl, _⟩ := Kd.R_form HV.out (by rw [Zd3]; omega)
        rw [Zd3] at ey
        (injection ey with ea_ en_ ec_; subst ea_; subst ec_)
        have HV' := Zaa.mk (show Kd.R (Kd.int .i64) 3 wr wo.heap.size (fun _ => True) (.slice (some ⟨gy, 0, none⟩) n cy) (fillN n j) from HV.out)
        clear HV en_
        obtain ⟨hx0, hf0⟩ := Kd.R_celln 0 HV'.out (j : Int) (by omega) hltz
        have HP := Kd.R_putg HV'.out (j : Int) (j : Int)
        rw [Int.toNat_natCast] at hx0 hf0 HP
        rw [fillN_set n j hlt] at HP
        have HPP := Zaa.mk HP
        have HGB := Zaa.mk hgb
        clear HP hgb hgl
        go_wp2
        go_roundg (n - (j + 1))
        case measure => omega
        case rel => exact ⟨j + 1, by go_num, by omega, Nat.le_refl _, ⟨HPP.out.1⟩, ⟨Zdb HB.out HGB.out⟩⟩
      obtain rfl : n = j := by omega
      rw [fillN_all] at HV
      have hsm : Sm n (G.ids n) := sm_of hn7 (G.ids_Rt n) (G.Zbr n)
      have HSM := Zaa.mk hsm
      clear hsm hj hgg
      have hmm := @run_makeMap Try.prog
      go_wp2_with (first
        | (go_at_call 29; go_loud (refine (Zdd.at _ _ n (G.ids n) _ (G.Zbr n) (Kd.Za0 (Kd.Zbh HV.out).2.2 _) (by have := (Kd.Zbh HV.out).2.1; rw [G.Zbr]; exact this) (by rw [G.Zbr]; exact hn7)).mono ?_; rintro e w1 ⟨rfl, hb1⟩; have HM := Zaa.mk ((SetL.made wr).below hb1); have HV1 := Zaa.mk (Kd.Zec (Kd.Zbk HV.out (.map #[] 0)) hb1); have HB1 := Zaa.mk (Zan (Zac HB.out (.map #[] 0)) hb1); clear hb1))
        | (refine Zf4 rfl (.tmp 52) (.tmp 54) (.const (.bool true)) (.inr rfl) rfl HM.out rfl rfl HSM.out (by decide) ?_; intro w2 hm2 hg2; have HM2 := Zaa.mk (show SetL w2 wr.heap.size [G.ids n] from hm2); have HV2 := Zaa.mk (Kd.R_grown2 HV1.out rfl hg2 (fun k e e2 => by
            cases e
            obtain ⟨es, clock, hblk⟩ := HM.out.block
            obtain ⟨cells, hc⟩ := Kd.R_typed HV1.out wr.heap.size e2.symm
            rw [hblk] at hc
            cases hc)); have HB2 := Zaa.mk (HB1.out.grown hg2 HB1.out.size (fun k e => by cases e; exact HB.out.size)); clear hm2 hg2)
        | ((with_reducible refine Zbn (N := 57) rfl ?_); go_loud (refine Kd.S_lits (Kd.slice 3 (Kd.int .i64)) _ 22 rfl (N := 57) rfl (xs := [G.ids n]) (inner := [.slice Ay n cy]) (ok := fun _ => True) (fun j k => j = 0 ∧ some k = (Value.slice Ay n cy).ownBlock) ?hr ?hl ?hp ?ha (fun _ _ _ => trivial) trivial HB2.out HB2.out.size (by simp) ?_; (case hr => first | (go_simp; done) | (go_simp; rfl)); (case hl => rfl); (case hp => exact one_hp HV2.out); (case ha => exact fun i j k h1 h2 => h1.1.trans h2.1.symm); intro v3 w3 hs3 hb3 hg3 hn3; have HI := Zaa.mk (show ClI wo w3 wr.heap.size v3 [G.ids n] from ⟨hs3, HM2.out.kept hg3 (by simp), hb3, HB.out.size⟩)))
        )
      clear HV1 HM HM2 HV2 HB2 HB1 HV HB HSM hs3 hb3 hg3 hn3
      obtain ⟨wb, rfl⟩ : ∃ wb : World, wb = wr := ⟨_, rfl⟩
      have HII := HI
      clear HI
      go_loopg [11, 12] k (fun gk s11 s12 wl => ∃ (i : Nat) (L : List (List Int)), s12 = .int .i64 i ∧ i ≤ L.length ∧ gk ≤ k ∧ Zaa (Zbx l0 gk i L = some out) ∧ Zaa (ClI wo wl wb.heap.size s11 L) ∧ Zaa (∀ x ∈ L, G.Rt x ∧ x.length = n) ∧ Zaa (L.length ≤ 1000000))
      case atStart => exact ⟨0, _, rfl, Nat.zero_le _, Nat.le_refl _, HLP, HII, ⟨fun x hx => by obtain rfl := List.mem_singleton.1 hx; exact ⟨G.ids_Rt n, G.Zbr n⟩⟩, ⟨by simp⟩⟩
      case round =>
        clear HLP HII
        obtain ⟨i, L, rfl, hi, hgk, HLP, HI, HA, HLL⟩ := hrel
        cases gk with
        | zero => exact absurd HLP.out (by simp [Zbx])
        | succ kq =>
          have hL0 := HLL.out
          obtain ⟨Av, cv, ev, hcv, hCv⟩ := Kd.Zda HI.out.s
          subst ev
          have hlo := HLP.out
          rw [Zbx] at hlo
          by_cases hlt : i < L.length
          rotate_left
          · rw [dif_neg hlt] at hlo
            obtain rfl := Option.some.inj hlo
            have hdf : decide ((i : Int) < (L.length : Int)) = false := decide_eq_false (by omega)
            have HCV := Zaa.mk hCv
            have HCC := Zaa.mk hcv
            have hltz : ¬ (i : Int) < (L.length : Int) := by omega
            clear hlo hCv hcv hi
            go_wp2_with (first | (go_at_call 30; go_loud (refine (Za8.calls _ _ L r1 _ HCV.out HCC.out HST.out).mono ?_; rintro e w5 ⟨v5, rfl, hs5, hb5⟩)))
            go_ret2
            exact ⟨_, rfl, Kd.Zed hs5 (Zas HI.out.be), Zan HI.out.be hb5⟩
          rw [dif_pos hlt] at hlo
          have hlo2 := hlo
          split at hlo2
          case isFalse => cases hlo2
          case isTrue hbig =>
          obtain ⟨x, hxe⟩ : ∃ x, L[i] = x := ⟨_, rfl⟩
          rw [hxe] at hlo2 hbig
          have HLO := Zaa.mk hlo2
          have HBG := Zaa.mk hbig
          have HX := Zaa.mk (show L[i]? = some x by rw [List.getElem?_eq_getElem hlt, hxe])
          have HXA := Zaa.mk (HA.out x (by rw [← hxe]; exact List.getElem_mem hlt))
          have hdf : decide ((i : Int) < (L.length : Int)) = true := decide_eq_true (by omega)
          have HLT := Zaa.mk hlt
          have hltz : (i : Int) < (L.length : Int) := by omega
          clear hlo hlo2 hbig hxe hCv hcv HLP
          go_wp2
          obtain ⟨wm, rfl⟩ : ∃ wm : World, wm = wr := ⟨_, rfl⟩
          go_loopg [11, 66] l0.length (fun gg s11 s66 wl => ∃ j : Nat, s66 = .int .i64 j ∧ j ≤ l0.length ∧ l0.length - j ≤ gg ∧ Zaa (ClI wo wl wb.heap.size s11 (Za7 x (l0.take j) L)))
          case atStart => exact ⟨0, rfl, by omega, by omega, HI⟩
          case round =>
            clear HI hdf hltz hlt
            obtain ⟨j, rfl, hj, hgg, HI⟩ := hrel
            by_cases hlt : j < l0.length
            rotate_left
            · obtain rfl : l0.length = j := by omega
              rw [List.take_length] at HI
              have hk1 : kq < k := by omega
              have hiz : (i : Int) < 9223372036854775807 := by have := HLT.out; have := HLL.out; omega
              clear hj hgg
              go_wp2
              go_roundg kq
              case measure => omega
              case rel => exact ⟨i + 1, _, by go_num, by have := Zcq x l0 L; have := HLT.out; omega, by omega, by have h := HLO.out; exact ⟨h⟩, HI, ⟨by
                intro y hy
                rcases (Zbw x y _ _).1 hy with h | ⟨p', hp', rfl⟩
                · exact HA.out y h
                have h1 := HOK.out p' hp'
                exact ⟨G.Ze1 HXA.out.1 h1.2 (by have := HXA.out.2; omega), by rw [G.Zb]; exact HXA.out.2⟩⟩, HBG⟩
            have hltz : (j : Int) < (l0.length : Int) := by omega
            obtain ⟨ad, Ap, cp, rfl, hx, hcp, hCp⟩ := Zdk HR.out j hlt
            replace hx := (HI.out.be.cell (World.block_lt_of_cell? wo _ hx)).trans hx
            obtain ⟨p, hpe⟩ : ∃ p, l0[j] = p := ⟨_, rfl⟩
            rw [hpe] at hx hcp hCp
            have HP := Zaa.mk (HOK.out p (by rw [← hpe]; exact List.getElem_mem hlt))
            have HTK := Zaa.mk (show l0.take (j + 1) = l0.take j ++ [p] by rw [List.take_succ_eq_append_getElem hlt, hpe])
            have HTL := Zaa.mk (show (Za7 x (l0.take (j + 1)) L).length ≤ 1000000 by
              refine Nat.le_trans ?_ HBG.out
              have := Zek x (l0.take (j + 1)) (l0.drop (j + 1)) L
              rw [List.take_append_drop] at this
              rw [this]
              exact Zcq _ _ _)
            have HO := Zaa.mk (show (Za7 x (l0.take j) L)[i]? = some x by rw [Zdc x _ L i HLT.out]; exact HX.out)
            have HCP := Zaa.mk (Kd.Zaq hCp HI.out.be)
            have HCC := Zaa.mk hcp
            clear hpe hCp hcp
            obtain ⟨O, hOe⟩ : ∃ O, Za7 x (l0.take j) L = O := ⟨_, rfl⟩
            have HOe := Zaa.mk hOe
            rw [hOe] at HI HO
            clear hOe
            obtain ⟨Av, cv, ev, hcv, hCv⟩ := Kd.Zda HI.out.s
            subst ev
            obtain ⟨hio, hox⟩ := List.getElem?_eq_some_iff.1 HO.out
            have hioz : (i : Int) < (O.length : Int) := by omega
            obtain ⟨ao, Ax, cx, rfl, hxo, hcx, hCx⟩ := Zdk hCv i hio
            rw [hox] at hxo hcx hCx
            have HCX := Zaa.mk hCx
            have HCXC := Zaa.mk hcx
            clear hCv hcv hox hcx hCx hio
            obtain ⟨q, hq⟩ : ∃ q, G.comp x p = q := ⟨_, rfl⟩
            have hqs : Sm n q := by
              rw [← hq]
              exact sm_of hn7 (G.Ze1 HXA.out.1 HP.out.2 (by have := HP.out.1; have := HXA.out.2; omega)) (by rw [G.Zb]; exact HXA.out.2)
            have HQS := Zaa.mk hqs
            have HBH := Zaa.mk (show Zal.f (x.length + 2) x p = some (q, 0) by rw [← hq]; exact behind_some HXA.out.1 HP.out.2 (by have := HP.out.1; have := HXA.out.2; omega) (by have := HXA.out.2; omega))
            have HOA := Zaa.mk (show ∀ y ∈ O, Sm n y by
              intro y hy
              rw [← HOe.out] at hy
              rcases (Zbw x y _ _).1 hy with h | ⟨p', hp', rfl⟩
              · exact sm_of hn7 (HA.out y h).1 (HA.out y h).2
              have h1 := HOK.out p' (List.mem_of_mem_take hp')
              exact sm_of hn7 (G.Ze1 HXA.out.1 h1.2 (by have := HXA.out.2; omega)) (by rw [G.Zb]; exact HXA.out.2))
            have HSN := Zaa.mk (Zd2 x p (l0.take j) L)
            rw [HOe.out, hq, ← HTK.out] at HSN
            have HQ := Zaa.mk hq
            clear hq hqs
            by_cases hin : q ∈ O
            · have HD := Zaa.mk (decide_eq_true hin)
              have HIN := Zaa.mk hin
              clear hin
              go_wp2_with (first
                | (go_at_call 9; go_loud (refine (Zal.calls _ _ _ x _ _ p q 0 _ HCX.out HCXC.out HCP.out HCC.out HBH.out).mono ?_; rintro e w1 ⟨v1, rfl, ho1, hb1⟩; have HQ1 := Zaa.mk (HI.out.born ho1 hb1); clear ho1 hb1; obtain ⟨Ao, co, eo⟩ := Kd.Zcc HQ1.out.r; subst eo))
                | (go_at_call 29; go_loud (refine (Zdd.calls _ _ q _ (Kd.Zbh HQ1.out.r).2.2 (Kd.Zbh HQ1.out.r).2.1 (by have := HQS.out.1; omega)).mono ?_; rintro e w2 ⟨rfl, hb2⟩; have HQ2 := Zaa.mk (HQ1.out.below hb2); clear hb2))
                | (refine Zc1 rfl 43 (.tmp 17) (.tmp 80) rfl w2.heap.size (keyC q).toArray rfl rfl 43 _ (Ze0 w2 _) ?s1 ?s2 ?s3 ?_; (case s1 => rw [Zb2 (Zcr q (by have := HQS.out.1; omega))]; kernel_rfl); (case s2 => exact (Zb2 (Zcr q (by have := HQS.out.1; omega))).symm); (case s3 => exact keyC_all q); intro w3 hk3 hg3; have HQ3 := Zaa.mk (HQ2.out.below (Zez hg3)); have HK3 := Zaa.mk hk3; clear hk3 hg3)
                | (refine wpList_load_row rfl 43 (.tmp 17) rfl w2.heap.size rfl 43 (keyC q).toArray (0, 0) _ HK3.out Try.underlying43 rfl ?l1 ?_; (case l1 => rw [Zb2 (Zcr q (by have := HQS.out.1; omega))]; kernel_rfl))
                | (refine Zfo rfl (.tmp 81) (.tmp 82) rfl rfl HQ3.out.m rfl HOA.out HQS.out ?_; rw [HD.out])
                )
              go_roundg (l0.length - (j + 1))
              case measure => omega
              case rel => exact ⟨j + 1, by go_num, by omega, Nat.le_refl _, ⟨by rw [HSN.out, if_pos HIN.out]; exact HQ3.out.old⟩⟩
            have HD := Zaa.mk (decide_eq_false hin)
            have HTLO := Zaa.mk (show O.length ≤ 999999 by
              have := HTL.out
              rw [HSN.out, if_neg hin, List.length_append] at this
              simp only [List.length_cons, List.length_nil] at this
              omega)
            have HIN := Zaa.mk hin
            clear hin
            go_wp2_with (first
              | (go_at_call 9; go_loud (refine (Zal.calls _ _ _ x _ _ p q 0 _ HCX.out HCXC.out HCP.out HCC.out HBH.out).mono ?_; rintro e w1 ⟨v1, rfl, ho1, hb1⟩; have HQ1 := Zaa.mk (HI.out.born ho1 hb1); clear ho1 hb1; obtain ⟨Ao, co, eo⟩ := Kd.Zcc HQ1.out.r; subst eo))
              | (go_at_call 29; go_loud (refine (Zdd.calls _ _ q _ (Kd.Zbh HQ1.out.r).2.2 (Kd.Zbh HQ1.out.r).2.1 (by have := HQS.out.1; omega)).mono ?_; rintro e w2 ⟨rfl, hb2⟩; have HQ2 := Zaa.mk (HQ1.out.below hb2); clear hb2))
              | (refine Zc1 rfl 43 (.tmp 17) (.tmp 80) rfl w2.heap.size (keyC q).toArray rfl rfl 43 _ (Ze0 w2 _) ?s1 ?s2 ?s3 ?_; (case s1 => rw [Zb2 (Zcr q (by have := HQS.out.1; omega))]; kernel_rfl); (case s2 => exact (Zb2 (Zcr q (by have := HQS.out.1; omega))).symm); (case s3 => exact keyC_all q); intro w3 hk3 hg3; have HQ3 := Zaa.mk (HQ2.out.below (Zez hg3)); have HK3 := Zaa.mk hk3; clear hk3 hg3)
              | (refine wpList_load_row rfl 43 (.tmp 17) rfl w2.heap.size rfl 43 (keyC q).toArray (0, 0) _ HK3.out Try.underlying43 rfl ?l1 ?_; (case l1 => rw [Zb2 (Zcr q (by have := HQS.out.1; omega))]; kernel_rfl))
              | (refine Zfo rfl (.tmp 81) (.tmp 82) rfl rfl HQ3.out.m rfl HOA.out HQS.out ?_; rw [HD.out])
              | (refine Zf4 rfl (.tmp 85) (.tmp 86) (.const (.bool true)) (.inl rfl) rfl HQ3.out.m rfl rfl HQS.out ?p1 ?_; (case p1 => have := HTLO.out; unfold maxLen; omega); intro w4 hm4 hg4; have HP4 := Zaa.mk (HQ3.out.put hm4 hg4); clear hm4 hg4)
              | ((with_reducible refine Za1 (b := .append) (xs := #[.tmp 87, .tmp 89]) rfl ?_); at_builtin; go_loud (refine Kd.Zes (Kd.slice 3 (Kd.int .i64)) (w0 := wo) wo.heap.size rfl (.tmp 87) (.tmp 89) 32 22 (.slice none 0 0) 24 rfl Try.underlying32 Zcm rfl (by decide) (by omega) (.slice (some ao) O.length cv) O q [.slice Ao q.length co] (fun _ => True) (fun k_ => some k_ = (.slice Ao q.length co : Value).ownBlock) rfl rfl ?aP (fun k_ hk_ => ((Kd.Zbf (ok' := fun k_ => ((fun _ => True)) k_ ∧ some k_ ≠ (.slice (some ao) O.length cv : Value).ownBlock) (Kd.Zb3 (HP4.out.r) (Kd.Zcl HP4.out.s) (by decide)) (fun k_ hk => ⟨trivial, hk.2⟩))).1 k_ hk_.symm) ?aF ?aO ?aB ?aS ?aL ?_; (case aP => exact Kd.M_row (Kd.Zbf (Kd.Zc9 rfl (Kd.Zbf (ok' := fun k_ => ((fun _ => True)) k_ ∧ some k_ ≠ (.slice (some ao) O.length cv : Value).ownBlock) (Kd.Zb3 (HP4.out.r) (Kd.Zcl HP4.out.s) (by decide)) (fun k_ hk => ⟨trivial, hk.2⟩))) (fun _ h_ => h_))); (case aB => exact HP4.out.be); (case aF => exact (fun _ _ => trivial)); (case aO => exact Kd.Zdp HP4.out.s (fun k_ hk => ⟨trivial, fun e_ => hk.2 e_⟩)); (case aS => exact HP4.out.be.size); (case aL => have := HTLO.out; omega); intro v5 w5 ho hb hg hat; have HI5 := Zaa.mk (HP4.out.appended ho hb hg); clear ho hb hg hat)))
            go_roundg (l0.length - (j + 1))
            case measure => omega
            case rel => exact ⟨j + 1, by go_num, by omega, Nat.le_refl _, ⟨by rw [HSN.out, if_neg HIN.out]; exact HI5.out⟩⟩
end Go.Proofs.Yteopgafbamipeaa.P
namespace Go.Proofs.Yteopgafbamipeaa.P
open Go.RowKit Go.Proofs.YteopgafbamipeaaW.PrintWords Go.Proofs.YteopgafbamipeaaW.PrintLast Go.Proofs.YteopgafbamipeaaW.PrintMore
attribute [local go_sem] Zb4 Zb6 Zcg Zch Zbs Zbt Zb5 Zb7
set_option linter.unusedVariables false
set_option linter.unusedSimpArgs false
/-! ### Zax: function 11 -/
def Zax.l0 : Nat → List Int → List Int → Int → Int → Option (List Int × Int)
 | 0, _, _, _, _ => none
 | k + 1, x4, x13, x14, x15 => if x15 < x14 then (if 0 ≤ x15 then (if x15 < (x13.length : Int) then (if 0 ≤ (rd x13 x15) then (if (rd x13 x15) < (x4.length : Int) then (Zax.l0 k (x4.set ((rd x13 x15) : Int).toNat x15) x13 x14 (wrap64 (x15 + 1))) else (none)) else (none)) else (none)) else (none)) else (some (x4, 0))
def Zax.f (k : Nat) (l0 : List Int) : Option (List Int × Int) := (Za2.f l0).bind fun t120 => (if t120 = true then (if 0 ≤ (l0.length : Int) then (if ((l0.length : Int) : Int).toNat ≤ 35184372088832 then (Zax.l0 k (List.replicate ((l0.length : Int) : Int).toNat 0) l0 (l0.length : Int) 0) else (none)) else (none)) else (some (([] : List Int), 1)))
theorem Zax.Za6 : ∀ k, (∀ y0 y1 y2 y3, LeO (Zax.l0 k y0 y1 y2 y3) (Zax.l0 (k + 1) y0 y1 y2 y3))
 | 0 => fun _ _ _ _ r h => by simp [Zax.l0] at h
 | k + 1 => by
  have ih0 := Zax.Za6 k
  intro y0 y1 y2 y3
  unfold Zax.l0
  repeat' first
  | (with_reducible exact ih0 _ _ _ _)
  | (with_reducible exact LeO.refl _)
  | (with_reducible exact LeO.none _)
  | (with_reducible refine LeO.ite ?_ ?_)
  | (with_reducible refine LeO.bind ?_ (fun _ => ?_))
  | exact ih0 _ _ _ _
  | exact LeO.none _
  | refine LeO.ite ?_ ?_
  | refine LeO.bind ?_ (fun _ => ?_)
theorem Zax.mono : ∀ a0 k, LeO (Zax.f k a0) (Zax.f (k + 1) a0) := by
 intro a0 k
 have ih0 := Zax.Za6 k
 unfold Zax.f
 repeat' first
   | (with_reducible exact ih0 _ _ _ _)
   | (with_reducible exact LeO.refl _)
   | (with_reducible exact LeO.none _)
   | (with_reducible refine LeO.ite ?_ ?_)
   | (with_reducible refine LeO.bind ?_ (fun _ => ?_))
   | exact ih0 _ _ _ _
   | exact LeO.none _
   | refine LeO.ite ?_ ?_
   | refine LeO.bind ?_ (fun _ => ?_)
set_option maxHeartbeats 8000000 in
set_option maxRecDepth 100000 in
theorem Zax.calls (k : Nat) (A0 : Option Addr) (c0 : Nat) (l0 : List Int) (r1 : List Int) (r2 : Int) (w : World) (hr0 : Kd.C (Kd.int .i64) w A0 l0.length l0) (hc0 : l0.length ≤ c0) (h : Zax.f k l0 = some (r1, r2)) :
  Calls Try.prog 11 #[.slice A0 l0.length c0] w fun e w' => ∃ v0_ : Value, e = .returned (.tuple #[v0_, .int .i64 r2]) ∧ Kd.R (Kd.int .i64) 3 w' w.heap.size (fun _ => True) v0_ r1 ∧ Below w.heap.size w w' := by
 have HR0 := Zaa.mk hr0
 have HC0 := Zaa.mk hc0
 clear hr0 hc0
 have HB := Zaa.mk (Below.refl w.heap.size w)
 have H : ((Za2.f l0).bind fun t120 => (if t120 = true then (if 0 ≤ (l0.length : Int) then (if ((l0.length : Int) : Int).toNat ≤ 35184372088832 then (Zax.l0 k (List.replicate ((l0.length : Int) : Int).toNat 0) l0 (l0.length : Int) 0) else (none)) else (none)) else (some (([] : List Int), 1)))) = some (r1, r2) := h
 clear h
 replace H := Option.bind_eq_some_iff.mp H
 obtain ⟨t120, A20, H⟩ := H
 replace H : (if t120 = true then (if 0 ≤ (l0.length : Int) then (if ((l0.length : Int) : Int).toNat ≤ 35184372088832 then (Zax.l0 k (List.replicate ((l0.length : Int) : Int).toNat 0) l0 (l0.length : Int) 0) else (none)) else (none)) else (some (([] : List Int), 1))) = some (r1, r2) := H
 have A2 := Zaa.mk A20
 clear A20
 by_cases c3 : t120 = true
 rotate_left
 ·replace c3 := Bool.eq_false_iff.mpr c3
  subst c3
  have H1 : (some (([] : List Int), 1)) = some (r1, r2) := by rw [if_neg (show ¬ (false = true) by decide)] at H; exact H
  clear H
  have H := H1
  clear H1
  simp only [Option.some.injEq, Prod.mk.injEq] at H
  obtain ⟨rfl, rfl⟩ := H
  go_enter Try.func11, Try.ntmps11
  go_wp2_with (first | ((with_reducible refine Zaw (f := 27) rfl ?_); refine Zbl (some 8) rfl rfl Try.func27 (by kernel_rfl) rfl #[.slice A0 l0.length c0] rfl (by (try simp only [List.map_toArray, List.map_cons, List.map_nil]); first | done | rfl | (simp only [List.length_drop, List.length_take]; rfl)) ?_; (with_reducible refine (Za2.calls _ _ l0 false _ ?side1 ?side2 A2.out).mono ?_); (case side1 => repeat (first | exact HR0.out | (with_reducible refine Kd.Za0 ?_ _) | (with_reducible refine Kd.C_drewN ?_ _) | (with_reducible refine Kd.C_drew ?_))); (case side2 => exact HC0.out); rintro e w17 ⟨rfl, hb⟩; refine ⟨_, rfl, ?_⟩; have n0_ := Zaa.mk (Zan (by repeat (first | (with_reducible first | exact HB.out | apply Zac | apply Zab | apply Zad) | exact HB.out)) hb); clear HB; have HB := n0_; clear n0_; (try clear hb); (try clear hb2); (try clear hk); (try clear hi)))
  go_ret2
  exact ⟨_, by first | rfl | (simp [Zau, Zav] <;> rfl) | (simp [*, Zau, Zav] <;> rfl), by first | exact Kd.Zdo _ _ _ _ _ | exact Kd.Zeq _ _ _ _ _ | exact Kd.V_nil _ _ _ _ _ | exact Kd.Q_nil _ _ _ _ _ | exact Kd.Zd _ _ _ _ _, by repeat (first | (with_reducible first | exact HB.out | apply Zac | apply Zab | apply Zad) | exact HB.out)⟩

 subst c3
 have H1 : (if 0 ≤ (l0.length : Int) then (if ((l0.length : Int) : Int).toNat ≤ 35184372088832 then (Zax.l0 k (List.replicate ((l0.length : Int) : Int).toNat 0) l0 (l0.length : Int) 0) else (none)) else (none)) = some (r1, r2) := by rw [if_pos rfl] at H; exact H
 clear H
 have H := H1
 clear H1
 by_cases c4 : 0 ≤ (l0.length : Int)
 rotate_left
 ·rw [if_neg c4] at H
  exact absurd H (by simp)
 rw [if_pos c4] at H
 have c4b0 := eq_true c4
 have c4b1 : decide (0 ≤ (l0.length : Int)) = true := decide_eq_true c4
 clear c4
 by_cases c5 : ((l0.length : Int) : Int).toNat ≤ 35184372088832
 rotate_left
 ·rw [if_neg c5] at H
  exact absurd H (by simp)
 rw [if_pos c5] at H
 have c5b0 := eq_true c5
 have c5b1 : decide (((l0.length : Int) : Int).toNat ≤ 35184372088832) = true := decide_eq_true c5
 clear c5
 obtain ⟨y121, hy121⟩ : ∃ y_ : List Int, y_ = (List.replicate ((l0.length : Int) : Int).toNat 0) := ⟨_, rfl⟩
 replace H : (Zax.l0 k y121 l0 (l0.length : Int) 0) = some (r1, r2) := by first | (rw [hy121]; with_reducible exact H) | (have H2_ := (Option.bind_some _ _).symm.trans H; rw [hy121]; with_reducible exact H2_) | (have H2_ := (Option.bind_some _ _).symm.trans H; with_reducible exact H2_) | with_reducible exact H | (rw [hy121]; exact H) | exact H
 have Ny121 := Zaa.mk hy121
 clear hy121
 have H' := Zaa.mk H
 clear H
 go_enter Try.func11, Try.ntmps11
 go_wp2_with (first | ((with_reducible refine Zaw (f := 27) rfl ?_); refine Zbl (some 8) rfl rfl Try.func27 (by kernel_rfl) rfl #[.slice A0 l0.length c0] rfl (by (try simp only [List.map_toArray, List.map_cons, List.map_nil]); first | done | rfl | (simp only [List.length_drop, List.length_take]; rfl)) ?_; (with_reducible refine (Za2.calls _ _ l0 true _ ?side1 ?side2 A2.out).mono ?_); (case side1 => repeat (first | exact HR0.out | (with_reducible refine Kd.Za0 ?_ _) | (with_reducible refine Kd.C_drewN ?_ _) | (with_reducible refine Kd.C_drew ?_))); (case side2 => exact HC0.out); rintro e w6 ⟨rfl, hb⟩; refine ⟨_, rfl, ?_⟩; have n0_ := Zaa.mk (Zan (by repeat (first | (with_reducible first | exact HB.out | apply Zac | apply Zab | apply Zad) | exact HB.out)) hb); clear HB; have HB := n0_; clear n0_; (try clear hb); (try clear hb2); (try clear hk); (try clear hi)) | ((with_reducible refine Zbn (N := 12) rfl ?_); refine Kd.R_make (Kd.int .i64) _ 3 rfl (N := 12) rfl 22 _ _ rfl (l0.length : Int) rfl rfl Try.underlying22 (.int .i64 0) 8 info3 rfl (by decide) (by omega) 0 (ok := fun _ => True) (okp := fun _ => True) rfl (fun _ hk => hk) trivial (of_decide_eq_true (by first | (with_reducible assumption) | assumption)) (Nat.le_trans (Nat.mul_le_mul_right _ (of_decide_eq_true (by first | (with_reducible assumption) | assumption) : (l0.length : Int).toNat ≤ 35184372088832)) (by omega)) (Below.refl _ _) (Nat.le_refl _) ?_; intro v122 w7 ho8 hb hg_ hnew_; clear hg_ hnew_; (first | rw [← Ny121.out] at ho8 | (simp only [Int.reduceToNat] at ho8; rw [← Ny121.out] at ho8)); have n0_ := Zaa.mk (Kd.Zbu ho8 (Zas (by repeat (first | (with_reducible first | exact HB.out | apply Zac | apply Zab | apply Zad) | exact HB.out)))); have n1_ := Zaa.mk (Zan (by repeat (first | (with_reducible first | exact HB.out | apply Zac | apply Zab | apply Zad) | exact HB.out)) hb); clear HB; have HO123 := n0_; have HB := n1_; clear n0_ n1_; clear hb ho8))
 go_loopg [15] k (fun kq v15 w' => ∃ (x4_1 : List Int) (x15_1 : Int), v15 = .int .i64 x15_1 ∧ Zaa (Zax.l0 kq x4_1 l0 (l0.length : Int) x15_1 = some (r1, r2)) ∧ Zaa (kq ≤ k) ∧ Zaa (Kd.R (Kd.int .i64) 3 w' w.heap.size (fun _ => True) v122 x4_1) ∧ Zaa (Below w.heap.size w w'))
 case atStart => exact ⟨(y121), (0), (by first | rfl | (simp; done) | (simp [*]; done)), H', ⟨Nat.le_refl _⟩, ⟨by (with_reducible repeat (first | apply Kd.Zbk | apply Kd.R_drewN | apply Kd.Zbz)); exact HO123.out⟩, ⟨by repeat (first | (with_reducible first | exact HB.out | apply Zac | apply Zab | apply Zad) | exact HB.out)⟩⟩
 case round =>
  clear H'
  try clear c1
  try clear c2
  try clear p2
  try clear c3
  try clear c4
  try clear c4b0
  try clear c4b1
  try clear c5
  try clear c5b0
  try clear c5b1
  obtain ⟨x4_1, x15_1, rfl, HA, HK1, HO_4, HB⟩ := hrel
  cases gk with
  | zero => exact absurd HA.out (by simp [Zax.l0])
  | succ k1 =>
   have H := HA.out
   clear HA
   simp only [Zax.l0] at H
   by_cases c9 : x15_1 < (l0.length : Int)
   rotate_left
   ·rw [if_neg c9] at H
    have c9b0 : decide (x15_1 < (l0.length : Int)) = false := decide_eq_false c9
    clear c9
    simp only [Option.some.injEq, Prod.mk.injEq] at H
    obtain ⟨rfl, rfl⟩ := H
    go_wp2
    go_ret2
    exact ⟨_, by first | rfl | (simp [Zau, Zav] <;> rfl) | (simp [*, Zau, Zav] <;> rfl), by (with_reducible repeat (first | apply Kd.Zbk | apply Kd.R_drewN | apply Kd.Zbz)); exact HO_4.out, by repeat (first | (with_reducible first | exact HB.out | apply Zac | apply Zab | apply Zad) | exact HB.out)⟩
   rw [if_pos c9] at H
   have c9b0 : decide (x15_1 < (l0.length : Int)) = true := decide_eq_true c9
   clear c9
   by_cases c10 : 0 ≤ x15_1
   rotate_left
   ·rw [if_neg c10] at H
    exact absurd H (by simp)
   rw [if_pos c10] at H
   have c10b0 : decide (0 ≤ x15_1) = true := decide_eq_true c10
   clear c10
   by_cases c11 : x15_1 < (l0.length : Int)
   rotate_left
   ·rw [if_neg c11] at H
    exact absurd H (by simp)
   rw [if_pos c11] at H
   have c11b0 : decide (x15_1 < (l0.length : Int)) = true := decide_eq_true c11
   clear c11
   by_cases c12 : 0 ≤ (rd l0 x15_1)
   rotate_left
   ·rw [if_neg c12] at H
    exact absurd H (by simp)
   rw [if_pos c12] at H
   have c12b0 : decide (0 ≤ (rd l0 x15_1)) = true := decide_eq_true c12
   clear c12
   by_cases c13 : (rd l0 x15_1) < (x4_1.length : Int)
   rotate_left
   ·rw [if_neg c13] at H
    exact absurd H (by simp)
   rw [if_pos c13] at H
   have c13b0 : decide ((rd l0 x15_1) < (x4_1.length : Int)) = true := decide_eq_true c13
   clear c13
   obtain ⟨y125, hy125⟩ : ∃ y_ : List Int, y_ = (x4_1.set ((rd l0 x15_1) : Int).toNat x15_1) := ⟨_, rfl⟩
   replace H : (Zax.l0 k1 y125 l0 (l0.length : Int) (wrap64 (x15_1 + 1))) = some (r1, r2) := by first | (rw [hy125]; with_reducible exact H) | (have H2_ := (Option.bind_some _ _).symm.trans H; rw [hy125]; with_reducible exact H2_) | (have H2_ := (Option.bind_some _ _).symm.trans H; with_reducible exact H2_) | with_reducible exact H | (rw [hy125]; exact H) | exact H
   have Ny125 := Zaa.mk hy125
   clear hy125
   have H' := Zaa.mk H
   clear H
   have p124 : 0 ≤ (x15_1 : Int) := of_decide_eq_true (by first | (with_reducible assumption) | assumption)
   have q124 : x15_1 < (l0.length : Int) := of_decide_eq_true (by first | (with_reducible assumption) | assumption)
   obtain ⟨ad124, e124, hx124_0⟩ := Kd.Zbi HR0.out x15_1 p124 q124
   cases e124
   replace hx124_0 := (HB.out.cell (World.block_lt_of_cell? w _ hx124_0)).trans hx124_0
   replace p124 := eq_true p124
   replace q124 := eq_true q124
   have p14 : 0 ≤ ((rd l0 x15_1) : Int) := of_decide_eq_true (by first | (with_reducible assumption) | assumption)
   have q14 : ((rd l0 x15_1) : Int) < ((x4_1.length : Int) : Int) := of_decide_eq_true (by first | (with_reducible assumption) | assumption)
   obtain ⟨go14, co14, eo14, gb14, gl14, cl14, HG14⟩ := Kd.R_form HO_4.out (by omega)
   (first | cases eo14 | (injection eo14 with ea_ en_ ec_; (first | subst ea_ | (injection ea_ with ea_; subst ea_)); subst ec_; clear en_))
   have GB14 := Zaa.mk gb14
   have GG14 := Zaa.mk HG14
   clear gb14 gl14 HG14
   obtain ⟨hx14_0, hf14_0⟩ := Kd.R_celln 0 HO_4.out ((rd l0 x15_1) : Int) p14 q14
   replace p14 := eq_true p14
   replace q14 := eq_true q14
   have HP15 := Kd.R_putg HO_4.out ((rd l0 x15_1) : Int) x15_1
   go_wp2_with (first | ((with_reducible refine Zfx (t := 3) (p := 23) rfl ?_); refine Zfk (t := 3) (p := 23) (v := ?vo_w16) (w1 := (wr.setCell ⟨go14, ((rd l0 x15_1) : Int).toNat, none⟩ (.int .i64 x15_1))) ?hg ?ho ?hn ?hr ?_; (case ho => rfl); (case hg => rfl); (case hn => rfl); (case hr => first | (go_simp; done) | (go_simp; rfl)); intro w16 hw; have hg : wr.grownBy w16 (some go14) := (by rw [hw]; exact HP15.2); have hp_ : Kd.R (Kd.int .i64) 3 w16 w.heap.size (fun _ => True) (.slice (some ⟨go14, 0, none⟩) x4_1.length co14) y125 := (by rw [hw, Ny125.out]; exact HP15.1); clear HP15; have n0_ := Zaa.mk (hp_); have n1_ := Zaa.mk ((by rw [hw]; exact Zdb (HB.out) GB14.out : Below w.heap.size w w16)); clear HO_4; clear HB; have HO_4 := n0_; have HB := n1_; clear n0_ n1_; clear hg hw hp_))
   go_roundg k1
   case measure => have := HK1.out; omega
   case rel => exact ⟨(y125), (wrap64 (x15_1 + 1)), (by first | rfl | (simp; done) | (simp [*]; done)), H', ⟨by have := HK1.out; omega⟩, ⟨by (with_reducible repeat (first | apply Kd.Zbk | apply Kd.R_drewN | apply Kd.Zbz)); exact HO_4.out⟩, ⟨by repeat (first | (with_reducible first | exact HB.out | apply Zac | apply Zab | apply Zad) | exact HB.out)⟩⟩
/-! ### Zam: function 13 -/
mutual
def Zam.j0 : Nat → List Int → List Int → Bool → Option (List Int × Int)
 | 0, _, _, _ => none
 | k + 1, x0, x1, x18 => if x18 = true then (some (([] : List Int), 1)) else (if 0 ≤ (x0.length : Int) then (if ((x0.length : Int) : Int).toNat ≤ 35184372088832 then (Zam.l0 k x0 (List.replicate ((x0.length : Int) : Int).toNat 0) x1 (x1.length : Int) 0) else (none)) else (none))
def Zam.l0 : Nat → List Int → List Int → List Int → Int → Int → Option (List Int × Int)
 | 0, _, _, _, _, _ => none
 | k + 1, x0, x6, x22, x23, x24 => if x24 < x23 then (if 0 ≤ x24 then (if x24 < (x22.length : Int) then (if x24 < (x0.length : Int) then (if 0 ≤ (rd x22 x24) then (if (rd x22 x24) < (x6.length : Int) then (Zam.l0 k x0 (x6.set ((rd x22 x24) : Int).toNat (rd x0 x24)) x22 x23 (wrap64 (x24 + 1))) else (none)) else (none)) else (none)) else (none)) else (none)) else (some (x6, 0))
end
def Zam.f (k : Nat) (l0 : List Int) (l1 : List Int) : Option (List Int × Int) := if (l0.length : Int) = (l1.length : Int) then ((Za2.f l1).bind fun t132 => (Zam.j0 k l0 l1 (!t132))) else (Zam.j0 k l0 l1 true)
theorem Zam.Za6 : ∀ k, (∀ y0 y1 y2, LeO (Zam.j0 k y0 y1 y2) (Zam.j0 (k + 1) y0 y1 y2)) ∧ (∀ y0 y1 y2 y3 y4, LeO (Zam.l0 k y0 y1 y2 y3 y4) (Zam.l0 (k + 1) y0 y1 y2 y3 y4))
 | 0 => ⟨fun _ _ _ r h => by simp [Zam.j0] at h, fun _ _ _ _ _ r h => by simp [Zam.l0] at h⟩
 | k + 1 => by
  obtain ⟨ih0, ih1⟩ := Zam.Za6 k
  refine ⟨?_, ?_⟩
  ·intro y0 y1 y2
   unfold Zam.j0
   repeat' first
   | (with_reducible exact ih0 _ _ _)
   | (with_reducible exact ih1 _ _ _ _ _)
   | (with_reducible exact LeO.refl _)
   | (with_reducible exact LeO.none _)
   | (with_reducible refine LeO.ite ?_ ?_)
   | (with_reducible refine LeO.bind ?_ (fun _ => ?_))
   | exact ih0 _ _ _
   | exact ih1 _ _ _ _ _
   | exact LeO.none _
   | refine LeO.ite ?_ ?_
   | refine LeO.bind ?_ (fun _ => ?_)
  intro y0 y1 y2 y3 y4
  unfold Zam.l0
  repeat' first
  | (with_reducible exact ih0 _ _ _)
  | (with_reducible exact ih1 _ _ _ _ _)
  | (with_reducible exact LeO.refl _)
  | (with_reducible exact LeO.none _)
  | (with_reducible refine LeO.ite ?_ ?_)
  | (with_reducible refine LeO.bind ?_ (fun _ => ?_))
  | exact ih0 _ _ _
  | exact ih1 _ _ _ _ _
  | exact LeO.none _
  | refine LeO.ite ?_ ?_
  | refine LeO.bind ?_ (fun _ => ?_)
theorem Zam.mono : ∀ a0 a1 k, LeO (Zam.f k a0 a1) (Zam.f (k + 1) a0 a1) := by
 intro a0 a1 k
 obtain ⟨ih0, ih1⟩ := Zam.Za6 k
 unfold Zam.f
 repeat' first
   | (with_reducible exact ih0 _ _ _)
   | (with_reducible exact ih1 _ _ _ _ _)
   | (with_reducible exact LeO.refl _)
   | (with_reducible exact LeO.none _)
   | (with_reducible refine LeO.ite ?_ ?_)
   | (with_reducible refine LeO.bind ?_ (fun _ => ?_))
   | exact ih0 _ _ _
   | exact ih1 _ _ _ _ _
   | exact LeO.none _
   | refine LeO.ite ?_ ?_
   | refine LeO.bind ?_ (fun _ => ?_)
set_option maxHeartbeats 8000000 in
set_option maxRecDepth 100000 in
theorem Zam.calls (k : Nat) (A0 : Option Addr) (c0 : Nat) (l0 : List Int) (A1 : Option Addr) (c1 : Nat) (l1 : List Int) (r1 : List Int) (r2 : Int) (w : World) (hr0 : Kd.C (Kd.int .i64) w A0 l0.length l0) (hc0 : l0.length ≤ c0) (hr1 : Kd.C (Kd.int .i64) w A1 l1.length l1) (hc1 : l1.length ≤ c1) (h : Zam.f k l0 l1 = some (r1, r2)) :
  Calls Try.prog 13 #[.slice A0 l0.length c0, .slice A1 l1.length c1] w fun e w' => ∃ v0_ : Value, e = .returned (.tuple #[v0_, .int .i64 r2]) ∧ Kd.R (Kd.int .i64) 3 w' w.heap.size (fun _ => True) v0_ r1 ∧ Below w.heap.size w w' := by
 have HR0 := Zaa.mk hr0
 have HC0 := Zaa.mk hc0
 clear hr0 hc0
 have HR1 := Zaa.mk hr1
 have HC1 := Zaa.mk hc1
 clear hr1 hc1
 have HB := Zaa.mk (Below.refl w.heap.size w)
 have H : (if (l0.length : Int) = (l1.length : Int) then ((Za2.f l1).bind fun t132 => (Zam.j0 k l0 l1 (!t132))) else (Zam.j0 k l0 l1 true)) = some (r1, r2) := h
 clear h
 have HC3 := Zaa.mk H
 clear H
 go_enter Try.func13, Try.ntmps13
 go_upto_region 1 with (fail)
 go_cut [18] (fun v18 wc => ∃ (kq : Nat) (x18_2 : Bool), v18 = .bool x18_2 ∧ Zaa (Zam.j0 kq l0 l1 x18_2 = some (r1, r2)) ∧ Zaa (kq ≤ k) ∧ Zaa (Below w.heap.size w wc))
 case first =>
  have H := HC3.out
  clear HC3
  by_cases c4 : (l0.length : Int) = (l1.length : Int)
  rotate_left
  ·rw [if_neg c4] at H
   have c4b0 : ((l0.length : Int) == (l1.length : Int)) = false := beq_eq_false_iff_ne.mpr c4
   have c4b1 : ((l0.length : Int) != (l1.length : Int)) = true := bne_iff_ne.mpr c4
   have c4b2 : (l0.length == l1.length) = false := by first | simpa using c4 | (simp at c4 ⊢; omega)
   (first | rw [c4b0] | (simp only [Zbe, Zbg]; rw [c4b0]) | skip)
   have H' := Zaa.mk H
   clear H
   go_wp2
   go_meet
   case rel => exact ⟨_, (true), (by first | rfl | (simp; done) | (simp [*]; done)), H', ⟨by first | omega | exact Nat.le_refl _⟩, ⟨by repeat (first | (with_reducible first | exact HB.out | apply Zac | apply Zab | apply Zad) | exact HB.out)⟩⟩
  rw [if_pos c4] at H
  have c4b0 : ((l0.length : Int) == (l1.length : Int)) = true := beq_iff_eq.mpr c4
  have c4b1 : ((l0.length : Int) != (l1.length : Int)) = false := bne_eq_false_iff_eq.mpr c4
  have c4b2 : (l0.length == l1.length) = true := by first | simpa using c4 | (simp at c4 ⊢; omega)
  clear c4
  (first | rw [c4b0] | (simp only [Zbe, Zbg]; rw [c4b0]) | skip)
  replace H := Option.bind_eq_some_iff.mp H
  obtain ⟨t132, A50, H⟩ := H
  replace H : (Zam.j0 k l0 l1 (!t132)) = some (r1, r2) := H
  have A5 := Zaa.mk A50
  clear A50
  have H' := Zaa.mk H
  clear H
  go_wp2_with (first | (go_at_call 27; (with_reducible refine (Za2.calls _ _ l1 t132 _ ?side1 ?side2 A5.out).mono ?_); (case side1 => repeat (first | exact (Kd.Zaq HR1.out HB.out) | (with_reducible refine Kd.Za0 ?_ _) | (with_reducible refine Kd.C_drewN ?_ _) | (with_reducible refine Kd.C_drew ?_))); (case side2 => exact HC1.out); rintro e w6 ⟨rfl, hb⟩; have n0_ := Zaa.mk (Zan (by repeat (first | (with_reducible first | exact HB.out | apply Zac | apply Zab | apply Zad) | exact HB.out)) hb); clear HB; have HB := n0_; clear n0_; (try clear hb); (try clear hb2); (try clear hk); (try clear hi)))
  go_meet
  case rel => exact ⟨_, (!t132), (by first | rfl | (simp; done) | (simp [*]; done)), H', ⟨by first | omega | exact Nat.le_refl _⟩, ⟨by repeat (first | (with_reducible first | exact HB.out | apply Zac | apply Zab | apply Zad) | exact HB.out)⟩⟩
 case rest =>
  clear HC3
  try clear c1
  try clear p2
  try clear c4
  try clear c4b0
  try clear c4b1
  try clear c4b2
  obtain ⟨kq, x18_2, rfl, HA, HJ2, HB⟩ := hcut
  cases kq with
  | zero => exact absurd HA.out (by simp [Zam.j0])
  | succ kj2 =>
   have H := HA.out
   clear HA
   simp only [Zam.j0] at H
   by_cases c7 : x18_2 = true
   ·subst c7
    have H1 : (some (([] : List Int), 1)) = some (r1, r2) := by rw [if_pos rfl] at H; exact H
    clear H
    have H := H1
    clear H1
    simp only [Option.some.injEq, Prod.mk.injEq] at H
    obtain ⟨rfl, rfl⟩ := H
    go_wp2
    go_ret2
    exact ⟨_, by first | rfl | (simp [Zau, Zav] <;> rfl) | (simp [*, Zau, Zav] <;> rfl), by first | exact Kd.Zdo _ _ _ _ _ | exact Kd.Zeq _ _ _ _ _ | exact Kd.V_nil _ _ _ _ _ | exact Kd.Q_nil _ _ _ _ _ | exact Kd.Zd _ _ _ _ _, by repeat (first | (with_reducible first | exact HB.out | apply Zac | apply Zab | apply Zad) | exact HB.out)⟩
   replace c7 := Bool.eq_false_iff.mpr c7
   subst c7
   have H1 : (if 0 ≤ (l0.length : Int) then (if ((l0.length : Int) : Int).toNat ≤ 35184372088832 then (Zam.l0 kj2 l0 (List.replicate ((l0.length : Int) : Int).toNat 0) l1 (l1.length : Int) 0) else (none)) else (none)) = some (r1, r2) := by rw [if_neg (show ¬ (false = true) by decide)] at H; exact H
   clear H
   have H := H1
   clear H1
   by_cases c8 : 0 ≤ (l0.length : Int)
   rotate_left
   ·rw [if_neg c8] at H
    exact absurd H (by simp)

   rw [if_pos c8] at H
   have c8b0 := eq_true c8
   have c8b1 : decide (0 ≤ (l0.length : Int)) = true := decide_eq_true c8
   clear c8
   by_cases c9 : ((l0.length : Int) : Int).toNat ≤ 35184372088832
   rotate_left
   ·rw [if_neg c9] at H
    exact absurd H (by simp)
   rw [if_pos c9] at H
   have c9b0 := eq_true c9
   have c9b1 : decide (((l0.length : Int) : Int).toNat ≤ 35184372088832) = true := decide_eq_true c9
   clear c9
   obtain ⟨y133, hy133⟩ : ∃ y_ : List Int, y_ = (List.replicate ((l0.length : Int) : Int).toNat 0) := ⟨_, rfl⟩
   replace H : (Zam.l0 kj2 l0 y133 l1 (l1.length : Int) 0) = some (r1, r2) := by first | (rw [hy133]; with_reducible exact H) | (have H2_ := (Option.bind_some _ _).symm.trans H; rw [hy133]; with_reducible exact H2_) | (have H2_ := (Option.bind_some _ _).symm.trans H; with_reducible exact H2_) | with_reducible exact H | (rw [hy133]; exact H) | exact H
   have Ny133 := Zaa.mk hy133
   clear hy133
   have H' := Zaa.mk H
   clear H
   go_wp2_with (first | ((with_reducible refine Zbn (N := 21) rfl ?_); refine Kd.R_make (Kd.int .i64) _ 3 rfl (N := 21) rfl 22 _ _ rfl (l0.length : Int) rfl rfl Try.underlying22 (.int .i64 0) 8 info3 rfl (by decide) (by omega) 0 (ok := fun _ => True) (okp := fun _ => True) rfl (fun _ hk => hk) trivial (of_decide_eq_true (by first | (with_reducible assumption) | assumption)) (Nat.le_trans (Nat.mul_le_mul_right _ (of_decide_eq_true (by first | (with_reducible assumption) | assumption) : (l0.length : Int).toNat ≤ 35184372088832)) (by omega)) (Below.refl _ _) (Nat.le_refl _) ?_; intro v134 w10 ho11 hb hg_ hnew_; clear hg_ hnew_; (first | rw [← Ny133.out] at ho11 | (simp only [Int.reduceToNat] at ho11; rw [← Ny133.out] at ho11)); have n0_ := Zaa.mk (Kd.Zbu ho11 (Zas (by repeat (first | (with_reducible first | exact HB.out | apply Zac | apply Zab | apply Zad) | exact HB.out)))); have n1_ := Zaa.mk (Zan (by repeat (first | (with_reducible first | exact HB.out | apply Zac | apply Zab | apply Zad) | exact HB.out)) hb); clear HB; have HO135 := n0_; have HB := n1_; clear n0_ n1_; clear hb ho11))
   go_loopg [24] kj2 (fun kq v24 w' => ∃ (x6_2 : List Int) (x24_2 : Int), v24 = .int .i64 x24_2 ∧ Zaa (Zam.l0 kq l0 x6_2 l1 (l1.length : Int) x24_2 = some (r1, r2)) ∧ Zaa (kq ≤ kj2) ∧ Zaa (Kd.R (Kd.int .i64) 3 w' w.heap.size (fun _ => True) v134 x6_2) ∧ Zaa (Below w.heap.size w w'))
   case atStart => exact ⟨(y133), (0), (by first | rfl | (simp; done) | (simp [*]; done)), H', ⟨Nat.le_refl _⟩, ⟨by (with_reducible repeat (first | apply Kd.Zbk | apply Kd.R_drewN | apply Kd.Zbz)); exact HO135.out⟩, ⟨by repeat (first | (with_reducible first | exact HB.out | apply Zac | apply Zab | apply Zad) | exact HB.out)⟩⟩
   case round =>
    clear H'
    try clear c1
    try clear p2
    try clear c4
    try clear c4b0
    try clear c4b1
    try clear c4b2
    try clear c7
    try clear c8
    try clear c8b0
    try clear c8b1
    try clear c9
    try clear c9b0
    try clear c9b1
    try clear p2
    obtain ⟨x6_2, x24_2, rfl, HA, HK2, HO_6, HB⟩ := hrel
    cases gk with
    | zero => exact absurd HA.out (by simp [Zam.l0])
    | succ k2 =>
     have H := HA.out
     clear HA
     simp only [Zam.l0] at H
     by_cases c12 : x24_2 < (l1.length : Int)
     rotate_left
     ·rw [if_neg c12] at H
      have c12b0 : decide (x24_2 < (l1.length : Int)) = false := decide_eq_false c12
      clear c12
      simp only [Option.some.injEq, Prod.mk.injEq] at H
      obtain ⟨rfl, rfl⟩ := H
      go_wp2
      go_ret2
      exact ⟨_, by first | rfl | (simp [Zau, Zav] <;> rfl) | (simp [*, Zau, Zav] <;> rfl), by (with_reducible repeat (first | apply Kd.Zbk | apply Kd.R_drewN | apply Kd.Zbz)); exact HO_6.out, by repeat (first | (with_reducible first | exact HB.out | apply Zac | apply Zab | apply Zad) | exact HB.out)⟩
     rw [if_pos c12] at H
     have c12b0 : decide (x24_2 < (l1.length : Int)) = true := decide_eq_true c12
     clear c12
     by_cases c13 : 0 ≤ x24_2
     rotate_left
     ·rw [if_neg c13] at H
      exact absurd H (by simp)
     rw [if_pos c13] at H
     have c13b0 : decide (0 ≤ x24_2) = true := decide_eq_true c13
     clear c13
     by_cases c14 : x24_2 < (l1.length : Int)
     rotate_left
     ·rw [if_neg c14] at H
      exact absurd H (by simp)
     rw [if_pos c14] at H
     have c14b0 : decide (x24_2 < (l1.length : Int)) = true := decide_eq_true c14
     clear c14
     by_cases c15 : x24_2 < (l0.length : Int)
     rotate_left
     ·rw [if_neg c15] at H
      exact absurd H (by simp)
     rw [if_pos c15] at H
     have c15b0 : decide (x24_2 < (l0.length : Int)) = true := decide_eq_true c15
     clear c15
     by_cases c16 : 0 ≤ (rd l1 x24_2)
     rotate_left
     ·rw [if_neg c16] at H
      exact absurd H (by simp)
     rw [if_pos c16] at H
     have c16b0 : decide (0 ≤ (rd l1 x24_2)) = true := decide_eq_true c16
     clear c16
     by_cases c17 : (rd l1 x24_2) < (x6_2.length : Int)
     rotate_left
     ·rw [if_neg c17] at H
      exact absurd H (by simp)
     rw [if_pos c17] at H
     have c17b0 : decide ((rd l1 x24_2) < (x6_2.length : Int)) = true := decide_eq_true c17
     clear c17
     obtain ⟨y138, hy138⟩ : ∃ y_ : List Int, y_ = (x6_2.set ((rd l1 x24_2) : Int).toNat (rd l0 x24_2)) := ⟨_, rfl⟩
     replace H : (Zam.l0 k2 l0 y138 l1 (l1.length : Int) (wrap64 (x24_2 + 1))) = some (r1, r2) := by first | (rw [hy138]; with_reducible exact H) | (have H2_ := (Option.bind_some _ _).symm.trans H; rw [hy138]; with_reducible exact H2_) | (have H2_ := (Option.bind_some _ _).symm.trans H; with_reducible exact H2_) | with_reducible exact H | (rw [hy138]; exact H) | exact H
     have Ny138 := Zaa.mk hy138
     clear hy138
     have H' := Zaa.mk H
     clear H
     have p136 : 0 ≤ (x24_2 : Int) := of_decide_eq_true (by first | (with_reducible assumption) | assumption)
     have q136 : x24_2 < (l1.length : Int) := of_decide_eq_true (by first | (with_reducible assumption) | assumption)
     obtain ⟨ad136, e136, hx136_0⟩ := Kd.Zbi HR1.out x24_2 p136 q136
     cases e136
     replace hx136_0 := (HB.out.cell (World.block_lt_of_cell? w _ hx136_0)).trans hx136_0
     replace p136 := eq_true p136
     replace q136 := eq_true q136
     have p137 : 0 ≤ (x24_2 : Int) := of_decide_eq_true (by first | (with_reducible assumption) | assumption)
     have q137 : x24_2 < (l0.length : Int) := of_decide_eq_true (by first | (with_reducible assumption) | assumption)
     obtain ⟨ad137, e137, hx137_0⟩ := Kd.Zbi HR0.out x24_2 p137 q137
     cases e137
     replace hx137_0 := (HB.out.cell (World.block_lt_of_cell? w _ hx137_0)).trans hx137_0
     replace p137 := eq_true p137
     replace q137 := eq_true q137
     have p18 : 0 ≤ ((rd l1 x24_2) : Int) := of_decide_eq_true (by first | (with_reducible assumption) | assumption)
     have q18 : ((rd l1 x24_2) : Int) < ((x6_2.length : Int) : Int) := of_decide_eq_true (by first | (with_reducible assumption) | assumption)
     obtain ⟨go18, co18, eo18, gb18, gl18, cl18, HG18⟩ := Kd.R_form HO_6.out (by omega)
     (first | cases eo18 | (injection eo18 with ea_ en_ ec_; (first | subst ea_ | (injection ea_ with ea_; subst ea_)); subst ec_; clear en_))
     have GB18 := Zaa.mk gb18
     have GG18 := Zaa.mk HG18
     clear gb18 gl18 HG18
     obtain ⟨hx18_0, hf18_0⟩ := Kd.R_celln 0 HO_6.out ((rd l1 x24_2) : Int) p18 q18
     replace p18 := eq_true p18
     replace q18 := eq_true q18
     have HP19 := Kd.R_putg HO_6.out ((rd l1 x24_2) : Int) (rd l0 x24_2)
     go_wp2_with (first | ((with_reducible refine Zfx (t := 3) (p := 35) rfl ?_); refine Zfk (t := 3) (p := 35) (v := ?vo_w20) (w1 := (wr.setCell ⟨go18, ((rd l1 x24_2) : Int).toNat, none⟩ (.int .i64 (rd l0 x24_2)))) ?hg ?ho ?hn ?hr ?_; (case ho => rfl); (case hg => rfl); (case hn => rfl); (case hr => first | (go_simp; done) | (go_simp; rfl)); intro w20 hw; have hg : wr.grownBy w20 (some go18) := (by rw [hw]; exact HP19.2); have hp_ : Kd.R (Kd.int .i64) 3 w20 w.heap.size (fun _ => True) (.slice (some ⟨go18, 0, none⟩) x6_2.length co18) y138 := (by rw [hw, Ny138.out]; exact HP19.1); clear HP19; have n0_ := Zaa.mk (hp_); have n1_ := Zaa.mk ((by rw [hw]; exact Zdb (HB.out) GB18.out : Below w.heap.size w w20)); clear HO_6; clear HB; have HO_6 := n0_; have HB := n1_; clear n0_ n1_; clear hg hw hp_))
     go_roundg k2
     case measure => have := HJ2.out; have := HK2.out; omega
     case rel => exact ⟨(y138), (wrap64 (x24_2 + 1)), (by first | rfl | (simp; done) | (simp [*]; done)), H', ⟨by have := HJ2.out; have := HK2.out; omega⟩, ⟨by (with_reducible repeat (first | apply Kd.Zbk | apply Kd.R_drewN | apply Kd.Zbz)); exact HO_6.out⟩, ⟨by repeat (first | (with_reducible first | exact HB.out | apply Zac | apply Zab | apply Zad) | exact HB.out)⟩⟩
/-! ### Zaz: function 32 -/
def Zaz.l0 : Nat → List Int → List (List Int) → List (List Int) → Int → Int → Option ((List (List Int)) × Int)
 | 0, _, _, _, _, _ => none
 | k + 1, x0, x6, x11, x12, x13 => if x13 < x12 then (if 0 ≤ x13 then (if x13 < (x11.length : Int) then ((Zam.f k x0 (Za3 x11 x13)).bind fun bt150 => (if bt150.2 = 0 then (if x6.length < 5864062014805 then (Zaz.l0 k x0 (x6 ++ [bt150.1]) x11 x12 (wrap64 (x13 + 1))) else (none)) else (some (([] : List (List Int)), bt150.2)))) else (none)) else (none)) else (some (x6, 0))
def Zaz.f (k : Nat) (l0 : List Int) (l1 : List (List Int)) : Option ((List (List Int)) × Int) := Zaz.l0 k l0 ([] : List (List Int)) l1 (l1.length : Int) 0
theorem Zaz.Za6 : ∀ k, (∀ y0 y1 y2 y3 y4, LeO (Zaz.l0 k y0 y1 y2 y3 y4) (Zaz.l0 (k + 1) y0 y1 y2 y3 y4))
 | 0 => fun _ _ _ _ _ r h => by simp [Zaz.l0] at h
 | k + 1 => by
  have ih0 := Zaz.Za6 k
  intro y0 y1 y2 y3 y4
  unfold Zaz.l0
  repeat' first
  | (with_reducible exact ih0 _ _ _ _ _)
  | (with_reducible exact Zam.mono _ _ _)
  | (with_reducible exact LeO.refl _)
  | (with_reducible exact LeO.none _)
  | (with_reducible refine LeO.ite ?_ ?_)
  | (with_reducible refine LeO.bind ?_ (fun _ => ?_))
  | exact ih0 _ _ _ _ _
  | exact Zam.mono _ _ _
  | exact LeO.none _
  | refine LeO.ite ?_ ?_
  | refine LeO.bind ?_ (fun _ => ?_)
theorem Zaz.mono : ∀ a0 a1 k, LeO (Zaz.f k a0 a1) (Zaz.f (k + 1) a0 a1) := by
 intro a0 a1 k
 have ih0 := Zaz.Za6 k
 unfold Zaz.f
 repeat' first
   | (with_reducible exact ih0 _ _ _ _ _)
   | (with_reducible exact Zam.mono _ _ _)
   | (with_reducible exact LeO.refl _)
   | (with_reducible exact LeO.none _)
   | (with_reducible refine LeO.ite ?_ ?_)
   | (with_reducible refine LeO.bind ?_ (fun _ => ?_))
   | exact ih0 _ _ _ _ _
   | exact Zam.mono _ _ _
   | exact LeO.none _
   | refine LeO.ite ?_ ?_
   | refine LeO.bind ?_ (fun _ => ?_)
set_option maxHeartbeats 8000000 in
set_option maxRecDepth 100000 in
theorem Zaz.calls (k : Nat) (A0 : Option Addr) (c0 : Nat) (l0 : List Int) (A1 : Option Addr) (c1 : Nat) (l1 : List (List Int)) (r1 : List (List Int)) (r2 : Int) (w : World) (hr0 : Kd.C (Kd.int .i64) w A0 l0.length l0) (hc0 : l0.length ≤ c0) (hr1 : Kd.C (Kd.slice 3 (Kd.int .i64)) w A1 l1.length l1) (hc1 : l1.length ≤ c1) (h : Zaz.f k l0 l1 = some (r1, r2)) :
  Calls Try.prog 32 #[.slice A0 l0.length c0, .slice A1 l1.length c1] w fun e w' => ∃ v0_ : Value, e = .returned (.tuple #[v0_, .int .i64 r2]) ∧ Kd.S (Kd.slice 3 (Kd.int .i64)) 22 w' w.heap.size (fun _ => True) v0_ r1 ∧ Below w.heap.size w w' := by
 have HR0 := Zaa.mk hr0
 have HC0 := Zaa.mk hc0
 clear hr0 hc0
 have HR1 := Zaa.mk hr1
 have HC1 := Zaa.mk hc1
 clear hr1 hc1
 have HB := Zaa.mk (Below.refl w.heap.size w)
 have H : (Zaz.l0 k l0 ([] : List (List Int)) l1 (l1.length : Int) 0) = some (r1, r2) := h
 clear h
 have H' := Zaa.mk H
 clear H
 go_enter Try.func32, Try.ntmps32
 go_wp2
 go_loopg [6, 13] k (fun kq v6 v13 w' => ∃ (x6_1 : List (List Int)) (x13_1 : Int), v13 = .int .i64 x13_1 ∧ Zaa (Zaz.l0 kq l0 x6_1 l1 (l1.length : Int) x13_1 = some (r1, r2)) ∧ Zaa (kq ≤ k) ∧ Zaa (Kd.S (Kd.slice 3 (Kd.int .i64)) 22 w' w.heap.size (fun _ => True) v6 x6_1) ∧ Zaa (Below w.heap.size w w'))
 case atStart => exact ⟨(([] : List (List Int))), (0), (by first | rfl | (simp; done) | (simp [*]; done)), H', ⟨Nat.le_refl _⟩, ⟨by first | exact Kd.Zd _ _ _ _ _ | exact Kd.Zeq _ _ _ _ _ | exact Kd.V_nil _ _ _ _ _ | exact Kd.Q_nil _ _ _ _ _ | exact Kd.Zdo _ _ _ _ _⟩, ⟨by repeat (first | (with_reducible first | exact HB.out | apply Zac | apply Zab | apply Zad) | exact HB.out)⟩⟩
 case round =>
  clear H'
  try clear c1
  try clear p2
  obtain ⟨x6_1, x13_1, rfl, HA, HK1, HO_6, HB⟩ := hrel
  cases gk with
  | zero => exact absurd HA.out (by simp [Zaz.l0])
  | succ k1 =>
   have H := HA.out
   clear HA
   simp only [Zaz.l0] at H
   by_cases c3 : x13_1 < (l1.length : Int)
   rotate_left
   ·rw [if_neg c3] at H
    have c3b0 : decide (x13_1 < (l1.length : Int)) = false := decide_eq_false c3
    clear c3
    simp only [Option.some.injEq, Prod.mk.injEq] at H
    obtain ⟨rfl, rfl⟩ := H
    go_wp2
    go_ret2
    exact ⟨_, by first | rfl | (simp [Zau, Zav] <;> rfl) | (simp [*, Zau, Zav] <;> rfl), by (with_reducible repeat (first | apply Kd.S_alloc | apply Kd.S_drewN | apply Kd.Zbv)); exact HO_6.out, by repeat (first | (with_reducible first | exact HB.out | apply Zac | apply Zab | apply Zad) | exact HB.out)⟩

   rw [if_pos c3] at H
   have c3b0 : decide (x13_1 < (l1.length : Int)) = true := decide_eq_true c3
   clear c3
   by_cases c4 : 0 ≤ x13_1
   rotate_left
   ·rw [if_neg c4] at H
    exact absurd H (by simp)
   rw [if_pos c4] at H
   have c4b0 : decide (0 ≤ x13_1) = true := decide_eq_true c4
   clear c4
   by_cases c5 : x13_1 < (l1.length : Int)
   rotate_left
   ·rw [if_neg c5] at H
    exact absurd H (by simp)
   rw [if_pos c5] at H
   have c5b0 : decide (x13_1 < (l1.length : Int)) = true := decide_eq_true c5
   clear c5
   replace H := Option.bind_eq_some_iff.mp H
   obtain ⟨⟨t150, t151⟩, A60, H⟩ := H
   replace H : (if t151 = 0 then (if x6_1.length < 5864062014805 then (Zaz.l0 k1 l0 (x6_1 ++ [t150]) l1 (l1.length : Int) (wrap64 (x13_1 + 1))) else (none)) else (some (([] : List (List Int)), t151))) = some (r1, r2) := H
   have A6 := Zaa.mk A60
   clear A60
   by_cases c7 : t151 = 0
   rotate_left
   ·rw [if_neg c7] at H
    have c7b0 : (t151 == 0) = false := beq_eq_false_iff_ne.mpr c7
    have c7b1 : (t151 != 0) = true := bne_iff_ne.mpr c7
    simp only [Option.some.injEq, Prod.mk.injEq] at H
    obtain ⟨rfl, rfl⟩ := H
    have p149 : 0 ≤ (x13_1 : Int) := of_decide_eq_true (by first | (with_reducible assumption) | assumption)
    have q149 : x13_1 < (l1.length : Int) := of_decide_eq_true (by first | (with_reducible assumption) | assumption)
    obtain ⟨ad149, A149_0, c149_0, e149, hx149_0, hl149_0, hi149_0⟩ := Zc8 HR1.out x13_1 p149 q149
    cases e149
    replace hx149_0 := (HB.out.cell (World.block_lt_of_cell? w _ hx149_0)).trans hx149_0
    have HR149_0 := Zaa.mk hi149_0
    have HC149_0 := Zaa.mk hl149_0
    clear hi149_0 hl149_0
    replace p149 := eq_true p149
    replace q149 := eq_true q149
    go_wp2_with (first | ((with_reducible refine Zaw (f := 13) rfl ?_); refine Zbl (some 20) rfl rfl Try.func13 (by kernel_rfl) rfl #[.slice A0 l0.length c0, .slice A149_0 (Za3 l1 x13_1).length c149_0] rfl (by (try simp only [List.map_toArray, List.map_cons, List.map_nil]); first | done | rfl | (simp only [List.length_drop, List.length_take]; rfl)) ?_; (with_reducible refine (Zam.calls k1 _ _ l0 _ _ (Za3 l1 x13_1) t150 t151 _ ?side1 ?side2 ?side3 ?side4 A6.out).mono ?_); (case side1 => repeat (first | exact (Kd.Zaq HR0.out HB.out) | (with_reducible refine Kd.Za0 ?_ _) | (with_reducible refine Kd.C_drewN ?_ _) | (with_reducible refine Kd.C_drew ?_))); (case side2 => exact HC0.out); (case side3 => repeat (first | exact (Kd.Zaq HR149_0.out HB.out) | (with_reducible refine Kd.Za0 ?_ _) | (with_reducible refine Kd.C_drewN ?_ _) | (with_reducible refine Kd.C_drew ?_))); (case side4 => exact HC149_0.out); rintro e w12 ⟨v152, rfl, ho0, hb⟩; refine ⟨_, rfl, ?_⟩; have n0_ := Zaa.mk (Kd.Zc4 (by (with_reducible repeat (first | apply Kd.S_alloc | apply Kd.S_drewN | apply Kd.Zbv)); exact HO_6.out) (Kd.Zcb ho0) hb); have n1_ := Zaa.mk (Kd.Zbu ho0 (Zas (by repeat (first | (with_reducible first | exact HB.out | apply Zac | apply Zab | apply Zad) | exact HB.out)))); have n2_ := Zaa.mk (Zan (by repeat (first | (with_reducible first | exact HB.out | apply Zac | apply Zab | apply Zad) | exact HB.out)) hb); clear HO_6; clear HB; have HO_6 := n0_; have HO153 := n1_; have HB := n2_; clear n0_ n1_ n2_; (try clear hb); (try clear hb2); (try clear hk); (try clear hi); (try clear ho0)))
    go_ret2
    exact ⟨_, by first | rfl | (simp [Zau, Zav] <;> rfl) | (simp [*, Zau, Zav] <;> rfl), by first | exact Kd.Zd _ _ _ _ _ | exact Kd.Zeq _ _ _ _ _ | exact Kd.V_nil _ _ _ _ _ | exact Kd.Q_nil _ _ _ _ _ | exact Kd.Zdo _ _ _ _ _, by repeat (first | (with_reducible first | exact HB.out | apply Zac | apply Zab | apply Zad) | exact HB.out)⟩
   rw [if_pos c7] at H
   have c7b0 : (t151 == 0) = true := beq_iff_eq.mpr c7
   have c7b1 : (t151 != 0) = false := bne_eq_false_iff_eq.mpr c7
   clear c7
   by_cases c8 : x6_1.length < 5864062014805
   rotate_left
   ·rw [if_neg c8] at H
    exact absurd H (by simp)
   rw [if_pos c8] at H
   have LMc8 := Zaa.mk c8
   clear c8
   obtain ⟨y154, hy154⟩ : ∃ y_ : List (List Int), y_ = (x6_1 ++ [t150]) := ⟨_, rfl⟩
   replace H : (Zaz.l0 k1 l0 y154 l1 (l1.length : Int) (wrap64 (x13_1 + 1))) = some (r1, r2) := by first | (rw [hy154]; with_reducible exact H) | (have H2_ := (Option.bind_some _ _).symm.trans H; rw [hy154]; with_reducible exact H2_) | (have H2_ := (Option.bind_some _ _).symm.trans H; with_reducible exact H2_) | with_reducible exact H | (rw [hy154]; exact H) | exact H
   have Ny154 := Zaa.mk hy154
   clear hy154
   have H' := Zaa.mk H
   clear H
   have p149 : 0 ≤ (x13_1 : Int) := of_decide_eq_true (by first | (with_reducible assumption) | assumption)
   have q149 : x13_1 < (l1.length : Int) := of_decide_eq_true (by first | (with_reducible assumption) | assumption)
   obtain ⟨ad149, A149_0, c149_0, e149, hx149_0, hl149_0, hi149_0⟩ := Zc8 HR1.out x13_1 p149 q149
   cases e149
   replace hx149_0 := (HB.out.cell (World.block_lt_of_cell? w _ hx149_0)).trans hx149_0
   have HR149_0 := Zaa.mk hi149_0
   have HC149_0 := Zaa.mk hl149_0
   clear hi149_0 hl149_0
   replace p149 := eq_true p149
   replace q149 := eq_true q149
   go_wp2_with (first | ((with_reducible refine Zaw (f := 13) rfl ?_); refine Zbl (some 20) rfl rfl Try.func13 (by kernel_rfl) rfl #[.slice A0 l0.length c0, .slice A149_0 (Za3 l1 x13_1).length c149_0] rfl (by (try simp only [List.map_toArray, List.map_cons, List.map_nil]); first | done | rfl | (simp only [List.length_drop, List.length_take]; rfl)) ?_; (with_reducible refine (Zam.calls k1 _ _ l0 _ _ (Za3 l1 x13_1) t150 t151 _ ?side1 ?side2 ?side3 ?side4 A6.out).mono ?_); (case side1 => repeat (first | exact (Kd.Zaq HR0.out HB.out) | (with_reducible refine Kd.Za0 ?_ _) | (with_reducible refine Kd.C_drewN ?_ _) | (with_reducible refine Kd.C_drew ?_))); (case side2 => exact HC0.out); (case side3 => repeat (first | exact (Kd.Zaq HR149_0.out HB.out) | (with_reducible refine Kd.Za0 ?_ _) | (with_reducible refine Kd.C_drewN ?_ _) | (with_reducible refine Kd.C_drew ?_))); (case side4 => exact HC149_0.out); rintro e w9 ⟨v152, rfl, ho0, hb⟩; refine ⟨_, rfl, ?_⟩; have n0_ := Zaa.mk (Kd.Zc4 (by (with_reducible repeat (first | apply Kd.S_alloc | apply Kd.S_drewN | apply Kd.Zbv)); exact HO_6.out) (Kd.Zcb ho0) hb); have n1_ := Zaa.mk (Kd.Zbu ho0 (Zas (by repeat (first | (with_reducible first | exact HB.out | apply Zac | apply Zab | apply Zad) | exact HB.out)))); have n2_ := Zaa.mk (Zan (by repeat (first | (with_reducible first | exact HB.out | apply Zac | apply Zab | apply Zad) | exact HB.out)) hb); clear HO_6; clear HB; have HO_6 := n0_; have HO153 := n1_; have HB := n2_; clear n0_ n1_ n2_; (try clear hb); (try clear hb2); (try clear hk); (try clear hi); (try clear ho0); obtain ⟨Ao11, co11, eo11⟩ := Kd.Zcc HO153.out; subst eo11) | ((with_reducible refine Za1 (b := .append) (xs := #[.tmp 26, .tmp 28]) rfl ?_); at_builtin; refine Kd.Zes (Kd.slice 3 (Kd.int .i64)) (w0 := w) w.heap.size rfl (.tmp 26) (.tmp 28) 32 22 (.slice none 0 0) 24 rfl Try.underlying32 Zcm rfl (by decide) (by omega) u6 x6_1 t150 [.slice Ao11 t150.length co11] (fun _ => True) (fun k_ => some k_ = (.slice Ao11 t150.length co11 : Value).ownBlock) rfl rfl ?aP (fun k_ hk_ => ((Kd.Zbf (ok' := fun k_ => ((fun _ => True)) k_ ∧ some k_ ≠ (u6 : Value).ownBlock) (Kd.Zb3 (HO153.out) (Kd.Zcl HO_6.out) (by decide)) (fun k_ hk => ⟨trivial, hk.2⟩))).1 k_ hk_.symm) ?aF ?aO ?aB ?aS ?aL ?_; (case aP => exact Kd.M_row (Kd.Zbf (Kd.Zc9 rfl (Kd.Zbf (ok' := fun k_ => ((fun _ => True)) k_ ∧ some k_ ≠ (u6 : Value).ownBlock) (Kd.Zb3 (HO153.out) (Kd.Zcl HO_6.out) (by decide)) (fun k_ hk => ⟨trivial, hk.2⟩))) (fun _ h_ => h_))); (case aB => exact (by repeat (first | (with_reducible first | exact HB.out | apply Zac | apply Zab | apply Zad) | exact HB.out))); (case aF => exact (fun _ _ => trivial)); (case aO => exact (by (with_reducible repeat (first | apply Kd.S_alloc | apply Kd.S_drewN | apply Kd.Zbv)); exact Kd.Zdp HO_6.out (fun k_ hk => ⟨trivial, fun e_ => hk.2 e_⟩))); (case aS => exact (Zas (by repeat (first | (with_reducible first | exact HB.out | apply Zac | apply Zab | apply Zad) | exact HB.out)))); (case aL => have := LMc8.out; omega); intro v155 w10 ho hb hg hat; rw [← Ny154.out] at ho; have n0_ := Zaa.mk (hb); have n1_ := Zaa.mk (ho); clear HB; clear HO_6; clear HO153; have HB := n0_; have HO156 := n1_; clear n0_ n1_; clear ho hb hg hat))
   go_roundg k1
   case measure => have := HK1.out; omega
   case rel => exact ⟨(y154), (wrap64 (x13_1 + 1)), (by first | rfl | (simp; done) | (simp [*]; done)), H', ⟨by have := HK1.out; omega⟩, ⟨by (with_reducible repeat (first | apply Kd.S_alloc | apply Kd.S_drewN | apply Kd.Zbv)); exact HO156.out⟩, ⟨by repeat (first | (with_reducible first | exact HB.out | apply Zac | apply Zab | apply Zad) | exact HB.out)⟩⟩
/-! ### Zbq: function 25 -/
def Zbq.f (k : Nat) (l0 : List Int) (l1 : List (List Int)) : Option ((List (List Int)) × Int) := (Zaz.f k l0 l1).bind fun bt168 => ((Za8.f bt168.1).bind fun t172 => (some (t172, bt168.2)))
theorem Zbq.mono : ∀ a0 a1 k, LeO (Zbq.f k a0 a1) (Zbq.f (k + 1) a0 a1) := by
 intro a0 a1 k
 unfold Zbq.f
 repeat' first
   | (with_reducible exact Zaz.mono _ _ _)
   | (with_reducible exact LeO.refl _)
   | (with_reducible exact LeO.none _)
   | (with_reducible refine LeO.ite ?_ ?_)
   | (with_reducible refine LeO.bind ?_ (fun _ => ?_))
   | exact Zaz.mono _ _ _
   | exact LeO.none _
   | refine LeO.ite ?_ ?_
   | refine LeO.bind ?_ (fun _ => ?_)
set_option maxHeartbeats 8000000 in
set_option maxRecDepth 100000 in
theorem Zbq.calls (k : Nat) (A0 : Option Addr) (c0 : Nat) (l0 : List Int) (A1 : Option Addr) (c1 : Nat) (l1 : List (List Int)) (r1 : List (List Int)) (r2 : Int) (w : World) (hr0 : Kd.C (Kd.int .i64) w A0 l0.length l0) (hc0 : l0.length ≤ c0) (hr1 : Kd.C (Kd.slice 3 (Kd.int .i64)) w A1 l1.length l1) (hc1 : l1.length ≤ c1) (h : Zbq.f k l0 l1 = some (r1, r2)) :
  Calls Try.prog 25 #[.slice A0 l0.length c0, .slice A1 l1.length c1] w fun e w' => ∃ v0_ : Value, e = .returned (.tuple #[v0_, .int .i64 r2]) ∧ Kd.S (Kd.slice 3 (Kd.int .i64)) 22 w' w.heap.size (fun _ => True) v0_ r1 ∧ Below w.heap.size w w' := by
 have HR0 := Zaa.mk hr0
 have HC0 := Zaa.mk hc0
 clear hr0 hc0
 have HR1 := Zaa.mk hr1
 have HC1 := Zaa.mk hc1
 clear hr1 hc1
 have HB := Zaa.mk (Below.refl w.heap.size w)
 have H : ((Zaz.f k l0 l1).bind fun bt168 => ((Za8.f bt168.1).bind fun t172 => (some (t172, bt168.2)))) = some (r1, r2) := h
 clear h
 replace H := Option.bind_eq_some_iff.mp H
 obtain ⟨⟨t168, t169⟩, A30, H⟩ := H
 replace H : ((Za8.f t168).bind fun t172 => (some (t172, t169))) = some (r1, r2) := H
 have A3 := Zaa.mk A30
 clear A30
 replace H := Option.bind_eq_some_iff.mp H
 obtain ⟨t172, A40, H⟩ := H
 replace H : (some (t172, t169)) = some (r1, r2) := H
 have A4 := Zaa.mk A40
 clear A40
 simp only [Option.some.injEq, Prod.mk.injEq] at H
 obtain ⟨rfl, rfl⟩ := H
 go_enter Try.func25, Try.ntmps25
 go_wp2_with (first | ((with_reducible refine Zaw (f := 32) rfl ?_); refine Zbl (some 11) rfl rfl Try.func32 (by kernel_rfl) rfl #[.slice A0 l0.length c0, .slice A1 l1.length c1] rfl (by (try simp only [List.map_toArray, List.map_cons, List.map_nil]); first | done | rfl | (simp only [List.length_drop, List.length_take]; rfl)) ?_; (with_reducible refine (Zaz.calls k _ _ l0 _ _ l1 t168 t169 _ ?side1 ?side2 ?side3 ?side4 A3.out).mono ?_); (case side1 => repeat (first | exact HR0.out | (with_reducible refine Kd.Za0 ?_ _) | (with_reducible refine Kd.C_drewN ?_ _) | (with_reducible refine Kd.C_drew ?_))); (case side2 => exact HC0.out); (case side3 => repeat (first | exact HR1.out | (with_reducible refine Kd.Za0 ?_ _) | (with_reducible refine Kd.C_drewN ?_ _) | (with_reducible refine Kd.C_drew ?_))); (case side4 => exact HC1.out); rintro e w5 ⟨v170, rfl, ho0, hb⟩; refine ⟨_, rfl, ?_⟩; have n0_ := Zaa.mk (Kd.Zed ho0 (Zas (by repeat (first | (with_reducible first | exact HB.out | apply Zac | apply Zab | apply Zad) | exact HB.out)))); have n1_ := Zaa.mk (Zan (by repeat (first | (with_reducible first | exact HB.out | apply Zac | apply Zab | apply Zad) | exact HB.out)) hb); clear HB; have HO171 := n0_; have HB := n1_; clear n0_ n1_; (try clear hb); (try clear hb2); (try clear hk); (try clear hi); (try clear ho0); obtain ⟨Ao6, co6, eo6⟩ := Kd.S_slice HO171.out; subst eo6) | ((with_reducible refine Zaw (f := 30) rfl ?_); refine Zbl (some 15) rfl rfl Try.func30 (by kernel_rfl) rfl #[.slice Ao6 t168.length co6] rfl (by (try simp only [List.map_toArray, List.map_cons, List.map_nil]); first | done | rfl | (simp only [List.length_drop, List.length_take]; rfl)) ?_; (with_reducible refine (Za8.calls _ _ t168 t172 _ ?side1 ?side2 A4.out).mono ?_); (case side1 => repeat (first | exact (Kd.S_reads' HO171.out).2.2 | (with_reducible refine Kd.Za0 ?_ _) | (with_reducible refine Kd.C_drewN ?_ _) | (with_reducible refine Kd.C_drew ?_))); (case side2 => exact (Kd.S_reads' HO171.out).2.1); rintro e w7 ⟨v173, rfl, ho0, hb⟩; refine ⟨_, rfl, ?_⟩; have n0_ := Zaa.mk (Kd.Zc4 (by (with_reducible repeat (first | apply Kd.S_alloc | apply Kd.S_drewN | apply Kd.Zbv)); exact HO171.out) (Kd.Zej ho0) hb); have n1_ := Zaa.mk (Kd.Zed (Kd.S_new' ho0 (Kd.S_lt (by (with_reducible repeat (first | apply Kd.S_alloc | apply Kd.S_drewN | apply Kd.Zbv)); exact HO171.out))) (Zas (by repeat (first | (with_reducible first | exact HB.out | apply Zac | apply Zab | apply Zad) | exact HB.out)))); have n2_ := Zaa.mk (Zan (by repeat (first | (with_reducible first | exact HB.out | apply Zac | apply Zab | apply Zad) | exact HB.out)) hb); clear HO171; clear HB; have HO171 := n0_; have HO174 := n1_; have HB := n2_; clear n0_ n1_ n2_; (try clear hb); (try clear hb2); (try clear hk); (try clear hi); (try clear ho0)))
 go_ret2
 exact ⟨_, by first | rfl | (simp [Zau, Zav] <;> rfl) | (simp [*, Zau, Zav] <;> rfl), by (with_reducible repeat (first | apply Kd.S_alloc | apply Kd.S_drewN | apply Kd.Zbv)); exact Kd.Zdp HO174.out (fun _ hk => trivial), by repeat (first | (with_reducible first | exact HB.out | apply Zac | apply Zab | apply Zad) | exact HB.out)⟩

/-! ### Zay: function 23 -/
def Zay.l0 : Nat → List (List Int) → List (List Int) → List (List Int) → Int → Int → Option ((List (List Int)) × Int)
 | 0, _, _, _, _, _ => none
 | k + 1, x1, x6, x11, x12, x13 => if x13 < x12 then (if 0 ≤ x13 then (if x13 < (x11.length : Int) then ((Zaz.f k (Za3 x11 x13) x1).bind fun bt158 => (if bt158.2 = 0 then (if x6.length + bt158.1.length < 5864062014805 then (Zay.l0 k x1 (x6 ++ bt158.1) x11 x12 (wrap64 (x13 + 1))) else (none)) else (some (([] : List (List Int)), bt158.2)))) else (none)) else (none)) else ((Za8.f x6).bind fun t165 => (some (t165, 0)))
def Zay.f (k : Nat) (l0 : List (List Int)) (l1 : List (List Int)) : Option ((List (List Int)) × Int) := Zay.l0 k l1 ([] : List (List Int)) l0 (l0.length : Int) 0
theorem Zay.Za6 : ∀ k, (∀ y0 y1 y2 y3 y4, LeO (Zay.l0 k y0 y1 y2 y3 y4) (Zay.l0 (k + 1) y0 y1 y2 y3 y4))
 | 0 => fun _ _ _ _ _ r h => by simp [Zay.l0] at h
 | k + 1 => by
  have ih0 := Zay.Za6 k
  intro y0 y1 y2 y3 y4
  unfold Zay.l0
  repeat' first
  | (with_reducible exact ih0 _ _ _ _ _)
  | (with_reducible exact Zaz.mono _ _ _)
  | (with_reducible exact LeO.refl _)
  | (with_reducible exact LeO.none _)
  | (with_reducible refine LeO.ite ?_ ?_)
  | (with_reducible refine LeO.bind ?_ (fun _ => ?_))
  | exact ih0 _ _ _ _ _
  | exact Zaz.mono _ _ _
  | exact LeO.none _
  | refine LeO.ite ?_ ?_
  | refine LeO.bind ?_ (fun _ => ?_)
theorem Zay.mono : ∀ a0 a1 k, LeO (Zay.f k a0 a1) (Zay.f (k + 1) a0 a1) := by
 intro a0 a1 k
 have ih0 := Zay.Za6 k
 unfold Zay.f
 repeat' first
   | (with_reducible exact ih0 _ _ _ _ _)
   | (with_reducible exact Zaz.mono _ _ _)
   | (with_reducible exact LeO.refl _)
   | (with_reducible exact LeO.none _)
   | (with_reducible refine LeO.ite ?_ ?_)
   | (with_reducible refine LeO.bind ?_ (fun _ => ?_))
   | exact ih0 _ _ _ _ _
   | exact Zaz.mono _ _ _
   | exact LeO.none _
   | refine LeO.ite ?_ ?_
   | refine LeO.bind ?_ (fun _ => ?_)
set_option maxHeartbeats 8000000 in
set_option maxRecDepth 100000 in
theorem Zay.calls (k : Nat) (A0 : Option Addr) (c0 : Nat) (l0 : List (List Int)) (A1 : Option Addr) (c1 : Nat) (l1 : List (List Int)) (r1 : List (List Int)) (r2 : Int) (w : World) (hr0 : Kd.C (Kd.slice 3 (Kd.int .i64)) w A0 l0.length l0) (hc0 : l0.length ≤ c0) (hr1 : Kd.C (Kd.slice 3 (Kd.int .i64)) w A1 l1.length l1) (hc1 : l1.length ≤ c1) (h : Zay.f k l0 l1 = some (r1, r2)) :
  Calls Try.prog 23 #[.slice A0 l0.length c0, .slice A1 l1.length c1] w fun e w' => ∃ v0_ : Value, e = .returned (.tuple #[v0_, .int .i64 r2]) ∧ Kd.N (Kd.slice 3 (Kd.int .i64)) 22 w' w.heap.size (fun k_ => (w.heap.size ≤ k_)) v0_ r1 ∧ Below w.heap.size w w' := by
 have HR0 := Zaa.mk hr0
 have HC0 := Zaa.mk hc0
 clear hr0 hc0
 have HR1 := Zaa.mk hr1
 have HC1 := Zaa.mk hc1
 clear hr1 hc1
 have HB := Zaa.mk (Below.refl w.heap.size w)
 have H : (Zay.l0 k l1 ([] : List (List Int)) l0 (l0.length : Int) 0) = some (r1, r2) := h
 clear h
 have H' := Zaa.mk H
 clear H
 go_enter Try.func23, Try.ntmps23
 go_wp2
 go_loopg [6, 13] k (fun kq v6 v13 w' => ∃ (x6_1 : List (List Int)) (x13_1 : Int), v13 = .int .i64 x13_1 ∧ Zaa (Zay.l0 kq l1 x6_1 l0 (l0.length : Int) x13_1 = some (r1, r2)) ∧ Zaa (kq ≤ k) ∧ Zaa (Kd.N (Kd.slice 3 (Kd.int .i64)) 22 w' w.heap.size (fun k_ => (w.heap.size ≤ k_)) v6 x6_1) ∧ Zaa (Below w.heap.size w w'))
 case atStart => exact ⟨(([] : List (List Int))), (0), (by first | rfl | (simp; done) | (simp [*]; done)), H', ⟨Nat.le_refl _⟩, ⟨by first | exact Kd.Zd _ _ _ _ _ | exact Kd.Zeq _ _ _ _ _ | exact Kd.V_nil _ _ _ _ _ | exact Kd.Q_nil _ _ _ _ _ | exact Kd.Zdo _ _ _ _ _⟩, ⟨by repeat (first | (with_reducible first | exact HB.out | apply Zac | apply Zab | apply Zad) | exact HB.out)⟩⟩
 case round =>
  clear H'
  try clear c1
  try clear c2
  try clear p2
  obtain ⟨x6_1, x13_1, rfl, HA, HK1, HO_6, HB⟩ := hrel
  cases gk with
  | zero => exact absurd HA.out (by simp [Zay.l0])
  | succ k1 =>
   have H := HA.out
   clear HA
   simp only [Zay.l0] at H
   by_cases c3 : x13_1 < (l0.length : Int)
   rotate_left
   ·rw [if_neg c3] at H
    have c3b0 : decide (x13_1 < (l0.length : Int)) = false := decide_eq_false c3
    clear c3
    replace H := Option.bind_eq_some_iff.mp H
    obtain ⟨t165, A130, H⟩ := H
    replace H : (some (t165, 0)) = some (r1, r2) := H
    have A13 := Zaa.mk A130
    clear A130
    simp only [Option.some.injEq, Prod.mk.injEq] at H
    obtain ⟨rfl, rfl⟩ := H
    obtain ⟨Ao14, co14, eo14⟩ := Kd.Zc2 HO_6.out
    subst eo14
    go_wp2_with (first | ((with_reducible refine Zaw (f := 30) rfl ?_); refine Zbl (some 31) rfl rfl Try.func30 (by kernel_rfl) rfl #[.slice Ao14 x6_1.length co14] rfl (by (try simp only [List.map_toArray, List.map_cons, List.map_nil]); first | done | rfl | (simp only [List.length_drop, List.length_take]; rfl)) ?_; (with_reducible refine (Za8.calls _ _ x6_1 t165 _ ?side1 ?side2 A13.out).mono ?_); (case side1 => repeat (first | exact (Kd.Zbp HO_6.out).2.2 | (with_reducible refine Kd.Za0 ?_ _) | (with_reducible refine Kd.C_drewN ?_ _) | (with_reducible refine Kd.C_drew ?_))); (case side2 => exact (Kd.Zbp HO_6.out).2.1); rintro e w15 ⟨v166, rfl, ho0, hb⟩; refine ⟨_, rfl, ?_⟩; have n0_ := Zaa.mk (Kd.Zcd (by (with_reducible repeat (first | apply Kd.N_alloc | apply Kd.Zba | apply Kd.Zbd)); exact HO_6.out) (by first | exact Kd.Zei ho0 | exact Kd.Zej ho0 | exact Kd.Zcb ho0) hb); have n1_ := Zaa.mk (Kd.Zdu (Kd.Zci (ok' := fun k_ => (w.heap.size ≤ k_) ∧ some k_ ≠ (.slice Ao14 x6_1.length co14 : Value).ownBlock) (Kd.S_N (Kd.Zey ho0)) (fun k_ hk_ => ⟨(Nat.le_trans (Zas (by repeat (first | (with_reducible first | exact HB.out | apply Zac | apply Zab | apply Zad) | exact HB.out))) hk_.2.1), (Kd.fresh' (Kd.N_lt (by (with_reducible repeat (first | apply Kd.N_alloc | apply Kd.Zba | apply Kd.Zbd)); exact HO_6.out)) k_ hk_.2.1)⟩)) (Zas (by repeat (first | (with_reducible first | exact HB.out | apply Zac | apply Zab | apply Zad) | exact HB.out)))); have n2_ := Zaa.mk (Zan (by repeat (first | (with_reducible first | exact HB.out | apply Zac | apply Zab | apply Zad) | exact HB.out)) hb); clear HO_6; clear HB; have HO_6 := n0_; have HO167 := n1_; have HB := n2_; clear n0_ n1_ n2_; (try clear hb); (try clear hb2); (try clear hk); (try clear hi); (try clear ho0)))
    go_ret2
    exact ⟨_, by first | rfl | (simp [Zau, Zav] <;> rfl) | (simp [*, Zau, Zav] <;> rfl), by (with_reducible repeat (first | apply Kd.N_alloc | apply Kd.Zba | apply Kd.Zbd)); exact Kd.Zci HO167.out (fun _ hk => hk.1), by repeat (first | (with_reducible first | exact HB.out | apply Zac | apply Zab | apply Zad) | exact HB.out)⟩

   rw [if_pos c3] at H
   have c3b0 : decide (x13_1 < (l0.length : Int)) = true := decide_eq_true c3
   clear c3
   by_cases c4 : 0 ≤ x13_1
   rotate_left
   ·rw [if_neg c4] at H
    exact absurd H (by simp)
   rw [if_pos c4] at H
   have c4b0 : decide (0 ≤ x13_1) = true := decide_eq_true c4
   clear c4
   by_cases c5 : x13_1 < (l0.length : Int)
   rotate_left
   ·rw [if_neg c5] at H
    exact absurd H (by simp)
   rw [if_pos c5] at H
   have c5b0 : decide (x13_1 < (l0.length : Int)) = true := decide_eq_true c5
   clear c5
   replace H := Option.bind_eq_some_iff.mp H
   obtain ⟨⟨t158, t159⟩, A60, H⟩ := H
   replace H : (if t159 = 0 then (if x6_1.length + t158.length < 5864062014805 then (Zay.l0 k1 l1 (x6_1 ++ t158) l0 (l0.length : Int) (wrap64 (x13_1 + 1))) else (none)) else (some (([] : List (List Int)), t159))) = some (r1, r2) := H
   have A6 := Zaa.mk A60
   clear A60
   by_cases c7 : t159 = 0
   rotate_left
   ·rw [if_neg c7] at H
    have c7b0 : (t159 == 0) = false := beq_eq_false_iff_ne.mpr c7
    have c7b1 : (t159 != 0) = true := bne_iff_ne.mpr c7
    simp only [Option.some.injEq, Prod.mk.injEq] at H
    obtain ⟨rfl, rfl⟩ := H
    have p157 : 0 ≤ (x13_1 : Int) := of_decide_eq_true (by first | (with_reducible assumption) | assumption)
    have q157 : x13_1 < (l0.length : Int) := of_decide_eq_true (by first | (with_reducible assumption) | assumption)
    obtain ⟨ad157, A157_0, c157_0, e157, hx157_0, hl157_0, hi157_0⟩ := Zc8 HR0.out x13_1 p157 q157
    cases e157
    replace hx157_0 := (HB.out.cell (World.block_lt_of_cell? w _ hx157_0)).trans hx157_0
    have HR157_0 := Zaa.mk hi157_0
    have HC157_0 := Zaa.mk hl157_0
    clear hi157_0 hl157_0
    replace p157 := eq_true p157
    replace q157 := eq_true q157
    go_wp2_with (first | ((with_reducible refine Zaw (f := 32) rfl ?_); refine Zbl (some 20) rfl rfl Try.func32 (by kernel_rfl) rfl #[.slice A157_0 (Za3 l0 x13_1).length c157_0, .slice A1 l1.length c1] rfl (by (try simp only [List.map_toArray, List.map_cons, List.map_nil]); first | done | rfl | (simp only [List.length_drop, List.length_take]; rfl)) ?_; (with_reducible refine (Zaz.calls k1 _ _ (Za3 l0 x13_1) _ _ l1 t158 t159 _ ?side1 ?side2 ?side3 ?side4 A6.out).mono ?_); (case side1 => repeat (first | exact (Kd.Zaq HR157_0.out HB.out) | (with_reducible refine Kd.Za0 ?_ _) | (with_reducible refine Kd.C_drewN ?_ _) | (with_reducible refine Kd.C_drew ?_))); (case side2 => exact HC157_0.out); (case side3 => repeat (first | exact (Kd.Zaq HR1.out HB.out) | (with_reducible refine Kd.Za0 ?_ _) | (with_reducible refine Kd.C_drewN ?_ _) | (with_reducible refine Kd.C_drew ?_))); (case side4 => exact HC1.out); rintro e w12 ⟨v160, rfl, ho0, hb⟩; refine ⟨_, rfl, ?_⟩; have n0_ := Zaa.mk (Kd.Zcd (by (with_reducible repeat (first | apply Kd.N_alloc | apply Kd.Zba | apply Kd.Zbd)); exact HO_6.out) (by first | exact Kd.Zei ho0 | exact Kd.Zej ho0 | exact Kd.Zcb ho0) hb); have n1_ := Zaa.mk (Kd.Zdu (Kd.Zci (ok' := fun k_ => (w.heap.size ≤ k_) ∧ some k_ ≠ (u6 : Value).ownBlock) (Kd.S_N (Kd.Zey ho0)) (fun k_ hk_ => ⟨(Nat.le_trans (Zas (by repeat (first | (with_reducible first | exact HB.out | apply Zac | apply Zab | apply Zad) | exact HB.out))) hk_.2.1), (Kd.fresh' (Kd.N_lt (by (with_reducible repeat (first | apply Kd.N_alloc | apply Kd.Zba | apply Kd.Zbd)); exact HO_6.out)) k_ hk_.2.1)⟩)) (Zas (by repeat (first | (with_reducible first | exact HB.out | apply Zac | apply Zab | apply Zad) | exact HB.out)))); have n2_ := Zaa.mk (Zan (by repeat (first | (with_reducible first | exact HB.out | apply Zac | apply Zab | apply Zad) | exact HB.out)) hb); clear HO_6; clear HB; have HO_6 := n0_; have HO161 := n1_; have HB := n2_; clear n0_ n1_ n2_; (try clear hb); (try clear hb2); (try clear hk); (try clear hi); (try clear ho0)))
    go_ret2
    exact ⟨_, by first | rfl | (simp [Zau, Zav] <;> rfl) | (simp [*, Zau, Zav] <;> rfl), by first | exact Kd.Zd _ _ _ _ _ | exact Kd.Zeq _ _ _ _ _ | exact Kd.V_nil _ _ _ _ _ | exact Kd.Q_nil _ _ _ _ _ | exact Kd.Zdo _ _ _ _ _, by repeat (first | (with_reducible first | exact HB.out | apply Zac | apply Zab | apply Zad) | exact HB.out)⟩
   rw [if_pos c7] at H
   have c7b0 : (t159 == 0) = true := beq_iff_eq.mpr c7
   have c7b1 : (t159 != 0) = false := bne_eq_false_iff_eq.mpr c7
   clear c7
   by_cases c8 : x6_1.length + t158.length < 5864062014805
   rotate_left
   ·rw [if_neg c8] at H
    exact absurd H (by simp)
   rw [if_pos c8] at H
   have LMc8 := Zaa.mk c8
   clear c8
   obtain ⟨y162, hy162⟩ : ∃ y_ : List (List Int), y_ = (x6_1 ++ t158) := ⟨_, rfl⟩
   replace H : (Zay.l0 k1 l1 y162 l0 (l0.length : Int) (wrap64 (x13_1 + 1))) = some (r1, r2) := by first | (rw [hy162]; with_reducible exact H) | (have H2_ := (Option.bind_some _ _).symm.trans H; rw [hy162]; with_reducible exact H2_) | (have H2_ := (Option.bind_some _ _).symm.trans H; with_reducible exact H2_) | with_reducible exact H | (rw [hy162]; exact H) | exact H
   have Ny162 := Zaa.mk hy162
   clear hy162
   have H' := Zaa.mk H
   clear H
   have p157 : 0 ≤ (x13_1 : Int) := of_decide_eq_true (by first | (with_reducible assumption) | assumption)
   have q157 : x13_1 < (l0.length : Int) := of_decide_eq_true (by first | (with_reducible assumption) | assumption)
   obtain ⟨ad157, A157_0, c157_0, e157, hx157_0, hl157_0, hi157_0⟩ := Zc8 HR0.out x13_1 p157 q157
   cases e157
   replace hx157_0 := (HB.out.cell (World.block_lt_of_cell? w _ hx157_0)).trans hx157_0
   have HR157_0 := Zaa.mk hi157_0
   have HC157_0 := Zaa.mk hl157_0
   clear hi157_0 hl157_0
   replace p157 := eq_true p157
   replace q157 := eq_true q157
   go_wp2_with (first | ((with_reducible refine Zaw (f := 32) rfl ?_); refine Zbl (some 20) rfl rfl Try.func32 (by kernel_rfl) rfl #[.slice A157_0 (Za3 l0 x13_1).length c157_0, .slice A1 l1.length c1] rfl (by (try simp only [List.map_toArray, List.map_cons, List.map_nil]); first | done | rfl | (simp only [List.length_drop, List.length_take]; rfl)) ?_; (with_reducible refine (Zaz.calls k1 _ _ (Za3 l0 x13_1) _ _ l1 t158 t159 _ ?side1 ?side2 ?side3 ?side4 A6.out).mono ?_); (case side1 => repeat (first | exact (Kd.Zaq HR157_0.out HB.out) | (with_reducible refine Kd.Za0 ?_ _) | (with_reducible refine Kd.C_drewN ?_ _) | (with_reducible refine Kd.C_drew ?_))); (case side2 => exact HC157_0.out); (case side3 => repeat (first | exact (Kd.Zaq HR1.out HB.out) | (with_reducible refine Kd.Za0 ?_ _) | (with_reducible refine Kd.C_drewN ?_ _) | (with_reducible refine Kd.C_drew ?_))); (case side4 => exact HC1.out); rintro e w9 ⟨v160, rfl, ho0, hb⟩; refine ⟨_, rfl, ?_⟩; have n0_ := Zaa.mk (Kd.Zcd (by (with_reducible repeat (first | apply Kd.N_alloc | apply Kd.Zba | apply Kd.Zbd)); exact HO_6.out) (by first | exact Kd.Zei ho0 | exact Kd.Zej ho0 | exact Kd.Zcb ho0) hb); have n1_ := Zaa.mk (Kd.Zdu (Kd.Zci (ok' := fun k_ => (w.heap.size ≤ k_) ∧ some k_ ≠ (u6 : Value).ownBlock) (Kd.S_N (Kd.Zey ho0)) (fun k_ hk_ => ⟨(Nat.le_trans (Zas (by repeat (first | (with_reducible first | exact HB.out | apply Zac | apply Zab | apply Zad) | exact HB.out))) hk_.2.1), (Kd.fresh' (Kd.N_lt (by (with_reducible repeat (first | apply Kd.N_alloc | apply Kd.Zba | apply Kd.Zbd)); exact HO_6.out)) k_ hk_.2.1)⟩)) (Zas (by repeat (first | (with_reducible first | exact HB.out | apply Zac | apply Zab | apply Zad) | exact HB.out)))); have n2_ := Zaa.mk (Zan (by repeat (first | (with_reducible first | exact HB.out | apply Zac | apply Zab | apply Zad) | exact HB.out)) hb); clear HO_6; clear HB; have HO_6 := n0_; have HO161 := n1_; have HB := n2_; clear n0_ n1_ n2_; (try clear hb); (try clear hb2); (try clear hk); (try clear hi); (try clear ho0); obtain ⟨Ao11, co11, eo11⟩ := Kd.Zc2 HO161.out; subst eo11) | ((with_reducible refine Za1 (b := .append) (xs := #[.tmp 26, .tmp 27]) rfl ?_); at_builtin; refine Kd.Zdz (Kd.slice 3 (Kd.int .i64)) (w0 := w) w.heap.size rfl (.tmp 26) (.tmp 27) 32 22 (.slice none 0 0) 24 rfl Try.underlying32 Zcm rfl (by decide) (by omega) u6 x6_1 t158 _ _ _ (fun k_ => (w.heap.size ≤ k_)) (fun k_ => ((fun k_ => (w.heap.size ≤ k_))) k_ ∧ some k_ ≠ (u6 : Value).ownBlock) rfl rfl ?aO ?aR (fun _ hk => hk) ?aF ?aB ?aS ?aL ?_; (case aR => exact (by skip; exact Kd.N_F (Kd.Zci (ok' := (fun k_ => ((fun k_ => (w.heap.size ≤ k_))) k_ ∧ some k_ ≠ (u6 : Value).ownBlock)) (HO161.out) (fun k_ hk => ⟨hk.1, hk.2⟩)))); (case aB => exact (by repeat (first | (with_reducible first | exact HB.out | apply Zac | apply Zab | apply Zad) | exact HB.out))); (case aF => exact (fun k_ hk => (Nat.le_trans (Zas (by repeat (first | (with_reducible first | exact HB.out | apply Zac | apply Zab | apply Zad) | exact HB.out))) hk))); (case aO => exact (by (with_reducible repeat (first | apply Kd.N_alloc | apply Kd.Zba | apply Kd.Zbd)); exact Kd.Zci HO_6.out (fun _ hk => hk.1))); (case aS => exact (Zas (by repeat (first | (with_reducible first | exact HB.out | apply Zac | apply Zab | apply Zad) | exact HB.out)))); (case aL => have := LMc8.out; omega); intro v163 w10 ho hb hg hat; rw [← Ny162.out] at ho; have n0_ := Zaa.mk (Kd.N_afterv (ok := (fun k_ => (w.heap.size ≤ k_))) (by (with_reducible repeat (first | apply Kd.N_alloc | apply Kd.Zba | apply Kd.Zbd)); exact HO161.out) hg hat); have n1_ := Zaa.mk (hb); have n2_ := Zaa.mk (ho); clear HO161; clear HB; clear HO_6; have HO161 := n0_; have HB := n1_; have HO164 := n2_; clear n0_ n1_ n2_; clear ho hb hg hat))
   go_roundg k1
   case measure => have := HK1.out; omega
   case rel => exact ⟨(y162), (wrap64 (x13_1 + 1)), (by first | rfl | (simp; done) | (simp [*]; done)), H', ⟨by have := HK1.out; omega⟩, ⟨by (with_reducible repeat (first | apply Kd.N_alloc | apply Kd.Zba | apply Kd.Zbd)); exact HO164.out⟩, ⟨by repeat (first | (with_reducible first | exact HB.out | apply Zac | apply Zab | apply Zad) | exact HB.out)⟩⟩
end Go.Proofs.Yteopgafbamipeaa.P
