/- Proved: what each function of the program that the statements of this seat reach comes to, for whatever memory and arguments it is called with (on condition that its plain text tells a result). -/
import Derived.Test.YtpbcigilipdedaaU1
import Derived.Test.YtpbcigilipdedaaProg
import Derived.Below
import Derived.Deep.Draws
import Derived.Deep.AppendLies
import Derived.Maps.AppendAt
import Derived.OwnWalk
import Derived.Laws.BytesArg
import Derived.Laws.MakeOwn
import Derived.Laws.OwnMore
import Derived.Deep.OwnRows
import Derived.Tactics
import Derived.Lib.ConvBytes
import Derived.Laws.Slices
import Derived.WalkKit
import Derived.KernelRfl
import Derived.RowKit3
import Derived.Deep.LoopGhost
import Derived.Deep.QuietTactic
import Derived.BigQuiet
import Derived.WideLaws
import Derived.Deep.DeepCutAuto
import Derived.Deep.CutBlock
import Derived.Deep.RegionHeld3
import Derived.Laws.Rows
import Derived.Lib.AppendStr
import Derived.ArgAppend
import Derived.Laws.IdiomCopy
import Derived.OrdersHeld
import Derived.Laws.BitsLemmas
import Derived.RowKit
import Derived.Shelf.SlLaysF
import Derived.Shelf.SlLaysF0
import Derived.Shelf.SlLaysH
import Derived.Shelf.SlLaysM
import Derived.Lib.SlKept
import Derived.Lib.SlicesCompact
import Derived.Shelf.SlicesE.Kit
import Derived.Shelf.GgClosure.Gives
import Derived.Sort.WalkB12
import Derived.Lib.SliceRun
import Derived.Shelf.SlSortCmp.Whole1
import Derived.Shelf.SlSortCmp.NoneTotal
import Derived.Sort.OwnSortedInts
import Derived.RangeFuncNested
import Derived.RangeFuncBox
import Derived.RangeFuncBound
import Derived.RangeFuncCalls
import Derived.RangeFuncLeaves
import Derived.Shelf.Abstract
import Derived.Shelf.AbstractIn
import Derived.OwnWalkIn
import Derived.TacticsInMore
import Derived.LoopNIn
import Derived.LoopIn
import Derived.Shelf.SortM.Plain
import Derived.Shelf.SortM.SortNone
import Derived.Lib.SlBy
/- Reading an element that is itself a slice (or of one cell), whatever its kind. -/
namespace Go.Proofs.Ytpbcigilipdedaa.P
open Go.RowKit Go.Proofs.YtpbcigilipdedaaW.PrintWords
set_option linter.unusedVariables false
set_option linter.unusedSimpArgs false
theorem at_one {α : Type} {d : Kd α} (hd : d.sz = 1) {w : World} {A : Option Addr} {n : Nat} {xs : List α} (h : d.C w A n xs) (k : Nat) (hk : k < xs.length) : ∃ ad u, A = some ad ∧ w.cell? (ad.add k) = some u ∧ d.K w xs[k] [u] := by
  obtain ⟨hl, _, h3⟩ := h
  obtain ⟨ad, rfl, hc⟩ := h3 (by omega)
  obtain ⟨c, hcl, hK, hcell⟩ := hc k _ (List.getElem?_eq_getElem hk)
  rw [hd] at hcl hcell
  obtain ⟨u, rfl⟩ := List.length_eq_one_iff.1 hcl
  have := hcell 0 u rfl
  rw [Nat.mul_one, Nat.add_zero] at this
  exact ⟨ad, u, rfl, this, hK⟩
theorem at_slice {α : Type} {d : Kd α} {e : Nat} {w : World} {A : Option Addr} {n : Nat} {xs : List (List α)} (h : (Kd.slice e d).C w A n xs) (k : Nat) (hk : k < xs.length) :
    ∃ ad A0 c0, A = some ad ∧ w.cell? (ad.add k) = some (.slice A0 xs[k].length c0) ∧ xs[k].length ≤ c0 ∧ d.C w A0 xs[k].length xs[k] := by
  obtain ⟨ad, u, hA, hc, A0, c0, hu, hl, hC⟩ := at_one (d := Kd.slice e d) rfl h k hk
  obtain rfl : u = _ := List.singleton_inj.1 hu
  exact ⟨ad, A0, c0, hA, hc, hl, hC⟩
theorem reads_one {α : Type} {d : Kd α} (hd : d.sz = 1) {w : World} {ad : Addr} {xs : List α} (hn : xs.length ≤ 9223372036854775807) (h : ∀ k (hk : k < xs.length), ∃ u, w.cell? (ad.add k) = some u ∧ d.K w xs[k] [u]) : d.C w (some ad) xs.length xs := by
  refine ⟨rfl, hn, fun _ => ⟨ad, rfl, fun j p hj => ?_⟩⟩
  obtain ⟨hj', rfl⟩ := List.getElem?_eq_some_iff.1 hj
  obtain ⟨u, hu, hK⟩ := h j hj'
  refine ⟨[u], by rw [hd]; rfl, hK, fun i v hi => ?_⟩
  rcases i with _ | i
  · obtain rfl : u = v := by simpa using hi
    rw [hd, Nat.mul_one, Nat.add_zero]
    exact hu
  simp at hi
theorem Zek (g k : Nat) : (⟨g, 0, none⟩ : Addr).add k = ⟨g, k, none⟩ := by
  by_cases h : k = 0
  · subst h; rfl
  simp [Addr.add, h]
end Go.Proofs.Ytpbcigilipdedaa.P
namespace Go.Proofs.Ytpbcigilipdedaa.P
open Go.RowKit Go.Proofs.YtpbcigilipdedaaW.PrintWords Go.Proofs.YtpbcigilipdedaaW.PrintLast Go.Proofs.YtpbcigilipdedaaW.PrintMore
attribute [local go_sem] Zcg Zci Zcr Zcs Zb7 Zb8 Zch Zcj
set_option linter.unusedVariables false
set_option linter.unusedSimpArgs false
def errW : Option Int → Value
 | none => .nilIface
 | some c => .iface 0 (.int .i64 c)
theorem Zaq : errW none = .nilIface := rfl
theorem Zar (c : Int) : errW (some c) = .iface 0 (.int .i64 c) := rfl
theorem info3 : (Try.prog.info? 3).map (fun i => (i.zero, i.size, i.bytes)) = some (some (.int .i64 0), 1, 8) := by kernel_rfl
theorem Zex : (Try.prog.info? 23).map (fun i => (i.zero, i.size, i.bytes)) = some (some (.slice none 0 0), 1, 24) := by kernel_rfl
theorem info39 : (Try.prog.info? 39).map (fun i => (i.zero, i.size, i.bytes)) = some (some (.slice none 0 0), 1, 24) := by kernel_rfl
theorem info41 : (Try.prog.info? 41).map (fun i => (i.zero, i.size, i.bytes)) = some (some (.agg #[(.int .i64 0), (.int .i64 0)]), 2, 16) := by kernel_rfl
def Zbt (xs : List (List Int)) (i : Int) : (List Int) := xs.getD i.toNat ([] : List Int)
theorem Zd2 {w : World} {A : Option Addr} {n : Nat} {xs : List (List Int)} (h : Kd.C (Kd.slice 3 (Kd.int .i64)) w A n xs) (i : Int) (h0 : 0 ≤ i) (h1 : i < n) : ∃ ad A0 c0, A = some ad ∧ w.cell? (ad.add i.toNat) = some (.slice A0 (Zbt xs i).length c0) ∧ (Zbt xs i).length ≤ c0 ∧ (Kd.int .i64).C w A0 (Zbt xs i).length (Zbt xs i) := by
 obtain ⟨ad, c, e, _, hK, hc0⟩ := Kd.C_get h ([] : List Int) i h0 h1
 have hc : ∀ j u, c[j]? = some u → w.cell? (ad.add (i.toNat * 1 + j)) = some u := hc0
 obtain ⟨A0, c0, rfl, l0, g0⟩ := hK
 exact ⟨ad, A0, c0, e, by have hq := hc 0 _ rfl; rwa [Nat.mul_one, Nat.add_zero] at hq, l0, g0⟩
structure S41 where
 f0 : Int
 f1 : Int
def z41 : S41 := ⟨(0 : Int), (0 : Int)⟩
def k41 : Kd S41 := Kd.iso (Kd.pair (Kd.int .i64) (Kd.int .i64)) (fun x : S41 => (x.f0, x.f1))
theorem k41_open {w : World} {x : S41} {cs : List Value} (h : k41.K w x cs) : cs = [.int .i64 x.f0, .int .i64 x.f1] := by
 obtain ⟨_, _, rfl, rfl, rfl⟩ := h
 exact rfl
theorem Zf7 {w : World} {base : Nat} {ok : Nat → Prop} {x : S41} {cs : List Value} (h : k41.M w base ok x cs) : cs = [.int .i64 x.f0, .int .i64 x.f1] := by
 obtain ⟨_, _, rfl, rfl, rfl⟩ := h
 exact rfl
theorem Ze (w : World) (base : Nat) (ok : Nat → Prop) (x : S41)  : k41.M w base ok x [.int .i64 x.f0, .int .i64 x.f1] := ⟨[.int .i64 x.f0], [.int .i64 x.f1], rfl, rfl, rfl⟩
def Zbu (xs : List S41) (i : Int) : S41 := xs.getD i.toNat z41
theorem Zdv {w : World} {A : Option Addr} {n : Nat} {xs : List S41} (h : Kd.C k41 w A n xs) (i : Int) (h0 : 0 ≤ i) (h1 : i < n) : ∃ ad , A = some ad ∧ w.cell? (ad.add (i.toNat * 2)) = some (.int .i64 (Zbu xs i).f0) ∧ w.cell? ⟨(ad.add (i.toNat * 2)).block, (ad.add (i.toNat * 2)).off + 1, none⟩ = some (.int .i64 (Zbu xs i).f1) := by
 obtain ⟨ad, c, e, _, hK, hc0⟩ := Kd.C_get h z41 i h0 h1
 have hc : ∀ j u, c[j]? = some u → w.cell? (ad.add (i.toNat * 2 + j)) = some u := hc0
 obtain rfl := k41_open hK
 exact ⟨ad, e, hc 0 _ rfl, by rw [← add_field _ _ 1 (by omega)]; exact hc 1 _ rfl⟩
def Zcb (xs : List (List S41)) (i : Int) : (List S41) := xs.getD i.toNat ([] : List S41)
theorem Zfn {w : World} {A : Option Addr} {n : Nat} {xs : List (List S41)} (h : Kd.C (Kd.slice 41 k41) w A n xs) (i : Int) (h0 : 0 ≤ i) (h1 : i < n) : ∃ ad A0 c0, A = some ad ∧ w.cell? (ad.add i.toNat) = some (.slice A0 (Zcb xs i).length c0) ∧ (Zcb xs i).length ≤ c0 ∧ k41.C w A0 (Zcb xs i).length (Zcb xs i) := by
 obtain ⟨ad, c, e, _, hK, hc0⟩ := Kd.C_get h ([] : List S41) i h0 h1
 have hc : ∀ j u, c[j]? = some u → w.cell? (ad.add (i.toNat * 1 + j)) = some u := hc0
 obtain ⟨A0, c0, rfl, l0, g0⟩ := hK
 exact ⟨ad, A0, c0, e, by have hq := hc 0 _ rfl; rwa [Nat.mul_one, Nat.add_zero] at hq, l0, g0⟩
structure S25 where
 f0 : Int
 f1 : (List Int)
 f2 : (List Int)
 f3 : Int
 f4 : Int
 f5 : (List (List Int))
 f6 : Int
def z25 : S25 := ⟨(0 : Int), ([] : List Int), ([] : List Int), (0 : Int), (0 : Int), ([] : List (List Int)), (0 : Int)⟩
end Go.Proofs.Ytpbcigilipdedaa.P
/- Literals: a row of things that are there already (shared or not), as a row that is read. -/
namespace Go.Proofs.Ytpbcigilipdedaa.P
open Go.RowKit Go.Proofs.YtpbcigilipdedaaW.PrintWords Go.Proofs.YtpbcigilipdedaaW.PrintLast Go.Proofs.YtpbcigilipdedaaW.PrintMore
set_option linter.unusedVariables false
set_option linter.unusedSimpArgs false
theorem C_block {α : Type} {d : Kd α} {W : World} {g : Nat} {cells : Array Value} {e : Nat} (hb : W.heap[g]? = some (.cells cells e (0, 0))) (xs : List α) (hn : xs.length ≤ 9223372036854775807) (h : Reps (d.K W) d.sz xs cells.toList) :
    d.C W (some ⟨g, 0, none⟩) xs.length xs := by
  refine ⟨rfl, hn, fun _ => ⟨⟨g, 0, none⟩, rfl, fun j p hj => ⟨_, ?_, h.2 j p hj, fun i u hi => ?_⟩⟩⟩
  · obtain ⟨hjl, _⟩ := List.getElem?_eq_some_iff.1 hj
    have hl := h.1
    have : (j + 1) * d.sz ≤ xs.length * d.sz := Nat.mul_le_mul_right _ hjl
    rw [Nat.add_mul] at this
    simp only [Array.length_toList] at hl
    rw [List.length_take, List.length_drop, Array.length_toList, hl]
    omega
  rw [Zek]
  simp only [World.cell?, hb, Option.isSome_none, Bool.false_eq_true, if_false]
  rw [List.getElem?_take] at hi
  split at hi
  · rw [List.getElem?_drop] at hi
    rw [← Array.getElem?_toList]
    exact hi
  cases hi
theorem Reps.one_ {α : Type} {R : α → List Value → Prop} {size : Nat} {p : α} {c : List Value} (h : R p c) (hc : c.length = size) : Reps R size [p] c := by
  have := (Reps.none R size).snoc h hc
  simpa using this
theorem Reps.cons_ {α : Type} {R : α → List Value → Prop} {size : Nat} {p : α} {ps : List α} {c cs : List Value} (h : R p c) (hc : c.length = size) (hs : Reps R size ps cs) : Reps R size (p :: ps) (c ++ cs) := by
  have := Kd.Zge (Reps.one_ h hc) hs
  simpa using this
theorem ints_reps (W : World) (xs : List Int) : Reps ((Kd.int .i64).K W) 1 xs (xs.map (Value.int .i64)) := by
  induction xs with
  | nil => exact Reps.none _ _
  | cons x xs ih => exact Reps.cons_ (c := [Value.int .i64 x]) rfl rfl ih
theorem Zds {W : World} {g : Nat} {e : Nat} (xs : List Int) (hn : xs.length ≤ 9223372036854775807) (hb : W.heap[g]? = some (.cells (xs.map (Value.int .i64)).toArray e (0, 0))) : (Kd.int .i64).C W (some ⟨g, 0, none⟩) xs.length xs :=
  C_block hb xs hn (by rw [List.toList_toArray]; exact ints_reps W xs)
def RowsK {α : Type} (e : Nat) (d : Kd α) (W : World) : List (List α) → List Value → Prop
  | [], [] => True
  | x :: xs, v :: vs => (Kd.slice e d).K W x [v] ∧ RowsK e d W xs vs
  | _, _ => False
theorem rows_reps {α : Type} {d : Kd α} {e : Nat} (W : World) : ∀ (xs : List (List α)) (vs : List Value), RowsK e d W xs vs → Reps ((Kd.slice e d).K W) 1 xs vs
  | [], [], _ => Reps.none _ _
  | x :: xs, v :: vs, h => Reps.cons_ (c := [v]) h.1 rfl (rows_reps W xs vs h.2)
  | [], _ :: _, h => h.elim
  | _ :: _, [], h => h.elim
theorem Zfe {α : Type} {d : Kd α} {e e' : Nat} {W : World} {g : Nat} (xs : List (List α)) (vs : List Value) (hn : xs.length ≤ 9223372036854775807) (hb : W.heap[g]? = some (.cells vs.toArray e' (0, 0))) (h : RowsK e d W xs vs) : (Kd.slice e d).C W (some ⟨g, 0, none⟩) xs.length xs :=
  C_block hb xs hn (by rw [List.toList_toArray]; exact rows_reps W xs vs h)
theorem Zeh {α : Type} {d : Kd α} {e : Nat} {W : World} {A : Option Addr} {n c : Nat} {xs : List α} (hn : n = xs.length) (hc : n ≤ c) (h : d.C W A xs.length xs) : (Kd.slice e d).K W xs [.slice A n c] := by
  subst hn
  exact ⟨A, c, rfl, hc, h⟩
theorem Zc5 {F : World → Prop} {P : Program} {f : FuncId} {args : Array Value} {W : World} {Q : Ending → World → Prop} (hF : F W) (h : ∀ W', F W' → Calls P f args W' Q) : Calls P f args W Q := h W hF
theorem Zfz {W : World} {g : Nat} (o : Obj) (h : g = W.heap.size) : (W.alloc o).heap[g]? = some o := by subst h; exact blk_new W o
instance : DecidableEq S41 := fun a b => decidable_of_iff (a.f0 = b.f0 ∧ a.f1 = b.f1) (by cases a; cases b; simp)
theorem range_reps (W : World) (xs : List S41) (cs : List Value) (h : cs = xs.flatMap fun x => [Value.int .i64 x.f0, .int .i64 x.f1]) : Reps (k41.K W) 2 xs cs := by
  subst h
  induction xs with
  | nil => exact Reps.none _ _
  | cons x xs ih => exact Reps.cons_ (c := [Value.int .i64 x.f0, .int .i64 x.f1]) (k41.K_of_M (Ze W 0 (fun _ => True) x)) rfl ih
theorem Zfq {W : World} {g : Nat} {e : Nat} (xs : List S41) (cs : List Value) (hn : xs.length ≤ 9223372036854775807) (hb : W.heap[g]? = some (.cells cs.toArray e (0, 0))) (h : cs = xs.flatMap fun x => [Value.int .i64 x.f0, .int .i64 x.f1]) : k41.C W (some ⟨g, 0, none⟩) xs.length xs :=
  C_block hb xs hn (by rw [List.toList_toArray]; exact range_reps W xs cs h)
end Go.Proofs.Ytpbcigilipdedaa.P
/- The library's sort and its like, laid at this program (the shelf's contracts). -/
namespace Go.Proofs.Ytpbcigilipdedaa.P
open Go.Shelf Go.Proofs
def lsort_ren : Go.Shelf.Ren := ⟨fun | 5 => 91 | 7 => 100 | 8 => 95 | 10 => 119 | 11 => 120 | 12 => 121 | 13 => 122 | 14 => 123 | 15 => 124 | 16 => 125 | 17 => 126 | 18 => 127 | 19 => 109 | 20 => 110 | 30 => 136 | 31 => 129 | 32 => 130 | 33 => 137 | 34 => 138 | 35 => 96 | 40 => 141 | n => n, fun | 0 => 0 | 3 => 3 | 4 => 4 | 5 => 5 | 9 => 9 | 22 => 23 | 23 => 23 | 25 => 3 | 32 => 99 | 35 => 104 | 36 => 105 | 41 => 109 | 44 => 112 | 46 => 114 | 53 => 126 | 57 => 130 | 63 => 136 | 64 => 137 | n => n, fun n => n⟩
theorem lsort : SlLaysM.n5 Try.prog lsort_ren := {
  mixed := by kernel_rfl,
  f5 := ⟨Try.f91.name, by decide, Try.func91.trans (congrArg some (by kernel_rfl))⟩,
  f7 := ⟨Try.f100.name, by decide, Try.func100.trans (congrArg some (by kernel_rfl))⟩,
  f8 := Try.func95.trans (congrArg some (by kernel_rfl)),
  f10 := ⟨Try.f119.name, by decide, Try.func119.trans (congrArg some (by kernel_rfl))⟩,
  f11 := ⟨Try.f120.name, by decide, Try.func120.trans (congrArg some (by kernel_rfl))⟩,
  f12 := ⟨Try.f121.name, by decide, Try.func121.trans (congrArg some (by kernel_rfl))⟩,
  f13 := ⟨Try.f122.name, by decide, Try.func122.trans (congrArg some (by kernel_rfl))⟩,
  f14 := ⟨Try.f123.name, by decide, Try.func123.trans (congrArg some (by kernel_rfl))⟩,
  f15 := ⟨Try.f124.name, by decide, Try.func124.trans (congrArg some (by kernel_rfl))⟩,
  f16 := ⟨Try.f125.name, by decide, Try.func125.trans (congrArg some (by kernel_rfl))⟩,
  f17 := ⟨Try.f126.name, by decide, Try.func126.trans (congrArg some (by kernel_rfl))⟩,
  f18 := ⟨Try.f127.name, by decide, Try.func127.trans (congrArg some (by kernel_rfl))⟩,
  f19 := Try.func109.trans (congrArg some (by kernel_rfl)),
  f20 := Try.func110.trans (congrArg some (by kernel_rfl)),
  f30 := ⟨Try.f136.name, by decide, Try.func136.trans (congrArg some (by kernel_rfl))⟩,
  f31 := Try.func129.trans (congrArg some (by kernel_rfl)),
  f32 := Try.func130.trans (congrArg some (by kernel_rfl)),
  f33 := ⟨Try.f137.name, by decide, Try.func137.trans (congrArg some (by kernel_rfl))⟩,
  f34 := ⟨Try.f138.name, by decide, Try.func138.trans (congrArg some (by kernel_rfl))⟩,
  f35 := ⟨Try.f96.name, by decide, Try.func96.trans (congrArg some (by kernel_rfl))⟩,
  f40 := ⟨Try.f141.name, by decide, Try.func141.trans (congrArg some (by kernel_rfl))⟩,
  t0 := Try.underlying0,
  a0 := Try.isAgg0,
  z0 := Try.sizeOf0,
  v0 := Try.zeroValue0,
  t3 := Try.underlying3,
  a3 := Try.isAgg3,
  z3 := Try.sizeOf3,
  v3 := Try.zeroValue3,
  t4 := Try.underlying4,
  a4 := Try.isAgg4,
  z4 := Try.sizeOf4,
  v4 := Try.zeroValue4,
  t5 := Try.underlying5,
  a5 := Try.isAgg5,
  z5 := Try.sizeOf5,
  v5 := Try.zeroValue5,
  t9 := Try.underlying9,
  a9 := Try.isAgg9,
  z9 := Try.sizeOf9,
  v9 := Try.zeroValue9,
  t22 := Try.underlying23,
  a22 := Try.isAgg23,
  z22 := Try.sizeOf23,
  v22 := Try.zeroValue23,
  t23 := Try.underlying23,
  a23 := Try.isAgg23,
  z23 := Try.sizeOf23,
  v23 := Try.zeroValue23,
  t25 := Try.underlying3,
  a25 := Try.isAgg3,
  z25 := Try.sizeOf3,
  v25 := Try.zeroValue3,
  t32 := Try.underlying99,
  a32 := Try.isAgg99,
  z32 := Try.sizeOf99,
  v32 := Try.zeroValue99,
  t35 := Try.underlying104,
  a35 := Try.isAgg104,
  z35 := Try.sizeOf104,
  v35 := Try.zeroValue104,
  t36 := Try.underlying105,
  a36 := Try.isAgg105,
  z36 := Try.sizeOf105,
  v36 := Try.zeroValue105,
  t41 := Try.underlying109,
  a41 := Try.isAgg109,
  z41 := Try.sizeOf109,
  v41 := Try.zeroValue109,
  t44 := Try.underlying112,
  a44 := Try.isAgg112,
  z44 := Try.sizeOf112,
  v44 := Try.zeroValue112,
  t46 := Try.underlying114,
  a46 := Try.isAgg114,
  z46 := Try.sizeOf114,
  v46 := Try.zeroValue114,
  t53 := Try.underlying126,
  a53 := Try.isAgg126,
  z53 := Try.sizeOf126,
  v53 := Try.zeroValue126,
  t57 := Try.underlying130,
  a57 := Try.isAgg130,
  z57 := Try.sizeOf130,
  v57 := Try.zeroValue130,
  t63 := Try.underlying136,
  a63 := Try.isAgg136,
  z63 := Try.sizeOf136,
  v63 := Try.zeroValue136,
  t64 := Try.underlying137,
  a64 := Try.isAgg137,
  z64 := Try.sizeOf137,
  v64 := Try.zeroValue137 }
def lsortF_ren : Go.Shelf.Ren := ⟨fun | 6 => 83 | 14 => 99 | 15 => 95 | 20 => 111 | 21 => 112 | 22 => 113 | 23 => 114 | 24 => 115 | 25 => 116 | 26 => 117 | 27 => 118 | 28 => 109 | 29 => 110 | 46 => 133 | 47 => 129 | 48 => 130 | 49 => 134 | 50 => 135 | 57 => 140 | n => n, fun | 0 => 0 | 3 => 3 | 4 => 4 | 5 => 5 | 9 => 9 | 22 => 39 | 24 => 41 | 25 => 91 | 39 => 99 | 45 => 104 | 46 => 105 | 50 => 109 | 53 => 112 | 55 => 114 | 66 => 126 | 70 => 130 | 76 => 136 | 77 => 137 | n => n, fun n => n⟩
theorem lsortF : SlLaysF0.n6 Try.prog lsortF_ren := {
  mixed := by kernel_rfl,
  f6 := ⟨Try.f83.name, by decide, Try.func83.trans (congrArg some (by kernel_rfl))⟩,
  f14 := ⟨Try.f99.name, by decide, Try.func99.trans (congrArg some (by kernel_rfl))⟩,
  f15 := Try.func95.trans (congrArg some (by kernel_rfl)),
  f20 := ⟨Try.f111.name, by decide, Try.func111.trans (congrArg some (by kernel_rfl))⟩,
  f21 := ⟨Try.f112.name, by decide, Try.func112.trans (congrArg some (by kernel_rfl))⟩,
  f22 := ⟨Try.f113.name, by decide, Try.func113.trans (congrArg some (by kernel_rfl))⟩,
  f23 := ⟨Try.f114.name, by decide, Try.func114.trans (congrArg some (by kernel_rfl))⟩,
  f24 := ⟨Try.f115.name, by decide, Try.func115.trans (congrArg some (by kernel_rfl))⟩,
  f25 := ⟨Try.f116.name, by decide, Try.func116.trans (congrArg some (by kernel_rfl))⟩,
  f26 := ⟨Try.f117.name, by decide, Try.func117.trans (congrArg some (by kernel_rfl))⟩,
  f27 := ⟨Try.f118.name, by decide, Try.func118.trans (congrArg some (by kernel_rfl))⟩,
  f28 := Try.func109.trans (congrArg some (by kernel_rfl)),
  f29 := Try.func110.trans (congrArg some (by kernel_rfl)),
  f46 := ⟨Try.f133.name, by decide, Try.func133.trans (congrArg some (by kernel_rfl))⟩,
  f47 := Try.func129.trans (congrArg some (by kernel_rfl)),
  f48 := Try.func130.trans (congrArg some (by kernel_rfl)),
  f49 := ⟨Try.f134.name, by decide, Try.func134.trans (congrArg some (by kernel_rfl))⟩,
  f50 := ⟨Try.f135.name, by decide, Try.func135.trans (congrArg some (by kernel_rfl))⟩,
  f57 := ⟨Try.f140.name, by decide, Try.func140.trans (congrArg some (by kernel_rfl))⟩,
  t0 := Try.underlying0,
  a0 := Try.isAgg0,
  z0 := Try.sizeOf0,
  v0 := Try.zeroValue0,
  t3 := Try.underlying3,
  a3 := Try.isAgg3,
  z3 := Try.sizeOf3,
  v3 := Try.zeroValue3,
  t4 := Try.underlying4,
  a4 := Try.isAgg4,
  z4 := Try.sizeOf4,
  v4 := Try.zeroValue4,
  t5 := Try.underlying5,
  a5 := Try.isAgg5,
  z5 := Try.sizeOf5,
  v5 := Try.zeroValue5,
  t9 := Try.underlying9,
  a9 := Try.isAgg9,
  z9 := Try.sizeOf9,
  v9 := Try.zeroValue9,
  t22 := Try.underlying39,
  a22 := Try.isAgg39,
  z22 := Try.sizeOf39,
  v22 := Try.zeroValue39,
  t25 := Try.underlying91,
  a25 := Try.isAgg91,
  z25 := Try.sizeOf91,
  v25 := Try.zeroValue91,
  t39 := Try.underlying99,
  a39 := Try.isAgg99,
  z39 := Try.sizeOf99,
  v39 := Try.zeroValue99,
  t45 := Try.underlying104,
  a45 := Try.isAgg104,
  z45 := Try.sizeOf104,
  v45 := Try.zeroValue104,
  t46 := Try.underlying105,
  a46 := Try.isAgg105,
  z46 := Try.sizeOf105,
  v46 := Try.zeroValue105,
  t50 := Try.underlying109,
  a50 := Try.isAgg109,
  z50 := Try.sizeOf109,
  v50 := Try.zeroValue109,
  t53 := Try.underlying112,
  a53 := Try.isAgg112,
  z53 := Try.sizeOf112,
  v53 := Try.zeroValue112,
  t55 := Try.underlying114,
  a55 := Try.isAgg114,
  z55 := Try.sizeOf114,
  v55 := Try.zeroValue114,
  t66 := Try.underlying126,
  a66 := Try.isAgg126,
  z66 := Try.sizeOf126,
  v66 := Try.zeroValue126,
  t70 := Try.underlying130,
  a70 := Try.isAgg130,
  z70 := Try.sizeOf130,
  v70 := Try.zeroValue130,
  t76 := Try.underlying136,
  a76 := Try.isAgg136,
  z76 := Try.sizeOf136,
  v76 := Try.zeroValue136,
  t77 := Try.underlying137,
  a77 := Try.isAgg137,
  z77 := Try.sizeOf137,
  v77 := Try.zeroValue137 }
def lsortL_ren : Go.Shelf.Ren := ⟨fun | 6 => 76 | 14 => 94 | 15 => 95 | 20 => 101 | 21 => 102 | 22 => 103 | 23 => 104 | 24 => 105 | 25 => 106 | 26 => 107 | 27 => 108 | 28 => 109 | 29 => 110 | 46 => 128 | 47 => 129 | 48 => 130 | 49 => 131 | 50 => 132 | 57 => 139 | n => n, fun | 0 => 0 | 3 => 3 | 4 => 4 | 5 => 5 | 9 => 9 | 22 => 22 | 24 => 23 | 25 => 51 | 39 => 99 | 45 => 104 | 46 => 105 | 50 => 109 | 53 => 112 | 55 => 114 | 66 => 126 | 70 => 130 | 76 => 136 | 77 => 137 | n => n, fun n => n⟩
theorem lsortL : SlLaysF.n6 Try.prog lsortL_ren := {
  mixed := by kernel_rfl,
  f6 := ⟨Try.f76.name, by decide, Try.func76.trans (congrArg some (by kernel_rfl))⟩,
  f14 := ⟨Try.f94.name, by decide, Try.func94.trans (congrArg some (by kernel_rfl))⟩,
  f15 := Try.func95.trans (congrArg some (by kernel_rfl)),
  f20 := ⟨Try.f101.name, by decide, Try.func101.trans (congrArg some (by kernel_rfl))⟩,
  f21 := ⟨Try.f102.name, by decide, Try.func102.trans (congrArg some (by kernel_rfl))⟩,
  f22 := ⟨Try.f103.name, by decide, Try.func103.trans (congrArg some (by kernel_rfl))⟩,
  f23 := ⟨Try.f104.name, by decide, Try.func104.trans (congrArg some (by kernel_rfl))⟩,
  f24 := ⟨Try.f105.name, by decide, Try.func105.trans (congrArg some (by kernel_rfl))⟩,
  f25 := ⟨Try.f106.name, by decide, Try.func106.trans (congrArg some (by kernel_rfl))⟩,
  f26 := ⟨Try.f107.name, by decide, Try.func107.trans (congrArg some (by kernel_rfl))⟩,
  f27 := ⟨Try.f108.name, by decide, Try.func108.trans (congrArg some (by kernel_rfl))⟩,
  f28 := Try.func109.trans (congrArg some (by kernel_rfl)),
  f29 := Try.func110.trans (congrArg some (by kernel_rfl)),
  f46 := ⟨Try.f128.name, by decide, Try.func128.trans (congrArg some (by kernel_rfl))⟩,
  f47 := Try.func129.trans (congrArg some (by kernel_rfl)),
  f48 := Try.func130.trans (congrArg some (by kernel_rfl)),
  f49 := ⟨Try.f131.name, by decide, Try.func131.trans (congrArg some (by kernel_rfl))⟩,
  f50 := ⟨Try.f132.name, by decide, Try.func132.trans (congrArg some (by kernel_rfl))⟩,
  f57 := ⟨Try.f139.name, by decide, Try.func139.trans (congrArg some (by kernel_rfl))⟩,
  t0 := Try.underlying0,
  a0 := Try.isAgg0,
  z0 := Try.sizeOf0,
  v0 := Try.zeroValue0,
  t3 := Try.underlying3,
  a3 := Try.isAgg3,
  z3 := Try.sizeOf3,
  v3 := Try.zeroValue3,
  t4 := Try.underlying4,
  a4 := Try.isAgg4,
  z4 := Try.sizeOf4,
  v4 := Try.zeroValue4,
  t5 := Try.underlying5,
  a5 := Try.isAgg5,
  z5 := Try.sizeOf5,
  v5 := Try.zeroValue5,
  t9 := Try.underlying9,
  a9 := Try.isAgg9,
  z9 := Try.sizeOf9,
  v9 := Try.zeroValue9,
  t22 := Try.underlying22,
  a22 := Try.isAgg22,
  z22 := Try.sizeOf22,
  v22 := Try.zeroValue22,
  a24 := Try.isAgg23,
  z24 := Try.sizeOf23,
  t25 := Try.underlying51,
  a25 := Try.isAgg51,
  z25 := Try.sizeOf51,
  v25 := Try.zeroValue51,
  t39 := Try.underlying99,
  a39 := Try.isAgg99,
  z39 := Try.sizeOf99,
  v39 := Try.zeroValue99,
  t45 := Try.underlying104,
  a45 := Try.isAgg104,
  z45 := Try.sizeOf104,
  v45 := Try.zeroValue104,
  t46 := Try.underlying105,
  a46 := Try.isAgg105,
  z46 := Try.sizeOf105,
  v46 := Try.zeroValue105,
  t50 := Try.underlying109,
  a50 := Try.isAgg109,
  z50 := Try.sizeOf109,
  v50 := Try.zeroValue109,
  t53 := Try.underlying112,
  a53 := Try.isAgg112,
  z53 := Try.sizeOf112,
  v53 := Try.zeroValue112,
  t55 := Try.underlying114,
  a55 := Try.isAgg114,
  z55 := Try.sizeOf114,
  v55 := Try.zeroValue114,
  t66 := Try.underlying126,
  a66 := Try.isAgg126,
  z66 := Try.sizeOf126,
  v66 := Try.zeroValue126,
  t70 := Try.underlying130,
  a70 := Try.isAgg130,
  z70 := Try.sizeOf130,
  v70 := Try.zeroValue130,
  t76 := Try.underlying136,
  a76 := Try.isAgg136,
  z76 := Try.sizeOf136,
  v76 := Try.zeroValue136,
  t77 := Try.underlying137,
  a77 := Try.isAgg137,
  z77 := Try.sizeOf137,
  v77 := Try.zeroValue137 }
def ldel_ren : Go.Shelf.Ren := ⟨fun | 6 => 80 | 10 => 53 | n => n, fun | 0 => 0 | 3 => 3 | 4 => 4 | 22 => 23 | 23 => 3 | 25 => 71 | n => n, fun n => n⟩
end Go.Proofs.Ytpbcigilipdedaa.P
/- Plain: 'from some number of rounds on it tells a'; lists of numbers in order. No program in sight. -/
namespace Go.Proofs.Ytpbcigilipdedaa.P
open Go.RowKit Go.Proofs.YtpbcigilipdedaaW.PrintWords Go.Proofs.YtpbcigilipdedaaW.PrintLast Go.Proofs.YtpbcigilipdedaaW.PrintMore
set_option linter.unusedVariables false
set_option linter.unusedSimpArgs false
def Ev {α : Type} (F : Nat → Option α) (a : α) : Prop := ∃ k0, ∀ k, k0 ≤ k → F k = some a
section
variable {α β : Type} {F G : Nat → Option α} {a : α} {b : β}
theorem Ev.out (h : Ev F a) : ∃ k, F k = some a := by obtain ⟨k, h⟩ := h; exact ⟨k, h k (Nat.le_refl _)⟩
theorem Ev.const {x : Option α} (h : x = some a) : Ev (fun _ => x) a := ⟨0, fun _ _ => h⟩
theorem Ev.pure (a : α) : Ev (fun _ => some a) a := Ev.const rfl
theorem Ev.bind {H : Nat → α → Option β} (h : Ev F a) (g : Ev (fun k => H k a) b) : Ev (fun k => (F k).bind (H k)) b := by
  obtain ⟨k1, h1⟩ := h
  obtain ⟨k2, h2⟩ := g
  refine ⟨max k1 k2, fun k hk => ?_⟩
  show (F k).bind (H k) = some b
  rw [h1 k (by omega)]
  exact h2 k (by omega)
theorem Ev.step (h : ∀ k, F (k + 1) = G k) (g : Ev G a) : Ev F a := by
  obtain ⟨k1, h1⟩ := g
  refine ⟨k1 + 1, fun k hk => ?_⟩
  obtain ⟨m, rfl⟩ : ∃ m, k = m + 1 := ⟨k - 1, by omega⟩
  rw [h m]
  exact h1 m (by omega)
theorem Ev.eq (h : ∀ k, F k = G k) (g : Ev G a) : Ev F a := by
  obtain ⟨k1, h1⟩ := g
  exact ⟨k1, fun k hk => (h k).trans (h1 k hk)⟩
theorem Ev.Zcf {c : Prop} [Decidable c] (hc : c) (g : Ev F a) : Ev (fun k => if c then F k else G k) a := Ev.eq (fun k => if_pos hc) g
theorem Ev.Zd {c : Prop} [Decidable c] (hc : ¬ c) (g : Ev G a) : Ev (fun k => if c then F k else G k) a := Ev.eq (fun k => if_neg hc) g
theorem Ev.unique (h : Ev F a) {a' : α} (h' : Ev F a') : a = a' := by
  obtain ⟨k1, h1⟩ := h
  obtain ⟨k2, h2⟩ := h'
  exact Option.some.inj ((h1 (max k1 k2) (by omega)).symm.trans (h2 (max k1 k2) (by omega)))
end
theorem w64 {n : Int} (h1 : -9223372036854775808 ≤ n) (h2 : n ≤ 9223372036854775807) : wrap64 n = n := by unfold wrap64; omega
theorem w1 {n : Nat} (h : n < 4611686018427387904) : wrap64 ((n : Int) + 1) = ((n + 1 : Nat) : Int) := by rw [w64 (by omega) (by omega)]; omega
theorem Zcd (l : List Int) (n : Nat) (h : n < l.length) : rd l (n : Int) = l[n] := by simp [rd, List.getD_eq_getElem?_getD, List.getElem?_eq_getElem h]
abbrev SS (l : List Int) : Prop := List.Pairwise (fun a b : Int => a < b) l
theorem SS.ext : ∀ {l m : List Int}, SS l → SS m → (∀ x, x ∈ l ↔ x ∈ m) → l = m
  | [], [], _, _, _ => rfl
  | [], y :: m, _, _, h => absurd ((h y).2 List.mem_cons_self) (by simp)
  | x :: l, [], _, _, h => absurd ((h x).1 List.mem_cons_self) (by simp)
  | x :: l, y :: m, h1, h2, h => by
    obtain ⟨hx, hl⟩ := List.pairwise_cons.1 h1
    obtain ⟨hy, hm⟩ := List.pairwise_cons.1 h2
    have e : x = y := by
      rcases List.mem_cons.1 ((h x).1 List.mem_cons_self) with e | h3
      · exact e
      rcases List.mem_cons.1 ((h y).2 List.mem_cons_self) with e | h4
      · exact e.symm
      have := hy x h3; have := hx y h4; omega
    subst e
    congr 1
    refine SS.ext hl hm (fun z => ⟨fun hz => ?_, fun hz => ?_⟩)
    · rcases List.mem_cons.1 ((h z).1 (List.mem_cons_of_mem _ hz)) with e | h3
      · have := hx z hz; omega
      exact h3
    rcases List.mem_cons.1 ((h z).2 (List.mem_cons_of_mem _ hz)) with e | h3
    · have := hy z hz; omega
    exact h3
def insU (x : Int) : List Int → List Int
  | [] => [x]
  | y :: l => if x < y then x :: y :: l else if x = y then y :: l else y :: insU x l
theorem Zfs (x z : Int) : ∀ l, z ∈ insU x l ↔ z = x ∨ z ∈ l
  | [] => by simp [insU]
  | y :: l => by
    unfold insU
    split
    · simp
    split
    · rename_i h1 h2
      subst h2
      simp
    rw [List.mem_cons, Zfs x z l, List.mem_cons]
    constructor
    · rintro (h | h | h)
      · exact .inr (.inl h)
      · exact .inl h
      exact .inr (.inr h)
    rintro (h | h | h)
    · exact .inr (.inl h)
    · exact .inl h
    exact .inr (.inr h)
theorem insU_ss (x : Int) : ∀ l, SS l → SS (insU x l)
  | [], _ => by simp [insU]
  | y :: l, h => by
    obtain ⟨hy, hl⟩ := List.pairwise_cons.1 h
    unfold insU
    split
    · refine List.pairwise_cons.2 ⟨fun z hz => ?_, h⟩
      rcases List.mem_cons.1 hz with rfl | hz
      · assumption
      have := hy z hz; omega
    split
    · exact h
    refine List.pairwise_cons.2 ⟨fun z hz => ?_, insU_ss x l hl⟩
    rcases (Zfs x z l).1 hz with rfl | hz
    · omega
    exact hy z hz
def sd : List Int → List Int
  | [] => []
  | x :: l => insU x (sd l)
theorem Zdp (z : Int) : ∀ l, z ∈ sd l ↔ z ∈ l
  | [] => by simp [sd]
  | x :: l => by rw [sd, Zfs, Zdp z l, List.mem_cons]
theorem Zfp : ∀ l, SS (sd l)
  | [] => List.Pairwise.nil
  | x :: l => insU_ss x _ (Zfp l)
theorem sd_eq {l m : List Int} (hm : SS m) (h : ∀ x, x ∈ m ↔ x ∈ l) : sd l = m := SS.ext (Zfp l) hm (fun x => (Zdp x l).trans (h x).symm)
theorem sd_congr {l m : List Int} (h : ∀ x, x ∈ l ↔ x ∈ m) : sd l = sd m := sd_eq (Zfp m) (fun x => (Zdp x m).trans (h x).symm)
theorem Zeo (x : Int) : ∀ l, (insU x l).length ≤ l.length + 1
  | [] => by simp [insU]
  | y :: l => by
    unfold insU
    split
    · simp
    split
    · simp
    have := Zeo x l
    simp; omega
theorem Zeb : ∀ l, (sd l).length ≤ l.length
  | [] => by simp [sd]
  | x :: l => by
    have := Zeo x (sd l)
    have := Zeb l
    simp [sd]; omega
theorem Zfh {l : List Int} {i j : Nat} (h : SS l) (hi : i < l.length) (hj : j < l.length) (hij : i < j) : l[i] < l[j] := List.pairwise_iff_getElem.1 h i j hi hj hij
theorem ss_length {l : List Int} {a b : Int} (h : SS l) (hb : ∀ x ∈ l, a ≤ x ∧ x ≤ b) : (l.length : Int) ≤ max 0 (b + 1 - a) := by
  induction l generalizing a with
  | nil => simp; omega
  | cons x l ih =>
    obtain ⟨hx, hl⟩ := List.pairwise_cons.1 h
    have h1 := hb x List.mem_cons_self
    have := ih (a := x + 1) hl (fun y hy => ⟨by have := hx y hy; omega, (hb y (List.mem_cons_of_mem _ hy)).2⟩)
    simp
    omega
end Go.Proofs.Ytpbcigilipdedaa.P
/- Plain: lists of numbers, one ahead of another (as words in a book); lists of lists in order, each once. -/
namespace Go.Proofs.Ytpbcigilipdedaa.P
open Go.RowKit Go.Proofs.YtpbcigilipdedaaW.PrintWords Go.Proofs.YtpbcigilipdedaaW.PrintLast Go.Proofs.YtpbcigilipdedaaW.PrintMore
set_option linter.unusedVariables false
set_option linter.unusedSimpArgs false
def lexLt : List Int → List Int → Bool
  | _, [] => false
  | [], _ :: _ => true
  | x :: a, y :: b => decide (x < y) || (decide (x = y) && lexLt a b)
theorem Zcz : ∀ a, lexLt a a = false
  | [] => rfl
  | x :: a => by simp [lexLt, Zcz a]
theorem Zda : ∀ {a b c : List Int}, lexLt a b = true → lexLt b c = true → lexLt a c = true
  | _, [], _, h, _ => by simp [lexLt] at h
  | _, _ :: _, [], _, h => by simp [lexLt] at h
  | [], _ :: _, _ :: _, _, _ => rfl
  | x :: a, y :: b, z :: c, h, k => by
    simp only [lexLt, Bool.or_eq_true, Bool.and_eq_true, decide_eq_true_iff] at h k ⊢
    rcases h with h | ⟨rfl, h⟩
    · rcases k with k | ⟨rfl, k⟩
      · exact .inl (by omega)
      exact .inl h
    rcases k with k | ⟨rfl, k⟩
    · exact .inl k
    exact .inr ⟨rfl, Zda h k⟩
theorem Zdw : ∀ {a b : List Int}, a ≠ b → lexLt a b = true ∨ lexLt b a = true
  | [], [], h => absurd rfl h
  | [], _ :: _, _ => .inl rfl
  | _ :: _, [], _ => .inr rfl
  | x :: a, y :: b, h => by
    simp only [lexLt, Bool.or_eq_true, Bool.and_eq_true, decide_eq_true_iff]
    by_cases e : x = y
    rotate_left
    · by_cases hlt : x < y
      · exact .inl (.inl hlt)
      exact .inr (.inl (by omega))
    subst e
    have : a ≠ b := fun e => h (by rw [e])
    rcases Zdw this with k | k
    · exact .inl (.inr ⟨rfl, k⟩)
    exact .inr (.inr ⟨rfl, k⟩)
theorem Zf9 {a b : List Int} (h : lexLt a b = true) : lexLt b a = false := by
  cases hb : lexLt b a with
  | false => rfl
  | true =>
    have := Zda h hb
    rw [Zcz] at this
    cases this
def lexCmp (a b : List Int) : Int := if lexLt a b = true then -1 else if lexLt b a = true then 1 else 0
theorem lexCmp_zero {a b : List Int} : lexCmp a b = 0 ↔ a = b := by
  unfold lexCmp
  constructor
  · intro h
    by_cases e : a = b
    · exact e
    rcases Zdw e with k | k
    · rw [if_pos k] at h; omega
    rw [if_neg (by rw [Zf9 k]; simp), if_pos k] at h; omega
  rintro rfl
  rw [Zcz]
  rfl
theorem lexCmp_neg {a b : List Int} : lexCmp a b < 0 ↔ lexLt a b = true := by
  unfold lexCmp
  split
  · rename_i h; simp [h]
  rename_i h; split <;> simp [h]
abbrev SSL (l : List (List Int)) : Prop := List.Pairwise (fun a b => lexLt a b = true) l
theorem SSL.ext : ∀ {l m : List (List Int)}, SSL l → SSL m → (∀ x, x ∈ l ↔ x ∈ m) → l = m
  | [], [], _, _, _ => rfl
  | [], y :: m, _, _, h => absurd ((h y).2 List.mem_cons_self) (by simp)
  | x :: l, [], _, _, h => absurd ((h x).1 List.mem_cons_self) (by simp)
  | x :: l, y :: m, h1, h2, h => by
    obtain ⟨hx, hl⟩ := List.pairwise_cons.1 h1
    obtain ⟨hy, hm⟩ := List.pairwise_cons.1 h2
    have e : x = y := by
      rcases List.mem_cons.1 ((h x).1 List.mem_cons_self) with e | h3
      · exact e
      rcases List.mem_cons.1 ((h y).2 List.mem_cons_self) with e | h4
      · exact e.symm
      have a1 := Zf9 (hy x h3)
      rw [hx y h4] at a1
      cases a1
    subst e
    congr 1
    refine SSL.ext hl hm (fun z => ⟨fun hz => ?_, fun hz => ?_⟩)
    · rcases List.mem_cons.1 ((h z).1 (List.mem_cons_of_mem _ hz)) with e | h3
      · have := hx z hz; rw [e, Zcz] at this; cases this
      exact h3
    rcases List.mem_cons.1 ((h z).2 (List.mem_cons_of_mem _ hz)) with e | h3
    · have := hy z hz; rw [e, Zcz] at this; cases this
    exact h3
def insL (x : List Int) : List (List Int) → List (List Int)
  | [] => [x]
  | y :: l => if lexLt x y = true then x :: y :: l else if x = y then y :: l else y :: insL x l
theorem mem_insL (x z : List Int) : ∀ l, z ∈ insL x l ↔ z = x ∨ z ∈ l
  | [] => by simp [insL]
  | y :: l => by
    unfold insL
    split
    · simp
    split
    · rename_i h1 h2
      subst h2
      simp
    rw [List.mem_cons, mem_insL x z l, List.mem_cons]
    constructor
    · rintro (h | h | h)
      · exact .inr (.inl h)
      · exact .inl h
      exact .inr (.inr h)
    rintro (h | h | h)
    · exact .inr (.inl h)
    · exact .inl h
    exact .inr (.inr h)
theorem insL_ss (x : List Int) : ∀ l, SSL l → SSL (insL x l)
  | [], _ => by simp [insL]
  | y :: l, h => by
    obtain ⟨hy, hl⟩ := List.pairwise_cons.1 h
    unfold insL
    split
    · rename_i hlt
      refine List.pairwise_cons.2 ⟨fun z hz => ?_, h⟩
      rcases List.mem_cons.1 hz with rfl | hz
      · exact hlt
      exact Zda hlt (hy z hz)
    split
    · exact h
    rename_i h1 h2
    refine List.pairwise_cons.2 ⟨fun z hz => ?_, insL_ss x l hl⟩
    rcases (mem_insL x z l).1 hz with rfl | hz
    · exact (Zdw h2).resolve_left h1
    exact hy z hz
def sdL : List (List Int) → List (List Int)
  | [] => []
  | x :: l => insL x (sdL l)
theorem mem_sdL (z : List Int) : ∀ l, z ∈ sdL l ↔ z ∈ l
  | [] => by simp [sdL]
  | x :: l => by rw [sdL, mem_insL, mem_sdL z l, List.mem_cons]
theorem sdL_ss : ∀ l, SSL (sdL l)
  | [] => List.Pairwise.nil
  | x :: l => insL_ss x _ (sdL_ss l)
theorem sdL_eq {l m : List (List Int)} (hm : SSL m) (h : ∀ x, x ∈ m ↔ x ∈ l) : sdL l = m := SSL.ext (sdL_ss l) hm (fun x => (mem_sdL x l).trans (h x).symm)
theorem Zf6 (x : List Int) : ∀ l, (insL x l).length ≤ l.length + 1
  | [] => by simp [insL]
  | y :: l => by
    unfold insL
    split
    · simp
    split
    · simp
    have := Zf6 x l
    simp; omega
theorem Zgx : ∀ l, (sdL l).length ≤ l.length
  | [] => by simp [sdL]
  | x :: l => by
    have := Zf6 x (sdL l)
    have := Zgx l
    simp [sdL]; omega
def uniqL : List (List Int) → List (List Int)
  | [] => []
  | [x] => [x]
  | x :: y :: l => if x = y then uniqL (y :: l) else x :: uniqL (y :: l)
theorem lexCmp_nil (b : List Int) : lexCmp [] b = if b = [] then 0 else -1 := by
  cases b with
  | nil => rfl
  | cons y b => rfl
theorem lexCmp_nil' (a : List Int) : lexCmp a [] = if a = [] then 0 else 1 := by
  cases a with
  | nil => rfl
  | cons y b => rfl
theorem lexCmp_cons (x y : Int) (a b : List Int) : lexCmp (x :: a) (y :: b) = if x < y then -1 else if y < x then 1 else lexCmp a b := by
  unfold lexCmp
  simp only [lexLt]
  by_cases h1 : x < y
  · simp [h1]
  by_cases h2 : y < x
  rotate_left
  · have : x = y := by omega
    subst this
    simp
  have h3 : ¬ x = y := by omega
  simp [h1, h2, h3]
end Go.Proofs.Ytpbcigilipdedaa.P
namespace Go.Proofs.Ytpbcigilipdedaa.P
open Go.RowKit Go.Proofs.YtpbcigilipdedaaW.PrintWords Go.Proofs.YtpbcigilipdedaaW.PrintLast Go.Proofs.YtpbcigilipdedaaW.PrintMore
attribute [local go_sem] Zcg Zci Zcr Zcs Zb7 Zb8 Zch Zcj
set_option linter.unusedVariables false
set_option linter.unusedSimpArgs false
def cmp_isNaN_int.f (a0 : Int) : Option (Bool) := some (a0 != a0)
set_option maxHeartbeats 8000000 in
set_option maxRecDepth 100000 in
theorem cmp_isNaN_int.calls (a0 : Int) (r : Bool) (w : World) (h : cmp_isNaN_int.f a0 = some r) :
  Calls Try.prog 96 #[.int .i64 a0] w fun e w' => e = .returned (.bool r) ∧ Zb w w' := by
 have H : (some (a0 != a0)) = some r := h
 clear h
 obtain rfl := Option.some.inj H
 go_enter Try.func96, Try.ntmps96
 go_wp2
 go_ret
 exact ⟨by first | rfl | (simp; done) | (simp [*]; done), by repeat (first | exact Zb.refl _ | apply Zb.step)⟩
def cmp_Compare_int.f (a0 : Int) (a1 : Int) : Option (Int) := (cmp_isNaN_int.f a0).bind fun t356 => ((cmp_isNaN_int.f a1).bind fun t357 => (if t356 = true then (if t357 = true then (some 0) else (some (-1))) else (if t357 = true then (some 1) else (if a0 < a1 then (some (-1)) else (if a0 > a1 then (some 1) else (some 0))))))
set_option maxHeartbeats 8000000 in
set_option maxRecDepth 100000 in
theorem cmp_Compare_int.calls (a0 : Int) (a1 : Int) (r : Int) (w : World) (h : cmp_Compare_int.f a0 a1 = some r) :
  Calls Try.prog 79 #[.int .i64 a0, .int .i64 a1] w fun e w' => e = .returned (.int .i64 r) ∧ Zb w w' := by
 have H : ((cmp_isNaN_int.f a0).bind fun t356 => ((cmp_isNaN_int.f a1).bind fun t357 => (if t356 = true then (if t357 = true then (some 0) else (some (-1))) else (if t357 = true then (some 1) else (if a0 < a1 then (some (-1)) else (if a0 > a1 then (some 1) else (some 0))))))) = some r := h
 clear h
 replace H := Option.bind_eq_some_iff.mp H
 obtain ⟨t356, A30, H⟩ := H
 replace H : ((cmp_isNaN_int.f a1).bind fun t357 => (if t356 = true then (if t357 = true then (some 0) else (some (-1))) else (if t357 = true then (some 1) else (if a0 < a1 then (some (-1)) else (if a0 > a1 then (some 1) else (some 0)))))) = some r := H
 have A3 := Za.mk A30
 clear A30
 replace H := Option.bind_eq_some_iff.mp H
 obtain ⟨t357, A40, H⟩ := H
 replace H : (if t356 = true then (if t357 = true then (some 0) else (some (-1))) else (if t357 = true then (some 1) else (if a0 < a1 then (some (-1)) else (if a0 > a1 then (some 1) else (some 0))))) = some r := H
 have A4 := Za.mk A40
 clear A40
 by_cases c5 : t356 = true
 ·subst c5
  have H1 : (if t357 = true then (some 0) else (some (-1))) = some r := by rw [if_pos rfl] at H; exact H
  clear H
  have H := H1
  clear H1
  by_cases c6 : t357 = true
  ·subst c6
   have H1 : (some 0) = some r := by rw [if_pos rfl] at H; exact H
   clear H
   have H := H1
   clear H1
   obtain rfl := Option.some.inj H
   go_enter Try.func79, Try.ntmps79
   go_wp2_with (first | ((with_reducible refine Za2 (f := 96) rfl ?_); refine Zb0 (some 8) rfl rfl Try.func96 (by kernel_rfl) rfl #[.int .i64 a0] rfl (by (try simp only [List.map_toArray, List.map_cons, List.map_nil]); first | done | rfl | (simp only [List.length_drop, List.length_take]; rfl)) ?_; (with_reducible refine (cmp_isNaN_int.calls a0 true _ A3.out).mono ?_); rintro e w' ⟨rfl, ⟨nd, rfl⟩⟩; refine ⟨_, rfl, ?_⟩) | ((with_reducible refine Za2 (f := 96) rfl ?_); refine Zb0 (some 10) rfl rfl Try.func96 (by kernel_rfl) rfl #[.int .i64 a1] rfl (by (try simp only [List.map_toArray, List.map_cons, List.map_nil]); first | done | rfl | (simp only [List.length_drop, List.length_take]; rfl)) ?_; (with_reducible refine (cmp_isNaN_int.calls a1 true _ A4.out).mono ?_); rintro e w' ⟨rfl, ⟨nd, rfl⟩⟩; refine ⟨_, rfl, ?_⟩))
   go_ret
   exact ⟨by first | rfl | (simp; done) | (simp [*]; done), by repeat (first | exact Zb.refl _ | apply Zb.step)⟩
  replace c6 := Bool.eq_false_iff.mpr c6
  subst c6
  have H1 : (some (-1)) = some r := by rw [if_neg (show ¬ (false = true) by decide)] at H; exact H
  clear H
  have H := H1
  clear H1
  obtain rfl := Option.some.inj H
  go_enter Try.func79, Try.ntmps79
  go_wp2_with (first | ((with_reducible refine Za2 (f := 96) rfl ?_); refine Zb0 (some 8) rfl rfl Try.func96 (by kernel_rfl) rfl #[.int .i64 a0] rfl (by (try simp only [List.map_toArray, List.map_cons, List.map_nil]); first | done | rfl | (simp only [List.length_drop, List.length_take]; rfl)) ?_; (with_reducible refine (cmp_isNaN_int.calls a0 true _ A3.out).mono ?_); rintro e w' ⟨rfl, ⟨nd, rfl⟩⟩; refine ⟨_, rfl, ?_⟩) | ((with_reducible refine Za2 (f := 96) rfl ?_); refine Zb0 (some 10) rfl rfl Try.func96 (by kernel_rfl) rfl #[.int .i64 a1] rfl (by (try simp only [List.map_toArray, List.map_cons, List.map_nil]); first | done | rfl | (simp only [List.length_drop, List.length_take]; rfl)) ?_; (with_reducible refine (cmp_isNaN_int.calls a1 false _ A4.out).mono ?_); rintro e w' ⟨rfl, ⟨nd, rfl⟩⟩; refine ⟨_, rfl, ?_⟩))
  go_ret
  exact ⟨by first | rfl | (simp; done) | (simp [*]; done), by repeat (first | exact Zb.refl _ | apply Zb.step)⟩
 replace c5 := Bool.eq_false_iff.mpr c5
 subst c5
 have H1 : (if t357 = true then (some 1) else (if a0 < a1 then (some (-1)) else (if a0 > a1 then (some 1) else (some 0)))) = some r := by rw [if_neg (show ¬ (false = true) by decide)] at H; exact H
 clear H
 have H := H1
 clear H1
 by_cases c7 : t357 = true
 ·subst c7
  have H1 : (some 1) = some r := by rw [if_pos rfl] at H; exact H
  clear H
  have H := H1
  clear H1
  obtain rfl := Option.some.inj H
  go_enter Try.func79, Try.ntmps79
  go_wp2_with (first | ((with_reducible refine Za2 (f := 96) rfl ?_); refine Zb0 (some 8) rfl rfl Try.func96 (by kernel_rfl) rfl #[.int .i64 a0] rfl (by (try simp only [List.map_toArray, List.map_cons, List.map_nil]); first | done | rfl | (simp only [List.length_drop, List.length_take]; rfl)) ?_; (with_reducible refine (cmp_isNaN_int.calls a0 false _ A3.out).mono ?_); rintro e w' ⟨rfl, ⟨nd, rfl⟩⟩; refine ⟨_, rfl, ?_⟩) | ((with_reducible refine Za2 (f := 96) rfl ?_); refine Zb0 (some 10) rfl rfl Try.func96 (by kernel_rfl) rfl #[.int .i64 a1] rfl (by (try simp only [List.map_toArray, List.map_cons, List.map_nil]); first | done | rfl | (simp only [List.length_drop, List.length_take]; rfl)) ?_; (with_reducible refine (cmp_isNaN_int.calls a1 true _ A4.out).mono ?_); rintro e w' ⟨rfl, ⟨nd, rfl⟩⟩; refine ⟨_, rfl, ?_⟩))
  go_ret
  exact ⟨by first | rfl | (simp; done) | (simp [*]; done), by repeat (first | exact Zb.refl _ | apply Zb.step)⟩
 replace c7 := Bool.eq_false_iff.mpr c7
 subst c7
 have H1 : (if a0 < a1 then (some (-1)) else (if a0 > a1 then (some 1) else (some 0))) = some r := by rw [if_neg (show ¬ (false = true) by decide)] at H; exact H
 clear H
 have H := H1
 clear H1
 by_cases c8 : a0 < a1
 ·rw [if_pos c8] at H
  have c8b0 : decide (a0 < a1) = true := decide_eq_true c8
  clear c8
  obtain rfl := Option.some.inj H
  go_enter Try.func79, Try.ntmps79
  go_wp2_with (first | ((with_reducible refine Za2 (f := 96) rfl ?_); refine Zb0 (some 8) rfl rfl Try.func96 (by kernel_rfl) rfl #[.int .i64 a0] rfl (by (try simp only [List.map_toArray, List.map_cons, List.map_nil]); first | done | rfl | (simp only [List.length_drop, List.length_take]; rfl)) ?_; (with_reducible refine (cmp_isNaN_int.calls a0 false _ A3.out).mono ?_); rintro e w' ⟨rfl, ⟨nd, rfl⟩⟩; refine ⟨_, rfl, ?_⟩) | ((with_reducible refine Za2 (f := 96) rfl ?_); refine Zb0 (some 10) rfl rfl Try.func96 (by kernel_rfl) rfl #[.int .i64 a1] rfl (by (try simp only [List.map_toArray, List.map_cons, List.map_nil]); first | done | rfl | (simp only [List.length_drop, List.length_take]; rfl)) ?_; (with_reducible refine (cmp_isNaN_int.calls a1 false _ A4.out).mono ?_); rintro e w' ⟨rfl, ⟨nd, rfl⟩⟩; refine ⟨_, rfl, ?_⟩))
  go_ret
  exact ⟨by first | rfl | (simp; done) | (simp [*]; done), by repeat (first | exact Zb.refl _ | apply Zb.step)⟩
 rw [if_neg c8] at H
 have c8b0 : decide (a0 < a1) = false := decide_eq_false c8
 clear c8
 by_cases c9 : a0 > a1
 ·rw [if_pos c9] at H
  have c9b0 : decide (a1 < a0) = true := decide_eq_true c9
  clear c9
  obtain rfl := Option.some.inj H
  go_enter Try.func79, Try.ntmps79
  go_wp2_with (first | ((with_reducible refine Za2 (f := 96) rfl ?_); refine Zb0 (some 8) rfl rfl Try.func96 (by kernel_rfl) rfl #[.int .i64 a0] rfl (by (try simp only [List.map_toArray, List.map_cons, List.map_nil]); first | done | rfl | (simp only [List.length_drop, List.length_take]; rfl)) ?_; (with_reducible refine (cmp_isNaN_int.calls a0 false _ A3.out).mono ?_); rintro e w' ⟨rfl, ⟨nd, rfl⟩⟩; refine ⟨_, rfl, ?_⟩) | ((with_reducible refine Za2 (f := 96) rfl ?_); refine Zb0 (some 10) rfl rfl Try.func96 (by kernel_rfl) rfl #[.int .i64 a1] rfl (by (try simp only [List.map_toArray, List.map_cons, List.map_nil]); first | done | rfl | (simp only [List.length_drop, List.length_take]; rfl)) ?_; (with_reducible refine (cmp_isNaN_int.calls a1 false _ A4.out).mono ?_); rintro e w' ⟨rfl, ⟨nd, rfl⟩⟩; refine ⟨_, rfl, ?_⟩))
  go_ret
  exact ⟨by first | rfl | (simp; done) | (simp [*]; done), by repeat (first | exact Zb.refl _ | apply Zb.step)⟩
 rw [if_neg c9] at H
 have c9b0 : decide (a1 < a0) = false := decide_eq_false c9
 clear c9
 obtain rfl := Option.some.inj H
 go_enter Try.func79, Try.ntmps79
 go_wp2_with (first | ((with_reducible refine Za2 (f := 96) rfl ?_); refine Zb0 (some 8) rfl rfl Try.func96 (by kernel_rfl) rfl #[.int .i64 a0] rfl (by (try simp only [List.map_toArray, List.map_cons, List.map_nil]); first | done | rfl | (simp only [List.length_drop, List.length_take]; rfl)) ?_; (with_reducible refine (cmp_isNaN_int.calls a0 false _ A3.out).mono ?_); rintro e w' ⟨rfl, ⟨nd, rfl⟩⟩; refine ⟨_, rfl, ?_⟩) | ((with_reducible refine Za2 (f := 96) rfl ?_); refine Zb0 (some 10) rfl rfl Try.func96 (by kernel_rfl) rfl #[.int .i64 a1] rfl (by (try simp only [List.map_toArray, List.map_cons, List.map_nil]); first | done | rfl | (simp only [List.length_drop, List.length_take]; rfl)) ?_; (with_reducible refine (cmp_isNaN_int.calls a1 false _ A4.out).mono ?_); rintro e w' ⟨rfl, ⟨nd, rfl⟩⟩; refine ⟨_, rfl, ?_⟩))
 go_ret
 exact ⟨by first | rfl | (simp; done) | (simp [*]; done), by repeat (first | exact Zb.refl _ | apply Zb.step)⟩
def Zbk.l0 : Nat → List Int → List Int → List Int → Int → Int → Option (Int)
 | 0, _, _, _, _, _ => none
 | k + 1, x0, x1, x9, x10, x11 => if x11 < x10 then (if 0 ≤ x11 then (if x11 < (x9.length : Int) then (if x11 ≥ (x1.length : Int) then (some 1) else (if x11 < (x1.length : Int) then ((cmp_Compare_int.f (rd x9 x11) (rd x1 x11)).bind fun t360 => (if t360 = 0 then (Zbk.l0 k x0 x1 x9 x10 (wrap64 (x11 + 1))) else (some t360))) else (none))) else (none)) else (none)) else (if (x0.length : Int) < (x1.length : Int) then (some (-1)) else (some 0))
def Zbk.f (k : Nat) (l0 : List Int) (l1 : List Int) : Option (Int) := Zbk.l0 k l0 l1 l0 (l0.length : Int) 0
set_option maxHeartbeats 8000000 in
set_option maxRecDepth 100000 in
theorem Zbk.calls (k : Nat) (A0 : Option Addr) (c0 : Nat) (l0 : List Int) (A1 : Option Addr) (c1 : Nat) (l1 : List Int) (r : Int) (w : World) (hr0 : Kd.C (Kd.int .i64) w A0 l0.length l0) (hc0 : l0.length ≤ c0) (hr1 : Kd.C (Kd.int .i64) w A1 l1.length l1) (hc1 : l1.length ≤ c1) (h : Zbk.f k l0 l1 = some r) :
  Calls Try.prog 48 #[.slice A0 l0.length c0, .slice A1 l1.length c1] w fun e w' => e = .returned (.int .i64 r) ∧ Zb w w' := by
 have HR0 := Za.mk hr0
 have HC0 := Za.mk hc0
 clear hr0 hc0
 have HR1 := Za.mk hr1
 have HC1 := Za.mk hc1
 clear hr1 hc1
 have H : (Zbk.l0 k l0 l1 l0 (l0.length : Int) 0) = some r := h
 clear h
 have H' := Za.mk H
 clear H
 go_enter Try.func48, Try.ntmps48
 go_wp2
 go_loopg [11] k (fun kq v11 w' => ∃ (x11_1 : Int), v11 = .int .i64 x11_1 ∧ Za (Zbk.l0 kq l0 l1 l0 (l0.length : Int) x11_1 = some r) ∧ Za (kq ≤ k) ∧ Zb w w')
 case atStart => exact ⟨(0), (by first | rfl | (simp; done) | (simp [*]; done)), H', ⟨Nat.le_refl _⟩, by repeat (first | exact Zb.refl _ | apply Zb.step)⟩
 case round =>
  clear H'
  try clear c1
  try clear p2
  obtain ⟨x11_1, rfl, HA, HK1, ⟨m1, rfl⟩⟩ := hrel
  cases gk with
  | zero => exact absurd HA.out (by simp [Zbk.l0])
  | succ k1 =>
   have H := HA.out
   clear HA
   simp only [Zbk.l0] at H
   by_cases c3 : x11_1 < (l0.length : Int)
   rotate_left
   ·rw [if_neg c3] at H
    have c3b0 : decide (x11_1 < (l0.length : Int)) = false := decide_eq_false c3
    clear c3
    by_cases c10 : (l0.length : Int) < (l1.length : Int)
    ·rw [if_pos c10] at H
     have c10b0 : decide ((l0.length : Int) < (l1.length : Int)) = true := decide_eq_true c10
     have c10b1 : decide (l0.length < l1.length) = true := decide_eq_true (Int.ofNat_lt.mp c10)
     clear c10
     obtain rfl := Option.some.inj H
     go_wp2
     go_ret
     exact ⟨by first | rfl | (simp; done) | (simp [*]; done), by repeat (first | exact Zb.refl _ | apply Zb.step)⟩
    rw [if_neg c10] at H
    have c10b0 : decide ((l0.length : Int) < (l1.length : Int)) = false := decide_eq_false c10
    have c10b1 : decide (l0.length < l1.length) = false := decide_eq_false (fun h => c10 (Int.ofNat_lt.mpr h))
    clear c10
    obtain rfl := Option.some.inj H
    go_wp2
    go_ret
    exact ⟨by first | rfl | (simp; done) | (simp [*]; done), by repeat (first | exact Zb.refl _ | apply Zb.step)⟩
   rw [if_pos c3] at H
   have c3b0 : decide (x11_1 < (l0.length : Int)) = true := decide_eq_true c3
   clear c3
   by_cases c4 : 0 ≤ x11_1
   rotate_left
   ·rw [if_neg c4] at H
    exact absurd H (by simp)
   rw [if_pos c4] at H
   have c4b0 : decide (0 ≤ x11_1) = true := decide_eq_true c4
   clear c4
   by_cases c5 : x11_1 < (l0.length : Int)
   rotate_left
   ·rw [if_neg c5] at H
    exact absurd H (by simp)
   rw [if_pos c5] at H
   have c5b0 : decide (x11_1 < (l0.length : Int)) = true := decide_eq_true c5
   clear c5
   by_cases c6 : x11_1 ≥ (l1.length : Int)
   ·rw [if_pos c6] at H
    have c6b0 : decide ((l1.length : Int) ≤ x11_1) = true := decide_eq_true c6
    clear c6
    obtain rfl := Option.some.inj H
    have p358 : 0 ≤ (x11_1 : Int) := of_decide_eq_true (by first | (with_reducible assumption) | assumption)
    have q358 : x11_1 < (l0.length : Int) := of_decide_eq_true (by first | (with_reducible assumption) | assumption)
    obtain ⟨ad358, e358, hx358_0⟩ := Kd.Zby HR0.out x11_1 p358 q358
    cases e358
    replace p358 := eq_true p358
    replace q358 := eq_true q358
    go_wp2
    go_ret
    exact ⟨by first | rfl | (simp; done) | (simp [*]; done), by repeat (first | exact Zb.refl _ | apply Zb.step)⟩
   rw [if_neg c6] at H
   have c6b0 : decide ((l1.length : Int) ≤ x11_1) = false := decide_eq_false c6
   clear c6
   by_cases c7 : x11_1 < (l1.length : Int)
   rotate_left
   ·rw [if_neg c7] at H
    exact absurd H (by simp)
   rw [if_pos c7] at H
   have c7b0 : decide (x11_1 < (l1.length : Int)) = true := decide_eq_true c7
   clear c7
   replace H := Option.bind_eq_some_iff.mp H
   obtain ⟨t360, A80, H⟩ := H
   replace H : (if t360 = 0 then (Zbk.l0 k1 l0 l1 l0 (l0.length : Int) (wrap64 (x11_1 + 1))) else (some t360)) = some r := H
   have A8 := Za.mk A80
   clear A80
   by_cases c9 : t360 = 0
   rotate_left
   ·rw [if_neg c9] at H
    have c9b0 : (t360 == 0) = false := beq_eq_false_iff_ne.mpr c9
    have c9b1 : (t360 != 0) = true := bne_iff_ne.mpr c9
    obtain rfl := Option.some.inj H
    have p358 : 0 ≤ (x11_1 : Int) := of_decide_eq_true (by first | (with_reducible assumption) | assumption)
    have q358 : x11_1 < (l0.length : Int) := of_decide_eq_true (by first | (with_reducible assumption) | assumption)
    obtain ⟨ad358, e358, hx358_0⟩ := Kd.Zby HR0.out x11_1 p358 q358
    cases e358
    replace p358 := eq_true p358
    replace q358 := eq_true q358
    have p359 : 0 ≤ (x11_1 : Int) := of_decide_eq_true (by first | (with_reducible assumption) | assumption)
    have q359 : x11_1 < (l1.length : Int) := of_decide_eq_true (by first | (with_reducible assumption) | assumption)
    obtain ⟨ad359, e359, hx359_0⟩ := Kd.Zby HR1.out x11_1 p359 q359
    cases e359
    replace p359 := eq_true p359
    replace q359 := eq_true q359
    go_wp2_with (first | ((with_reducible refine Za2 (f := 79) rfl ?_); refine Zb0 (some 26) rfl rfl Try.func79 (by kernel_rfl) rfl #[.int .i64 (rd l0 x11_1), .int .i64 (rd l1 x11_1)] rfl (by (try simp only [List.map_toArray, List.map_cons, List.map_nil]); first | done | rfl | (simp only [List.length_drop, List.length_take]; rfl)) ?_; (with_reducible refine (cmp_Compare_int.calls (rd l0 x11_1) (rd l1 x11_1) t360 _ A8.out).mono ?_); rintro e w' ⟨rfl, ⟨nd, rfl⟩⟩; refine ⟨_, rfl, ?_⟩))
    go_ret
    exact ⟨by first | rfl | (simp; done) | (simp [*]; done), by repeat (first | exact Zb.refl _ | apply Zb.step)⟩
   rw [if_pos c9] at H
   have c9b0 : (t360 == 0) = true := beq_iff_eq.mpr c9
   have c9b1 : (t360 != 0) = false := bne_eq_false_iff_eq.mpr c9
   clear c9
   have H' := Za.mk H
   clear H
   have p358 : 0 ≤ (x11_1 : Int) := of_decide_eq_true (by first | (with_reducible assumption) | assumption)
   have q358 : x11_1 < (l0.length : Int) := of_decide_eq_true (by first | (with_reducible assumption) | assumption)
   obtain ⟨ad358, e358, hx358_0⟩ := Kd.Zby HR0.out x11_1 p358 q358
   cases e358
   replace p358 := eq_true p358
   replace q358 := eq_true q358
   have p359 : 0 ≤ (x11_1 : Int) := of_decide_eq_true (by first | (with_reducible assumption) | assumption)
   have q359 : x11_1 < (l1.length : Int) := of_decide_eq_true (by first | (with_reducible assumption) | assumption)
   obtain ⟨ad359, e359, hx359_0⟩ := Kd.Zby HR1.out x11_1 p359 q359
   cases e359
   replace p359 := eq_true p359
   replace q359 := eq_true q359
   go_wp2_with (first | ((with_reducible refine Za2 (f := 79) rfl ?_); refine Zb0 (some 26) rfl rfl Try.func79 (by kernel_rfl) rfl #[.int .i64 (rd l0 x11_1), .int .i64 (rd l1 x11_1)] rfl (by (try simp only [List.map_toArray, List.map_cons, List.map_nil]); first | done | rfl | (simp only [List.length_drop, List.length_take]; rfl)) ?_; (with_reducible refine (cmp_Compare_int.calls (rd l0 x11_1) (rd l1 x11_1) t360 _ A8.out).mono ?_); rintro e w' ⟨rfl, ⟨nd, rfl⟩⟩; refine ⟨_, rfl, ?_⟩))
   go_roundg k1
   case measure => have := HK1.out; omega
   case rel => exact ⟨(wrap64 (x11_1 + 1)), (by first | rfl | (simp; done) | (simp [*]; done)), H', ⟨by have := HK1.out; omega⟩, by repeat (first | exact Zb.refl _ | apply Zb.step)⟩
end Go.Proofs.Ytpbcigilipdedaa.P
/- slices.Compare of whole numbers: what stands ahead. -/
namespace Go.Proofs.Ytpbcigilipdedaa.P
open Go.RowKit Go.Proofs.YtpbcigilipdedaaW.PrintWords Go.Proofs.YtpbcigilipdedaaW.PrintLast Go.Proofs.YtpbcigilipdedaaW.PrintMore
set_option linter.unusedVariables false
set_option linter.unusedSimpArgs false
theorem cmp_f (x y : Int) : cmp_Compare_int.f x y = some (if x < y then -1 else if y < x then 1 else 0) := by
  unfold cmp_Compare_int.f
  simp only [cmp_isNaN_int.f]
  by_cases h1 : x < y
  · simp [h1]
  by_cases h2 : y < x
  · simp [h1, h2]
  have : x = y := by omega
  subst this
  simp
theorem compare_l0 (a b : List Int) (ha : a.length ≤ 9223372036854775807) (hb : b.length ≤ 9223372036854775807) : ∀ (m n : Nat), n + m = a.length → n ≤ b.length → Ev (fun k => Zbk.l0 k a b a (a.length : Int) (n : Int)) (lexCmp (a.drop n) (b.drop n)) := by
  have hend : ∀ n, n = a.length → n ≤ b.length → (if (a.length : Int) < (b.length : Int) then some (-1 : Int) else some 0) = some (lexCmp (a.drop n) (b.drop n)) → True := fun _ _ _ _ => trivial
  intro m
  induction m with
  | zero =>
    intro n h hn
    rw [List.drop_of_length_le (by omega), lexCmp_nil]
    by_cases hlt : a.length < b.length
    rotate_left
    · refine Ev.step (fun k => by rw [Zbk.l0, if_neg (by omega), if_neg (by omega)]) ?_
      rw [List.drop_of_length_le (by omega)]
      exact Ev.pure _
    refine Ev.step (fun k => by rw [Zbk.l0, if_neg (by omega), if_pos (by omega)]) ?_
    rw [if_neg (by intro e; have := congrArg List.length e; simp at this; omega)]
    exact Ev.pure _
  | succ m ih =>
    intro n h hn
    have hna : n < a.length := by omega
    by_cases hnb : n < b.length
    rotate_left
    · rw [List.drop_of_length_le (show b.length ≤ n by omega), lexCmp_nil', if_neg (by intro e; have := congrArg List.length e; simp at this; omega)]
      refine Ev.step (fun k => by rw [Zbk.l0, if_pos (by omega), if_pos (by omega), if_pos (by omega), if_pos (by omega)]) (Ev.pure _)
    rw [List.drop_eq_getElem_cons hna, List.drop_eq_getElem_cons hnb, lexCmp_cons]
    have h1 : wrap64 ((n : Int) + 1) = ((n + 1 : Nat) : Int) := by rw [w64 (by omega) (by omega)]; omega
    refine Ev.step (fun k => by rw [Zbk.l0, if_pos (by omega), if_pos (by omega), if_pos (by omega), if_neg (by omega), if_pos (by omega), Zcd a n hna, Zcd b n hnb, cmp_f, Option.bind_some, h1]) ?_
    by_cases c1 : a[n] < b[n]
    · simp only [if_pos c1]
      exact Ev.pure _
    by_cases c2 : b[n] < a[n]
    · simp only [if_neg c1, if_pos c2]
      exact Ev.pure _
    simp only [if_neg c1, if_neg c2]
    exact ih (n + 1) (by omega) (by omega)
theorem compare_ev (a b : List Int) (ha : a.length ≤ 9223372036854775807) (hb : b.length ≤ 9223372036854775807) : Ev (fun k => Zbk.f k a b) (lexCmp a b) :=
  compare_l0 a b ha hb a.length 0 (by omega) (by omega)
theorem compareL (A0 : Option Addr) (c0 : Nat) (l0 : List Int) (A1 : Option Addr) (c1 : Nat) (l1 : List Int) (w : World) (hr0 : Kd.C (Kd.int .i64) w A0 l0.length l0) (hc0 : l0.length ≤ c0) (hr1 : Kd.C (Kd.int .i64) w A1 l1.length l1) (hc1 : l1.length ≤ c1) :
    Calls Try.prog 48 #[.slice A0 l0.length c0, .slice A1 l1.length c1] w fun e w' => e = .returned (.int .i64 (lexCmp l0 l1)) ∧ Zb w w' := by
  obtain ⟨k, hk⟩ := (compare_ev l0 l1 hr0.2.1 hr1.2.1).out
  exact Zbk.calls k A0 c0 l0 A1 c1 l1 _ w hr0 hc0 hr1 hc1 hk
end Go.Proofs.Ytpbcigilipdedaa.P
/- slices.CompactFunc of lists of whole numbers (rows): what stands behind an equal one goes. Turned from the library's text for slices.Compact and slices.DeleteFunc. -/
namespace Go.Proofs.Ytpbcigilipdedaa.P
open Go.RowKit Go.Shelf Go.Lib Go.Sort Go.Proofs.YtpbcigilipdedaaW.PrintWords Go.Proofs.YtpbcigilipdedaaW.PrintLast Go.Proofs.YtpbcigilipdedaaW.PrintMore
set_option linter.unusedVariables false
set_option linter.unusedSimpArgs false
theorem store_world_l {α : Type} [Inhabited α] (enc : α → Value) {w wr : World} {n m blk off : Nat} {dk : Array α} {i : Nat} (hi : i < dk.size) (hwr : wr = putRow enc (Sort.ahead w n) blk off dk) (x : α) :
    (wr.drewN m).setCell ⟨blk, off + i, none⟩ (enc x) = putRow enc (Sort.ahead w (n + m)) blk off (dk.setIfInBounds i x) := by
  subst hwr
  rw [show (putRow enc (Sort.ahead w n) blk off dk).drewN m = putRow enc (Sort.ahead w (n + m)) blk off dk from putRow_drewN _ _ _ _ _ _ _, putRow_set enc _ blk off dk i x hi]
def stayL {α : Type} [Inhabited α] (eqb : α → α → Bool) (d : Array α) (j : Nat) : Bool := decide (j = 0) || !eqb d[j]! d[j - 1]!
theorem w64' {n : Int} (h1 : -9223372036854775808 ≤ n) (h2 : n ≤ 9223372036854775807) : wrap64 n = n := by unfold wrap64; omega
theorem stayL_lt {α : Type} [Inhabited α] (eqb : α → α → Bool) (d : Array α) : ∀ j, j < 1 → stayL eqb d j = true := fun j hj => by
  obtain rfl : j = 0 := by omega
  rfl
theorem stayL_yes {α : Type} [Inhabited α] {eqb : α → α → Bool} {d : Array α} {j : Nat} (h : eqb d[j]! d[j - 1]! = false) : stayL eqb d j = true := by simp [stayL, h]
theorem stayL_no {α : Type} [Inhabited α] {eqb : α → α → Bool} {d : Array α} {j : Nat} (hj : 0 < j) (h : eqb d[j]! d[j - 1]! = true) : stayL eqb d j = false := by
  simp [stayL, h]
  omega
set_option maxHeartbeats 8000000 in
set_option maxRecDepth 1000000 in
theorem compactL_ {α : Type} [Inhabited α] (enc : α → Value) (hO : OneCell enc) (eqb : α → α → Bool) (g : Nat) (lb : Array Value) (eg : ∀ args w, (callFunc g args).run Try.prog w = .ok (.enter g args) w) (zr : α) (hz : enc zr = .slice none 0 0)
    (blk cap : Nat) (d : Array α) (w : World) (hH : Holds enc w blk 0 d)
    (hC : ∀ (q : Nat) (dk : Array α) (x y : α), dk.size = d.size → Calls Try.prog g (#[enc x, enc y] ++ lb) (putRow enc (Sort.ahead w q) blk 0 dk) fun e w' => e = .returned (.bool (eqb x y)) ∧ ∃ q', w' = (putRow enc (Sort.ahead w q) blk 0 dk).drewN q')
    (hsz : d.size ≤ 9223372036854775807) (hcap : d.size ≤ cap) (kp : Nat → Bool) (HK : Hid (kp = stayL eqb d)) :
    Calls Try.prog 77 #[.slice (some ⟨blk, 0, none⟩) d.size cap, .func (.func g) #[] lb] w fun e w' => e = .returned (.slice (some ⟨blk, 0, none⟩) (keptUpTo kp d d.size).length cap) ∧
      ∃ q, w' = putRow enc (Sort.ahead w q) blk 0 (keptUpTo kp d d.size ++ List.replicate (d.size - (keptUpTo kp d d.size).length) zr).toArray := by
  have hcl0 := hO.cells
  simp only [Value.cells] at hcl0
  have hst := hO.store Try.prog
  have hC0 : ∀ (q : Nat) (x y : α), Calls Try.prog g (#[enc x, enc y] ++ lb) (w.drewN q) fun e w' => e = .returned (.bool (eqb x y)) ∧ ∃ q', w' = (w.drewN q).drewN q' := fun q x y => by
    have := hC q d x y rfl
    rwa [show putRow enc (Sort.ahead w q) blk 0 d = w.drewN q from putRow_self enc (Sort.ahead w q) blk 0 d (holds_ahead enc w q blk 0 d hH)] at this
  have HS : Aside (∀ q, (∀ j, j < d.size → kp j = true) → (keptUpTo kp d d.size).length = d.size ∧ w.drewN q = putRow enc (Sort.ahead w q) blk 0 (keptUpTo kp d d.size ++ List.replicate (d.size - (keptUpTo kp d d.size).length) zr).toArray) := by
    intro q hall
    have e : keptUpTo kp d d.size = d.toList := by rw [keptUpTo_all kp d _ hall, range_map_get]
    rw [e]
    refine ⟨by simp, ?_⟩
    simp only [Array.length_toList, Nat.sub_self, List.replicate_zero, List.append_nil, Array.toArray_toList]
    exact (putRow_self enc (Sort.ahead w q) blk 0 d (holds_ahead enc w q blk 0 d hH)).symm
  have HC : Aside _ := hC
  have HC0 : Aside _ := hC0
  clear hC hC0
  have KY : Aside (∀ j, eqb d[j]! d[j - 1]! = false → kp j = true) := fun j h => by rw [HK.out]; exact stayL_yes h
  have KN : Aside (∀ j, 0 < j → eqb d[j]! d[j - 1]! = true → kp j = false) := fun j hj h => by rw [HK.out]; exact stayL_no hj h
  have K1 : Aside (∀ j, j < 1 → kp j = true) := fun j hj => by rw [HK.out]; exact stayL_lt eqb d j hj
  by_cases h2 : d.size < 2
  · clear hH
    have hs2 : decide ((d.size : Int) < 2) = true := decide_eq_true (by omega)
    go_enter Try.func77, Try.ntmps77
    go_wp2
    go_ret
    obtain ⟨e1, e2⟩ := HS.out 0 (fun j hj => K1.out j (by omega))
    exact ⟨by rw [e1]; rfl, 0, e2⟩
  have hs2 : decide ((d.size : Int) < 2) = false := decide_eq_false (by omega)
  go_enter Try.func77, Try.ntmps77
  go_wp2
  go_loopg [5] d.size (fun gg s5 wr => ∃ k q : Nat, 1 ≤ k ∧ k ≤ d.size ∧ d.size - k ≤ gg ∧ s5 = .int .i64 k ∧ wr = w.drewN q ∧ Aside (∀ j, j < k → kp j = true))
  case atStart => exact ⟨1, 0, Nat.le_refl _, by omega, by omega, rfl, rfl, K1⟩
  case round =>
    obtain ⟨k, q, hk1, hk, hg, rfl, rfl, A⟩ := hrel
    by_cases hlt : k < d.size
    rotate_left
    · have : k = d.size := by omega
      subst this
      clear hH
      go_wp2
      go_ret
      obtain ⟨e1, e2⟩ := HS.out q A.out
      exact ⟨by rw [e1]; rfl, q, e2⟩
    obtain ⟨p, hp⟩ : ∃ p, p = k - 1 := ⟨_, rfl⟩
    have hp1 : p < d.size := by omega
    have hp2 : (p : Int) < (d.size : Int) := by omega
    obtain ⟨c1, f1⟩ := hH k hlt
    obtain ⟨c0, f0⟩ := hH p (by omega)
    have HH : Aside (Holds enc w blk 0 d) := hH
    clear hH
    generalize hx : d[k]! = x at c1
    generalize hy : d[p]! = y at c0
    have B : Aside (d[k]! = x ∧ d[k - 1]! = y) := ⟨hx, by rw [← hp]; exact hy⟩
    have hw : IntKind.i64.wrap ((k : Int) - 1) = (p : Int) := by rw [Za4, w64' (by omega) (by omega)]; omega
    have HP : Aside (p = k - 1) := hp
    clear hp
    clear hx hy
    have hcall : ∀ n, Calls Try.prog g (#[enc x, enc y] ++ lb) (w.drewN (q + n)) fun e w' => e = .returned (.bool (eqb x y)) ∧ ∃ q', w' = w.drewN (q + q') := fun n => (HC0.out (q + n) x y).mono fun _ _ ⟨he, q', hq⟩ => ⟨he, n + q', by rw [hq, World.drewN_drewN, Nat.add_assoc]⟩
    have HCC : Aside _ := hcall
    clear hcall
    rw [Nat.zero_add] at c0 c1
    cases hdup : eqb x y with
    | true =>
      have D : Aside (eqb x y = true) := hdup
      have hcall := HCC.out
      rw [hdup] at hcall
      have HCC : Aside _ := hcall
      clear hdup hcall
      go_wp2_with (fail)
      go_quiet (first | exact HCC.out _)
      go_wp2
      clear c0 c1 f0 f1 HCC
      go_loopg [5, 7] d.size (fun gg s5 s7 wr => ∃ (kk k2 q2 : Nat) (dk : Array α), s5 = .int .i64 kk ∧ s7 = .int .i64 k2 ∧ 1 ≤ k2 ∧ k + k2 ≤ d.size ∧ d.size - (k + k2) ≤ gg ∧ wr = putRow enc (Sort.ahead w q2) blk 0 dk ∧ Aside (KeptInv kp d (k + k2) kk dk))
      case atStart => exact ⟨k, 1, _, d, rfl, rfl, Nat.le_refl _, by omega, by omega, (putRow_self enc (Sort.ahead w _) blk 0 d (holds_ahead enc w _ blk 0 d HH.out)).symm, KeptInv.start A.out (KN.out k hk1 (by rw [B.out.1, B.out.2]; exact D.out))⟩
      case round =>
        obtain ⟨kk, k2, q2, dk, rfl, rfl, h1, hle, hg2, hwr, I2⟩ := hrel
        have hkk := I2.out.lt
        have hds := I2.out.size
        have hHk : Holds enc wr blk 0 dk := by rw [hwr]; exact holds_putRow enc _ blk 0 d dk (holds_ahead enc w q2 blk 0 d HH.out) hds
        have W2 : Aside (wr = putRow enc (Sort.ahead w q2) blk 0 dk) := hwr
        clear hwr
        by_cases hlt2 : k + k2 < d.size
        rotate_left
        · have hend : k + k2 = d.size := by omega
          have hcl : ∀ ty, (Builtin.clear_ #[22] ty #[.slice (some ⟨blk, kk, none⟩) (d.size - kk) (cap - kk)]).run Try.prog wr = .ok (.tuple #[]) (wr.setCells blk kk (List.replicate (d.size - kk) (enc zr))) :=
            fun ty => Lib.run_clear_slice wr _ _ ty _ Try.underlying22 (by rw [hz]; exact Try.zeroValue23) (hO.cells zr) (hO zr) blk kk _ _ (by omega) (fun j hj => by rw [show kk + j = 0 + (kk + j) by omega, (hHk (kk + j) (by omega)).1]; rfl) (fun j hj => by rw [show kk + j = 0 + (kk + j) by omega]; exact (hHk (kk + j) (by omega)).2)
          clear hHk
          go_wp2
          go_ret
          have hI := I2.out
          rw [hend] at hI
          refine ⟨by rw [hI.len]; rfl, q2, ?_⟩
          have h3 := putRow_setCells enc (Sort.ahead w q2) blk 0 (List.replicate (d.size - kk) zr) dk kk (by simp; omega)
          rw [Nat.zero_add] at h3
          rw [hI.len, ← hI.done zr, ← h3, ← W2.out, List.map_replicate, hz]
        obtain ⟨p2, hp2⟩ : ∃ p2, k2 = p2 + 1 := ⟨k2 - 1, by omega⟩
        obtain ⟨cm, _⟩ := hHk (k + k2) (by omega)
        obtain ⟨cp, _⟩ := hHk (k + p2) (by omega)
        obtain ⟨ck, fk⟩ := hHk kk (by omega)
        rw [I2.out.high (k + k2) (by omega), Nat.zero_add] at cm
        rw [I2.out.high (k + p2) (by omega), Nat.zero_add] at cp
        rw [Nat.zero_add] at ck fk
        have hq1 : (p2 : Int) < ((d.size - k : Nat) : Int) := by omega
        have hq2 : (k2 : Int) < ((d.size - k : Nat) : Int) := by omega
        have hq3 : IntKind.i64.wrap ((k2 : Int) - 1) = (p2 : Int) := by rw [Za4, w64' (by omega) (by omega)]; omega
        clear hHk
        generalize hu : d[k + k2]! = u at cm
        generalize hv : d[k + p2]! = v at cp
        generalize dk[kk]! = old at ck
        have C : Aside (d[k + k2]! = u ∧ d[k + k2 - 1]! = v) := ⟨hu, by rw [show k + k2 - 1 = k + p2 by omega]; exact hv⟩
        have HP2 : Aside (k2 = p2 + 1) := hp2
        have hlt3 := Za.mk hlt2
        have hcall : ∀ n, Calls Try.prog g (#[enc u, enc v] ++ lb) (wr.drewN n) fun e w' => e = .returned (.bool (eqb u v)) ∧ ∃ q', w' = wr.drewN q' := fun n => by
          have h := HC.out (q2 + n) dk u v hds
          rw [← show (putRow enc (Sort.ahead w q2) blk 0 dk).drewN n = putRow enc (Sort.ahead w (q2 + n)) blk 0 dk from putRow_drewN _ _ _ _ _ _ _, ← W2.out] at h
          exact h.mono fun _ _ ⟨he, q', hq⟩ => ⟨he, n + q', by rw [hq, World.drewN_drewN]⟩
        clear hu hv hp2
        cases huv : eqb u v with
        | true =>
          have E : Aside (eqb u v = true) := huv
          rw [huv] at hcall
          have HCC : Aside _ := hcall
          clear huv hcall
          go_wp2_with (fail)
          go_quiet (first | exact HCC.out _)
          go_wp2
          go_roundg (d.size - (k + (k2 + 1)))
          case measure => omega
          case rel => exact ⟨kk, k2 + 1, q2 + nq, dk, rfl, by go_num, by omega, by omega, Nat.le_refl _, by rw [W2.out]; exact putRow_drewN _ _ _ _ _ _ _, I2.out.skip (KN.out _ (by omega) (by rw [C.out.1, C.out.2]; exact E.out))⟩
        | false =>
          have E : Aside (eqb u v = false) := huv
          rw [huv] at hcall
          have HCC : Aside _ := hcall
          clear huv hcall
          go_wp2_with (fail)
          go_quiet (first | exact HCC.out _)
          go_wp2
          go_roundg (d.size - (k + (k2 + 1)))
          case measure => omega
          case rel => exact ⟨kk + 1, k2 + 1, q2 + nq, dk.setIfInBounds kk u, by go_num, by go_num, by omega, by omega, Nat.le_refl _, by have := store_world_l enc (m := nq) (i := kk) (by omega) W2.out u; rwa [Nat.zero_add] at this, by have := I2.out.keep hlt3.out (KY.out _ (by rw [C.out.1, C.out.2]; exact E.out)); rwa [C.out.1] at this⟩
    | false =>
      have D : Aside (eqb x y = false) := hdup
      have hcall := HCC.out
      rw [hdup] at hcall
      have HCC : Aside _ := hcall
      clear hdup hcall
      go_wp2_with (fail)
      go_quiet (first | exact HCC.out _)
      go_wp2
      go_roundg (d.size - (k + 1))
      case measure => omega
      case rel =>
        refine ⟨k + 1, _, by omega, by omega, Nat.le_refl _, by go_num, rfl, fun j hj => ?_⟩
        by_cases e : j = k
        rotate_left
        · exact A.out j (by omega)
        subst e
        exact KY.out _ (by rw [B.out.1, B.out.2]; exact D.out)
end Go.Proofs.Ytpbcigilipdedaa.P
/- slices.Clone of lists of whole numbers: a new row of the same lists (where they came in). -/
namespace Go.Proofs.Ytpbcigilipdedaa.P
open Go.RowKit Go.Proofs.YtpbcigilipdedaaW.PrintWords Go.Proofs.YtpbcigilipdedaaW.PrintLast Go.Proofs.YtpbcigilipdedaaW.PrintMore
set_option linter.unusedVariables false
set_option linter.unusedSimpArgs false
abbrev kInts : Kd (List Int) := Kd.slice 3 (Kd.int .i64)
set_option maxRecDepth 100000 in
set_option maxHeartbeats 2000000 in
theorem cloneL.calls (A0 : Option Addr) (c0 : Nat) (l0 : List (List Int)) (w : World) (hr0 : Kd.C kInts w A0 l0.length l0) (hc0 : l0.length ≤ c0) (hl : l0.length < 5864062014805) :
    Calls Try.prog 75 #[.slice A0 l0.length c0] w fun e w' => ∃ v0_ : Value, e = .returned (v0_) ∧ Kd.R (Kd.fixed kInts w) 23 w' w.heap.size (fun _ => True) v0_ l0 ∧ Below w.heap.size w w' := by
  have hu := Try.underlying23
  have q22 : ∀ (w : World) (a : Option Addr) (n c n' c' : Nat), (binOp .eql 22 (.slice a n c) (.slice none n' c')).run Try.prog w = .ok (.bool a.isNone) w := fun w a n c n' c' => Lib.run_eql_slice_nil w _ _ a n c n' c' Try.underlying22
  have HL := Za.mk hl
  clear hl
  have HR := Za.mk hr0
  have hlen : l0.length ≤ 9223372036854775807 := hr0.2.1
  cases A0 with
  | none =>
    have h0 : l0 = [] := by
      rcases Nat.eq_zero_or_pos l0.length with h | h
      · exact List.length_eq_zero_iff.1 h
      obtain ⟨ad, e, _⟩ := hr0.2.2 h; cases e
    subst h0
    clear hr0
    go_enter Try.func75, Try.ntmps75
    go_wp2
    go_ret
    exact ⟨_, rfl, Kd.Zem _ _ _ _ _, Below.refl _ _⟩
  | some ad =>
    clear hr0
    have HB := Za.mk (Below.refl w.heap.size w)
    go_enter Try.func75, Try.ntmps75
    go_wp2_with (first | ((with_reducible refine Zbv (N := 5) rfl ?_); refine Kd.Zdt (Kd.fixed kInts w) _ 23 ?hg (N := 5) ?hd (xs := ([] : List (List Int))) (inner := []) (ok := fun _ => True) (okp := fun _ => True) ?hr ?hp (fun _ hk => hk) trivial (Below.refl w.heap.size w) (Nat.le_refl _) (by simp) ?_; (case hd => rfl); (case hg => rfl); (case hr => first | (go_simp; done) | (go_simp; rfl)); (case hp => exact (Reps.none _ _)); intro v1 w1 ho hb hg_ hnew_; have HO := Za.mk ho; have HB := Za.mk hb; clear ho hb hg_ hnew_) | ((with_reducible refine Zbg (b := .append) (xs := #[.tmp 5, .tmp 6]) rfl ?_); at_builtin; go_loud (refine Kd.Zcm (Kd.fixed kInts w) (Rr := kInts.K w) (w0 := w) w.heap.size rfl (.tmp 5) (.tmp 6) 22 23 (.slice none 0 0) 24 rfl Try.underlying22 Zex rfl (Nat.lt_succ_self 0) (by omega) v1 ([] : List (List Int)) l0 _ _ _ (fun _ => True) (fun _ => False) rfl rfl ?aO ?aR ?aK (fun _ h => h.elim) ?aF ?aB ?aS ?aL ?_; (case aR => exact ReadsRow.imp_ HR.out HB.out (fun _ _ h => h)); (case aK => intro x cs h; exact h); (case aB => exact HB.out); (case aF => exact (fun _ _ => trivial)); (case aO => exact HO.out); (case aS => exact HB.out.size); (case aL => have := HL.out; simp; omega); intro v2 w2 ho2 hb2 hg hat; have HO2 := Za.mk ho2; have HB2 := Za.mk hb2; clear ho2 hb2 hg hat)))
    go_ret
    exact ⟨_, rfl, by simpa using HO2.out, HB2.out⟩
end Go.Proofs.Ytpbcigilipdedaa.P
/- slices.Clone of whole numbers. -/
namespace Go.Proofs.Ytpbcigilipdedaa.P
open Go.RowKit Go.Proofs.YtpbcigilipdedaaW.PrintWords Go.Proofs.YtpbcigilipdedaaW.PrintLast Go.Proofs.YtpbcigilipdedaaW.PrintMore
set_option linter.unusedVariables false
set_option linter.unusedSimpArgs false
def cloneI.f (l0 : List Int) : Option (List Int) := if l0.length < 17592186044416 then some l0 else none
set_option maxRecDepth 100000 in
set_option maxHeartbeats 2000000 in
theorem cloneI.calls (A0 : Option Addr) (c0 : Nat) (l0 : List Int) (r : List Int) (w : World) (hr0 : Kd.C (Kd.int .i64) w A0 l0.length l0) (hc0 : l0.length ≤ c0) (h : cloneI.f l0 = some r) :
    Calls Try.prog 46 #[.slice A0 l0.length c0] w fun e w' => ∃ v0_ : Value, e = .returned (v0_) ∧ Kd.R (Kd.int .i64) 3 w' w.heap.size (fun _ => True) v0_ r ∧ Below w.heap.size w w' := by
  have hu := Try.underlying3
  have q22 : ∀ (w : World) (a : Option Addr) (n c n' c' : Nat), (binOp .eql 23 (.slice a n c) (.slice none n' c')).run Try.prog w = .ok (.bool a.isNone) w := fun w a n c n' c' => Lib.run_eql_slice_nil w _ _ a n c n' c' Try.underlying23
  unfold cloneI.f at h
  split at h
  case isFalse => cases h
  case isTrue hl =>
    obtain rfl := Option.some.inj h
    have HL := Za.mk hl
    clear h hl
    have HR := Za.mk hr0
    have hlen : l0.length ≤ 9223372036854775807 := hr0.2.1
    cases A0 with
    | none =>
      have h0 : l0 = [] := by
        rcases Nat.eq_zero_or_pos l0.length with h | h
        · exact List.length_eq_zero_iff.1 h
        obtain ⟨ad, e, _⟩ := hr0.2.2 h; cases e
      subst h0
      clear hr0
      go_enter Try.func46, Try.ntmps46
      go_wp2
      go_ret
      exact ⟨_, rfl, Kd.Zem _ _ _ _ _, Below.refl _ _⟩
    | some ad =>
      clear hr0
      have HB := Za.mk (Below.refl w.heap.size w)
      go_enter Try.func46, Try.ntmps46
      go_wp2_with (first | ((with_reducible refine Zbv (N := 5) rfl ?_); refine Kd.Zdt (Kd.int .i64) _ 3 ?hg (N := 5) ?hd (xs := ([] : List Int)) (inner := []) (ok := fun _ => True) (okp := fun _ => True) ?hr ?hp (fun _ hk => hk) trivial (Below.refl w.heap.size w) (Nat.le_refl _) (by simp) ?_; (case hd => rfl); (case hg => rfl); (case hr => first | (go_simp; done) | (go_simp; rfl)); (case hp => exact (Reps.none _ _)); intro v1 w1 ho hb hg_ hnew_; have HO := Za.mk ho; have HB := Za.mk hb; clear ho hb hg_ hnew_) | ((with_reducible refine Zbg (b := .append) (xs := #[.tmp 5, .tmp 6]) rfl ?_); at_builtin; go_loud (refine Kd.Zcm (Kd.int .i64) (Rr := (Kd.int .i64).K w1) (w0 := w) w.heap.size rfl (.tmp 5) (.tmp 6) 23 3 (.int .i64 0) 8 rfl Try.underlying23 info3 rfl (by decide) (by omega) v1 ([] : List Int) l0 _ _ _ (fun _ => True) (fun _ => False) rfl rfl ?aO ?aR ?aK (fun _ h => h.elim) ?aF ?aB ?aS ?aL ?_; (case aR => exact Kd.Zaw HR.out HB.out); (case aK => intro x cs h; have e_ := h; subst e_; rfl); (case aB => exact HB.out); (case aF => exact (fun _ _ => trivial)); (case aO => exact HO.out); (case aS => exact HB.out.size); (case aL => have := HL.out; simp; omega); intro v2 w2 ho2 hb2 hg hat; have HO2 := Za.mk ho2; have HB2 := Za.mk hb2; clear ho2 hb2 hg hat)))
      go_ret
      exact ⟨_, rfl, by simpa using HO2.out, HB2.out⟩
end Go.Proofs.Ytpbcigilipdedaa.P
/- table.Sorted: lists in order, each once. -/
namespace Go.Proofs.Ytpbcigilipdedaa.P
open Go.RowKit Go.Shelf Go.Lib Go.Sort Go.Proofs.YtpbcigilipdedaaW.PrintWords Go.Proofs.YtpbcigilipdedaaW.PrintLast Go.Proofs.YtpbcigilipdedaaW.PrintMore
set_option linter.unusedVariables false
set_option linter.unusedSimpArgs false
structure SubL (w0 : World) where
  v : Value
  l : List Int
  ok : kInts.K w0 l [v]
theorem nilL (w0 : World) : kInts.K w0 [] [.slice none 0 0] := ⟨none, 0, rfl, Nat.le_refl _, rfl, by simp, fun h => absurd h (by simp)⟩
instance (w0 : World) : Inhabited (SubL w0) := ⟨⟨.slice none 0 0, [], nilL w0⟩⟩
theorem oneL (w0 : World) : OneCell (SubL.v (w0 := w0)) := fun x => kInts.K_one x.ok x.v (by simp)
def cfL {w0 : World} (x y : SubL w0) : Int := lexCmp x.l y.l
theorem ltL {w0 : World} (x y : SubL w0) : ltOf cfL x y = lexLt x.l y.l := by
  unfold ltOf cfL
  rw [Bool.eq_iff_iff, decide_eq_true_iff]
  exact lexCmp_neg
theorem swoL (w0 : World) : Go.Sort.SWO (ltOf (cfL (w0 := w0))) := by
  refine ⟨fun x => ?_, fun x y z h1 h2 => ?_, fun x y z h1 h2 => ?_⟩
  · rw [ltL, Zcz]
  · rw [ltL] at *; exact Zda h1 h2
  rw [ltL] at *
  cases hz : lexLt x.l z.l with
  | false => rfl
  | true =>
    by_cases e : x.l = y.l
    · rw [e] at hz; rw [hz] at h2; cases h2
    have h3 := (Zdw e).resolve_left (by rw [h1]; simp)
    have := Zda h3 hz
    rw [h2] at this; cases this
def eqL {w0 : World} (x y : SubL w0) : Bool := decide (x.l = y.l)
theorem kept_sorted {w0 : World} (d : Array (SubL w0)) (hs : SortedIn (ltOf cfL) 0 d.size d) : SSL ((keptUpTo (stayL eqL d) d d.size).map (·.l)) := by
  have hle : ∀ i j, i ≤ j → j < d.size → lexLt d[j]!.l d[i]!.l = false := fun i j hij hj => by
    rcases Nat.lt_or_eq_of_le hij with h | rfl
    · have := hs i j (Nat.zero_le _) h hj
      rwa [ltL] at this
    exact Zcz _
  unfold keptUpTo
  rw [List.map_map]
  refine List.Pairwise.map _ (fun a b h => h) ?_
  have h1 : List.Pairwise (fun a b : Nat => a < b) ((List.range d.size).filter (stayL eqL d)) := List.Pairwise.filter _ List.pairwise_lt_range
  refine (List.pairwise_iff_forall_sublist.2 fun {a b} hab => ?_)
  have hlt : a < b := List.pairwise_iff_forall_sublist.1 h1 hab
  have hb : b ∈ (List.range d.size).filter (stayL eqL d) := hab.subset (by simp)
  obtain ⟨hb1, hb2⟩ := List.mem_filter.1 hb
  have hbs : b < d.size := List.mem_range.1 hb1
  have hne : d[b]!.l ≠ d[b - 1]!.l := by
    unfold stayL eqL at hb2
    simp at hb2
    exact hb2.resolve_left (by omega)
  have h2 := hle (b - 1) b (by omega) hbs
  have h3 := hle a (b - 1) (by omega) (by omega)
  have h4 : lexLt d[b - 1]!.l d[b]!.l = true := (Zdw hne).resolve_left (by rw [h2]; simp)
  show lexLt d[a]!.l d[b]!.l = true
  by_cases e : d[a]!.l = d[b - 1]!.l
  · rw [e]; exact h4
  exact Zda ((Zdw e).resolve_right (by rw [h3]; simp)) h4
theorem kept_mem {w0 : World} (d : Array (SubL w0)) (x : List Int) : x ∈ (keptUpTo (stayL eqL d) d d.size).map (·.l) ↔ ∃ j, j < d.size ∧ d[j]!.l = x := by
  unfold keptUpTo
  rw [List.map_map]
  constructor
  · intro h
    obtain ⟨j, hj, rfl⟩ := List.mem_map.1 h
    exact ⟨j, List.mem_range.1 (List.mem_filter.1 hj).1, rfl⟩
  rintro ⟨j, hj, rfl⟩
  induction j with
  | zero => exact List.mem_map.2 ⟨0, List.mem_filter.2 ⟨List.mem_range.2 hj, rfl⟩, rfl⟩
  | succ j ih =>
    cases hs : stayL eqL d (j + 1) with
    | true => exact List.mem_map.2 ⟨j + 1, List.mem_filter.2 ⟨List.mem_range.2 hj, hs⟩, rfl⟩
    | false =>
      have e : d[j + 1]!.l = d[j]!.l := by
        unfold stayL eqL at hs
        simpa using hs
      rw [e]
      exact ih (by omega)
theorem kept_sdL {w0 : World} (d d' : Array (SubL w0)) (l0 : List (List Int)) (hd : d.toList.map (·.l) = l0) (hp : PermIn 0 d.size d d') (hs : SortedIn (ltOf cfL) 0 d.size d') : (keptUpTo (stayL eqL d') d' d'.size).map (·.l) = sdL l0 := by
  have hsz := hp.1
  refine (sdL_eq (kept_sorted d' (by rw [hsz]; exact hs)) (fun x => (kept_mem d' x).trans ?_)).symm
  have hperm : List.Perm d'.toList d.toList := by
    have h := hp.2.2
    have e1 : d.extract 0 d.size = d := by simp
    have e2 : d'.extract 0 d.size = d' := by rw [← hsz]; simp
    rwa [e1, e2] at h
  have h1 : (∃ j, j < d'.size ∧ d'[j]!.l = x) ↔ x ∈ d'.toList.map (·.l) := by
    rw [List.mem_map]
    constructor
    · rintro ⟨j, hj, rfl⟩
      exact ⟨d'[j]!, by rw [getElem!_pos d' j hj]; exact Array.getElem_mem_toList hj, rfl⟩
    rintro ⟨a, ha, rfl⟩
    obtain ⟨j, hj, rfl⟩ := List.mem_iff_getElem.1 ha
    have hj' : j < d'.size := by simpa using hj
    exact ⟨j, hj', by rw [getElem!_pos d' j hj', Array.getElem_toList]⟩
  rw [h1, ← hd]
  exact (hperm.map _).mem_iff
theorem Zgq {α : Type} [Inhabited α] (enc : α → Value) (w : World) (g off n : Nat) (d : Array α) (os : Array Obj) : w.grownBy (sortWorld enc w g off n d os) (some g) := by
  unfold sortWorld
  refine ⟨rfl, rfl, rfl, by simp [size_putRow], fun k hk hne => ?_⟩
  have hs : (putRow enc (Sort.ahead w n) g off d).heap.size = w.heap.size := size_putRow _ _ _ _ _
  rw [Go.Sort.heap_grow_old _ _ (by rw [hs]; exact hk)]
  have : g ≠ k := fun e => hne (by rw [e])
  simp [Go.Sort.putRow, Go.Sort.mapBlock, Go.Sort.ahead, Array.getElem?_modify, this]
theorem compareAt {w0 : World} (x y : SubL w0) (W : World) (hW : Below w0.heap.size w0 W) : Calls Try.prog 48 #[x.v, y.v] W fun e w' => e = .returned (.int .i64 (cfL x y)) ∧ ∃ q, w' = W.drewN q := by
  obtain ⟨xv, xl, A, c, hx, hl, hC⟩ := x
  obtain ⟨yv, yl, A', c', hy, hl', hC'⟩ := y
  obtain rfl : xv = _ := List.singleton_inj.1 hx
  obtain rfl : yv = _ := List.singleton_inj.1 hy
  refine (compareL A c xl A' c' yl W (Kd.Zaw hC hW) hl (Kd.Zaw hC' hW) hl').mono ?_
  rintro e w' ⟨rfl, ⟨nd, rfl⟩⟩
  exact ⟨rfl, nd, rfl⟩
def SortedQ (wb : World) (l0 : List (List Int)) (w : World) (v : Value) : Prop :=
  (v = .slice none 0 0 ∧ l0 = []) ∨ ∃ (g cap : Nat) (d : Array (SubL wb)), v = .slice (some ⟨g, 0, none⟩) d.size cap ∧ d.size ≤ cap ∧ d.size ≤ 9223372036854775807 ∧ Holds SubL.v w g 0 d ∧ g < w.heap.size ∧ wb.heap.size ≤ g ∧ (keptUpTo (stayL eqL d) d d.size).map (·.l) = sdL l0
theorem sub_of (wb : World) (l0 : List (List Int)) (inner : List Value) (h : Reps (fun (x : List Int) cs => kInts.K wb x cs) 1 l0 inner) : ∃ l : List (SubL wb), l.map (·.v) = inner ∧ l.map (·.l) = l0 := by
  have hlen : inner.length = l0.length := by rw [h.1, Nat.mul_one]
  clear hlen
  induction l0 generalizing inner with
  | nil =>
    have : inner = [] := List.length_eq_zero_iff.1 (by rw [h.1]; simp)
    subst this
    exact ⟨[], rfl, rfl⟩
  | cons x l0 ih =>
    obtain ⟨u, inner, rfl⟩ : ∃ u t, inner = u :: t := by
      cases inner with
      | nil => have := h.1; simp at this
      | cons u t => exact ⟨u, t, rfl⟩
    have hx : kInts.K wb x [u] := by
      have := h.2 0 x rfl
      simpa using this
    have hrest : Reps (fun (x : List Int) cs => kInts.K wb x cs) 1 l0 inner := by
      refine ⟨by have := h.1; simp at this ⊢; omega, fun j p hj => ?_⟩
      have := h.2 (j + 1) p (by simpa using hj)
      simpa [Nat.add_mul] using this
    obtain ⟨l, h1, h2⟩ := ih inner hrest
    exact ⟨⟨u, x, hx⟩ :: l, by simp [h1], by simp [h2]⟩
set_option maxHeartbeats 2000000 in
theorem sortStep (wb w : World) (v : Value) (l0 : List (List Int)) (hl : l0.length < 1000000000) (hB : Below wb.heap.size wb w) (hR : Kd.R (Kd.fixed kInts wb) 23 w wb.heap.size (fun _ => True) v l0) :
    Calls Try.prog 76 #[v, .func (.func 48) #[] #[]] w fun e w' => e = .returned (.tuple #[]) ∧ SortedQ wb l0 w' v ∧ Below wb.heap.size wb w' := by
  obtain ⟨hP, inner, hown, hreps⟩ := hR
  rcases hown.2 with ⟨rfl, h0⟩ | ⟨g, cap, cur, rfl, hg, hb, hn, hcap, hcs, htk⟩
  · refine (AnyF.slices_SortFunc_none { lsortL with } none 0 _ w).mono ?_
    rintro e w' ⟨rfl, rfl⟩
    exact ⟨rfl, .inl ⟨rfl, List.length_eq_zero_iff.1 h0⟩, hB⟩
  have hgl : g < w.heap.size := (Array.getElem?_eq_some_iff.1 hb).1
  obtain ⟨l, hlv, hll⟩ := sub_of wb l0 inner hreps
  have hlen : l.length = l0.length := by rw [← hll]; simp
  have hH : Holds (SubL.v (w0 := wb)) w g 0 l.toArray := by
    intro j hj
    have hj' : j < l.length := by simpa using hj
    refine ⟨?_, by simp [World.frozen?, hb]⟩
    have h1 : (cur.toList.take (l0.length * 1))[j]? = inner[j]? := by rw [← htk]; rfl
    rw [List.getElem?_take_of_lt (by omega), ← hlv, Array.getElem?_toList, List.getElem?_map, List.getElem?_eq_getElem hj'] at h1
    simp only [World.cell?, hb, Nat.zero_add]
    simp only [Option.isSome_none, Bool.false_eq_true, if_false]
    rw [h1, getElem!_pos _ j hj]
    rfl
  have hS := Any.slices_SortFunc lsortL (SubL.v (w0 := wb)) (oneL wb) cfL (swoL wb) 48 #[] g 0 cap l.toArray w
    (enters_of Try.func48 (by kernel_rfl) rfl) (fun m os dk hs x y => by
      refine (compareAt x y _ ?_).mono ?_
      · have hgr : w.grownBy (sortWorld (SubL.v (w0 := wb)) w g 0 m dk os) (some g) := Zgq _ _ _ _ _ _ _
        exact hB.grown hgr hB.size (fun k e => by cases e; exact hg)
      rintro e w' ⟨rfl, q, rfl⟩
      exact ⟨rfl, q, #[], by rw [grow_empty]⟩) hH hgl (by simp; omega)
  have hsz : l.toArray.size = l0.length := by simpa using hlen
  rw [hsz] at hS
  refine Calls.mono (P := Try.prog) (f := 76) hS ?_
  rintro e w' ⟨rfl, d', n, os, hp, hs, rfl⟩
  have hgr : w.grownBy (sortWorld (SubL.v (w0 := wb)) w g 0 n d' os) (some g) := Zgq _ _ _ _ _ _ _
  have hsz' : d'.size = l0.length := by rw [hp.1, hsz]
  refine ⟨rfl, .inr ⟨g, cap, d', by rw [hsz'], by omega, by omega, holds_sortWorld _ w g 0 n l.toArray d' os hgl hH hp.1, Nat.lt_of_lt_of_le hgl hgr.size, hg, ?_⟩, hB.grown hgr hB.size (fun k e => by cases e; exact hg)⟩
  exact kept_sdL l.toArray d' l0 (by simpa using hll) (by rw [hsz]; exact hp) (by rw [hsz]; exact hs)
set_option maxHeartbeats 2000000 in
theorem compact_few (A : Option Addr) (n c : Nat) (f : Value) (w : World) (hn : n < 2) : Calls Try.prog 77 #[.slice A n c, f] w fun e w' => e = .returned (.slice A n c) ∧ w' = w := by
  have hs2 : decide ((n : Int) < 2) = true := decide_eq_true (by omega)
  go_enter Try.func77, Try.ntmps77
  go_wp2
  go_ret
  exact ⟨rfl, rfl⟩
set_option maxHeartbeats 2000000 in
theorem sameAt {w0 : World} (bx : Nat) (hbx : bx < w0.heap.size) (hb : w0.cell? ⟨bx, 0, none⟩ = some (.func (.func 48) #[] #[])) (x y : SubL w0) (W : World) (hW : Below w0.heap.size w0 W) :
    Calls Try.prog 78 (#[x.v, y.v] ++ #[.pointer (some ⟨bx, 0, none⟩)]) W fun e w' => e = .returned (.bool (eqL x y)) ∧ ∃ q, w' = W.drewN q := by
  have hc : W.cell? ⟨bx, 0, none⟩ = some (.func (.func 48) #[] #[]) := (hW.cell (p := ⟨bx, 0, none⟩) hbx).trans hb
  have cC := compareAt x y W hW
  show Calls Try.prog 78 #[x.v, y.v, .pointer (some ⟨bx, 0, none⟩)] W fun e w' => e = .returned (.bool (eqL x y)) ∧ ∃ q, w' = W.drewN q
  have eg := enters_of (P := Try.prog) Try.func48 (by kernel_rfl) rfl
  obtain ⟨r, hr⟩ : ∃ r, r = eqL x y := ⟨_, rfl⟩
  have hz : decide (cfL x y = 0) = r := by
    rw [hr]
    unfold cfL eqL
    exact decide_eq_decide.2 lexCmp_zero
  rw [← hr]
  have HR := Za.mk hr
  clear hr
  generalize x.v = xv at cC ⊢
  generalize y.v = yv at cC ⊢
  generalize cfL x y = cf at cC hz
  clear HR
  go_enter Try.func78, Try.ntmps78
  go_wp2_with (go_at_call 48; refine cC.mono ?_; rintro e w' ⟨rfl, q, rfl⟩)
  go_ret
  exact ⟨by rw [← hz]; first | rfl | (simp; done), q, rfl⟩
theorem size_ahead (w : World) (n : Nat) : (Sort.ahead w n).heap.size = w.heap.size := rfl
theorem Zf1 {α : Type} [Inhabited α] (enc : α → Value) (w : World) (g off n : Nat) (d : Array α) : w.grownBy (putRow enc (Sort.ahead w n) g off d) (some g) := by
  refine ⟨rfl, rfl, rfl, by simp [size_putRow, size_ahead], fun k hk hne => ?_⟩
  have : g ≠ k := fun e => hne (by rw [e])
  simp [Go.Sort.putRow, Go.Sort.mapBlock, Go.Sort.ahead, Array.getElem?_modify, this]
set_option maxHeartbeats 2000000 in
theorem compactStep (wb w : World) (v : Value) (l0 : List (List Int)) (bx : Nat) (hbx : bx < wb.heap.size) (hb : wb.cell? ⟨bx, 0, none⟩ = some (.func (.func 48) #[] #[])) (hB : Below wb.heap.size wb w) (hQ : SortedQ wb l0 w v) :
    Calls Try.prog 77 #[v, .func (.func 78) #[] #[.pointer (some ⟨bx, 0, none⟩)]] w fun e w' => ∃ A c, e = .returned (.slice A (sdL l0).length c) ∧ (sdL l0).length ≤ c ∧ Kd.C kInts w' A (sdL l0).length (sdL l0) ∧ Below wb.heap.size wb w' := by
  rcases hQ with ⟨rfl, rfl⟩ | ⟨g, cap, d, rfl, hcap, hmax, hH, hg, hgb, hk⟩
  · refine (compact_few none 0 0 _ w (by omega)).mono ?_
    rintro e w' ⟨rfl, rfl⟩
    exact ⟨none, 0, rfl, Nat.le_refl _, Kd.C_nil _ _, hB⟩
  refine (compactL_ (SubL.v (w0 := wb)) (oneL wb) eqL 78 _ (enters_of Try.func78 (by kernel_rfl) rfl) default rfl g cap d w hH (fun q dk x y hs => sameAt bx hbx hb x y _ ?_) hmax hcap (stayL eqL d) rfl).mono ?_
  · exact hB.grown (Zf1 _ _ _ _ _ _) hB.size (fun k e => by cases e; exact hgb)
  rintro e w' ⟨rfl, q, rfl⟩
  have hlen : (keptUpTo (stayL eqL d) d d.size).length = (sdL l0).length := by rw [← hk]; simp
  have hle : (keptUpTo (stayL eqL d) d d.size).length ≤ d.size := by
    unfold keptUpTo
    rw [List.length_map]
    exact Nat.le_trans (List.length_filter_le _ _) (by simp)
  have hB2 : Below wb.heap.size wb (putRow (SubL.v (w0 := wb)) (Sort.ahead w q) g 0 (keptUpTo (stayL eqL d) d d.size ++ List.replicate (d.size - (keptUpTo (stayL eqL d) d d.size).length) default).toArray) := hB.grown (Zf1 _ _ _ _ _ _) hB.size (fun k e => by cases e; exact hgb)
  refine ⟨some ⟨g, 0, none⟩, cap, by rw [hlen], by omega, reads_one (d := kInts) rfl (by omega) (fun k hk1 => ?_), hB2⟩
  have hk2 : k < (keptUpTo (stayL eqL d) d d.size).length := by omega
  have hsz : (keptUpTo (stayL eqL d) d d.size ++ List.replicate (d.size - (keptUpTo (stayL eqL d) d d.size).length) (default : SubL wb)).toArray.size = d.size := by simp; omega
  have hHp := holds_putRow (SubL.v (w0 := wb)) (Sort.ahead w q) g 0 d _ (holds_ahead _ w q g 0 d hH) hsz
  have h1 := (hHp k (by rw [hsz]; omega)).1
  rw [Nat.zero_add, getElem!_pos _ k (by rw [hsz]; omega)] at h1
  rw [Zek]
  refine ⟨_, h1, ?_⟩
  have e1 : (sdL l0)[k] = ((keptUpTo (stayL eqL d) d d.size)[k]).l := by simp only [← hk]; simp
  have e2 : (keptUpTo (stayL eqL d) d d.size ++ List.replicate (d.size - (keptUpTo (stayL eqL d) d d.size).length) (default : SubL wb)).toArray[k]'(by rw [hsz]; omega) = (keptUpTo (stayL eqL d) d d.size)[k] := by
    rw [List.getElem_toArray, List.getElem_append_left hk2]
  rw [e1, e2]
  exact kInts.K_below hB2 (keptUpTo (stayL eqL d) d d.size)[k].ok
set_option maxRecDepth 100000 in
set_option maxHeartbeats 2000000 in
theorem sortedL (A0 : Option Addr) (c0 : Nat) (l0 : List (List Int)) (w : World) (hr0 : Kd.C kInts w A0 l0.length l0) (hc0 : l0.length ≤ c0) (hl : l0.length < 1000000000) :
    Calls Try.prog 47 #[.slice A0 l0.length c0, .func (.func 48) #[] #[]] w fun e w' => ∃ A c, e = .returned (.slice A (sdL l0).length c) ∧ (sdL l0).length ≤ c ∧ Kd.C kInts w' A (sdL l0).length (sdL l0) ∧ Below w.heap.size w w' := by
  obtain ⟨wb, hwb⟩ : ∃ wb, wb = w.alloc (.cells #[.func (.func 48) #[] #[]] 51) := ⟨_, rfl⟩
  have hB : Below w.heap.size w wb := by rw [hwb]; exact (Below.refl _ w).alloc (Nat.le_refl _) _
  have hbx : w.heap.size < wb.heap.size := by rw [hwb]; simp
  have hcell : wb.cell? ⟨w.heap.size, 0, none⟩ = some (.func (.func 48) #[] #[]) := by rw [hwb]; simp
  have cC := cloneL.calls A0 c0 l0 wb (Kd.Zaw hr0 hB) hc0 (by omega)
  have cS := fun (W : World) (v : Value) (h1 : Below wb.heap.size wb W) (h2 : Kd.R (Kd.fixed kInts wb) 23 W wb.heap.size (fun _ => True) v l0) => sortStep wb W v l0 hl h1 h2
  have cK := fun (W : World) (v : Value) (h1 : Below wb.heap.size wb W) (h2 : SortedQ wb l0 W v) => compactStep wb W v l0 w.heap.size hbx hcell h1 h2
  have HC := Za.mk hcell
  have HB := Za.mk hB
  have HW := Za.mk hwb
  clear hr0 hcell hB hl
  have hload : ∀ W, Below wb.heap.size wb W → W.cell? ⟨w.heap.size, 0, none⟩ = some (.func (.func 48) #[] #[]) := fun W h => (h.cell (p := ⟨w.heap.size, 0, none⟩) hbx).trans HC.out
  have HL := Za.mk hload
  clear hload
  go_enter Try.func47, Try.ntmps47
  rw [hwb] at cC
  go_wp2_with (first | (go_at_call 75; refine cC.mono ?_; rw [← hwb]; rintro e W1 ⟨v1, rfl, hR1, hb1⟩; have hc1 := HL.out W1 hb1; have HR1 := Za.mk hR1; have HB1 := Za.mk hb1; clear hR1 hb1) | (go_at_call 76; refine (cS _ _ HB1.out HR1.out).mono ?_; rintro e W2 ⟨rfl, hQ, hb2⟩; have hc2 := HL.out W2 hb2; have HQ := Za.mk hQ; have HB2 := Za.mk hb2; clear hQ hb2) | (go_at_call 77; refine (cK _ _ HB2.out HQ.out).mono ?_; rintro e W3 ⟨A, c, rfl, hc, hC, hb3⟩))
  go_ret
  exact ⟨A, c, rfl, hc, hC, HB.out.trans (hb3.mono HB.out.size)⟩
def Zdd.f (l0 : List (List Int)) : Option (List (List Int)) := if l0.length < 1000000000 then (if (l0.all fun x => decide (x.length < 17592186044416)) = true then some (sdL l0) else none) else none
set_option maxRecDepth 100000 in
set_option maxHeartbeats 4000000 in
theorem Zdd.calls (A0 : Option Addr) (c0 : Nat) (l0 : List (List Int)) (r : List (List Int)) (w : World) (hr0 : Kd.C kInts w A0 l0.length l0) (hc0 : l0.length ≤ c0) (h : Zdd.f l0 = some r) :
    Calls Try.prog 24 #[.slice A0 l0.length c0] w fun e w' => ∃ v0_ : Value, e = .returned (v0_) ∧ Kd.S kInts 23 w' w.heap.size (fun _ => True) v0_ r ∧ Below w.heap.size w w' := by
  unfold Zdd.f at h
  split at h
  case isFalse => cases h
  case isTrue hl =>
    split at h
    case isFalse => cases h
    case isTrue hall =>
      obtain rfl := Option.some.inj h
      have hlen := Zgx l0
      have hin : Za (∀ x ∈ sdL l0, x.length < 17592186044416) := ⟨fun x hx => by simpa using List.all_eq_true.1 hall x ((mem_sdL x l0).1 hx)⟩
      clear h hall
      have cS := sortedL A0 c0 l0 w hr0 hc0 hl
      clear hr0
      generalize sdL l0 = ls at *
      have hmax : ls.length ≤ 1000000000 := by omega
      clear hlen hl
      go_enter Try.func24, Try.ntmps24
      go_wp2_with (first | (go_at_call 47; refine cS.mono ?_; rintro e W1 ⟨A1, c1, rfl, hc1, hC1, hb1⟩; have HC1 := Za.mk hC1; have HB1 := Za.mk hb1; clear hC1 hb1))
      go_loopg [3, 9] ls.length (fun gg v3 s9 wr => ∃ kk : Nat, kk ≤ ls.length ∧ ls.length - kk ≤ gg ∧ s9 = .int .i64 kk ∧ Za (Kd.S kInts 23 wr W1.heap.size (fun _ => True) v3 (ls.take kk)) ∧ Za (Below W1.heap.size W1 wr))
      case atStart => exact ⟨0, Nat.zero_le _, by omega, rfl, ⟨Kd.S_nil _ _ _ _ _⟩, ⟨Below.refl _ _⟩⟩
      case round =>
        obtain ⟨kk, hkk, hg, rfl, HO, HBW⟩ := hrel
        by_cases hlt : kk < ls.length
        rotate_left
        · obtain rfl : kk = ls.length := by omega
          go_wp2
          go_ret
          have := HO.out
          rw [List.take_length] at this
          exact ⟨_, rfl, Kd.Zd5 this HB1.out.size, HB1.out.trans (HBW.out.mono HB1.out.size)⟩
        obtain ⟨ad, Ai, ci, rfl, hx, hci, hCi⟩ := at_slice (Kd.Zaw HC1.out HBW.out) kk hlt
        have hil := hin.out _ (List.getElem_mem hlt)
        have htk : Za (ls.take (kk + 1) = ls.take kk ++ [ls[kk]]) := ⟨List.take_succ_eq_append_getElem hlt⟩
        have htl : Za ((ls.take kk).length ≤ 1000000000) := ⟨by rw [List.length_take]; omega⟩
        have cI := fun W (hW : Below wr.heap.size wr W) => cloneI.calls Ai ci ls[kk] ls[kk] W (Kd.Zaw hCi hW) hci (by unfold cloneI.f; rw [if_pos hil])
        generalize ls[kk] = x at *
        have HCI := Za.mk cI
        clear cI hCi
        go_wp2_with (first | (go_at_call 46; refine (HCI.out _ (by repeat (first | exact Below.refl _ _ | apply Zac | apply Zaa | apply Zab))).mono ?_; rintro e w23 ⟨v314, rfl, ho0, hb⟩; have n0_ := Za.mk (Kd.Zee (by (with_reducible repeat (first | apply Kd.S_alloc | apply Kd.S_drewN | apply Kd.Zb6)); exact HO.out) (Kd.Zdn ho0) hb); have n1_ := Za.mk (Kd.Zbz ho0 (Zam (by repeat (first | exact HBW.out | apply Zac | apply Zaa | apply Zab)))); have n4_ := Za.mk (Zan (by repeat (first | exact HBW.out | apply Zac | apply Zaa | apply Zab)) hb); clear HO HBW ho0 hb; have HO := n0_; have HOx := n1_; have HBW := n4_; clear n0_ n1_ n4_; obtain ⟨Ao25, co25, eo25⟩ := Kd.Zbw HOx.out; subst eo25) | ((with_reducible refine Zbg (b := .append) (xs := #[.tmp 13, .tmp 16]) rfl ?_); at_builtin; go_loud (refine Kd.Zfr kInts (w0 := W1) W1.heap.size rfl (.tmp 13) (.tmp 16) 22 23 (.slice none 0 0) 24 rfl Try.underlying22 Zex rfl (Nat.lt_succ_self 0) (by omega) u3 (ls.take kk) x [.slice Ao25 x.length co25] (fun _ => True) (fun k_ => some k_ = (.slice Ao25 x.length co25 : Value).ownBlock) rfl rfl ?aP (fun k_ hk_ => ((Kd.Zbm (ok' := fun k_ => ((fun _ => True)) k_ ∧ some k_ ≠ (u3 : Value).ownBlock) (Kd.Zc0 (HOx.out) (Kd.Zc2 HO.out) (by decide)) (fun k_ hk => ⟨trivial, hk.2⟩))).1 k_ hk_.symm) ?aF ?aO ?aB ?aS ?aL ?_; (case aP => exact Kd.M_row (Kd.Zbm (Kd.Zd4 rfl (Kd.Zbm (ok' := fun k_ => ((fun _ => True)) k_ ∧ some k_ ≠ (u3 : Value).ownBlock) (Kd.Zc0 (HOx.out) (Kd.Zc2 HO.out) (by decide)) (fun k_ hk => ⟨trivial, hk.2⟩))) (fun _ h_ => h_))); (case aB => exact HBW.out); (case aF => exact (fun _ _ => trivial)); (case aO => exact Kd.Zck HO.out (fun k_ hk => ⟨trivial, fun e_ => hk.2 e_⟩)); (case aS => exact HBW.out.size); (case aL => have := htl.out; omega); intro v2 w2 ho2 hb2 hg2 hat2)))
        go_roundg (ls.length - (kk + 1))
        case measure => omega
        case rel => exact ⟨kk + 1, by omega, by omega, by go_num, ⟨by rw [htk.out]; exact ho2⟩, ⟨hb2⟩⟩
end Go.Proofs.Ytpbcigilipdedaa.P
/- Facts of a world, at a world that an alloc or a draw has moved: told by the class 'Mv', so that the texts stay short. -/
namespace Go.Proofs.Ytpbcigilipdedaa.P
open Go.RowKit Go.Proofs.YtpbcigilipdedaaW.PrintWords Go.Proofs.YtpbcigilipdedaaW.PrintLast Go.Proofs.YtpbcigilipdedaaW.PrintMore
class Mv (w w' : World) : Prop where
  out : Below w.heap.size w w'
instance (w : World) : Mv w w := ⟨Below.refl _ _⟩
instance (w w' : World) [h : Mv w w'] : Mv w w'.drew := ⟨Zan h.out (Zef (Below.refl _ _))⟩
instance (w w' : World) (n : Nat) [h : Mv w w'] : Mv w (w'.drewN n) := ⟨Zan h.out (Zaa (Below.refl _ _) n)⟩
instance (w w' : World) (o : Obj) [h : Mv w w'] : Mv w (w'.alloc o) := ⟨Zan h.out (Zac (Below.refl _ _) o)⟩
section
variable {α : Type} {d : Kd α} {e base : Nat} {ok : Nat → Prop} {w w' W : World} {v : Value} {xs : List α}
theorem mvR [m : Mv w w'] (h : d.R e w base ok v xs) : d.R e w' base ok v xs := Kd.Zb3 h m.out
theorem mvS [m : Mv w w'] (h : Kd.S d e w base ok v xs) : Kd.S d e w' base ok v xs := Kd.Zc1 h m.out
theorem mvN [m : Mv w w'] (h : Kd.N d e w base ok v xs) : Kd.N d e w' base ok v xs := Kd.Zc9 h m.out
theorem mvB [m : Mv w w'] (h : Below W.heap.size W w) : Below W.heap.size W w' := Zan h m.out
theorem mvK {g : Nat} {o : Obj} [m : Mv w w'] (h : w.heap[g]? = some o) : w'.heap[g]? = some o := Za6 h m.out
theorem fatR1 {g : Nat} {i0 : Nat} {u0 : Value} (hm : d.R e w base (fun k => ok k ∧ k ≠ g) v xs) : d.R e (w.setCell ⟨g, i0, none⟩ u0) base ok v xs := Kd.Zbm (Kd.Zbx (p := ⟨g, i0, none⟩) hm (fun _ hk => hk.2) u0) (fun _ h => h.1)
theorem fatR7 {g : Nat} {i0 i1 i2 i3 i4 i5 i6 : Nat} {u0 u1 u2 u3 u4 u5 u6 : Value} (hm : d.R e w base (fun k => ok k ∧ k ≠ g) v xs) : d.R e (((((((w.setCell ⟨g, i0, none⟩ u0).setCell ⟨g, i1, none⟩ u1).setCell ⟨g, i2, none⟩ u2).setCell ⟨g, i3, none⟩ u3).setCell ⟨g, i4, none⟩ u4).setCell ⟨g, i5, none⟩ u5).setCell ⟨g, i6, none⟩ u6) base ok v xs := Kd.Zbm (Kd.Zbx (p := ⟨g, i6, none⟩) (Kd.Zbx (p := ⟨g, i5, none⟩) (Kd.Zbx (p := ⟨g, i4, none⟩) (Kd.Zbx (p := ⟨g, i3, none⟩) (Kd.Zbx (p := ⟨g, i2, none⟩) (Kd.Zbx (p := ⟨g, i1, none⟩) (Kd.Zbx (p := ⟨g, i0, none⟩) hm (fun _ hk => hk.2) u0) (fun _ hk => hk.2) u1) (fun _ hk => hk.2) u2) (fun _ hk => hk.2) u3) (fun _ hk => hk.2) u4) (fun _ hk => hk.2) u5) (fun _ hk => hk.2) u6) (fun _ h => h.1)
theorem farR7 {g : Nat} {i0 i1 i2 i3 i4 i5 i6 : Nat} {u0 u1 u2 u3 u4 u5 u6 : Value} (h : d.R e w base ok v xs) (hok : ∀ k, ok k → k ≠ g) : d.R e (((((((w.setCell ⟨g, i0, none⟩ u0).setCell ⟨g, i1, none⟩ u1).setCell ⟨g, i2, none⟩ u2).setCell ⟨g, i3, none⟩ u3).setCell ⟨g, i4, none⟩ u4).setCell ⟨g, i5, none⟩ u5).setCell ⟨g, i6, none⟩ u6) base ok v xs := fatR7 (Kd.Zbm h fun k hk => ⟨hk, hok k hk⟩)
theorem fatN7 {g : Nat} {i0 i1 i2 i3 i4 i5 i6 : Nat} {u0 u1 u2 u3 u4 u5 u6 : Value} (hm : Kd.N d e w base (fun k => ok k ∧ k ≠ g) v xs) : Kd.N d e (((((((w.setCell ⟨g, i0, none⟩ u0).setCell ⟨g, i1, none⟩ u1).setCell ⟨g, i2, none⟩ u2).setCell ⟨g, i3, none⟩ u3).setCell ⟨g, i4, none⟩ u4).setCell ⟨g, i5, none⟩ u5).setCell ⟨g, i6, none⟩ u6) base ok v xs := Kd.Zdm (Kd.Zdj (p := ⟨g, i6, none⟩) (Kd.Zdj (p := ⟨g, i5, none⟩) (Kd.Zdj (p := ⟨g, i4, none⟩) (Kd.Zdj (p := ⟨g, i3, none⟩) (Kd.Zdj (p := ⟨g, i2, none⟩) (Kd.Zdj (p := ⟨g, i1, none⟩) (Kd.Zdj (p := ⟨g, i0, none⟩) hm (fun _ hk => hk.2) u0) (fun _ hk => hk.2) u1) (fun _ hk => hk.2) u2) (fun _ hk => hk.2) u3) (fun _ hk => hk.2) u4) (fun _ hk => hk.2) u5) (fun _ hk => hk.2) u6) (fun _ h => h.1)
theorem farN7 {g : Nat} {i0 i1 i2 i3 i4 i5 i6 : Nat} {u0 u1 u2 u3 u4 u5 u6 : Value} (h : Kd.N d e w base ok v xs) (hok : ∀ k, ok k → k ≠ g) : Kd.N d e (((((((w.setCell ⟨g, i0, none⟩ u0).setCell ⟨g, i1, none⟩ u1).setCell ⟨g, i2, none⟩ u2).setCell ⟨g, i3, none⟩ u3).setCell ⟨g, i4, none⟩ u4).setCell ⟨g, i5, none⟩ u5).setCell ⟨g, i6, none⟩ u6) base ok v xs := fatN7 (Kd.Zdm h fun k hk => ⟨hk, hok k hk⟩)
theorem fatV1 {g : Nat} {i0 : Nat} {u0 : Value} (hm : Kd.V d e w base (fun k => ok k ∧ k ≠ g) v xs) : Kd.V d e (w.setCell ⟨g, i0, none⟩ u0) base ok v xs := Kd.Zfy (Kd.V_far (p := ⟨g, i0, none⟩) hm (fun _ hk => hk.2) u0) (fun _ h => h.1)
theorem farV1 {g : Nat} {i0 : Nat} {u0 : Value} (h : Kd.V d e w base ok v xs) (hok : ∀ k, ok k → k ≠ g) : Kd.V d e (w.setCell ⟨g, i0, none⟩ u0) base ok v xs := fatV1 (Kd.Zfy h fun k hk => ⟨hk, hok k hk⟩)
end
theorem withB {P : Program} {n m : Nat} {args : Array Value} {W w0 : World} {Q : Ending → World → Prop} (h : Below m w0 W) (k : Below m w0 W → Calls P n args W Q) : Calls P n args W Q := k h
end Go.Proofs.Ytpbcigilipdedaa.P
/- The iterators that the program goes over: the values of a slice (slices.Values); what comes, round by round, for every loop body that keeps the rest of memory. -/
namespace Go.Proofs.Ytpbcigilipdedaa.P
open Go.RowKit Go.Shelf Go.Proofs.YtpbcigilipdedaaW.PrintWords Go.Proofs.YtpbcigilipdedaaW.PrintLast Go.Proofs.YtpbcigilipdedaaW.PrintMore
set_option linter.unusedVariables false
set_option linter.unusedSimpArgs false
attribute [local go_sem] Oper.semAt_some
def KeepsTy (t : Nat) (W W' : World) : Prop := ∀ (k : Nat) (cs : Array Value) (fr : Nat × Nat), W.heap[k]? = some (Obj.cells cs t fr) → W'.heap[k]? = some (Obj.cells cs t fr)
theorem KeepsTy.refl (t : Nat) (W : World) : KeepsTy t W W := fun _ _ _ h => h
theorem KeepsTy.trans {t : Nat} {A B C : World} (h : KeepsTy t A B) (k : KeepsTy t B C) : KeepsTy t A C := fun i cs fr hi => k i cs fr (h i cs fr hi)
theorem KeepsTy.grown {t : Nat} {W W' : World} {row : Option Nat} (hg : W.grownBy W' row) (hr : ∀ r, row = some r → ∀ cs fr, W.heap[r]? ≠ some (Obj.cells cs t fr)) : KeepsTy t W W' := fun k cs fr h =>
  (hg.block k (Array.getElem?_eq_some_iff.1 h).1 (fun e => hr k e.symm cs fr h)).trans h
theorem KeepsTy.alloc (t : Nat) (W : World) (o : Obj) : KeepsTy t W (W.alloc o) := KeepsTy.grown (World.grownBy_alloc W o none) (fun r e => by cases e)
theorem KeepsTy.box {t t' B : Nat} {W : World} {v v' : Value} (h : Boxed W B t' v) (hne : t' ≠ t) : KeepsTy t W (W.setCell ⟨B, 0, none⟩ v') :=
  KeepsTy.grown (grownBy_setCell' W B v') (fun r e cs fr hh => by
    cases e
    have := (show W.heap[B]? = _ from h).symm.trans hh
    simp at this
    exact hne this.2.1)
theorem KeepsTy.putObj {t l : Nat} {W : World} {o : Obj} (o' : Obj) (h : W.heap[l]? = some o) (ho : o.isCells = false) : KeepsTy t W (W.putObj l o') :=
  KeepsTy.grown (grownBy_putObj' W l o') (fun r e cs fr hh => by
    cases e
    rw [h] at hh
    cases hh
    cases ho)
theorem KeepsTy.row {t e base size n : Nat} {W W' : World} {v : Value} {xs : List Value} (hr : W.ownsRow base e size v n xs) (hne : e ≠ t) (hg : W.grownBy W' v.ownBlock) : KeepsTy t W W' :=
  KeepsTy.grown hg (fun r er cs fr hh => by
    rcases hr.2 with ⟨rfl, _⟩ | ⟨g, cap, cur, rfl, _, hgb, _⟩
    · simp [Value.ownBlock] at er
    obtain rfl : g = r := by simpa [Value.ownBlock] using er
    rw [hgb] at hh
    simp at hh
    exact hne hh.2.1)
def Kp (n₀ : Nat) (W W' : World) : Prop := Below n₀ W W' ∧ KeepsTy 41 W W'
theorem Kp.t {n₀ : Nat} {A B C : World} (h : Kp n₀ A B) (k : Kp n₀ B C) : Kp n₀ A C := ⟨h.1.trans k.1, h.2.trans k.2⟩
theorem Kp.b {n₀ : Nat} {w : World} (hn : n₀ ≤ w.heap.size) (W : World) (l : Nat) (o o' : Obj) (hl : w.heap.size ≤ l) (h : W.heap[l]? = some o) (hc : o.isCells = false) (hw : o.isWalk = false) : Kp n₀ W (W.putObj l o') :=
  ⟨belowK_b hn W l o o' hl h hc hw, KeepsTy.putObj o' h hc⟩
set_option maxRecDepth 100000 in
set_option maxHeartbeats 4000000 in
theorem values1_in (F : Fence) (n : Nat) (h1 : F.fn 92) (hro : F.round = none) (hn : 1 ≤ n) (l Bs : Nat) (w : World) (A : Option Addr) (c : Nat) (zs : List Int) (hr : Kd.C (Kd.int .i64) w A zs.length zs) (J Jx : List Int → World → Prop)
    (hY : ∀ pre x W, J pre W → pre.length < zs.length → YieldAt F (n - 1) Try.prog l #[.int .i64 x] W fun e W' =>
      (e = .returned (.bool true) ∧ J (pre ++ [x]) W' ∧ Kp w.heap.size W W') ∨ (e = .returned (.bool false) ∧ Jx (pre ++ [x]) W'))
    (W : World) (hW : Below w.heap.size w W) (hBs : W.cell? ⟨Bs, 0, none⟩ = some (.slice A zs.length c)) (h0 : J [] W) :
    CallsIn F n Try.prog 92 #[.func (.yield l) #[] #[], .pointer (some ⟨Bs, 0, none⟩)] W fun e W' => (∃ v, e = .returned v) ∧
      ((∃ ys, ys = zs ∧ J ys W') ∨ (∃ pre, pre <+: zs ∧ Jx pre W')) := by
  refine callsIn_of_wp Try.func92 rfl h1 ?_ hro
  simp only [Try.ntmps92, List.size_toArray, List.length_cons, List.length_nil, Nat.reduceAdd, Nat.reduceSub, Array.replicate_succ, Array.replicate_zero, List.push_toArray, List.append_toArray, List.nil_append, List.cons_append]
  have hlen : zs.length ≤ 9223372036854775807 := hr.2.1
  gi_wp2
  gi_loopw [7] (fun i7 wr => ∃ (k : Nat), k ≤ zs.length ∧ i7 = .int .i64 k ∧ J (zs.take k) wr ∧ Below w.heap.size w wr)
    (fun i _ => zs.length - (intOf i).toNat)
  case atStart => exact ⟨0, Nat.zero_le _, rfl, by simpa using h0, hW⟩
  case round =>
    obtain ⟨k, hk, rfl, hJs, hb⟩ := hrel
    by_cases hlt : k < zs.length
    rotate_left
    · obtain rfl : k = zs.length := by omega
      gi_wp2
      go_end0
      exact ⟨⟨_, rfl⟩, .inl ⟨zs, rfl, by simpa using hJs⟩⟩
    obtain ⟨ad, rfl, hx0⟩ := Kd.Zby hr (k : Int) (by omega) (by omega)
    have hx0 := (hb.cell (World.block_lt_of_cell? w _ hx0)).trans hx0
    simp only [Int.toNat_natCast] at hx0
    have htk : zs.take (k + 1) = zs.take k ++ [rd zs (k : Int)] := by
      rw [List.take_succ_eq_append_getElem hlt]
      simp [rd, List.getD_eq_getElem?_getD, List.getElem?_eq_getElem hlt]
    have HT := Za.mk htk
    clear htk
    have hy0 := hY (zs.take k) (rd zs (k : Int)) wr hJs (by rw [List.length_take]; omega)
    generalize rd zs (k : Int) = x at *
    obtain ⟨fn, tmps, assign, body, hy, hR⟩ := hy0
    gi_wp2
    refine hR.mono ?_
    rintro e W3 (⟨rfl, hJ3, hk3⟩ | ⟨rfl, hJx3⟩)
    · have hb3 := hb.trans hk3.1
      clear hR hy hx0
      gi_wp2
      go_roundw
      case rel => exact ⟨k + 1, by omega, by first | rfl | go_num, by rw [HT.out]; exact hJ3, hb3⟩
      case measure => simp [intOf]; omega
    gi_wp2
    refine bodyPost_ret (results_none rfl _ _ _) rfl ?_
    exact ⟨⟨_, rfl⟩, .inr ⟨_, by rw [← HT.out]; exact List.take_prefix _ _, hJx3⟩⟩
theorem values_in (F : Fence) (n : Nat) (h : F.fn 68) (hro : F.round = none) (A : Option Addr) (len cap : Nat) (w : World) :
    CallsIn F n Try.prog 68 #[.slice A len cap] w fun e w' => e = .returned (.func (.func 92) #[] #[.pointer (some ⟨w.heap.size, 0, none⟩)]) ∧ w' = w.alloc (.cells #[.slice A len cap] 23) := by
  refine callsIn_of_wp Try.func68 rfl h ?_ hro
  simp only [Try.ntmps68, List.size_toArray, List.length_cons, List.length_nil, Nat.reduceAdd, Nat.reduceSub, Array.replicate_succ, Array.replicate_zero, List.push_toArray, List.append_toArray, List.nil_append, List.cons_append]
  gi_wp2
  go_ret
  exact ⟨rfl, rfl⟩
theorem values_stops (F : Fence) (n : Nat) (h1 : F.fn 92) (hro : F.round = none) (hn : 1 ≤ n) (Bs : Nat) (w0 w : World) (A : Option Addr) (c : Nat) (zs : List Int) (hr : Kd.C (Kd.int .i64) w0 A zs.length zs) (hBs : Bs < w.heap.size) (hw : Below w0.heap.size w0 w)
    (hc : w.cell? ⟨Bs, 0, none⟩ = some (.slice A zs.length c)) :
    SeqStopsK F n Try.prog 92 #[.pointer (some ⟨Bs, 0, none⟩)] (fun x : Int => #[Value.int .i64 x]) (Kp w0.heap.size) (fun ys => ys = zs) (fun pre => pre <+: zs) zs.length w := fun l J Jx W hW _ _ hY h0 =>
  values1_in F n h1 hro hn l Bs w0 A c zs hr J Jx hY W (hw.trans (hW.mono hw.size)) ((hW.cell (p := ⟨Bs, 0, none⟩) hBs).trans hc) h0
theorem infoI : (Try.prog.info? 3).map (fun i => (i.zero, i.size, i.bytes)) = some (some (.int .i64 0), 1, 8) := by kernel_rfl
set_option maxRecDepth 100000 in
set_option maxHeartbeats 4000000 in
theorem appendSeq_in (F : Fence) (n : Nat) (h : F.fn 97) (hro : F.round = none) (hn : 2 ≤ n) (g : Nat) (lb : Array Value) (hFg : F.fn g) (eg : ∀ args w, (callFunc g args).run Try.prog w = .ok (.enter g args) w)
    (n0 : Nat) (S Sp : List Int → Prop) (N : Nat) (hN : N * 8 ≤ 140737488355328) (w0 w : World) (hw : Below w0.heap.size w0 w) (hn0 : n0 ≤ w.heap.size) (hseq : SeqStopsK F (n - 1) Try.prog g lb (fun x : Int => #[Value.int .i64 x]) (Kp n0) S Sp N w0) :
    CallsIn F n Try.prog 97 #[.slice none 0 0, .func (.func g) #[] lb] w fun e w' => ∃ (v : Value) (xs : List Int), e = .returned v ∧ S xs ∧ w'.ownsRow w.heap.size 3 1 v xs.length (xs.map (Value.int .i64)) ∧ Below w.heap.size w w' := by
  have h1 : 1 ≤ n := by omega
  obtain ⟨i0, hi, hz0, hz1, hz2⟩ := info_parts infoI
  refine callsIn_of_wp_marks Try.func97 rfl h ?_ hro
  simp only [Try.ntmps97, List.size_toArray, List.length_cons, List.length_nil, Nat.reduceAdd, Nat.reduceSub, Array.replicate_succ, Array.replicate_zero, List.push_toArray, List.append_toArray, List.nil_append, List.cons_append]
  gi_wp2
  have bO := Boxed.new w 23 (.slice none 0 0)
  have hB0 : Below w.heap.size w (w.alloc (.cells #[.slice none 0 0] 23)) := (Below.refl _ w).alloc (Nat.le_refl _) _
  have hseq' : SeqStopsK F (n - 1) Try.prog g lb (fun x : Int => #[Value.int .i64 x]) (Kp n0) S Sp N (w.alloc (.cells #[.slice none 0 0] 23)) := fun l J Jx W hW a b c d => hseq l J Jx W (hw.trans ((hB0.mono hw.size).trans (hW.mono (by have := hw.size; simp; omega)))) a b c d
  refine wpIn_rangeFunc_ownG hro h1 (gf := g) (lb := lb) rfl hFg eg hseq' Kp.t (Kp.b (by simp; omega)) (Below.refl _ _) (fun _ => rfl)
    (fun pre W => (∃ v, Boxed W w.heap.size 23 v ∧ W.ownsRow w.heap.size 3 1 v pre.length (pre.map (Value.int .i64)) ∧ True) ∧ Below w.heap.size w W)
    (fun _ _ _ => False)
    (OwnFrom.and (Own.from (holdsRow_own w.heap.size w.heap.size 23 3 1 (fun pre : List Int => pre.length) (fun pre => pre.map (Value.int .i64)) (fun _ _ => True)) _) (ownFrom_below (Nat.le_refl _) (by simp)))
    (fun _ _ _ _ _ hs _ _ => hs)
    ⟨⟨_, bO, World.ownsRow_nil _ _ _ _, trivial⟩, hB0⟩
    (fun x => { tmps := #[.slice none 0 0, .func (.func g) #[] lb, .pointer (some ⟨w.heap.size, 0, none⟩), undef, .slice none 0 0, .int .i64 x, .func (.func g) #[] lb, .int .i64 x, undef, undef, undef, undef, undef], defers := [] }) ?assign ?body ?done ?stop
  case assign =>
    intro l x W K hK
    gi_wp2
    exact hK
  case body =>
    rintro l pre x W ⟨⟨v, hv, hrow, _⟩, hB⟩ hlt
    have hc := hv.cell
    gi_wp2_with (gi_at_builtin; refine wpListIn_append_own _ rfl _ _ 23 rfl w.heap.size 3 i0 (.int .i64 0) 1 8 Try.underlying23 hi hz0 hz1 hz2 rfl (by decide) _ _ _ rfl (hrow.alloc _) ⟨W.heap.size, 0, none⟩ 1 1 [.int .i64 x] rfl rfl (cell_one_new _ _ _) (by simp [Value.oneCell']) (by unfold maxLen; omega) (by omega) (by have := hB.size; simp; omega) ?_; intro v' w1 hown' hgrow _; obtain ⟨g', cap', rfl⟩ := ownsRow_succ hown'; have hty := (KeepsTy.alloc 41 W (.cells #[.int .i64 x] 3)).trans (KeepsTy.row (hrow.alloc _) (by decide) hgrow); obtain ⟨hv1, hv2, hr2, hk2, hb2⟩ := hv.appended (by decide) hrow hB.size (Nat.le_refl _) hown' hgrow; have hty2 := hty.trans (KeepsTy.box hv1 (v' := .slice (some ⟨g', 0, none⟩) (pre.length + 1) cap') (by decide)); have hc1 := hv1.cell; have hf1 := hv1.frozen)
    exact ⟨hk2.from _, ⟨hb2.mono hn0, hty2⟩, ⟨_, hv2, by simpa using hr2, trivial⟩, hB.trans hb2⟩
  case done =>
    rintro D ys W hD hS ⟨⟨v, hv, hrow, _⟩, hB⟩ hK
    have hc := hv.cell
    gi_wp2
    refine ⟨by simp, .inl ⟨_, _, rfl, run_takeDeferred hK, ?_⟩⟩
    exact ⟨_, results_tmp rfl _ _ _, v, ys, rfl, hS, ownsRow_putObj hrow _ hK rfl, hB.trans (belowK_b (w := w) (Nat.le_refl _) W D _ _ (by simp at hD; omega) hK rfl rfl)⟩
  case stop =>
    rintro D c pre W _ _ h _
    exact h.elim
set_option maxHeartbeats 1000000 in
theorem collect_in (F : Fence) (n : Nat) (h : F.fn 81) (h2 : F.fn 97) (hro : F.round = none) (hn : 3 ≤ n) (g : Nat) (lb : Array Value) (hFg : F.fn g) (eg : ∀ args w, (callFunc g args).run Try.prog w = .ok (.enter g args) w)
    (n0 : Nat) (S Sp : List Int → Prop) (N : Nat) (hN : N * 8 ≤ 140737488355328) (w0 w : World) (hw : Below w0.heap.size w0 w) (hn0 : n0 ≤ w.heap.size) (hseq : SeqStopsK F (n - 1 - 1) Try.prog g lb (fun x : Int => #[Value.int .i64 x]) (Kp n0) S Sp N w0) :
    CallsIn F n Try.prog 81 #[.func (.func g) #[] lb] w fun e w' => ∃ (v : Value) (xs : List Int), e = .returned v ∧ S xs ∧ w'.ownsRow w.heap.size 3 1 v xs.length (xs.map (Value.int .i64)) ∧ Below w.heap.size w w' := by
  have h1 : 1 ≤ n := by omega
  refine callsIn_of_wp Try.func81 rfl h ?_ hro
  simp only [Try.ntmps81, List.size_toArray, List.length_cons, List.length_nil, Nat.reduceAdd, Nat.reduceSub, Array.replicate_succ, Array.replicate_zero, List.push_toArray, List.append_toArray, List.nil_append, List.cons_append]
  have cA := fun W (hw : Below w0.heap.size w0 W) hn0 => appendSeq_in F (n - 1) h2 hro (by omega) g lb hFg eg n0 S Sp N hN w0 W hw hn0 hseq
  gi_wp2_with (gi_at_call 97; refine (cA _ hw hn0).mono ?_; rintro e w' ⟨v, xs, rfl, hS, hrow, hb⟩)
  go_ret
  exact ⟨v, xs, rfl, hS, hrow, hb⟩
end Go.Proofs.Ytpbcigilipdedaa.P
/- dom.Has: whether a value is in a domain. -/
namespace Go.Proofs.Ytpbcigilipdedaa.P
open Go.RowKit Go.Shelf Go.Proofs.YtpbcigilipdedaaW.PrintWords Go.Proofs.YtpbcigilipdedaaW.PrintLast Go.Proofs.YtpbcigilipdedaaW.PrintMore
set_option linter.unusedVariables false
set_option linter.unusedSimpArgs false
theorem take_at_T41 {d : List S41} {k : Nat} (hk : k < d.length) : d.take (k + 1) = d.take k ++ [Zbu d (k : Int)] := by
  rw [List.take_succ_eq_append_getElem hk]
  simp [Zbu, List.getD_eq_getElem?_getD, List.getElem?_eq_getElem hk]
set_option maxHeartbeats 2000000 in
theorem Zf3 (p : S41 → Bool) (g : Nat) (lb : Array Value) (eg : ∀ args w, (callFunc g args).run Try.prog w = .ok (.enter g args) w) (A : Option Addr) (c : Nat) (zs : List S41) (w : World) (hr : Kd.C k41 w A zs.length zs)
    (hp : ∀ (x : S41) W, Below w.heap.size w W → Calls Try.prog g (#[.agg #[.int .i64 x.f0, .int .i64 x.f1]] ++ lb) W fun e w' => e = .returned (.bool (p x)) ∧ Below w.heap.size w w') :
    Calls Try.prog 93 #[.slice A zs.length c, .func (.func g) #[] lb] w fun e w' => (∃ i : Int, e = .returned (.int .i64 i) ∧ decide (0 ≤ i) = zs.any p) ∧ Below w.heap.size w w' := by
  have hlen : zs.length ≤ 9223372036854775807 := hr.2.1
  have hany : ∀ k, zs.any p = ((zs.take k).any p || (zs.drop k).any p) := fun k => by rw [← List.any_append, List.take_append_drop]
  have HY := Za.mk hany
  clear hany
  go_enter Try.func93, Try.ntmps93
  go_wp2
  go_loopg [5, 8] zs.length (fun gg _ s8 wr => ∃ kk : Nat, kk ≤ zs.length ∧ zs.length - kk ≤ gg ∧ s8 = .int .i64 kk ∧ Za (Below w.heap.size w wr) ∧ Za ((zs.take kk).any p = false))
  case atStart => exact ⟨0, Nat.zero_le _, by omega, rfl, ⟨Below.refl _ _⟩, ⟨by simp⟩⟩
  case round =>
    obtain ⟨kk, hkk, hg, rfl, HB, A1⟩ := hrel
    by_cases hlt : kk < zs.length
    rotate_left
    · obtain rfl : kk = zs.length := by omega
      go_wp2
      go_ret
      refine ⟨⟨_, rfl, ?_⟩, HB.out⟩
      have := A1.out
      rw [List.take_length] at this
      rw [this]
      rfl
    obtain ⟨ad, rfl, hx0, hx1⟩ := Zdv hr (kk : Int) (by omega) (by omega)
    replace hx0 := (HB.out.cell (World.block_lt_of_cell? w _ hx0)).trans hx0
    replace hx1 := (HB.out.cell (World.block_lt_of_cell? w _ hx1)).trans hx1
    simp only [Int.toNat_natCast] at hx0 hx1
    have hcall := fun W => hp (Zbu zs (kk : Int)) W
    clear hp
    have htk : Za (zs.take (kk + 1) = zs.take kk ++ [Zbu zs (kk : Int)]) := ⟨take_at_T41 hlt⟩
    generalize Zbu zs (kk : Int) = y at *
    cases hq : p y with
    | true =>
      rw [hq] at hcall
      have B := Za.mk hq
      clear hq
      go_wp2_with (go_at_fn g; refine (hcall _ (by first | exact HB.out | exact HB.out.drewN _)).mono ?_; rintro e w' ⟨rfl, hb'⟩)
      go_ret
      refine ⟨⟨_, rfl, ?_⟩, hb'⟩
      rw [HY.out (kk + 1), htk.out, List.any_append]
      simp [B.out]
    | false =>
      rw [hq] at hcall
      have B := Za.mk hq
      clear hq
      go_wp2_with (go_at_fn g; refine (hcall _ (by first | exact HB.out | exact HB.out.drewN _)).mono ?_; rintro e w' ⟨rfl, hb'⟩)
      go_roundg (zs.length - (kk + 1))
      case measure => omega
      case rel => exact ⟨kk + 1, by omega, by omega, by go_num, ⟨hb'⟩, ⟨by rw [htk.out, List.any_append, A1.out]; simp [B.out]⟩⟩
theorem Zev (p : S41 → Bool) (g : Nat) (lb : Array Value) (eg : ∀ args w, (callFunc g args).run Try.prog w = .ok (.enter g args) w) (A : Option Addr) (c : Nat) (zs : List S41) (w : World) (hr : Kd.C k41 w A zs.length zs)
    (hp : ∀ (x : S41) W, Below w.heap.size w W → Calls Try.prog g (#[.agg #[.int .i64 x.f0, .int .i64 x.f1]] ++ lb) W fun e w' => e = .returned (.bool (p x)) ∧ Below w.heap.size w w') :
    Calls Try.prog 73 #[.slice A zs.length c, .func (.func g) #[] lb] w fun e w' => e = .returned (.bool (zs.any p)) ∧ Below w.heap.size w w' := by
  have hI := Zf3 p g lb eg A c zs w hr hp
  go_enter Try.func73, Try.ntmps73
  go_wp2_with (go_at_call 93; refine hI.mono ?_; rintro e w' ⟨⟨i, rfl, hi⟩, hb⟩)
  go_ret
  exact ⟨by rw [← hi]; rfl, hb⟩
def inR (v : Int) (x : S41) : Bool := decide (x.f0 ≤ v) && decide (v ≤ x.f1)
set_option maxHeartbeats 2000000 in
theorem hasPred (w : World) (v : Int) (b : Nat) (hb : w.cell? ⟨b, 0, none⟩ = some (.int .i64 v)) (hbl : b < w.heap.size) (x : S41) (W : World) (hW : Below w.heap.size w W) :
    Calls Try.prog 74 (#[.agg #[.int .i64 x.f0, .int .i64 x.f1]] ++ #[.pointer (some ⟨b, 0, none⟩)]) W fun e w' => e = .returned (.bool (inR v x)) ∧ Below w.heap.size w w' := by
  have hc : W.cell? ⟨b, 0, none⟩ = some (.int .i64 v) := (hW.cell (p := ⟨b, 0, none⟩) hbl).trans hb
  have hne := hW.size
  have hc2 : (W.alloc (.cells #[.int .i64 x.f0, .int .i64 x.f1] 41)).cell? ⟨b, 0, none⟩ = some (.int .i64 v) := (((Below.refl _ W).alloc (Nat.le_refl _) _).cell (p := ⟨b, 0, none⟩) (by show b < W.heap.size; omega)).trans hc
  show Calls Try.prog 74 #[.agg #[.int .i64 x.f0, .int .i64 x.f1], .pointer (some ⟨b, 0, none⟩)] W fun e w' => e = .returned (.bool (inR v x)) ∧ Below w.heap.size w w'
  unfold inR
  by_cases h0 : x.f0 ≤ v
  · have c0 : decide (x.f0 ≤ v) = true := decide_eq_true h0
    rw [c0, Bool.true_and]
    clear h0
    go_enter Try.func74, Try.ntmps74
    go_wp2
    go_ret
    exact ⟨rfl, by repeat (first | exact hW | exact hW.alloc hne _ | apply Zaa)⟩
  have c0 : decide (x.f0 ≤ v) = false := decide_eq_false h0
  rw [c0, Bool.false_and]
  clear h0
  go_enter Try.func74, Try.ntmps74
  go_wp2
  go_ret
  exact ⟨rfl, by repeat (first | exact hW | exact hW.alloc hne _ | apply Zaa)⟩
def Zd6.f (l0 : List S41) (a1 : Int) : Option Bool := some (l0.any (inR a1))
set_option maxHeartbeats 2000000 in
theorem Zd6.calls (A0 : Option Addr) (c0 : Nat) (l0 : List S41) (a1 : Int) (r : Bool) (w : World) (hr0 : Kd.C k41 w A0 l0.length l0) (hc0 : l0.length ≤ c0) (h : Zd6.f l0 a1 = some r) :
    Calls Try.prog 45 #[.slice A0 l0.length c0, .int .i64 a1] w fun e w' => e = .returned (.bool r) ∧ Below w.heap.size w w' := by
  obtain rfl := Option.some.inj h
  clear h
  have hB : Below w.heap.size w (w.alloc (.cells #[.int .i64 a1] 3)) := (Below.refl _ w).alloc (Nat.le_refl _) _
  have cC := Zev (inR a1) 74 #[.pointer (some ⟨w.heap.size, 0, none⟩)] (enters_of Try.func74 (by kernel_rfl) rfl) A0 c0 l0 (w.alloc (.cells #[.int .i64 a1] 3)) (Kd.Zaw hr0 hB)
    (fun x W hW => hasPred _ a1 w.heap.size (Boxed.new w 3 (.int .i64 a1)).cell (by simp) x W hW)
  clear hr0
  go_enter Try.func45, Try.ntmps45
  go_wp2_with (go_at_call 73; refine cC.mono ?_; rintro e w' ⟨rfl, hb⟩)
  go_ret
  exact ⟨rfl, hB.trans (hb.mono (by simp))⟩
end Go.Proofs.Ytpbcigilipdedaa.P
namespace Go.Proofs.Ytpbcigilipdedaa.P
open Go.RowKit Go.Proofs.YtpbcigilipdedaaW.PrintWords Go.Proofs.YtpbcigilipdedaaW.PrintLast Go.Proofs.YtpbcigilipdedaaW.PrintMore
attribute [local go_sem] Zcg Zci Zcr Zcs Zb7 Zb8 Zch Zcj
set_option linter.unusedVariables false
set_option linter.unusedSimpArgs false
mutual
def Zbe.l0 : Nat → List (List (S41)) → List (List Int) → List (List Int) → Int → Int → Int → List Int → List Int → Int → Int → List (List Int) → Int → Option ((List (List Int)))
 | 0, _, _, _, _, _, _, _, _, _, _, _, _ => none
 | k + 1, x0, x5, x11, x12, x13, x301000, x301001, x301002, x301003, x301004, x301005, x301006 => if x13 < x12 then (if 0 ≤ x13 then (if x13 < (x11.length : Int) then (Zbe.l1 k x0 x5 (Zbt x11 x13) x11 x12 x13 x301001 (x301001.length : Int) 0 x301000 x301001 x301002 x301003 x301004 x301005 x301006) else (none)) else (none)) else (some x5)
def Zbe.l1 : Nat → List (List (S41)) → List (List Int) → List Int → List (List Int) → Int → Int → List Int → Int → Int → Int → List Int → List Int → Int → Int → List (List Int) → Int → Option ((List (List Int)))
 | 0, _, _, _, _, _, _, _, _, _, _, _, _, _, _, _, _ => none
 | k + 1, x0, x5, x7, x11, x12, x13, x18, x19, x20, x301000, x301001, x301002, x301003, x301004, x301005, x301006 => if x20 < x19 then (if 0 ≤ x20 then (if x20 < (x18.length : Int) then (if 0 ≤ (rd x18 x20) then (if (rd x18 x20) < (x0.length : Int) then (if x20 < (x7.length : Int) then ((Zd6.f (Zcb x0 (rd x18 x20)) (rd x7 x20)).bind fun t305 => (if t305 = true then (Zbe.l1 k x0 x5 x7 x11 x12 x13 x18 x19 (wrap64 (x20 + 1)) x301000 x301001 x301002 x301003 x301004 x301005 x301006) else (Zbe.l0 k x0 x5 x11 x12 (wrap64 (x13 + 1)) x301000 x301001 x301002 x301003 x301004 x301005 x301006))) else (none)) else (none)) else (none)) else (none)) else (none)) else ((cloneI.f x7).bind fun t306 => (if x5.length < 5864062014805 then (Zbe.l0 k x0 (x5 ++ [t306]) x11 x12 (wrap64 (x13 + 1)) x301000 x301001 x301002 x301003 x301004 x301005 x301006) else (none)))
end
def Zbe.f (k : Nat) (l0 : List (List (S41))) (a1_0 : Int) (l1_1 : List Int) (l1_2 : List Int) (a1_3 : Int) (a1_4 : Int) (l1_5 : List (List Int)) (a1_6 : Int) : Option ((List (List Int))) := Zbe.l0 k l0 ([] : List (List Int)) l1_5 (l1_5.length : Int) 0 a1_0 l1_1 l1_2 a1_3 a1_4 l1_5 a1_6
def Zbe.T8 : Bool × List (List Nat × List Nat) := (true, [([], []), ([], []), ([0, 1], [0, 1]), ([2], [2]), ([], []), ([], []), ([4, 5], [4, 5]), ([6], [6]), ([3, 7], [3, 7]), ([8], [8])])
def Zbe.B8 : List Nat := [0, 0, 3, 7, 0, 0, 48, 112, 255, 511]
theorem Zbe.tab8 : rtab .any (opsOf Try.f20 8) = Zbe.T8 := by kernel_rfl
theorem Zbe.bits8 : waitsOk Zbe.T8.2 Zbe.B8 = true := by kernel_rfl
set_option maxHeartbeats 8000000 in
set_option maxRecDepth 100000 in
theorem Zbe.calls (k : Nat) (A0 : Option Addr) (c0 : Nat) (l0 : List (List (S41))) (a1_0 : Int) (A1_1 : Option Addr) (c1_1 : Nat) (l1_1 : List Int) (A1_2 : Option Addr) (c1_2 : Nat) (l1_2 : List Int) (a1_3 : Int) (a1_4 : Int) (A1_5 : Option Addr) (c1_5 : Nat) (l1_5 : List (List Int)) (a1_6 : Int) (r : List (List Int)) (w : World) (hr0 : Kd.C (Kd.slice 41 k41) w A0 l0.length l0) (hc0 : l0.length ≤ c0) (hr1_1 : Kd.C (Kd.int .i64) w A1_1 l1_1.length l1_1) (hc1_1 : l1_1.length ≤ c1_1) (hr1_2 : Kd.C (Kd.int .i64) w A1_2 l1_2.length l1_2) (hc1_2 : l1_2.length ≤ c1_2) (hr1_5 : Kd.C (Kd.slice 3 (Kd.int .i64)) w A1_5 l1_5.length l1_5) (hc1_5 : l1_5.length ≤ c1_5) (h : Zbe.f k l0 a1_0 l1_1 l1_2 a1_3 a1_4 l1_5 a1_6 = some r) :
  Calls Try.prog 20 #[.slice A0 l0.length c0, .agg #[.int .i64 a1_0, .slice A1_1 l1_1.length c1_1, .slice A1_2 l1_2.length c1_2, .int .i64 a1_3, .int .i64 a1_4, .slice A1_5 l1_5.length c1_5, .int .i64 a1_6]] w fun e w' => ∃ v0_ : Value, e = .returned (v0_) ∧ Kd.S (Kd.slice 3 (Kd.int .i64)) 23 w' w.heap.size (fun _ => True) v0_ r ∧ Below w.heap.size w w' := by
 have hu25 := Try.underlying25
 have HR0 := Za.mk hr0
 have HC0 := Za.mk hc0
 clear hr0 hc0
 have HR1_1 := Za.mk hr1_1
 have HC1_1 := Za.mk hc1_1
 clear hr1_1 hc1_1
 have HR1_2 := Za.mk hr1_2
 have HC1_2 := Za.mk hc1_2
 clear hr1_2 hc1_2
 have HR1_5 := Za.mk hr1_5
 have HC1_5 := Za.mk hc1_5
 clear hr1_5 hc1_5
 have HB := Za.mk (Below.refl w.heap.size w)
 have H : (Zbe.l0 k l0 ([] : List (List Int)) l1_5 (l1_5.length : Int) 0 a1_0 l1_1 l1_2 a1_3 a1_4 l1_5 a1_6) = some r := h
 clear h
 have H' := Za.mk H
 clear H
 go_enter Try.func20, Try.ntmps20
 try go_step3
 go_wp2_with (first | ((with_reducible refine Zbv (N := 3) rfl ?_); refine Zb4 ?hg (N := 3) ?hd (cs := #[.int .i64 a1_0, .slice A1_1 l1_1.length c1_1, .slice A1_2 l1_2.length c1_2, .int .i64 a1_3, .int .i64 a1_4, .slice A1_5 l1_5.length c1_5, .int .i64 a1_6]) (t := 25) ?hr ?_; (case hd => rfl); (case hg => rfl); (case hr => first | (go_simp; done) | (go_simp; rfl)); intro gb300 hg w3 hbox hb; have n0_ := Za.mk (Zan (by repeat (first | (with_reducible first | exact HB.out | apply Zac | apply Zaa | apply Zab) | exact HB.out)) hb); have n1_ := Za.mk (hbox); have n3_ := Za.mk ((by rw [hg]; exact (Zam (by repeat (first | (with_reducible first | exact HB.out | apply Zac | apply Zaa | apply Zab) | exact HB.out))) : w.heap.size ≤ gb300)); clear HB; have HB := n0_; have BK300 := n1_; have GE300 := n3_; clear n0_ n1_ n3_; clear hb hbox hg; obtain ⟨hcz4_0, hcz4_1, hcz4_2, hcz4_3, hcz4_4, hcz4_5, hcz4_6, hfz4_0, hfz4_1, hfz4_2, hfz4_3, hfz4_4, hfz4_5, hfz4_6⟩ := Zce BK300.out))
 go_step3
 go_wp2
 go_step3
 go_wp2_with (first | ((with_reducible refine Zbv (N := 3) rfl ?_); refine Zb4 ?hg (N := 3) ?hd (cs := #[.int .i64 a1_0, .slice A1_1 l1_1.length c1_1, .slice A1_2 l1_2.length c1_2, .int .i64 a1_3, .int .i64 a1_4, .slice A1_5 l1_5.length c1_5, .int .i64 a1_6]) (t := 25) ?hr ?_; (case hd => rfl); (case hg => rfl); (case hr => first | (go_simp; done) | (go_simp; rfl)); intro gb300 hg w3 hbox hb; have n0_ := Za.mk (Zan (by repeat (first | (with_reducible first | exact HB.out | apply Zac | apply Zaa | apply Zab) | exact HB.out)) hb); have n1_ := Za.mk (hbox); have n3_ := Za.mk ((by rw [hg]; exact (Zam (by repeat (first | (with_reducible first | exact HB.out | apply Zac | apply Zaa | apply Zab) | exact HB.out))) : w.heap.size ≤ gb300)); clear HB; have HB := n0_; have BK300 := n1_; have GE300 := n3_; clear n0_ n1_ n3_; clear hb hbox hg; obtain ⟨hcz4_0, hcz4_1, hcz4_2, hcz4_3, hcz4_4, hcz4_5, hcz4_6, hfz4_0, hfz4_1, hfz4_2, hfz4_3, hfz4_4, hfz4_5, hfz4_6⟩ := Zce BK300.out))
 go_loopg [5, 13] k (fun kq v5 v13 w' => ∃ (x5_1 : List (List Int)) (x13_1 : Int), v13 = .int .i64 x13_1 ∧ Za (Zbe.l0 kq l0 x5_1 l1_5 (l1_5.length : Int) x13_1 a1_0 l1_1 l1_2 a1_3 a1_4 l1_5 a1_6 = some r) ∧ Za (kq ≤ k) ∧ Za (Kd.S (Kd.slice 3 (Kd.int .i64)) 23 w' w.heap.size (fun _ => True) v5 x5_1) ∧ Za (w'.heap[gb300]? = some (.cells #[.int .i64 a1_0, (.slice A1_1 l1_1.length c1_1), (.slice A1_2 l1_2.length c1_2), .int .i64 a1_3, .int .i64 a1_4, (.slice A1_5 l1_5.length c1_5), .int .i64 a1_6] 25 (0, 0))) ∧ Za (Below w.heap.size w w'))
 case atStart => exact ⟨(([] : List (List Int))), (0), (by first | rfl | (simp; done) | (simp [*]; done)), H', ⟨Nat.le_refl _⟩, ⟨by first | exact Kd.S_nil _ _ _ _ _ | exact Kd.N_nil _ _ _ _ _ | exact Kd.V_nil _ _ _ _ _ | exact Kd.Q_nil _ _ _ _ _ | exact Kd.Zem _ _ _ _ _⟩, ⟨by (with_reducible repeat (first | refine Zah ?_ _ | refine Zaj ?_ | refine Zaf ?_ _)); exact BK300.out⟩, ⟨by repeat (first | (with_reducible first | exact HB.out | apply Zac | apply Zaa | apply Zab | refine Zag ?_ GE300.out) | exact HB.out)⟩⟩
 case round =>
  clear H'
  try clear c1
  try clear c2
  try clear p2
  try clear hcz4_0
  try clear hcz4_1
  try clear hcz4_2
  try clear hcz4_3
  try clear hcz4_4
  try clear hcz4_5
  try clear hcz4_6
  try clear hfz4_0
  try clear hfz4_1
  try clear hfz4_2
  try clear hfz4_3
  try clear hfz4_4
  try clear hfz4_5
  try clear hfz4_6
  obtain ⟨x5_1, x13_1, rfl, HA, HK1, HO_5, BK300, HB⟩ := hrel
  cases gk with
  | zero => exact absurd HA.out (by simp [Zbe.l0])
  | succ k1 =>
   have H := HA.out
   clear HA
   simp only [Zbe.l0] at H
   by_cases c5 : x13_1 < (l1_5.length : Int)
   rotate_left
   ·rw [if_neg c5] at H
    have c5b0 : decide (x13_1 < (l1_5.length : Int)) = false := decide_eq_false c5
    clear c5
    obtain rfl := Option.some.inj H
    go_wp2
    try rw [Exit.noGoto_ret]
    go_ret
    exact ⟨_, by first | rfl | (simp [Zaq, Zar] <;> rfl) | (simp [*, Zaq, Zar] <;> rfl), by (with_reducible repeat (first | apply Kd.S_alloc | apply Kd.S_drewN | apply Kd.Zb6)); exact HO_5.out, by repeat (first | (with_reducible first | exact HB.out | apply Zac | apply Zaa | apply Zab | refine Zag ?_ GE300.out) | exact HB.out)⟩
   rw [if_pos c5] at H
   have c5b0 : decide (x13_1 < (l1_5.length : Int)) = true := decide_eq_true c5
   clear c5
   by_cases c6 : 0 ≤ x13_1
   rotate_left
   ·rw [if_neg c6] at H
    exact absurd H (by simp)
   rw [if_pos c6] at H
   have c6b0 : decide (0 ≤ x13_1) = true := decide_eq_true c6
   clear c6
   by_cases c7 : x13_1 < (l1_5.length : Int)
   rotate_left
   ·rw [if_neg c7] at H
    exact absurd H (by simp)
   rw [if_pos c7] at H
   have c7b0 : decide (x13_1 < (l1_5.length : Int)) = true := decide_eq_true c7
   clear c7
   have H' := Za.mk H
   clear H
   have p301 : 0 ≤ (x13_1 : Int) := of_decide_eq_true (by first | (with_reducible assumption) | assumption)
   have q301 : x13_1 < (l1_5.length : Int) := of_decide_eq_true (by first | (with_reducible assumption) | assumption)
   obtain ⟨ad301, A301_0, c301_0, e301, hx301_0, hl301_0, hi301_0⟩ := Zd2 HR1_5.out x13_1 p301 q301
   cases e301
   replace hx301_0 := (HB.out.cell (World.block_lt_of_cell? w _ hx301_0)).trans hx301_0
   have HR301_0 := Za.mk hi301_0
   have HC301_0 := Za.mk hl301_0
   clear hi301_0 hl301_0
   replace p301 := eq_true p301
   replace q301 := eq_true q301
   obtain ⟨hcz8_0, hcz8_1, hcz8_2, hcz8_3, hcz8_4, hcz8_5, hcz8_6, hfz8_0, hfz8_1, hfz8_2, hfz8_3, hfz8_4, hfz8_5, hfz8_6⟩ := Zce BK300.out
   go_wp2
   go_loopg [20] k1 (fun kq v20 w' => ∃ (x20_2 : Int), v20 = .int .i64 x20_2 ∧ Za (Zbe.l1 kq l0 x5_1 (Zbt l1_5 x13_1) l1_5 (l1_5.length : Int) x13_1 l1_1 (l1_1.length : Int) x20_2 a1_0 l1_1 l1_2 a1_3 a1_4 l1_5 a1_6 = some r) ∧ Za (kq ≤ k1) ∧ Za (Kd.S (Kd.slice 3 (Kd.int .i64)) 23 w' w.heap.size (fun _ => True) u5 x5_1) ∧ Za (w'.heap[gb300]? = some (.cells #[.int .i64 a1_0, (.slice A1_1 l1_1.length c1_1), (.slice A1_2 l1_2.length c1_2), .int .i64 a1_3, .int .i64 a1_4, (.slice (some ad301) l1_5.length c1_5), .int .i64 a1_6] 25 (0, 0))) ∧ Za (Below w.heap.size w w'))
   case atStart => exact ⟨(0), (by first | rfl | (simp; done) | (simp [*]; done)), H', ⟨Nat.le_refl _⟩, ⟨by (with_reducible repeat (first | apply Kd.S_alloc | apply Kd.S_drewN | apply Kd.Zb6)); exact HO_5.out⟩, ⟨by (with_reducible repeat (first | refine Zah ?_ _ | refine Zaj ?_ | refine Zaf ?_ _)); exact BK300.out⟩, ⟨by repeat (first | (with_reducible first | exact HB.out | apply Zac | apply Zaa | apply Zab | refine Zag ?_ GE300.out) | exact HB.out)⟩⟩
   case round =>
    clear H'
    try clear c1
    try clear c2
    try clear p2
    try clear c3
    try clear p3
    try clear q3
    try clear hx3
    try clear c5
    try clear c5b0
    try clear c6
    try clear c6b0
    try clear c7
    try clear c7b0
    try clear hcz4_0
    try clear hcz4_1
    try clear hcz4_2
    try clear hcz4_3
    try clear hcz4_4
    try clear hcz4_5
    try clear hcz4_6
    try clear hcz8_0
    try clear hcz8_1
    try clear hcz8_2
    try clear hcz8_3
    try clear hcz8_4
    try clear hcz8_5
    try clear hcz8_6
    try clear hfz4_0
    try clear hfz4_1
    try clear hfz4_2
    try clear hfz4_3
    try clear hfz4_4
    try clear hfz4_5
    try clear hfz4_6
    try clear hfz8_0
    try clear hfz8_1
    try clear hfz8_2
    try clear hfz8_3
    try clear hfz8_4
    try clear hfz8_5
    try clear hfz8_6
    try clear hx301_0
    try clear p2
    try clear p301
    try clear q301
    obtain ⟨x20_2, rfl, HA, HK2, HO_5, BK300, HB⟩ := hrel
    cases gk with
    | zero => exact absurd HA.out (by simp [Zbe.l1])
    | succ k2 =>
     have H := HA.out
     clear HA
     simp only [Zbe.l1] at H
     by_cases c9 : x20_2 < (l1_1.length : Int)
     rotate_left
     ·rw [if_neg c9] at H
      have c9b0 : decide (x20_2 < (l1_1.length : Int)) = false := decide_eq_false c9
      clear c9
      replace H := Option.bind_eq_some_iff.mp H
      obtain ⟨t306, A210, H⟩ := H
      replace H : (if x5_1.length < 5864062014805 then (Zbe.l0 k2 l0 (x5_1 ++ [t306]) l1_5 (l1_5.length : Int) (wrap64 (x13_1 + 1)) a1_0 l1_1 l1_2 a1_3 a1_4 l1_5 a1_6) else (none)) = some r := H
      have A21 := Za.mk A210
      clear A210
      by_cases c22 : x5_1.length < 5864062014805
      rotate_left
      ·rw [if_neg c22] at H
       exact absurd H (by simp)
      rw [if_pos c22] at H
      have LMc22 := Za.mk c22
      clear c22
      obtain ⟨y309, hy309⟩ : ∃ y_ : List (List Int), y_ = (x5_1 ++ [t306]) := ⟨_, rfl⟩
      replace H : (Zbe.l0 k2 l0 y309 l1_5 (l1_5.length : Int) (wrap64 (x13_1 + 1)) a1_0 l1_1 l1_2 a1_3 a1_4 l1_5 a1_6) = some r := by first | (rw [hy309]; with_reducible exact H) | (have H2_ := (Option.bind_some _ _).symm.trans H; rw [hy309]; with_reducible exact H2_) | (have H2_ := (Option.bind_some _ _).symm.trans H; with_reducible exact H2_) | with_reducible exact H | (rw [hy309]; exact H) | exact H
      have Ny309 := Za.mk hy309
      clear hy309
      have H' := Za.mk H
      clear H
      go_wp2_with (first | ((with_reducible refine Za2 (f := 46) rfl ?_); refine Zb0 (some 38) rfl rfl Try.func46 (by kernel_rfl) rfl #[.slice A301_0 (Zbt l1_5 x13_1).length c301_0] rfl (by (try simp only [List.map_toArray, List.map_cons, List.map_nil]); first | done | rfl | (simp only [List.length_drop, List.length_take]; rfl)) ?_; (refine withB (m := w.heap.size) (w0 := w) (by repeat (first | (with_reducible first | exact HB.out | apply Zac | apply Zaa | apply Zab | refine Zag ?_ GE300.out) | exact HB.out)) ?_); intro hL_; (with_reducible refine (cloneI.calls _ _ (Zbt l1_5 x13_1) t306 _ ?side1 ?side2 A21.out).mono ?_); (case side1 => repeat (first | exact (Kd.Zaw HR301_0.out HB.out) | (with_reducible refine Kd.C_alloc ?_ _) | (with_reducible refine Kd.Za0 ?_ _) | (with_reducible refine Kd.C_drew ?_))); (case side2 => exact HC301_0.out); rintro e w23 ⟨v307, rfl, ho0, hb⟩; refine ⟨_, rfl, ?_⟩; have n0_ := Za.mk (Kd.Zee (mvS HO_5.out) (Kd.Zdn ho0) hb); have n1_ := Za.mk (Kd.Zbz ho0 (Zam hL_)); have n2_ := Za.mk (Za6 (g := gb300) (o := .cells #[.int .i64 a1_0, .slice A1_1 l1_1.length c1_1, .slice A1_2 l1_2.length c1_2, .int .i64 a1_3, .int .i64 a1_4, .slice (some ad301) l1_5.length c1_5, .int .i64 a1_6] 25 (0, 0)) (mvK BK300.out) hb); have n3_ := Za.mk (Zan hL_ hb); clear HO_5; clear BK300; clear HB; have HO_5 := n0_; have HO308 := n1_; have BK300 := n2_; have HB := n3_; clear n0_ n1_ n2_ n3_; (try clear hb); (try clear hb2); (try clear hk); (try clear hi); (try clear ho0); obtain ⟨Ao25, co25, eo25⟩ := Kd.Zbw HO308.out; subst eo25) | ((with_reducible refine Zbg (b := .append) (xs := #[.tmp 36, .tmp 39]) rfl ?_); at_builtin; refine Kd.Zfr (Kd.slice 3 (Kd.int .i64)) (w0 := w) w.heap.size rfl (.tmp 36) (.tmp 39) 22 23 (.slice none 0 0) 24 rfl Try.underlying22 Zex rfl (by decide) (by omega) u5 x5_1 t306 [.slice Ao25 t306.length co25] (fun _ => True) (fun k_ => some k_ = (.slice Ao25 t306.length co25 : Value).ownBlock) rfl rfl ?aP (fun k_ hk_ => ((Kd.Zbm (ok' := fun k_ => ((fun _ => True)) k_ ∧ some k_ ≠ (u5 : Value).ownBlock) (Kd.Zc0 (HO308.out) (Kd.Zc2 HO_5.out) (by decide)) (fun k_ hk => ⟨trivial, hk.2⟩))).1 k_ hk_.symm) ?aF ?aO ?aB ?aS ?aL ?_; (case aP => exact Kd.M_row (Kd.Zbm (Kd.Zd4 rfl (Kd.Zbm (ok' := fun k_ => ((fun _ => True)) k_ ∧ some k_ ≠ (u5 : Value).ownBlock) (Kd.Zc0 (HO308.out) (Kd.Zc2 HO_5.out) (by decide)) (fun k_ hk => ⟨trivial, hk.2⟩))) (fun _ h_ => h_))); (case aB => exact (by repeat (first | (with_reducible first | exact HB.out | apply Zac | apply Zaa | apply Zab | refine Zag ?_ GE300.out) | exact HB.out))); (case aF => exact (fun _ _ => trivial)); (case aO => exact (mvS (Kd.Zck HO_5.out (fun k_ hk => ⟨trivial, fun e_ => hk.2 e_⟩)))); (case aS => exact (Zam (by repeat (first | (with_reducible first | exact HB.out | apply Zac | apply Zaa | apply Zab | refine Zag ?_ GE300.out) | exact HB.out)))); (case aL => have := LMc22.out; omega); intro v310 w24 ho hb hg hat; rw [← Ny309.out] at ho; have n0_ := Za.mk (Zcp (g := gb300) (o := .cells #[.int .i64 a1_0, .slice A1_1 l1_1.length c1_1, .slice A1_2 l1_2.length c1_2, .int .i64 a1_3, .int .i64 a1_4, .slice (some ad301) l1_5.length c1_5, .int .i64 a1_6] 25 (0, 0)) (mvK BK300.out) hg (Kd.S_ne HO_5.out BK300.out (by decide))); have n1_ := Za.mk (hb); have n2_ := Za.mk (ho); clear BK300; clear HB; clear HO_5; clear HO308; have BK300 := n0_; have HB := n1_; have HO311 := n2_; clear n0_ n1_ n2_; clear ho hb hg hat))
      go_roundg k2
      case measure => have := HK1.out; have := HK2.out; omega
      case rel => exact ⟨(y309), (wrap64 (x13_1 + 1)), (by first | rfl | (simp; done) | (simp [*]; done)), H', ⟨by have := HK1.out; have := HK2.out; omega⟩, ⟨by (with_reducible repeat (first | apply Kd.S_alloc | apply Kd.S_drewN | apply Kd.Zb6)); exact HO311.out⟩, ⟨by (with_reducible repeat (first | refine Zah ?_ _ | refine Zaj ?_ | refine Zaf ?_ _)); exact BK300.out⟩, ⟨by repeat (first | (with_reducible first | exact HB.out | apply Zac | apply Zaa | apply Zab | refine Zag ?_ GE300.out) | exact HB.out)⟩⟩
     rw [if_pos c9] at H
     have c9b0 : decide (x20_2 < (l1_1.length : Int)) = true := decide_eq_true c9
     clear c9
     by_cases c10 : 0 ≤ x20_2
     rotate_left
     ·rw [if_neg c10] at H
      exact absurd H (by simp)
     rw [if_pos c10] at H
     have c10b0 : decide (0 ≤ x20_2) = true := decide_eq_true c10
     clear c10
     by_cases c11 : x20_2 < (l1_1.length : Int)
     rotate_left
     ·rw [if_neg c11] at H
      exact absurd H (by simp)
     rw [if_pos c11] at H
     have c11b0 : decide (x20_2 < (l1_1.length : Int)) = true := decide_eq_true c11
     clear c11
     by_cases c12 : 0 ≤ (rd l1_1 x20_2)
     rotate_left
     ·rw [if_neg c12] at H
      exact absurd H (by simp)
     rw [if_pos c12] at H
     have c12b0 : decide (0 ≤ (rd l1_1 x20_2)) = true := decide_eq_true c12
     clear c12
     by_cases c13 : (rd l1_1 x20_2) < (l0.length : Int)
     rotate_left
     ·rw [if_neg c13] at H
      exact absurd H (by simp)
     rw [if_pos c13] at H
     have c13b0 : decide ((rd l1_1 x20_2) < (l0.length : Int)) = true := decide_eq_true c13
     clear c13
     by_cases c14 : x20_2 < ((Zbt l1_5 x13_1).length : Int)
     rotate_left
     ·rw [if_neg c14] at H
      exact absurd H (by simp)
     rw [if_pos c14] at H
     have c14b0 : decide (x20_2 < ((Zbt l1_5 x13_1).length : Int)) = true := decide_eq_true c14
     clear c14
     replace H := Option.bind_eq_some_iff.mp H
     obtain ⟨t305, A150, H⟩ := H
     replace H : (if t305 = true then (Zbe.l1 k2 l0 x5_1 (Zbt l1_5 x13_1) l1_5 (l1_5.length : Int) x13_1 l1_1 (l1_1.length : Int) (wrap64 (x20_2 + 1)) a1_0 l1_1 l1_2 a1_3 a1_4 l1_5 a1_6) else (Zbe.l0 k2 l0 x5_1 l1_5 (l1_5.length : Int) (wrap64 (x13_1 + 1)) a1_0 l1_1 l1_2 a1_3 a1_4 l1_5 a1_6)) = some r := H
     have A15 := Za.mk A150
     clear A150
     by_cases c16 : t305 = true
     ·subst c16
      have H1 : (Zbe.l1 k2 l0 x5_1 (Zbt l1_5 x13_1) l1_5 (l1_5.length : Int) x13_1 l1_1 (l1_1.length : Int) (wrap64 (x20_2 + 1)) a1_0 l1_1 l1_2 a1_3 a1_4 l1_5 a1_6) = some r := by rw [if_pos rfl] at H; exact H
      clear H
      have H := H1
      clear H1
      have H' := Za.mk H
      clear H
      have p302 : 0 ≤ (x20_2 : Int) := of_decide_eq_true (by first | (with_reducible assumption) | assumption)
      have q302 : x20_2 < (l1_1.length : Int) := of_decide_eq_true (by first | (with_reducible assumption) | assumption)
      obtain ⟨ad302, e302, hx302_0⟩ := Kd.Zby HR1_1.out x20_2 p302 q302
      cases e302
      replace hx302_0 := (HB.out.cell (World.block_lt_of_cell? w _ hx302_0)).trans hx302_0
      replace p302 := eq_true p302
      replace q302 := eq_true q302
      try go_wp2
      have n0_ := Za.mk (Kd.Zb6 HO_5.out)
      have n1_ := Za.mk (Zaj BK300.out)
      have n2_ := Za.mk (Zab HB.out)
      clear HO_5
      clear BK300
      clear HB
      have HO_5 := n0_
      have BK300 := n1_
      have HB := n2_
      clear n0_ n1_ n2_
      have p303 : 0 ≤ ((rd l1_1 x20_2) : Int) := of_decide_eq_true (by first | (with_reducible assumption) | assumption)
      have q303 : (rd l1_1 x20_2) < (l0.length : Int) := of_decide_eq_true (by first | (with_reducible assumption) | assumption)
      obtain ⟨ad303, A303_0, c303_0, e303, hx303_0, hl303_0, hi303_0⟩ := Zfn HR0.out (rd l1_1 x20_2) p303 q303
      have hw303_0 := hx303_0
      cases e303
      replace hx303_0 := (HB.out.cell (World.block_lt_of_cell? w _ hx303_0)).trans hx303_0
      have HR303_0 := Za.mk hi303_0
      have HC303_0 := Za.mk hl303_0
      clear hi303_0 hl303_0
      replace p303 := eq_true p303
      replace q303 := eq_true q303
      have p304 : 0 ≤ (x20_2 : Int) := of_decide_eq_true (by first | (with_reducible assumption) | assumption)
      have q304 : x20_2 < ((Zbt l1_5 x13_1).length : Int) := of_decide_eq_true (by first | (with_reducible assumption) | assumption)
      obtain ⟨ad304, e304, hx304_0⟩ := Kd.Zby HR301_0.out x20_2 p304 q304
      have hw304_0 := hx304_0
      cases e304
      replace hx304_0 := (HB.out.cell (World.block_lt_of_cell? w _ hx304_0)).trans hx304_0
      replace p304 := eq_true p304
      replace q304 := eq_true q304
      refine Zdl (n := 10) (S := fun w' => w'.cell? (ad303.add ((rd l1_1 x20_2)).toNat) = some (.slice A303_0 (Zcb l0 (rd l1_1 x20_2)).length c303_0) ∧ w'.cell? (ad304.add (x20_2).toNat) = some (.int .i64 (rd (Zbt l1_5 x13_1) x20_2))) (ds := []) #[false, false, false, false, false, false, false, false, false, false] (by kernel_rfl) rfl rfl ⟨((HB.out.cell (World.block_lt_of_cell? w _ hw303_0)).trans hw303_0), ((HB.out.cell (World.block_lt_of_cell? w _ hw304_0)).trans hw304_0)⟩ (fun hHeld => ?_); refine Zcl Zbe.tab8 Zbe.bits8 (fun HT_ HW_ => ?_)
      generalize wr.drew = w17 at HO_5 BK300 HB HR303_0 hx303_0 hx304_0 hHeld ⊢
      refine Zbn (i := 0) (N := some 25) (v := ?_) (a' := ?_) #[true, false, false, false, false, false, false, false, false, false] rfl rfl (Za5 HT_.out (by kernel_rfl)) (fun _ _ _ h => h) (Or.inl ⟨by rfl, ?_⟩) ?_ ?_
      rotate_left
      ·intro w'
       go_simp
       with_reducible rfl
      rotate_left
      ·simp only [Act.put, List.setIfInBounds_toArray, List.set_cons_zero, List.set_cons_succ, Za4, Za7]
       rfl
      refine Zbn (i := 1) (N := some 26) (v := ?_) (a' := ?_) #[true, true, false, false, false, false, false, false, false, false] rfl rfl (Za5 HT_.out (by kernel_rfl)) (fun _ _ _ h => h) (Or.inl ⟨by rfl, ?_⟩) ?_ ?_
      rotate_left
      ·intro w'
       go_simp
       with_reducible rfl
      rotate_left
      ·simp only [Act.put, List.setIfInBounds_toArray, List.set_cons_zero, List.set_cons_succ, Za4, Za7]
       rfl
      refine Zbn (i := 2) (N := some 27) (v := ?_) (a' := ?_) #[true, true, true, false, false, false, false, false, false, false] rfl rfl (Za5 HT_.out (by kernel_rfl)) (fun _ _ _ h => h) (Or.inl ⟨by rfl, ?_⟩) ?_ ?_
      rotate_left
      ·intro w'
       go_simp
       with_reducible rfl
      rotate_left
      ·simp only [Act.put, List.setIfInBounds_toArray, List.set_cons_zero, List.set_cons_succ, Za4, Za7]
       rfl
      refine Zbn (i := 4) (N := some 29) (v := ?_) (a' := ?_) #[true, true, true, false, true, false, false, false, false, false] rfl rfl (Za5 HT_.out (by kernel_rfl)) (fun _ _ _ h => h) (Or.inl ⟨by rfl, ?_⟩) ?_ ?_
      rotate_left
      ·intro w'
       go_simp
       with_reducible rfl
      rotate_left
      ·simp only [Act.put, List.setIfInBounds_toArray, List.set_cons_zero, List.set_cons_succ, Za4, Za7]
       rfl
      refine Zbn (i := 5) (N := some 30) (v := ?_) (a' := ?_) #[true, true, true, false, true, true, false, false, false, false] rfl rfl (Za5 HT_.out (by kernel_rfl)) (fun _ _ _ h => h) (Or.inl ⟨by rfl, ?_⟩) ?_ ?_
      rotate_left
      ·intro w'
       go_simp
       with_reducible rfl
      rotate_left
      ·simp only [Act.put, List.setIfInBounds_toArray, List.set_cons_zero, List.set_cons_succ, Za4, Za7]
       rfl
      refine Zbn (i := 6) (N := some 31) (v := ?_) (a' := ?_) #[true, true, true, false, true, true, true, false, false, false] rfl rfl (Za5 HT_.out (by kernel_rfl)) (fun _ _ _ h => h) (Or.inl ⟨by rfl, ?_⟩) ?_ ?_
      rotate_left
      ·intro w'
       go_simp
       with_reducible rfl
      rotate_left
      ·simp only [Act.put, List.setIfInBounds_toArray, List.set_cons_zero, List.set_cons_succ, Za4, Za7]
       rfl
      refine Zc3 (i := 3) (N := some 28) (v := ?_) (a' := ?_) #[true, true, true, true, true, true, true, false, false, false] rfl rfl (Zb1 HT_.out HW_.out (by kernel_rfl)) (fun _ _ _ h => h) (Or.inl ⟨by rfl, ?_⟩) hHeld ?_ ?_
      rotate_left
      ·rintro w' ⟨s0, s1⟩
       go_simp
       with_reducible rfl
      rotate_left
      ·simp only [Act.put, List.setIfInBounds_toArray, List.set_cons_zero, List.set_cons_succ, Za4, Za7]
       rfl
      refine Zc3 (i := 7) (N := some 32) (v := ?_) (a' := ?_) #[true, true, true, true, true, true, true, true, false, false] rfl rfl (Zb1 HT_.out HW_.out (by kernel_rfl)) (fun _ _ _ h => h) (Or.inl ⟨by rfl, ?_⟩) hHeld ?_ ?_
      rotate_left
      ·rintro w' ⟨s0, s1⟩
       go_simp
       with_reducible rfl
      rotate_left
      ·simp only [Act.put, List.setIfInBounds_toArray, List.set_cons_zero, List.set_cons_succ, Za4, Za7]
       rfl
      refine one_ (i := 8) (N := some 33) #[true, true, true, true, true, true, true, true, true, false] rfl rfl (Zc4 HT_.out (by kernel_rfl)) (by decide) (fun K hK => ?_)
      refine goes_ Try.func45 (by kernel_rfl) rfl #[.slice A303_0 (Zcb l0 (rd l1_1 x20_2)).length c303_0, .int .i64 (rd (Zbt l1_5 x13_1) x20_2)] (by rfl) rfl rfl (by (try simp only [List.map_toArray, List.map_cons, List.map_nil]); first | done | rfl | (simp only [List.length_drop, List.length_take]; rfl)) ?_
      with_reducible refine (Zd6.calls _ _ (Zcb l0 (rd l1_1 x20_2)) (rd (Zbt l1_5 x13_1) x20_2) true _ ?side1 ?side2 A15.out).mono ?_
      (case side1 => repeat (first | exact (Kd.Zaw HR303_0.out HB.out) | (with_reducible refine Kd.C_alloc ?_ _) | (with_reducible refine Kd.Za0 ?_ _) | (with_reducible refine Kd.C_drew ?_)))
      (case side2 => exact HC303_0.out)
      rintro e w18 ⟨rfl, hb⟩
      refine ⟨_, rfl, ?_⟩
      have n0_ := Za.mk (Kd.Zc1 (mvS HO_5.out) hb)
      have n1_ := Za.mk (Za6 (g := gb300) (o := .cells #[.int .i64 a1_0, .slice (some ad302) l1_1.length c1_1, .slice A1_2 l1_2.length c1_2, .int .i64 a1_3, .int .i64 a1_4, .slice (some ad301) l1_5.length c1_5, .int .i64 a1_6] 25 (0, 0)) (mvK BK300.out) hb)
      have n2_ := Za.mk (Zan (by repeat (first | (with_reducible first | exact HB.out | apply Zac | apply Zaa | apply Zab | refine Zag ?_ GE300.out) | exact HB.out)) hb)
      clear HO_5
      clear BK300
      clear HB
      have HO_5 := n0_
      have BK300 := n1_
      have HB := n2_
      clear n0_ n1_ n2_
      (try clear hb)
      (try clear hb2)
      (try clear hk)
      (try clear hi)
      refine hK.out _ _ ⟨((HB.out.cell (World.block_lt_of_cell? w _ hw303_0)).trans hw303_0), ((HB.out.cell (World.block_lt_of_cell? w _ hw304_0)).trans hw304_0)⟩ (fun hHeld => ?_)
      clear hK K
      refine Zea (a' := ?_) ?_ ?_
      rotate_left
      ·show Act.put _ (some 33) _ = _
       simp only [Act.put, List.setIfInBounds_toArray, List.set_cons_zero, List.set_cons_succ, Za4, Za7]
       rfl
      refine Zbn (i := 9) (N := some 34) (v := ?_) (a' := ?_) #[true, true, true, true, true, true, true, true, true, true] rfl rfl (Za5 HT_.out (by kernel_rfl)) (fun _ _ _ h => h) (Or.inl ⟨by rfl, ?_⟩) ?_ ?_
      rotate_left
      ·intro w'
       go_simp
       with_reducible rfl
      rotate_left
      ·simp only [Act.put, List.setIfInBounds_toArray, List.set_cons_zero, List.set_cons_succ, Za4, Za7]
       rfl
      refine Zew (Zc7 HT_.out (by kernel_rfl)) ?_
      try go_wp2
      go_roundg k2
      case measure => have := HK1.out; have := HK2.out; omega
      case rel => exact ⟨(wrap64 (x20_2 + 1)), (by first | rfl | (simp; done) | (simp [*]; done)), H', ⟨by have := HK1.out; have := HK2.out; omega⟩, ⟨by (with_reducible repeat (first | apply Kd.S_alloc | apply Kd.S_drewN | apply Kd.Zb6)); exact HO_5.out⟩, ⟨by (with_reducible repeat (first | refine Zah ?_ _ | refine Zaj ?_ | refine Zaf ?_ _)); exact BK300.out⟩, ⟨by repeat (first | (with_reducible first | exact HB.out | apply Zac | apply Zaa | apply Zab | refine Zag ?_ GE300.out) | exact HB.out)⟩⟩
     replace c16 := Bool.eq_false_iff.mpr c16
     subst c16
     have H1 : (Zbe.l0 k2 l0 x5_1 l1_5 (l1_5.length : Int) (wrap64 (x13_1 + 1)) a1_0 l1_1 l1_2 a1_3 a1_4 l1_5 a1_6) = some r := by rw [if_neg (show ¬ (false = true) by decide)] at H; exact H
     clear H
     have H := H1
     clear H1
     have H' := Za.mk H
     clear H
     have p302 : 0 ≤ (x20_2 : Int) := of_decide_eq_true (by first | (with_reducible assumption) | assumption)
     have q302 : x20_2 < (l1_1.length : Int) := of_decide_eq_true (by first | (with_reducible assumption) | assumption)
     obtain ⟨ad302, e302, hx302_0⟩ := Kd.Zby HR1_1.out x20_2 p302 q302
     cases e302
     replace hx302_0 := (HB.out.cell (World.block_lt_of_cell? w _ hx302_0)).trans hx302_0
     replace p302 := eq_true p302
     replace q302 := eq_true q302
     try go_wp2
     have n0_ := Za.mk (Kd.Zb6 HO_5.out)
     have n1_ := Za.mk (Zaj BK300.out)
     have n2_ := Za.mk (Zab HB.out)
     clear HO_5
     clear BK300
     clear HB
     have HO_5 := n0_
     have BK300 := n1_
     have HB := n2_
     clear n0_ n1_ n2_
     have p303 : 0 ≤ ((rd l1_1 x20_2) : Int) := of_decide_eq_true (by first | (with_reducible assumption) | assumption)
     have q303 : (rd l1_1 x20_2) < (l0.length : Int) := of_decide_eq_true (by first | (with_reducible assumption) | assumption)
     obtain ⟨ad303, A303_0, c303_0, e303, hx303_0, hl303_0, hi303_0⟩ := Zfn HR0.out (rd l1_1 x20_2) p303 q303
     have hw303_0 := hx303_0
     cases e303
     replace hx303_0 := (HB.out.cell (World.block_lt_of_cell? w _ hx303_0)).trans hx303_0
     have HR303_0 := Za.mk hi303_0
     have HC303_0 := Za.mk hl303_0
     clear hi303_0 hl303_0
     replace p303 := eq_true p303
     replace q303 := eq_true q303
     have p304 : 0 ≤ (x20_2 : Int) := of_decide_eq_true (by first | (with_reducible assumption) | assumption)
     have q304 : x20_2 < ((Zbt l1_5 x13_1).length : Int) := of_decide_eq_true (by first | (with_reducible assumption) | assumption)
     obtain ⟨ad304, e304, hx304_0⟩ := Kd.Zby HR301_0.out x20_2 p304 q304
     have hw304_0 := hx304_0
     cases e304
     replace hx304_0 := (HB.out.cell (World.block_lt_of_cell? w _ hx304_0)).trans hx304_0
     replace p304 := eq_true p304
     replace q304 := eq_true q304
     refine Zdl (n := 10) (S := fun w' => w'.cell? (ad303.add ((rd l1_1 x20_2)).toNat) = some (.slice A303_0 (Zcb l0 (rd l1_1 x20_2)).length c303_0) ∧ w'.cell? (ad304.add (x20_2).toNat) = some (.int .i64 (rd (Zbt l1_5 x13_1) x20_2))) (ds := []) #[false, false, false, false, false, false, false, false, false, false] (by kernel_rfl) rfl rfl ⟨((HB.out.cell (World.block_lt_of_cell? w _ hw303_0)).trans hw303_0), ((HB.out.cell (World.block_lt_of_cell? w _ hw304_0)).trans hw304_0)⟩ (fun hHeld => ?_); refine Zcl Zbe.tab8 Zbe.bits8 (fun HT_ HW_ => ?_)
     generalize wr.drew = w19 at HO_5 BK300 HB HR303_0 hx303_0 hx304_0 hHeld ⊢
     refine Zbn (i := 0) (N := some 25) (v := ?_) (a' := ?_) #[true, false, false, false, false, false, false, false, false, false] rfl rfl (Za5 HT_.out (by kernel_rfl)) (fun _ _ _ h => h) (Or.inl ⟨by rfl, ?_⟩) ?_ ?_
     rotate_left
     ·intro w'
      go_simp
      with_reducible rfl
     rotate_left
     ·simp only [Act.put, List.setIfInBounds_toArray, List.set_cons_zero, List.set_cons_succ, Za4, Za7]
      rfl
     refine Zbn (i := 1) (N := some 26) (v := ?_) (a' := ?_) #[true, true, false, false, false, false, false, false, false, false] rfl rfl (Za5 HT_.out (by kernel_rfl)) (fun _ _ _ h => h) (Or.inl ⟨by rfl, ?_⟩) ?_ ?_
     rotate_left
     ·intro w'
      go_simp
      with_reducible rfl
     rotate_left
     ·simp only [Act.put, List.setIfInBounds_toArray, List.set_cons_zero, List.set_cons_succ, Za4, Za7]
      rfl
     refine Zbn (i := 2) (N := some 27) (v := ?_) (a' := ?_) #[true, true, true, false, false, false, false, false, false, false] rfl rfl (Za5 HT_.out (by kernel_rfl)) (fun _ _ _ h => h) (Or.inl ⟨by rfl, ?_⟩) ?_ ?_
     rotate_left
     ·intro w'
      go_simp
      with_reducible rfl
     rotate_left
     ·simp only [Act.put, List.setIfInBounds_toArray, List.set_cons_zero, List.set_cons_succ, Za4, Za7]
      rfl
     refine Zbn (i := 4) (N := some 29) (v := ?_) (a' := ?_) #[true, true, true, false, true, false, false, false, false, false] rfl rfl (Za5 HT_.out (by kernel_rfl)) (fun _ _ _ h => h) (Or.inl ⟨by rfl, ?_⟩) ?_ ?_
     rotate_left
     ·intro w'
      go_simp
      with_reducible rfl
     rotate_left
     ·simp only [Act.put, List.setIfInBounds_toArray, List.set_cons_zero, List.set_cons_succ, Za4, Za7]
      rfl
     refine Zbn (i := 5) (N := some 30) (v := ?_) (a' := ?_) #[true, true, true, false, true, true, false, false, false, false] rfl rfl (Za5 HT_.out (by kernel_rfl)) (fun _ _ _ h => h) (Or.inl ⟨by rfl, ?_⟩) ?_ ?_
     rotate_left
     ·intro w'
      go_simp
      with_reducible rfl
     rotate_left
     ·simp only [Act.put, List.setIfInBounds_toArray, List.set_cons_zero, List.set_cons_succ, Za4, Za7]
      rfl
     refine Zbn (i := 6) (N := some 31) (v := ?_) (a' := ?_) #[true, true, true, false, true, true, true, false, false, false] rfl rfl (Za5 HT_.out (by kernel_rfl)) (fun _ _ _ h => h) (Or.inl ⟨by rfl, ?_⟩) ?_ ?_
     rotate_left
     ·intro w'
      go_simp
      with_reducible rfl
     rotate_left
     ·simp only [Act.put, List.setIfInBounds_toArray, List.set_cons_zero, List.set_cons_succ, Za4, Za7]
      rfl
     refine Zc3 (i := 3) (N := some 28) (v := ?_) (a' := ?_) #[true, true, true, true, true, true, true, false, false, false] rfl rfl (Zb1 HT_.out HW_.out (by kernel_rfl)) (fun _ _ _ h => h) (Or.inl ⟨by rfl, ?_⟩) hHeld ?_ ?_
     rotate_left
     ·rintro w' ⟨s0, s1⟩
      go_simp
      with_reducible rfl
     rotate_left
     ·simp only [Act.put, List.setIfInBounds_toArray, List.set_cons_zero, List.set_cons_succ, Za4, Za7]
      rfl
     refine Zc3 (i := 7) (N := some 32) (v := ?_) (a' := ?_) #[true, true, true, true, true, true, true, true, false, false] rfl rfl (Zb1 HT_.out HW_.out (by kernel_rfl)) (fun _ _ _ h => h) (Or.inl ⟨by rfl, ?_⟩) hHeld ?_ ?_
     rotate_left
     ·rintro w' ⟨s0, s1⟩
      go_simp
      with_reducible rfl
     rotate_left
     ·simp only [Act.put, List.setIfInBounds_toArray, List.set_cons_zero, List.set_cons_succ, Za4, Za7]
      rfl
     refine one_ (i := 8) (N := some 33) #[true, true, true, true, true, true, true, true, true, false] rfl rfl (Zc4 HT_.out (by kernel_rfl)) (by decide) (fun K hK => ?_)
     refine goes_ Try.func45 (by kernel_rfl) rfl #[.slice A303_0 (Zcb l0 (rd l1_1 x20_2)).length c303_0, .int .i64 (rd (Zbt l1_5 x13_1) x20_2)] (by rfl) rfl rfl (by (try simp only [List.map_toArray, List.map_cons, List.map_nil]); first | done | rfl | (simp only [List.length_drop, List.length_take]; rfl)) ?_
     with_reducible refine (Zd6.calls _ _ (Zcb l0 (rd l1_1 x20_2)) (rd (Zbt l1_5 x13_1) x20_2) false _ ?side1 ?side2 A15.out).mono ?_
     (case side1 => repeat (first | exact (Kd.Zaw HR303_0.out HB.out) | (with_reducible refine Kd.C_alloc ?_ _) | (with_reducible refine Kd.Za0 ?_ _) | (with_reducible refine Kd.C_drew ?_)))
     (case side2 => exact HC303_0.out)
     rintro e w20 ⟨rfl, hb⟩
     refine ⟨_, rfl, ?_⟩
     have n0_ := Za.mk (Kd.Zc1 (mvS HO_5.out) hb)
     have n1_ := Za.mk (Za6 (g := gb300) (o := .cells #[.int .i64 a1_0, .slice (some ad302) l1_1.length c1_1, .slice A1_2 l1_2.length c1_2, .int .i64 a1_3, .int .i64 a1_4, .slice (some ad301) l1_5.length c1_5, .int .i64 a1_6] 25 (0, 0)) (mvK BK300.out) hb)
     have n2_ := Za.mk (Zan (by repeat (first | (with_reducible first | exact HB.out | apply Zac | apply Zaa | apply Zab | refine Zag ?_ GE300.out) | exact HB.out)) hb)
     clear HO_5
     clear BK300
     clear HB
     have HO_5 := n0_
     have BK300 := n1_
     have HB := n2_
     clear n0_ n1_ n2_
     (try clear hb)
     (try clear hb2)
     (try clear hk)
     (try clear hi)
     refine hK.out _ _ ⟨((HB.out.cell (World.block_lt_of_cell? w _ hw303_0)).trans hw303_0), ((HB.out.cell (World.block_lt_of_cell? w _ hw304_0)).trans hw304_0)⟩ (fun hHeld => ?_)
     clear hK K
     refine Zea (a' := ?_) ?_ ?_
     rotate_left
     ·show Act.put _ (some 33) _ = _
      simp only [Act.put, List.setIfInBounds_toArray, List.set_cons_zero, List.set_cons_succ, Za4, Za7]
      rfl
     refine Zbn (i := 9) (N := some 34) (v := ?_) (a' := ?_) #[true, true, true, true, true, true, true, true, true, true] rfl rfl (Za5 HT_.out (by kernel_rfl)) (fun _ _ _ h => h) (Or.inl ⟨by rfl, ?_⟩) ?_ ?_
     rotate_left
     ·intro w'
      go_simp
      with_reducible rfl
     rotate_left
     ·simp only [Act.put, List.setIfInBounds_toArray, List.set_cons_zero, List.set_cons_succ, Za4, Za7]
      rfl
     refine Zew (Zc7 HT_.out (by kernel_rfl)) ?_
     try go_wp2
     go_roundg k2
     case measure => have := HK1.out; have := HK2.out; omega
     case rel => exact ⟨(x5_1), (wrap64 (x13_1 + 1)), (by first | rfl | (simp; done) | (simp [*]; done)), H', ⟨by have := HK1.out; have := HK2.out; omega⟩, ⟨by (with_reducible repeat (first | apply Kd.S_alloc | apply Kd.S_drewN | apply Kd.Zb6)); exact HO_5.out⟩, ⟨by (with_reducible repeat (first | refine Zah ?_ _ | refine Zaj ?_ | refine Zaf ?_ _)); exact BK300.out⟩, ⟨by repeat (first | (with_reducible first | exact HB.out | apply Zac | apply Zaa | apply Zab | refine Zag ?_ GE300.out) | exact HB.out)⟩⟩
end Go.Proofs.Ytpbcigilipdedaa.P
/- slices.Clone of ranges. -/
namespace Go.Proofs.Ytpbcigilipdedaa.P
open Go.RowKit Go.Proofs.YtpbcigilipdedaaW.PrintWords Go.Proofs.YtpbcigilipdedaaW.PrintLast Go.Proofs.YtpbcigilipdedaaW.PrintMore
set_option linter.unusedVariables false
set_option linter.unusedSimpArgs false
def cloneR.f (l0 : List S41) : Option (List S41) := if l0.length < 8796093022208 then some l0 else none
set_option maxRecDepth 100000 in
set_option maxHeartbeats 2000000 in
theorem cloneR.calls (A0 : Option Addr) (c0 : Nat) (l0 : List S41) (r : List S41) (w : World) (hr0 : Kd.C k41 w A0 l0.length l0) (hc0 : l0.length ≤ c0) (h : cloneR.f l0 = some r) :
    Calls Try.prog 42 #[.slice A0 l0.length c0] w fun e w' => ∃ v0_ : Value, e = .returned (v0_) ∧ Kd.R k41 41 w' w.heap.size (fun _ => True) v0_ r ∧ Below w.heap.size w w' := by
  have hu := Try.underlying41
  have q22 : ∀ (w : World) (a : Option Addr) (n c n' c' : Nat), (binOp .eql 39 (.slice a n c) (.slice none n' c')).run Try.prog w = .ok (.bool a.isNone) w := fun w a n c n' c' => Lib.run_eql_slice_nil w _ _ a n c n' c' Try.underlying39
  unfold cloneR.f at h
  split at h
  case isFalse => cases h
  case isTrue hl =>
    obtain rfl := Option.some.inj h
    have HL := Za.mk hl
    clear h hl
    have HR := Za.mk hr0
    have hlen : l0.length ≤ 9223372036854775807 := hr0.2.1
    cases A0 with
    | none =>
      have h0 : l0 = [] := by
        rcases Nat.eq_zero_or_pos l0.length with h | h
        · exact List.length_eq_zero_iff.1 h
        obtain ⟨ad, e, _⟩ := hr0.2.2 h; cases e
      subst h0
      clear hr0
      go_enter Try.func42, Try.ntmps42
      go_wp2
      go_ret
      exact ⟨_, rfl, Kd.Zem _ _ _ _ _, Below.refl _ _⟩
    | some ad =>
      clear hr0
      have HB := Za.mk (Below.refl w.heap.size w)
      go_enter Try.func42, Try.ntmps42
      go_wp2_with (first | ((with_reducible refine Zbv (N := 5) rfl ?_); refine Kd.Zdt k41 _ 41 ?hg (N := 5) ?hd (xs := ([] : List S41)) (inner := []) (ok := fun _ => True) (okp := fun _ => True) ?hr ?hp (fun _ hk => hk) trivial (Below.refl w.heap.size w) (Nat.le_refl _) (by simp) ?_; (case hd => rfl); (case hg => rfl); (case hr => first | (go_simp; done) | (go_simp; rfl)); (case hp => exact (Reps.none _ _)); intro v1 w1 ho hb hg_ hnew_; have HO := Za.mk ho; have HB := Za.mk hb; clear ho hb hg_ hnew_) | ((with_reducible refine Zbg (b := .append) (xs := #[.tmp 5, .tmp 6]) rfl ?_); at_builtin; go_loud (refine Kd.Zcm k41 (Rr := k41.K w1) (w0 := w) w.heap.size rfl (.tmp 5) (.tmp 6) 39 41 (.agg #[(.int .i64 0), (.int .i64 0)]) 16 rfl Try.underlying39 info41 rfl (by decide) (by omega) v1 ([] : List S41) l0 _ _ _ (fun _ => True) (fun _ => False) rfl rfl ?aO ?aR ?aK (fun _ h => h.elim) ?aF ?aB ?aS ?aL ?_; (case aR => exact Kd.Zaw HR.out HB.out); (case aK => intro x cs h; have e_ := k41_open h; subst e_; exact Ze _ _ _ x); (case aB => exact HB.out); (case aF => exact (fun _ _ => trivial)); (case aO => exact HO.out); (case aS => exact HB.out.size); (case aL => have := HL.out; simp; omega); intro v2 w2 ho2 hb2 hg hat; have HO2 := Za.mk ho2; have HB2 := Za.mk hb2; clear ho2 hb2 hg hat)))
      go_ret
      exact ⟨_, rfl, by simpa using HO2.out, HB2.out⟩
end Go.Proofs.Ytpbcigilipdedaa.P
/- slices.ContainsFunc over ints, slices.Sorted over an iterator. -/
namespace Go.Proofs.Ytpbcigilipdedaa.P
open Go.RowKit Go.Shelf Go.Proofs.YtpbcigilipdedaaW.PrintWords Go.Proofs.YtpbcigilipdedaaW.PrintLast Go.Proofs.YtpbcigilipdedaaW.PrintMore
set_option linter.unusedVariables false
set_option linter.unusedSimpArgs false
def insI (x : Int) : List Int → List Int
  | [] => [x]
  | y :: ys => if x ≤ y then x :: y :: ys else y :: insI x ys
def sortI : List Int → List Int
  | [] => []
  | x :: xs => insI x (sortI xs)
theorem Zf5 (x : Int) : ∀ l, List.Perm (insI x l) (x :: l)
  | [] => List.Perm.refl _
  | y :: ys => by
    unfold insI
    split
    · exact List.Perm.refl _
    exact ((Zf5 x ys).cons y).trans (List.Perm.swap x y ys)
theorem Zdy : ∀ l, List.Perm (sortI l) l
  | [] => List.Perm.refl _
  | x :: xs => (Zf5 x _).trans ((Zdy xs).cons x)
theorem insI_le (x : Int) : ∀ l, List.Pairwise (fun a b : Int => a ≤ b) l → List.Pairwise (fun a b : Int => a ≤ b) (insI x l)
  | [], _ => by simp [insI]
  | y :: ys, h => by
    unfold insI
    split
    · rename_i hxy
      refine List.pairwise_cons.2 ⟨fun z hz => ?_, h⟩
      rcases List.mem_cons.1 hz with rfl | hz
      · exact hxy
      have := (List.pairwise_cons.1 h).1 z hz
      omega
    rename_i hxy
    refine List.pairwise_cons.2 ⟨fun z hz => ?_, insI_le x ys (List.pairwise_cons.1 h).2⟩
    rcases List.mem_cons.1 ((Zf5 x ys).mem_iff.1 hz) with rfl | hz
    · omega
    exact (List.pairwise_cons.1 h).1 z hz
theorem sortI_le : ∀ l, List.Pairwise (fun a b : Int => a ≤ b) (sortI l)
  | [] => List.Pairwise.nil
  | x :: xs => insI_le x _ (sortI_le xs)
theorem Zg (l : List Int) : (l.mergeSort fun x y => decide (x ≤ y)) = sortI l := by
  refine List.Perm.eq_of_pairwise (le := fun a b : Int => a ≤ b) (fun a b _ _ h1 h2 => by omega) ?_ (sortI_le l) ((List.mergeSort_perm l _).trans (Zdy l).symm)
  have := List.pairwise_mergeSort (le := fun x y : Int => decide (x ≤ y)) (fun a b c h1 h2 => by simp at *; omega) (fun a b => by simp; omega) l
  exact this.imp (fun h => by simpa using h)
theorem Zec (l : List Int) : (sortI l).length = l.length := (Zdy l).length_eq
set_option maxHeartbeats 2000000 in
theorem indexFunc_int (p : Int → Bool) (g : Nat) (lb : Array Value) (eg : ∀ args w, (callFunc g args).run Try.prog w = .ok (.enter g args) w) (A : Option Addr) (c : Nat) (zs : List Int) (w : World) (hr : Kd.C (Kd.int .i64) w A zs.length zs)
    (hp : ∀ k, k < zs.length → ∀ q, Calls Try.prog g (#[.int .i64 (rd zs (k : Int))] ++ lb) (w.drewN q) fun e w' => e = .returned (.bool (p (rd zs (k : Int)))) ∧ ∃ q', w' = (w.drewN q).drewN q') :
    Calls Try.prog 80 #[.slice A zs.length c, .func (.func g) #[] lb] w fun e w' => (∃ i : Int, e = .returned (.int .i64 i) ∧ decide (0 ≤ i) = zs.any p) ∧ ∃ q, w' = w.drewN q := by
  have hlen : zs.length ≤ 9223372036854775807 := hr.2.1
  have hany : ∀ k, zs.any p = ((zs.take k).any p || (zs.drop k).any p) := fun k => by rw [← List.any_append, List.take_append_drop]
  have HY := Za.mk hany
  clear hany
  go_enter Try.func80, Try.ntmps80
  go_wp2
  go_loopg [5, 8] zs.length (fun gg _ s8 wr => ∃ kk q : Nat, kk ≤ zs.length ∧ zs.length - kk ≤ gg ∧ s8 = .int .i64 kk ∧ wr = w.drewN q ∧ Za ((zs.take kk).any p = false))
  case atStart => exact ⟨0, 0, Nat.zero_le _, by omega, rfl, rfl, ⟨by simp⟩⟩
  case round =>
    obtain ⟨kk, q, hkk, hg, rfl, rfl, A1⟩ := hrel
    by_cases hlt : kk < zs.length
    rotate_left
    · obtain rfl : kk = zs.length := by omega
      go_wp2
      go_ret
      refine ⟨⟨_, rfl, ?_⟩, q, rfl⟩
      have := A1.out
      rw [List.take_length] at this
      rw [this]
      rfl
    obtain ⟨ad, rfl, hx0⟩ := Kd.Zby hr (kk : Int) (by omega) (by omega)
    simp only [Int.toNat_natCast] at hx0
    have hcall := hp kk hlt
    clear hp
    have htk : Za (zs.take (kk + 1) = zs.take kk ++ [rd zs (kk : Int)]) := ⟨by
      rw [List.take_succ_eq_append_getElem hlt]
      simp [rd, List.getD_eq_getElem?_getD, List.getElem?_eq_getElem hlt]⟩
    generalize rd zs (kk : Int) = y at *
    cases hq : p y with
    | true =>
      rw [hq] at hcall
      have B := Za.mk hq
      clear hq
      go_wp2_with (go_at_fn g; refine (hcall _).mono ?_; rintro e w' ⟨rfl, q', rfl⟩)
      go_ret
      refine ⟨⟨_, rfl, ?_⟩, _, rfl⟩
      rw [HY.out (kk + 1), htk.out, List.any_append]
      simp [B.out]
    | false =>
      rw [hq] at hcall
      have B := Za.mk hq
      clear hq
      go_wp2_with (go_at_fn g; refine (hcall _).mono ?_; rintro e w' ⟨rfl, q', rfl⟩)
      go_roundg (zs.length - (kk + 1))
      case measure => omega
      case rel => exact ⟨kk + 1, _, by omega, by omega, by go_num, rfl, ⟨by rw [htk.out, List.any_append, A1.out]; simp [B.out]⟩⟩
theorem Zfo (p : Int → Bool) (g : Nat) (lb : Array Value) (eg : ∀ args w, (callFunc g args).run Try.prog w = .ok (.enter g args) w) (A : Option Addr) (c : Nat) (zs : List Int) (w : World) (hr : Kd.C (Kd.int .i64) w A zs.length zs)
    (hp : ∀ k, k < zs.length → ∀ q, Calls Try.prog g (#[.int .i64 (rd zs (k : Int))] ++ lb) (w.drewN q) fun e w' => e = .returned (.bool (p (rd zs (k : Int)))) ∧ ∃ q', w' = (w.drewN q).drewN q') :
    Calls Try.prog 63 #[.slice A zs.length c, .func (.func g) #[] lb] w fun e w' => e = .returned (.bool (zs.any p)) ∧ ∃ q, w' = w.drewN q := by
  have hI := indexFunc_int p g lb eg A c zs w hr hp
  go_enter Try.func63, Try.ntmps63
  go_wp2_with (go_at_call 80; refine hI.mono ?_; rintro e w' ⟨⟨i, rfl, hi⟩, q, rfl⟩)
  go_ret
  exact ⟨by rw [← hi]; rfl, q, rfl⟩
set_option maxHeartbeats 2000000 in
theorem sorted_int (v : Value) (xs : List Int) (w0 w : World) (hx : xs.length < 4611686018427387904) (hS : w0.heap.size ≤ w.heap.size) (hrow : w.ownsRow w0.heap.size 3 1 v xs.length (xs.map (Value.int .i64))) (hB : Below w0.heap.size w0 w) :
    Calls Try.prog 91 #[v] w fun e w' => e = .returned (.tuple #[]) ∧ w'.ownsRow w0.heap.size 3 1 v xs.length ((sortI xs).map (Value.int .i64)) ∧ Below w0.heap.size w0 w' := by
  rcases hrow.2 with ⟨rfl, h0⟩ | ⟨g, cap, cur, rfl, hg, hb, hn, hcap, hsz, htk⟩
  · have hx : xs = [] := List.length_eq_zero_iff.1 h0
    subst hx
    refine (AnyM.slices_Sort_int_none lsort none 0 w).mono ?_
    rintro e w' ⟨rfl, rfl⟩
    exact ⟨rfl, hrow, hB⟩
  have hlt : g < w.heap.size := (Array.getElem?_eq_some_iff.1 hb).1
  refine (AnyM.slices_Sort_int lsort g 0 cap xs w (holds_of_blockI hb (by simpa using htk)) hlt hx).mono ?_
  rintro e w' ⟨rfl, n, os, rfl⟩
  rw [Zg]
  refine ⟨rfl, ownsRow_sortedI (Zec xs) hg hb hn hcap hsz, ?_⟩
  exact hB.grown (grownBy_sortedI _) hS (fun k e => by cases e; exact hg)
set_option maxHeartbeats 1000000 in
theorem sorted_calls (g : Nat) (lb : Array Value) (eg : ∀ args w, (callFunc g args).run Try.prog w = .ok (.enter g args) w) (n0 : Nat) (S Sp : List Int → Prop) (N : Nat) (hN : N * 8 ≤ 140737488355328) (hSN : ∀ xs, S xs → xs.length ≤ N) (w0 w : World) (hw : Below w0.heap.size w0 w) (hn0 : n0 ≤ w.heap.size)
    (hseq : SeqStopsK Fence.wide 7 Try.prog g lb (fun x : Int => #[Value.int .i64 x]) (Kp n0) S Sp N w0) :
    Calls Try.prog 67 #[.func (.func g) #[] lb] w fun e w' => ∃ (v : Value) (xs : List Int), e = .returned v ∧ S xs ∧ w'.ownsRow w.heap.size 3 1 v xs.length ((sortI xs).map (Value.int .i64)) ∧ Below w.heap.size w w' := by
  have cB := callsIn_wide.1 (collect_in Fence.wide 9 trivial trivial rfl (by omega) g lb trivial eg n0 S Sp N hN w0 w hw hn0 hseq)
  go_enter Try.func67, Try.ntmps67
  go_wp2_with (first | (go_at_call 81; refine cB.mono ?_; rintro e w' ⟨v, xs, rfl, hS, hrow, hb⟩) | (go_at_call 91; refine (sorted_int v xs w w' (by have := hSN xs hS; omega) hb.size hrow hb).mono ?_; rintro e w'' ⟨rfl, hrow2, hb2⟩))
  go_ret
  exact ⟨v, xs, rfl, hS, hrow2, hb2⟩
end Go.Proofs.Ytpbcigilipdedaa.P
namespace Go.Proofs.Ytpbcigilipdedaa.P
open Go.RowKit Go.Proofs.YtpbcigilipdedaaW.PrintWords Go.Proofs.YtpbcigilipdedaaW.PrintLast Go.Proofs.YtpbcigilipdedaaW.PrintMore
attribute [local go_sem] Zcg Zci Zcr Zcs Zb7 Zb8 Zch Zcj
set_option linter.unusedVariables false
set_option linter.unusedSimpArgs false
def Zd7.f (a0 : Int) : Option (Bool) := if a0 ≥ (-1048576) then (some (decide (a0 ≤ 1048576))) else (some false)
set_option maxHeartbeats 8000000 in
set_option maxRecDepth 100000 in
theorem Zd7.calls (a0 : Int) (r : Bool) (w : World) (h : Zd7.f a0 = some r) :
  Calls Try.prog 65 #[.int .i64 a0] w fun e w' => e = .returned (.bool r) ∧ Zb w w' := by
 have H : (if a0 ≥ (-1048576) then (some (decide (a0 ≤ 1048576))) else (some false)) = some r := h
 clear h
 by_cases c2 : a0 ≥ (-1048576)
 ·rw [if_pos c2] at H
  have c2b0 : decide ((-1048576) ≤ a0) = true := decide_eq_true c2
  clear c2
  obtain rfl := Option.some.inj H
  go_enter Try.func65, Try.ntmps65
  go_wp2
  go_ret
  exact ⟨by first | rfl | (simp; done) | (simp [*]; done), by repeat (first | exact Zb.refl _ | apply Zb.step)⟩
 rw [if_neg c2] at H
 have c2b0 : decide ((-1048576) ≤ a0) = false := decide_eq_false c2
 clear c2
 obtain rfl := Option.some.inj H
 go_enter Try.func65, Try.ntmps65
 go_wp2
 go_ret
 exact ⟨by first | rfl | (simp; done) | (simp [*]; done), by repeat (first | exact Zb.refl _ | apply Zb.step)⟩
mutual
def Zbi.l0 : Nat → List (S41) → List Int → Int → Int → Option ((List (S41)))
 | 0, _, _, _, _ => none
 | k + 1, x3, x7, x8, x9 => if x9 < x8 then (if 0 ≤ x9 then (if x9 < (x7.length : Int) then (if (x3.length : Int) > 0 then (if 0 ≤ (wrap64 ((x3.length : Int) - 1)) then (if (wrap64 ((x3.length : Int) - 1)) < (x3.length : Int) then (Zbi.j1 k x3 (rd x7 x9) (x3.length : Int) x7 x8 x9 (decide (((Zbu x3 (wrap64 ((x3.length : Int) - 1))).f1) ≥ (rd x7 x9)))) else (none)) else (none)) else (Zbi.j1 k x3 (rd x7 x9) (x3.length : Int) x7 x8 x9 false)) else (none)) else (none)) else (some x3)
def Zbi.j1 : Nat → List (S41) → Int → Int → List Int → Int → Int → Bool → Option ((List (S41)))
 | 0, _, _, _, _, _, _, _ => none
 | k + 1, x3, x5, x6, x7, x8, x9, x21 => if x21 = true then (Zbi.l0 k x3 x7 x8 (wrap64 (x9 + 1))) else (if x6 > 0 then (if 0 ≤ (wrap64 (x6 - 1)) then (if (wrap64 (x6 - 1)) < (x3.length : Int) then (if ((Zbu x3 (wrap64 (x6 - 1))).f1) = (wrap64 (x5 - 1)) then (Zbi.l0 k (x3.set ((wrap64 (x6 - 1)) : Int).toNat (⟨(Zbu x3 (wrap64 (x6 - 1))).f0, x5⟩ : S41)) x7 x8 (wrap64 (x9 + 1))) else (if x3.length < 8796093022208 then (Zbi.l0 k (x3 ++ [(⟨x5, x5⟩ : S41)]) x7 x8 (wrap64 (x9 + 1))) else (none))) else (none)) else (none)) else (if x3.length < 8796093022208 then (Zbi.l0 k (x3 ++ [(⟨x5, x5⟩ : S41)]) x7 x8 (wrap64 (x9 + 1))) else (none)))
end
def Zbi.f (k : Nat) (l0 : List Int) : Option ((List (S41))) := Zbi.l0 k ([] : List (S41)) l0 (l0.length : Int) 0
set_option maxHeartbeats 8000000 in
set_option maxRecDepth 100000 in
theorem Zbi.calls (k : Nat) (A0 : Option Addr) (c0 : Nat) (l0 : List Int) (r : List (S41)) (w : World) (hr0 : Kd.C (Kd.int .i64) w A0 l0.length l0) (hc0 : l0.length ≤ c0) (h : Zbi.f k l0 = some r) :
  Calls Try.prog 66 #[.slice A0 l0.length c0] w fun e w' => ∃ v0_ : Value, e = .returned (v0_) ∧ Kd.R k41 41 w' w.heap.size (fun _ => True) v0_ r ∧ Below w.heap.size w w' := by
 have hu41 := Try.underlying41
 have HR0 := Za.mk hr0
 have HC0 := Za.mk hc0
 clear hr0 hc0
 have HB := Za.mk (Below.refl w.heap.size w)
 have H : (Zbi.l0 k ([] : List (S41)) l0 (l0.length : Int) 0) = some r := h
 clear h
 have H' := Za.mk H
 clear H
 go_enter Try.func66, Try.ntmps66
 go_wp2
 go_loopg [3, 9] k (fun kq v3 v9 w' => ∃ (x3_1 : List (S41)) (x9_1 : Int), v9 = .int .i64 x9_1 ∧ Za (Zbi.l0 kq x3_1 l0 (l0.length : Int) x9_1 = some r) ∧ Za (kq ≤ k) ∧ Za (Kd.R k41 41 w' w.heap.size (fun _ => True) v3 x3_1) ∧ Za (Below w.heap.size w w'))
 case atStart => exact ⟨(([] : List (S41))), (0), (by first | rfl | (simp; done) | (simp [*]; done)), H', ⟨Nat.le_refl _⟩, ⟨by first | exact Kd.Zem _ _ _ _ _ | exact Kd.N_nil _ _ _ _ _ | exact Kd.V_nil _ _ _ _ _ | exact Kd.Q_nil _ _ _ _ _ | exact Kd.S_nil _ _ _ _ _⟩, ⟨by repeat (first | (with_reducible first | exact HB.out | apply Zac | apply Zaa | apply Zab) | exact HB.out)⟩⟩
 case round =>
  clear H'
  obtain ⟨x3_1, x9_1, rfl, HA, HK1, HO_3, HB⟩ := hrel
  cases gk with
  | zero => exact absurd HA.out (by simp [Zbi.l0])
  | succ k1 =>
   have H := HA.out
   clear HA
   simp only [Zbi.l0] at H
   by_cases c2 : x9_1 < (l0.length : Int)
   rotate_left
   ·rw [if_neg c2] at H
    have c2b0 : decide (x9_1 < (l0.length : Int)) = false := decide_eq_false c2
    clear c2
    obtain rfl := Option.some.inj H
    go_wp2
    go_ret
    exact ⟨_, by first | rfl | (simp [Zaq, Zar] <;> rfl) | (simp [*, Zaq, Zar] <;> rfl), by (with_reducible repeat (first | apply Kd.R_alloc | apply Kd.Zbh | apply Kd.Zbl)); exact HO_3.out, by repeat (first | (with_reducible first | exact HB.out | apply Zac | apply Zaa | apply Zab) | exact HB.out)⟩
   rw [if_pos c2] at H
   have c2b0 : decide (x9_1 < (l0.length : Int)) = true := decide_eq_true c2
   clear c2
   by_cases c3 : 0 ≤ x9_1
   rotate_left
   ·rw [if_neg c3] at H
    exact absurd H (by simp)
   rw [if_pos c3] at H
   have c3b0 : decide (0 ≤ x9_1) = true := decide_eq_true c3
   clear c3
   by_cases c4 : x9_1 < (l0.length : Int)
   rotate_left
   ·rw [if_neg c4] at H
    exact absurd H (by simp)
   rw [if_pos c4] at H
   have c4b0 : decide (x9_1 < (l0.length : Int)) = true := decide_eq_true c4
   clear c4
   have HC5 := Za.mk H
   clear H
   have p312 : 0 ≤ (x9_1 : Int) := of_decide_eq_true (by first | (with_reducible assumption) | assumption)
   have q312 : x9_1 < (l0.length : Int) := of_decide_eq_true (by first | (with_reducible assumption) | assumption)
   obtain ⟨ad312, e312, hx312_0⟩ := Kd.Zby HR0.out x9_1 p312 q312
   cases e312
   replace hx312_0 := (HB.out.cell (World.block_lt_of_cell? w _ hx312_0)).trans hx312_0
   replace p312 := eq_true p312
   replace q312 := eq_true q312
   obtain ⟨Ao6, co6, eo6⟩ := Kd.Zbw HO_3.out
   subst eo6
   go_upto_region 7 with (fail)
   go_cut [21] (fun v21 wc => ∃ (kq : Nat) (x21_4 : Bool), v21 = .bool x21_4 ∧ Za (Zbi.j1 kq x3_1 (rd l0 x9_1) (x3_1.length : Int) l0 (l0.length : Int) x9_1 x21_4 = some r) ∧ Za (kq ≤ k1) ∧ Za (Kd.R k41 41 wc w.heap.size (fun _ => True) (.slice Ao6 x3_1.length co6) x3_1) ∧ Za (Below w.heap.size w wc))
   case first =>
    have H := HC5.out
    clear HC5
    by_cases c7 : (x3_1.length : Int) > 0
    rotate_left
    ·rw [if_neg c7] at H
     have c7b0 : decide (0 < (x3_1.length : Int)) = false := decide_eq_false c7
     have c7b1 : decide (0 < x3_1.length) = false := decide_eq_false (by omega)
     clear c7
     (first | rw [c7b0] | (simp only [Za4, Za7]; rw [c7b0]) | skip)
     have H' := Za.mk H
     clear H
     go_wp2
     go_meet
     case rel => exact ⟨_, (false), (by first | rfl | (simp; done) | (simp [*]; done)), H', ⟨by have := HK1.out; first | omega | exact Nat.le_refl _⟩, ⟨by (with_reducible repeat (first | apply Kd.R_alloc | apply Kd.Zbh | apply Kd.Zbl)); exact HO_3.out⟩, ⟨by repeat (first | (with_reducible first | exact HB.out | apply Zac | apply Zaa | apply Zab) | exact HB.out)⟩⟩
    rw [if_pos c7] at H
    have c7b0 : decide (0 < (x3_1.length : Int)) = true := decide_eq_true c7
    have c7b1 : decide (0 < x3_1.length) = true := decide_eq_true (by omega)
    clear c7
    (first | rw [c7b0] | (simp only [Za4, Za7]; rw [c7b0]) | skip)
    obtain ⟨ji8, hji8⟩ : ∃ j_ : Int, (wrap64 ((x3_1.length : Int) - 1)) = j_ := ⟨_, rfl⟩
    replace H : (if 0 ≤ (ji8) then (if (ji8) < (x3_1.length : Int) then (Zbi.j1 k1 x3_1 (rd l0 x9_1) (x3_1.length : Int) l0 (l0.length : Int) x9_1 (decide (((Zbu x3_1 (ji8)).f1) ≥ (rd l0 x9_1)))) else (none)) else (none)) = some r := by first | (rw [hji8] at H; exact H) | (simp only [hji8] at H ⊢; exact H)
    have hji8w : (IntKind.i64.wrap ((x3_1.length : Int) - 1)) = ji8 := (Za4 _).trans hji8
    by_cases c9 : 0 ≤ (ji8)
    rotate_left
    ·rw [if_neg c9] at H
     exact absurd H (by simp)
    rw [if_pos c9] at H
    have c9b0 : decide (0 ≤ (ji8)) = true := decide_eq_true c9
    clear c9
    by_cases c10 : (ji8) < (x3_1.length : Int)
    rotate_left
    ·rw [if_neg c10] at H
     exact absurd H (by simp)
    rw [if_pos c10] at H
    have c10b0 : decide ((ji8) < (x3_1.length : Int)) = true := decide_eq_true c10
    clear c10
    have H' := Za.mk H
    clear H
    have p313 : 0 ≤ ((ji8) : Int) := of_decide_eq_true (by first | (with_reducible assumption) | assumption)
    have q313 : (ji8) < (x3_1.length : Int) := of_decide_eq_true (by first | (with_reducible assumption) | assumption)
    obtain ⟨ad313, e313, hx313_0, hx313_1⟩ := Zdv (Kd.Za3 HO_3.out).2.2 (ji8) p313 q313
    cases e313
    replace p313 := eq_true p313
    replace q313 := eq_true q313
    go_wp2
    go_meet
    case rel => exact ⟨_, (decide (((Zbu x3_1 (ji8)).f1) ≥ (rd l0 x9_1))), (by first | rfl | (simp; done) | (simp only [← hji8] <;> (first | rfl | simp)) | (simp [*]; done)), H', ⟨by have := HK1.out; first | omega | exact Nat.le_refl _⟩, ⟨by (with_reducible repeat (first | apply Kd.R_alloc | apply Kd.Zbh | apply Kd.Zbl)); exact HO_3.out⟩, ⟨by repeat (first | (with_reducible first | exact HB.out | apply Zac | apply Zaa | apply Zab) | exact HB.out)⟩⟩
   case rest =>
    clear HC5
    try clear c1
    try clear c2
    try clear c2b0
    try clear p2
    try clear c3
    try clear c3b0
    try clear p3
    try clear q3
    try clear hx3
    try clear c4
    try clear c4b0
    try clear c6
    try clear p6
    try clear c7
    try clear c7b0
    try clear c7b1
    try clear c9
    try clear c9b0
    try clear c10
    try clear c10b0
    try clear hx312_0
    try clear hx313_0
    try clear hx313_1
    try clear p312
    try clear p313
    try clear q312
    try clear q313
    obtain ⟨kq, x21_4, rfl, HA, HJ4, HO_3, HB⟩ := hcut
    cases kq with
    | zero => exact absurd HA.out (by simp [Zbi.j1])
    | succ kj4 =>
     have H := HA.out
     clear HA
     simp only [Zbi.j1] at H
     by_cases c11 : x21_4 = true
     ·subst c11
      have H1 : (Zbi.l0 kj4 x3_1 l0 (l0.length : Int) (wrap64 (x9_1 + 1))) = some r := by rw [if_pos rfl] at H; exact H
      clear H
      have H := H1
      clear H1
      have H' := Za.mk H
      clear H
      go_wp2
      go_roundg kj4
      case measure => have := HK1.out; have := HJ4.out; omega
      case rel => exact ⟨(x3_1), (wrap64 (x9_1 + 1)), (by first | rfl | (simp; done) | (simp [*]; done)), H', ⟨by have := HK1.out; have := HJ4.out; omega⟩, ⟨by (with_reducible repeat (first | apply Kd.R_alloc | apply Kd.Zbh | apply Kd.Zbl)); exact HO_3.out⟩, ⟨by repeat (first | (with_reducible first | exact HB.out | apply Zac | apply Zaa | apply Zab) | exact HB.out)⟩⟩
     replace c11 := Bool.eq_false_iff.mpr c11
     subst c11
     have H1 : (if (x3_1.length : Int) > 0 then (if 0 ≤ (wrap64 ((x3_1.length : Int) - 1)) then (if (wrap64 ((x3_1.length : Int) - 1)) < (x3_1.length : Int) then (if ((Zbu x3_1 (wrap64 ((x3_1.length : Int) - 1))).f1) = (wrap64 ((rd l0 x9_1) - 1)) then (Zbi.l0 kj4 (x3_1.set ((wrap64 ((x3_1.length : Int) - 1)) : Int).toNat (⟨(Zbu x3_1 (wrap64 ((x3_1.length : Int) - 1))).f0, (rd l0 x9_1)⟩ : S41)) l0 (l0.length : Int) (wrap64 (x9_1 + 1))) else (if x3_1.length < 8796093022208 then (Zbi.l0 kj4 (x3_1 ++ [(⟨(rd l0 x9_1), (rd l0 x9_1)⟩ : S41)]) l0 (l0.length : Int) (wrap64 (x9_1 + 1))) else (none))) else (none)) else (none)) else (if x3_1.length < 8796093022208 then (Zbi.l0 kj4 (x3_1 ++ [(⟨(rd l0 x9_1), (rd l0 x9_1)⟩ : S41)]) l0 (l0.length : Int) (wrap64 (x9_1 + 1))) else (none))) = some r := by rw [if_neg (show ¬ (false = true) by decide)] at H; exact H
     clear H
     have H := H1
     clear H1
     by_cases c12 : (x3_1.length : Int) > 0
     rotate_left
     ·rw [if_neg c12] at H
      have c12b0 : decide (0 < (x3_1.length : Int)) = false := decide_eq_false c12
      have c12b1 : decide (0 < x3_1.length) = false := decide_eq_false (by omega)
      clear c12
      by_cases c22 : x3_1.length < 8796093022208
      rotate_left
      ·rw [if_neg c22] at H
       exact absurd H (by simp)
      rw [if_pos c22] at H
      have LMc22 := Za.mk c22
      clear c22
      obtain ⟨y319, hy319⟩ : ∃ y_ : List (S41), y_ = (x3_1 ++ [(⟨(rd l0 x9_1), (rd l0 x9_1)⟩ : S41)]) := ⟨_, rfl⟩
      replace H : (Zbi.l0 kj4 y319 l0 (l0.length : Int) (wrap64 (x9_1 + 1))) = some r := by first | (rw [hy319]; with_reducible exact H) | (have H2_ := (Option.bind_some _ _).symm.trans H; rw [hy319]; with_reducible exact H2_) | (have H2_ := (Option.bind_some _ _).symm.trans H; with_reducible exact H2_) | with_reducible exact H | (rw [hy319]; exact H) | exact H
      have Ny319 := Za.mk hy319
      clear hy319
      have H' := Za.mk H
      clear H
      go_wp2_with (first | ((with_reducible refine Zbg (b := .append) (xs := #[.tmp 15, .tmp 19]) rfl ?_); at_builtin; refine Kd.Zb9 k41 (w0 := w) w.heap.size rfl (.tmp 15) (.tmp 19) 39 41 (.agg #[(.int .i64 0), (.int .i64 0)]) 16 rfl Try.underlying39 info41 rfl (by decide) (by omega) (.slice Ao6 x3_1.length co6) x3_1 (⟨(rd l0 x9_1), (rd l0 x9_1)⟩ : S41) [.int .i64 (rd l0 x9_1), .int .i64 (rd l0 x9_1)] (fun _ => True) (fun _ => False) rfl rfl ?aP (fun _ hk => hk.elim) ?aF ?aO ?aB ?aS ?aL ?_; (case aP => exact Ze _ _ _ (⟨(rd l0 x9_1), (rd l0 x9_1)⟩ : S41)); (case aB => exact (by repeat (first | (with_reducible first | exact HB.out | apply Zac | apply Zaa | apply Zab) | exact HB.out))); (case aF => exact (fun _ _ => trivial)); (case aO => exact (mvR HO_3.out)); (case aS => exact (Zam (by repeat (first | (with_reducible first | exact HB.out | apply Zac | apply Zaa | apply Zab) | exact HB.out)))); (case aL => have := LMc22.out; omega); intro v320 w23 ho hb hg hat; rw [← Ny319.out] at ho; have n0_ := Za.mk (hb); have n1_ := Za.mk (ho); clear HB; clear HO_3; have HB := n0_; have HO321 := n1_; clear n0_ n1_; clear ho hb hg hat))
      go_roundg kj4
      case measure => have := HK1.out; have := HJ4.out; omega
      case rel => exact ⟨(y319), (wrap64 (x9_1 + 1)), (by first | rfl | (simp; done) | (simp [*]; done)), H', ⟨by have := HK1.out; have := HJ4.out; omega⟩, ⟨by (with_reducible repeat (first | apply Kd.R_alloc | apply Kd.Zbh | apply Kd.Zbl)); exact HO321.out⟩, ⟨by repeat (first | (with_reducible first | exact HB.out | apply Zac | apply Zaa | apply Zab) | exact HB.out)⟩⟩
     rw [if_pos c12] at H
     have c12b0 : decide (0 < (x3_1.length : Int)) = true := decide_eq_true c12
     have c12b1 : decide (0 < x3_1.length) = true := decide_eq_true (by omega)
     clear c12
     try clear hji8w
     obtain ⟨ji13, hji13⟩ : ∃ j_ : Int, (wrap64 ((x3_1.length : Int) - 1)) = j_ := ⟨_, rfl⟩
     replace H : (if 0 ≤ (ji13) then (if (ji13) < (x3_1.length : Int) then (if ((Zbu x3_1 (ji13)).f1) = (wrap64 ((rd l0 x9_1) - 1)) then (Zbi.l0 kj4 (x3_1.set ((ji13) : Int).toNat (⟨(Zbu x3_1 (ji13)).f0, (rd l0 x9_1)⟩ : S41)) l0 (l0.length : Int) (wrap64 (x9_1 + 1))) else (if x3_1.length < 8796093022208 then (Zbi.l0 kj4 (x3_1 ++ [(⟨(rd l0 x9_1), (rd l0 x9_1)⟩ : S41)]) l0 (l0.length : Int) (wrap64 (x9_1 + 1))) else (none))) else (none)) else (none)) = some r := by first | (rw [hji13] at H; exact H) | (simp only [hji13] at H ⊢; exact H)
     have hji13w : (IntKind.i64.wrap ((x3_1.length : Int) - 1)) = ji13 := (Za4 _).trans hji13
     by_cases c14 : 0 ≤ (ji13)
     rotate_left
     ·rw [if_neg c14] at H
      exact absurd H (by simp)
     rw [if_pos c14] at H
     have c14b0 : decide (0 ≤ (ji13)) = true := decide_eq_true c14
     clear c14
     by_cases c15 : (ji13) < (x3_1.length : Int)
     rotate_left
     ·rw [if_neg c15] at H
      exact absurd H (by simp)
     rw [if_pos c15] at H
     have c15b0 : decide ((ji13) < (x3_1.length : Int)) = true := decide_eq_true c15
     clear c15
     by_cases c16 : ((Zbu x3_1 (ji13)).f1) = (wrap64 ((rd l0 x9_1) - 1))
     rotate_left
     ·rw [if_neg c16] at H
      have c16b0 : (((Zbu x3_1 (ji13)).f1) == (wrap64 ((rd l0 x9_1) - 1))) = false := beq_eq_false_iff_ne.mpr c16
      have c16b1 : (((Zbu x3_1 (ji13)).f1) != (wrap64 ((rd l0 x9_1) - 1))) = true := bne_iff_ne.mpr c16
      by_cases c20 : x3_1.length < 8796093022208
      rotate_left
      ·rw [if_neg c20] at H
       exact absurd H (by simp)
      rw [if_pos c20] at H
      have LMc20 := Za.mk c20
      clear c20
      obtain ⟨y316, hy316⟩ : ∃ y_ : List (S41), y_ = (x3_1 ++ [(⟨(rd l0 x9_1), (rd l0 x9_1)⟩ : S41)]) := ⟨_, rfl⟩
      replace H : (Zbi.l0 kj4 y316 l0 (l0.length : Int) (wrap64 (x9_1 + 1))) = some r := by first | (rw [hy316]; with_reducible exact H) | (have H2_ := (Option.bind_some _ _).symm.trans H; rw [hy316]; with_reducible exact H2_) | (have H2_ := (Option.bind_some _ _).symm.trans H; with_reducible exact H2_) | with_reducible exact H | (rw [hy316]; exact H) | exact H
      have Ny316 := Za.mk hy316
      clear hy316
      have H' := Za.mk H
      clear H
      have p314 : 0 ≤ ((ji13) : Int) := of_decide_eq_true (by first | (with_reducible assumption) | assumption)
      have q314 : (ji13) < (x3_1.length : Int) := of_decide_eq_true (by first | (with_reducible assumption) | assumption)
      obtain ⟨ad314, e314, hx314_0, hx314_1⟩ := Zdv (Kd.Za3 HO_3.out).2.2 (ji13) p314 q314
      cases e314
      replace p314 := eq_true p314
      replace q314 := eq_true q314
      go_wp2_with (first | ((with_reducible refine Zbg (b := .append) (xs := #[.tmp 15, .tmp 19]) rfl ?_); at_builtin; refine Kd.Zb9 k41 (w0 := w) w.heap.size rfl (.tmp 15) (.tmp 19) 39 41 (.agg #[(.int .i64 0), (.int .i64 0)]) 16 rfl Try.underlying39 info41 rfl (by decide) (by omega) (.slice (some ad314) x3_1.length co6) x3_1 (⟨(rd l0 x9_1), (rd l0 x9_1)⟩ : S41) [.int .i64 (rd l0 x9_1), .int .i64 (rd l0 x9_1)] (fun _ => True) (fun _ => False) rfl rfl ?aP (fun _ hk => hk.elim) ?aF ?aO ?aB ?aS ?aL ?_; (case aP => exact Ze _ _ _ (⟨(rd l0 x9_1), (rd l0 x9_1)⟩ : S41)); (case aB => exact (by repeat (first | (with_reducible first | exact HB.out | apply Zac | apply Zaa | apply Zab) | exact HB.out))); (case aF => exact (fun _ _ => trivial)); (case aO => exact (mvR HO_3.out)); (case aS => exact (Zam (by repeat (first | (with_reducible first | exact HB.out | apply Zac | apply Zaa | apply Zab) | exact HB.out)))); (case aL => have := LMc20.out; omega); intro v317 w21 ho hb hg hat; rw [← Ny316.out] at ho; have n0_ := Za.mk (hb); have n1_ := Za.mk (ho); clear HB; clear HO_3; have HB := n0_; have HO318 := n1_; clear n0_ n1_; clear ho hb hg hat))
      go_roundg kj4
      case measure => have := HK1.out; have := HJ4.out; omega
      case rel => exact ⟨(y316), (wrap64 (x9_1 + 1)), (by first | rfl | (simp; done) | (simp [*]; done)), H', ⟨by have := HK1.out; have := HJ4.out; omega⟩, ⟨by (with_reducible repeat (first | apply Kd.R_alloc | apply Kd.Zbh | apply Kd.Zbl)); exact HO318.out⟩, ⟨by repeat (first | (with_reducible first | exact HB.out | apply Zac | apply Zaa | apply Zab) | exact HB.out)⟩⟩
     rw [if_pos c16] at H
     have c16b0 : (((Zbu x3_1 (ji13)).f1) == (wrap64 ((rd l0 x9_1) - 1))) = true := beq_iff_eq.mpr c16
     have c16b1 : (((Zbu x3_1 (ji13)).f1) != (wrap64 ((rd l0 x9_1) - 1))) = false := bne_eq_false_iff_eq.mpr c16
     clear c16
     obtain ⟨y315, hy315⟩ : ∃ y_ : List (S41), y_ = (x3_1.set ((ji13) : Int).toNat (⟨(Zbu x3_1 (ji13)).f0, (rd l0 x9_1)⟩ : S41)) := ⟨_, rfl⟩
     replace H : (Zbi.l0 kj4 y315 l0 (l0.length : Int) (wrap64 (x9_1 + 1))) = some r := by first | (rw [hy315]; with_reducible exact H) | (have H2_ := (Option.bind_some _ _).symm.trans H; rw [hy315]; with_reducible exact H2_) | (have H2_ := (Option.bind_some _ _).symm.trans H; with_reducible exact H2_) | with_reducible exact H | (rw [hy315]; exact H) | exact H
     have Ny315 := Za.mk hy315
     clear hy315
     have H' := Za.mk H
     clear H
     have p314 : 0 ≤ ((ji13) : Int) := of_decide_eq_true (by first | (with_reducible assumption) | assumption)
     have q314 : (ji13) < (x3_1.length : Int) := of_decide_eq_true (by first | (with_reducible assumption) | assumption)
     obtain ⟨ad314, e314, hx314_0, hx314_1⟩ := Zdv (Kd.Za3 HO_3.out).2.2 (ji13) p314 q314
     cases e314
     replace p314 := eq_true p314
     replace q314 := eq_true q314
     have p17 : 0 ≤ ((ji13) : Int) := of_decide_eq_true (by first | (with_reducible assumption) | assumption)
     have q17 : ((ji13) : Int) < ((x3_1.length : Int) : Int) := of_decide_eq_true (by first | (with_reducible assumption) | assumption)
     obtain ⟨go17, co17, eo17, gb17, gl17, cl17, HG17⟩ := Kd.R_form HO_3.out (by omega)
     (first | cases eo17 | (injection eo17 with ea_ en_ ec_; (first | subst ea_ | (injection ea_ with ea_; subst ea_)); subst ec_; clear en_))
     have GB17 := Za.mk gb17
     have GG17 := Za.mk HG17
     clear gb17 gl17 HG17
     (first | simp only [add_plain] at hx314_0 | skip)
     (first | simp only [add_plain] at hx314_1 | skip)
     obtain ⟨ce17, hcl17, hM17, hcc17, hfr17⟩ := Kd.R_elem HO_3.out z41 ((ji13) : Int) p17 q17
     obtain rfl := Zf7 hM17
     have hx17_0 : wc.cell? ⟨go17, ((ji13) : Int).toNat * 2, none⟩ = some (.int .i64 ((Zbu x3_1 (ji13)).f0)) := hcc17 0 _ rfl
     have hx17_1 : wc.cell? ⟨go17, ((ji13) : Int).toNat * 2 + 1, none⟩ = some (.int .i64 ((Zbu x3_1 (ji13)).f1)) := hcc17 1 _ rfl
     have hf17_0 : wc.frozen? ⟨go17, ((ji13) : Int).toNat * 2, none⟩ = false := hfr17 0
     have hf17_1 : wc.frozen? ⟨go17, ((ji13) : Int).toNat * 2 + 1, none⟩ = false := hfr17 1
     (try clear hM17); clear hcl17 hcc17 hfr17
     replace p17 := eq_true p17
     replace q17 := eq_true q17
     have HX18 := Za.mk (show Kd.R k41 41 wc w.heap.size (fun _ => True) (.slice (some ⟨go17, 0, none⟩) x3_1.length co6) x3_1 from (mvR HO_3.out))
     obtain ⟨ce18, hcl18, hM18, hcc18, hfr18⟩ := Kd.R_elem HX18.out z41 ((ji13) : Int) (of_decide_eq_true (by first | (with_reducible assumption) | assumption)) (by have h_ : ((ji13) : Int) < ((x3_1.length : Int) : Int) := of_decide_eq_true (by first | (with_reducible assumption) | assumption); first | exact h_ | (have e_ := (Kd.Za3 HO_3.out).1; omega) | simpa using h_)
     obtain rfl := Zf7 hM18
     have HP18 := Kd.R_seg HX18.out ((ji13) : Int) (of_decide_eq_true (by first | (with_reducible assumption) | assumption)) (by have h_ : ((ji13) : Int) < ((x3_1.length : Int) : Int) := of_decide_eq_true (by first | (with_reducible assumption) | assumption); first | exact h_ | (have e_ := (Kd.Za3 HO_3.out).1; omega) | simpa using h_) (seg := [.int .i64 (rd l0 x9_1)]) (j := 1) hcl18 hcc18 (show 2 ≤ 2 from by decide) (x' := (⟨(Zbu x3_1 (ji13)).f0, (rd l0 x9_1)⟩ : S41)) (Ze _ _ _ (⟨(Zbu x3_1 (ji13)).f0, (rd l0 x9_1)⟩ : S41) ) (fun _ hk => hk)
     have hx18_1 := hcc18 1 _ rfl
     (try simp only [show (k41).sz = 2 from rfl, Nat.mul_one, Nat.add_zero] at hx18_1)
     have hf18_1 := hfr18 1
     (try simp only [show (k41).sz = 2 from rfl, Nat.mul_one, Nat.add_zero] at hf18_1)
     (try clear hM18); clear hcl18 hcc18 hfr18
     go_wp2_with (first | ((with_reducible refine Zdh (t := 3) (p := 53) rfl ?_); refine Zdb (t := 3) (p := 53) (v := ?vo_w19) (w1 := (wc.setCell ⟨go17, ((ji13) : Int).toNat * 2 + 1, none⟩ (.int .i64 (rd l0 x9_1)))) ?hg ?ho ?hn ?hr ?_; (case ho => rfl); (case hg => rfl); (case hn => rfl); (case hr => first | (go_simp; done) | (go_simp; rfl)); intro w19 hw; have hg : wc.grownBy w19 (some go17) := (by rw [hw]; exact HP18.2); have hp_ : Kd.R k41 41 w19 w.heap.size (fun _ => True) (.slice (some ⟨go17, 0, none⟩) x3_1.length co6) y315 := (by rw [hw, Ny315.out]; exact HP18.1); clear HP18; have n0_ := Za.mk (hp_); have n1_ := Za.mk ((by rw [hw]; exact Zag (HB.out) GB17.out : Below w.heap.size w w19)); clear HO_3; clear HB; have HO_3 := n0_; have HB := n1_; clear n0_ n1_; clear hg hw hp_))
     go_roundg kj4
     case measure => have := HK1.out; have := HJ4.out; omega
     case rel => exact ⟨(y315), (wrap64 (x9_1 + 1)), (by first | rfl | (simp; done) | (simp [*]; done)), H', ⟨by have := HK1.out; have := HJ4.out; omega⟩, ⟨by (with_reducible repeat (first | apply Kd.R_alloc | apply Kd.Zbh | apply Kd.Zbl)); exact HO_3.out⟩, ⟨by repeat (first | (with_reducible first | exact HB.out | apply Zac | apply Zaa | apply Zab) | exact HB.out)⟩⟩
def Zct.l0 : Nat → Int → List (S41) → Int → Int → Option (Int)
 | 0, _, _, _, _ => none
 | k + 1, x3, x6, x7, x8 => if x8 < x7 then (if 0 ≤ x8 then (if x8 < (x6.length : Int) then (Zct.l0 k (wrap64 (x3 + (wrap64 ((wrap64 (((Zbu x6 x8).f1) - ((Zbu x6 x8).f0))) + 1)))) x6 x7 (wrap64 (x8 + 1))) else (none)) else (none)) else (some x3)
def Zct.f (k : Nat) (l0 : List (S41)) : Option (Int) := Zct.l0 k 0 l0 (l0.length : Int) 0
set_option maxHeartbeats 8000000 in
set_option maxRecDepth 100000 in
theorem Zct.calls (k : Nat) (A0 : Option Addr) (c0 : Nat) (l0 : List (S41)) (r : Int) (w : World) (hr0 : Kd.C k41 w A0 l0.length l0) (hc0 : l0.length ≤ c0) (h : Zct.f k l0 = some r) :
  Calls Try.prog 69 #[.slice A0 l0.length c0] w fun e w' => e = .returned (.int .i64 r) ∧ Below w.heap.size w w' := by
 have hu41 := Try.underlying41
 have HR0 := Za.mk hr0
 have HC0 := Za.mk hc0
 clear hr0 hc0
 have HB := Za.mk (Below.refl w.heap.size w)
 have H : (Zct.l0 k 0 l0 (l0.length : Int) 0) = some r := h
 clear h
 have H' := Za.mk H
 clear H
 go_enter Try.func69, Try.ntmps69
 go_wp2
 go_loopg [3, 8] k (fun kq v3 v8 w' => ∃ (x3_1 : Int) (x8_1 : Int), v3 = .int .i64 x3_1 ∧ v8 = .int .i64 x8_1 ∧ Za (Zct.l0 kq x3_1 l0 (l0.length : Int) x8_1 = some r) ∧ Za (kq ≤ k) ∧ Za (Below w.heap.size w w'))
 case atStart => exact ⟨(0), (0), (by first | rfl | (simp; done) | (simp [*]; done)), (by first | rfl | (simp; done) | (simp [*]; done)), H', ⟨Nat.le_refl _⟩, ⟨by repeat (first | (with_reducible first | exact HB.out | apply Zac | apply Zaa | apply Zab) | exact HB.out)⟩⟩
 case round =>
  clear H'
  obtain ⟨x3_1, x8_1, rfl, rfl, HA, HK1, HB⟩ := hrel
  cases gk with
  | zero => exact absurd HA.out (by simp [Zct.l0])
  | succ k1 =>
   have H := HA.out
   clear HA
   simp only [Zct.l0] at H
   by_cases c2 : x8_1 < (l0.length : Int)
   rotate_left
   ·rw [if_neg c2] at H
    have c2b0 : decide (x8_1 < (l0.length : Int)) = false := decide_eq_false c2
    clear c2
    obtain rfl := Option.some.inj H
    go_wp2
    go_ret
    exact ⟨by first | rfl | (simp [Zaq, Zar] <;> rfl) | (simp [*, Zaq, Zar] <;> rfl), by repeat (first | (with_reducible first | exact HB.out | apply Zac | apply Zaa | apply Zab) | exact HB.out)⟩
   rw [if_pos c2] at H
   have c2b0 : decide (x8_1 < (l0.length : Int)) = true := decide_eq_true c2
   clear c2
   by_cases c3 : 0 ≤ x8_1
   rotate_left
   ·rw [if_neg c3] at H
    exact absurd H (by simp)
   rw [if_pos c3] at H
   have c3b0 : decide (0 ≤ x8_1) = true := decide_eq_true c3
   clear c3
   by_cases c4 : x8_1 < (l0.length : Int)
   rotate_left
   ·rw [if_neg c4] at H
    exact absurd H (by simp)
   rw [if_pos c4] at H
   have c4b0 : decide (x8_1 < (l0.length : Int)) = true := decide_eq_true c4
   clear c4
   have H' := Za.mk H
   clear H
   have p322 : 0 ≤ (x8_1 : Int) := of_decide_eq_true (by first | (with_reducible assumption) | assumption)
   have q322 : x8_1 < (l0.length : Int) := of_decide_eq_true (by first | (with_reducible assumption) | assumption)
   obtain ⟨ad322, e322, hx322_0, hx322_1⟩ := Zdv HR0.out x8_1 p322 q322
   cases e322
   replace hx322_0 := (HB.out.cell (World.block_lt_of_cell? w _ hx322_0)).trans hx322_0
   replace hx322_1 := (HB.out.cell (World.block_lt_of_cell? w _ hx322_1)).trans hx322_1
   replace p322 := eq_true p322
   replace q322 := eq_true q322
   go_wp2_with (first | ((with_reducible refine Zbv (N := 5) rfl ?_); refine Zb4 ?hg (N := 5) ?hd (cs := #[.int .i64 0, .int .i64 0]) (t := 41) ?hr ?_; (case hd => rfl); (case hg => rfl); (case hr => first | (go_simp; done) | (go_simp; rfl)); intro gb323 hg w5 hbox hb; have n0_ := Za.mk (Zan (by repeat (first | (with_reducible first | exact HB.out | apply Zac | apply Zaa | apply Zab) | exact HB.out)) hb); have n1_ := Za.mk (hbox); have n2_ := Za.mk ((by rw [hg]; exact (Zam (by repeat (first | (with_reducible first | exact HB.out | apply Zac | apply Zaa | apply Zab) | exact HB.out))) : w.heap.size ≤ gb323)); have n3_ := Za.mk ((by rw [hg]; exact (Zam (by repeat (first | (with_reducible first | exact HB.out | apply Zac | apply Zaa | apply Zab) | exact HB.out))) : w.heap.size ≤ gb323)); clear HB; have HB := n0_; have BK323 := n1_; have GW323 := n2_; have GE323 := n3_; clear n0_ n1_ n2_ n3_; clear hb hbox hg; obtain ⟨hcz6_0, hcz6_1, hfz6_0, hfz6_1⟩ := blks2 BK323.out))
   go_roundg k1
   case measure => have := HK1.out; omega
   case rel => exact ⟨(wrap64 (x3_1 + (wrap64 ((wrap64 (((Zbu l0 x8_1).f1) - ((Zbu l0 x8_1).f0))) + 1)))), (wrap64 (x8_1 + 1)), (by first | rfl | (simp; done) | (simp [*]; done)), (by first | rfl | (simp; done) | (simp [*]; done)), H', ⟨by have := HK1.out; omega⟩, ⟨by repeat (first | (with_reducible first | exact HB.out | apply Zac | apply Zaa | apply Zab | refine Zag ?_ GE323.out) | exact HB.out)⟩⟩
end Go.Proofs.Ytpbcigilipdedaa.P
/- dom.Of: the domain of values. -/
namespace Go.Proofs.Ytpbcigilipdedaa.P
open Go.RowKit Go.Shelf Go.Proofs.YtpbcigilipdedaaW.PrintWords Go.Proofs.YtpbcigilipdedaaW.PrintLast Go.Proofs.YtpbcigilipdedaaW.PrintMore
set_option linter.unusedVariables false
def isVal (v : Int) : Bool := decide (-1048576 ≤ v) && decide (v ≤ 1048576)
def Zfg.f (k : Nat) (l0 : List Int) : Option (List S41 × Int) :=
  if (l0.any fun v => !isVal v) = true then some ([], 20) else if 1000000 < l0.length then none else (Zbi.f k (sortI l0)).bind fun d => (Zct.f k d).bind fun n => if n > 4096 then some ([], 2) else some (d, 0)
theorem value_f (x : Int) : Zd7.f x = some (isVal x) := by
  unfold Zd7.f isVal
  by_cases h : x ≥ -1048576
  · rw [if_pos h]; simp [decide_eq_true h]
  rw [if_neg h]; have : decide (-1048576 ≤ x) = false := decide_eq_false h; simp [this]
theorem ofPred (x : Int) (w : World) : Calls Try.prog 64 #[.int .i64 x] w fun e w' => e = .returned (.bool (!isVal x)) ∧ ∃ q, w' = w.drewN q := by
  have cv := fun W => Zd7.calls x _ W (value_f x)
  go_enter Try.func64, Try.ntmps64
  go_wp2_with (go_at_call 65; refine (cv _).mono ?_; rintro e w' ⟨rfl, ⟨q, rfl⟩⟩)
  go_ret
  exact ⟨rfl, q, rfl⟩
theorem row_of' (W : World) (base : Nat) (v : Value) (xs : List Int) {n : Nat} (hn : xs.length = n) (h : W.ownsRow base 3 1 v n (xs.map (Value.int .i64))) : Kd.R (Kd.int .i64) 3 W base (fun _ => True) v xs := by
  subst hn
  exact Kd.R_of_own (enc := Value.int .i64) h (fun _ _ => trivial)
set_option maxRecDepth 100000 in
set_option maxHeartbeats 2000000 in
theorem Zfg.calls (k : Nat) (A0 : Option Addr) (c0 : Nat) (l0 : List Int) (r1 : List S41) (r2 : Int) (w : World) (hr0 : Kd.C (Kd.int .i64) w A0 l0.length l0) (hc0 : l0.length ≤ c0) (h : Zfg.f k l0 = some (r1, r2)) :
    Calls Try.prog 43 #[.slice A0 l0.length c0] w fun e w' => ∃ v0_ : Value, e = .returned (.tuple #[v0_, .int .i64 r2]) ∧ Kd.R k41 41 w' w.heap.size (fun _ => True) v0_ r1 ∧ Below w.heap.size w w' := by
  have HR := Za.mk hr0
  have cC := fun (W : World) (hW : Kd.C (Kd.int .i64) W A0 l0.length l0) => Zfo (fun v => !isVal v) 64 #[] (enters_of Try.func64 (by kernel_rfl) rfl) A0 c0 l0 W hW (fun k _ q => ofPred _ _)
  have cC := cC w hr0
  clear hr0
  have hlen : l0.length ≤ 9223372036854775807 := HR.out.2.1
  have cV := fun (W : World) => callsIn_wide.1 (values_in Fence.wide 9 trivial rfl A0 l0.length c0 W)
  unfold Zfg.f at h
  cases hany : (l0.any fun v => !isVal v) with
  | true =>
    rw [if_pos hany] at h
    obtain ⟨rfl, rfl⟩ : [] = r1 ∧ 20 = r2 := by simpa using h
    rw [hany] at cC
    clear h hany
    go_enter Try.func43, Try.ntmps43
    go_wp2_with (first | (go_at_call 63; refine cC.mono ?_; rintro e w' ⟨rfl, q, rfl⟩))
    refine bodyPost_ret (results_tmp2 rfl _ _ _) rfl ?_
    exact ⟨_, rfl, Kd.Zem _ _ _ _ _, Zaa (Below.refl _ w) q⟩
  | false =>
    rw [if_neg (by rw [hany]; simp)] at h
    rw [hany] at cC
    by_cases hbig : 1000000 < l0.length
    · rw [if_pos hbig] at h; cases h
    rw [if_neg hbig] at h
    obtain ⟨d, hd, h⟩ := Option.bind_eq_some_iff.1 h
    obtain ⟨n, hn, h⟩ := Option.bind_eq_some_iff.1 h
    have HD := Za.mk hd
    have HN := Za.mk hn
    have HH := Za.mk h
    clear hany h hd hn
    have hsz : ∀ q, (w.drewN q).heap.size = w.heap.size := fun q => by simp
    have cS := fun (q : Nat) => sorted_calls 92 #[.pointer (some ⟨w.heap.size, 0, none⟩)] (enters_of Try.func92 (by kernel_rfl) rfl) w.heap.size _ _ l0.length (by omega) (fun xs e => by rw [e]; exact Nat.le_refl _)
      ((w.drewN q).alloc (.cells #[.slice A0 l0.length c0] 23)) ((w.drewN q).alloc (.cells #[.slice A0 l0.length c0] 23)) (Below.refl _ _) (by simp)
      (values_stops Fence.wide 7 trivial rfl (by omega) w.heap.size w _ A0 c0 l0 HR.out (by simp) ((Zaa (Below.refl _ w) q).alloc (by simp) _) (by have := (Boxed.new (w.drewN q) 23 (.slice A0 l0.length c0)).cell; rwa [hsz] at this))
    have cP := fun (A : Option Addr) (c : Nat) (W : World) (hW : Kd.C (Kd.int .i64) W A (sortI l0).length (sortI l0)) (hc : (sortI l0).length ≤ c) => Zbi.calls k A c (sortI l0) d W hW hc HD.out
    have cZ := fun (A : Option Addr) (c : Nat) (W : World) (hW : Kd.C k41 W A d.length d) (hc : d.length ≤ c) => Zct.calls k A c d n W hW hc HN.out
    have hsl := Za.mk (Zec l0)
    have cS2 := fun (q : Nat) => (cS q)
    by_cases hn : n > 4096
    · have HH' := HH.out
      rw [if_pos hn] at HH'
      obtain ⟨rfl, rfl⟩ : [] = r1 ∧ 2 = r2 := by simpa using HH'
      clear HH' HH
      have c2b0 : decide (4096 < n) = true := decide_eq_true hn
      clear hn
      go_enter Try.func43, Try.ntmps43
      go_wp2_with (first | (go_at_call 63; refine cC.mono ?_; rintro e w' ⟨rfl, q, rfl⟩) | (go_at_call 68; refine (cV _).mono ?_; rintro e w' ⟨rfl, rfl⟩) | (go_at_call 67; go_loud (refine (cS q).mono ?_; rintro e W1 ⟨v, xs, rfl, rfl, hrow, hb⟩; obtain ⟨A1, c1, rfl, hcl1, hC1⟩ := Kd.Zd3 (row_of' _ _ _ _ hsl.out hrow))) | (go_at_call 66; go_loud (refine (cP _ _ _ hC1 hcl1).mono ?_; rintro e W2 ⟨v0, rfl, hR, hb2⟩; obtain ⟨A2, c2, rfl, hcl2, hC2⟩ := Kd.Zd3 hR)) | (go_at_call 69; go_loud (refine (cZ _ _ _ hC2 hcl2).mono ?_; rintro e W3 ⟨rfl, hb3⟩)))
      refine bodyPost_ret (results_tmp2 rfl _ _ _) rfl ?_
      have hB1 : Below w.heap.size w W2 := ((Zaa (Below.refl _ w) q).alloc (by simp) _).trans ((hb.mono (by simp)).trans (hb2.mono (by have := hb.size; simp at this; omega)))
      exact ⟨_, rfl, Kd.Zem _ _ _ _ _, hB1.trans (hb3.mono hB1.size)⟩
    have HH' := HH.out
    rw [if_neg hn] at HH'
    obtain ⟨rfl, rfl⟩ : d = r1 ∧ 0 = r2 := by simpa using HH'
    clear HH' HH
    have c2b0 : decide (4096 < n) = false := decide_eq_false hn
    clear hn
    go_enter Try.func43, Try.ntmps43
    go_wp2_with (first | (go_at_call 63; refine cC.mono ?_; rintro e w' ⟨rfl, q, rfl⟩) | (go_at_call 68; refine (cV _).mono ?_; rintro e w' ⟨rfl, rfl⟩) | (go_at_call 67; go_loud (refine (cS q).mono ?_; rintro e W1 ⟨v, xs, rfl, rfl, hrow, hb⟩; obtain ⟨A1, c1, rfl, hcl1, hC1⟩ := Kd.Zd3 (row_of' _ _ _ _ hsl.out hrow))) | (go_at_call 66; go_loud (refine (cP _ _ _ hC1 hcl1).mono ?_; rintro e W2 ⟨v0, rfl, hR, hb2⟩; obtain ⟨A2, c2, rfl, hcl2, hC2⟩ := Kd.Zd3 hR)) | (go_at_call 69; go_loud (refine (cZ _ _ _ hC2 hcl2).mono ?_; rintro e W3 ⟨rfl, hb3⟩)))
    refine bodyPost_ret (results_tmp2 rfl _ _ _) rfl ?_
    have hB1 : Below w.heap.size w W2 := ((Zaa (Below.refl _ w) q).alloc (by simp) _).trans ((hb.mono (by simp)).trans (hb2.mono (by have := hb.size; simp at this; omega)))
    exact ⟨_, rfl, Kd.Zbz (Kd.Zb3 hR hb3) (by have := hb.size; simp at this; omega), hB1.trans (hb3.mono hB1.size)⟩
end Go.Proofs.Ytpbcigilipdedaa.P
namespace Go.Proofs.Ytpbcigilipdedaa.P
open Go.RowKit Go.Proofs.YtpbcigilipdedaaW.PrintWords Go.Proofs.YtpbcigilipdedaaW.PrintLast Go.Proofs.YtpbcigilipdedaaW.PrintMore
attribute [local go_sem] Zcg Zci Zcr Zcs Zb7 Zb8 Zch Zcj
set_option linter.unusedVariables false
set_option linter.unusedSimpArgs false
mutual
def Zau.l0 : Nat → List (List (S41)) → List (List (S41)) → List (List (S41)) → Int → Int → Int → List Int → List Int → Int → Int → List (List Int) → Int → Option ((List (List (S41))) × Bool)
 | 0, _, _, _, _, _, _, _, _, _, _, _, _ => none
 | k + 1, x0, x6, x15, x16, x17, x325000, x325001, x325002, x325003, x325004, x325005, x325006 => if x17 < x16 then (if 0 ≤ x17 then (if x17 < (x15.length : Int) then (if ((Zcb x15 x17).length : Int) = 0 then (some (([] : List (List (S41))), false)) else ((cloneR.f (Zcb x15 x17)).bind fun t326 => (if x6.length < 5864062014805 then (Zau.l0 k x0 (x6 ++ [t326]) x15 x16 (wrap64 (x17 + 1)) x325000 x325001 x325002 x325003 x325004 x325005 x325006) else (none)))) else (none)) else (none)) else ((Zbe.f k x0 x325000 x325001 x325002 x325003 x325004 x325005 x325006).bind fun t332 => (if (t332.length : Int) = 0 then (some (([] : List (List (S41))), false)) else (Zau.l1 k x6 t332 x325001 (x325001.length : Int) 0)))
def Zau.l1 : Nat → List (List (S41)) → List (List Int) → List Int → Int → Int → Option ((List (List (S41))) × Bool)
 | 0, _, _, _, _, _ => none
 | k + 1, x6, x9, x37, x38, x39 => if x39 < x38 then (if 0 ≤ x39 then (if x39 < (x37.length : Int) then (Zau.l2 k x6 x9 x39 (rd x37 x39) ([] : List Int) x37 x38 x39 x9 (x9.length : Int) 0) else (none)) else (none)) else (some (x6, true))
def Zau.l2 : Nat → List (List (S41)) → List (List Int) → Int → Int → List Int → List Int → Int → Int → List (List Int) → Int → Int → Option ((List (List (S41))) × Bool)
 | 0, _, _, _, _, _, _, _, _, _, _, _ => none
 | k + 1, x6, x9, x10, x11, x12, x37, x38, x39, x44, x45, x46 => if x46 < x45 then (if 0 ≤ x46 then (if x46 < (x44.length : Int) then (if 0 ≤ x10 then (if x10 < ((Zbt x44 x46).length : Int) then (if x12.length < 17592186044416 then (Zau.l2 k x6 x9 x10 x11 (x12 ++ [rd (Zbt x44 x46) x10]) x37 x38 x39 x44 x45 (wrap64 (x46 + 1))) else (none)) else (none)) else (none)) else (none)) else (none)) else ((Zfg.f k x12).bind fun bt341 => (if 0 ≤ x11 then (if x11 < (x6.length : Int) then (Zau.l1 k (x6.set (x11 : Int).toNat bt341.1) x9 x37 x38 (wrap64 (x39 + 1))) else (none)) else (none)))
end
def Zau.f (k : Nat) (l0 : List (List (S41))) (a1_0 : Int) (l1_1 : List Int) (l1_2 : List Int) (a1_3 : Int) (a1_4 : Int) (l1_5 : List (List Int)) (a1_6 : Int) : Option ((List (List (S41))) × Bool) := Zau.l0 k l0 ([] : List (List (S41))) l0 (l0.length : Int) 0 a1_0 l1_1 l1_2 a1_3 a1_4 l1_5 a1_6
set_option maxHeartbeats 8000000 in
set_option maxRecDepth 100000 in
theorem Zau.calls (k : Nat) (A0 : Option Addr) (c0 : Nat) (l0 : List (List (S41))) (a1_0 : Int) (A1_1 : Option Addr) (c1_1 : Nat) (l1_1 : List Int) (A1_2 : Option Addr) (c1_2 : Nat) (l1_2 : List Int) (a1_3 : Int) (a1_4 : Int) (A1_5 : Option Addr) (c1_5 : Nat) (l1_5 : List (List Int)) (a1_6 : Int) (r1 : List (List (S41))) (r2 : Bool) (w : World) (hr0 : Kd.C (Kd.slice 41 k41) w A0 l0.length l0) (hc0 : l0.length ≤ c0) (hr1_1 : Kd.C (Kd.int .i64) w A1_1 l1_1.length l1_1) (hc1_1 : l1_1.length ≤ c1_1) (hr1_2 : Kd.C (Kd.int .i64) w A1_2 l1_2.length l1_2) (hc1_2 : l1_2.length ≤ c1_2) (hr1_5 : Kd.C (Kd.slice 3 (Kd.int .i64)) w A1_5 l1_5.length l1_5) (hc1_5 : l1_5.length ≤ c1_5) (h : Zau.f k l0 a1_0 l1_1 l1_2 a1_3 a1_4 l1_5 a1_6 = some (r1, r2)) :
  Calls Try.prog 18 #[.slice A0 l0.length c0, .agg #[.int .i64 a1_0, .slice A1_1 l1_1.length c1_1, .slice A1_2 l1_2.length c1_2, .int .i64 a1_3, .int .i64 a1_4, .slice A1_5 l1_5.length c1_5, .int .i64 a1_6]] w fun e w' => ∃ v0_ : Value, e = .returned (.tuple #[v0_, .bool r2]) ∧ Kd.S (Kd.slice 41 k41) 39 w' w.heap.size (fun _ => True) v0_ r1 ∧ Below w.heap.size w w' := by
 have hu25 := Try.underlying25
 have HR0 := Za.mk hr0
 have HC0 := Za.mk hc0
 clear hr0 hc0
 have HR1_1 := Za.mk hr1_1
 have HC1_1 := Za.mk hc1_1
 clear hr1_1 hc1_1
 have HR1_2 := Za.mk hr1_2
 have HC1_2 := Za.mk hc1_2
 clear hr1_2 hc1_2
 have HR1_5 := Za.mk hr1_5
 have HC1_5 := Za.mk hc1_5
 clear hr1_5 hc1_5
 have HB := Za.mk (Below.refl w.heap.size w)
 have H : (Zau.l0 k l0 ([] : List (List (S41))) l0 (l0.length : Int) 0 a1_0 l1_1 l1_2 a1_3 a1_4 l1_5 a1_6) = some (r1, r2) := h
 clear h
 have H' := Za.mk H
 clear H
 go_enter Try.func18, Try.ntmps18
 go_wp2_with (first | ((with_reducible refine Zbv (N := 3) rfl ?_); refine Zb4 ?hg (N := 3) ?hd (cs := #[.int .i64 a1_0, .slice A1_1 l1_1.length c1_1, .slice A1_2 l1_2.length c1_2, .int .i64 a1_3, .int .i64 a1_4, .slice A1_5 l1_5.length c1_5, .int .i64 a1_6]) (t := 25) ?hr ?_; (case hd => rfl); (case hg => rfl); (case hr => first | (go_simp; done) | (go_simp; rfl)); intro gb324 hg w3 hbox hb; have n0_ := Za.mk (Zan (by repeat (first | (with_reducible first | exact HB.out | apply Zac | apply Zaa | apply Zab) | exact HB.out)) hb); have n1_ := Za.mk (hbox); have n3_ := Za.mk ((by rw [hg]; exact (Zam (by repeat (first | (with_reducible first | exact HB.out | apply Zac | apply Zaa | apply Zab) | exact HB.out))) : w.heap.size ≤ gb324)); clear HB; have HB := n0_; have BK324 := n1_; have GE324 := n3_; clear n0_ n1_ n3_; clear hb hbox hg))
 go_loopg [6, 17] k (fun kq v6 v17 w' => ∃ (x6_1 : List (List (S41))) (x17_1 : Int), v17 = .int .i64 x17_1 ∧ Za (Zau.l0 kq l0 x6_1 l0 (l0.length : Int) x17_1 a1_0 l1_1 l1_2 a1_3 a1_4 l1_5 a1_6 = some (r1, r2)) ∧ Za (kq ≤ k) ∧ Za (Kd.S (Kd.slice 41 k41) 39 w' w.heap.size (fun _ => True) v6 x6_1) ∧ Za (w'.heap[gb324]? = some (.cells #[.int .i64 a1_0, (.slice A1_1 l1_1.length c1_1), (.slice A1_2 l1_2.length c1_2), .int .i64 a1_3, .int .i64 a1_4, (.slice A1_5 l1_5.length c1_5), .int .i64 a1_6] 25 (0, 0))) ∧ Za (Below w.heap.size w w'))
 case atStart => exact ⟨(([] : List (List (S41)))), (0), (by first | rfl | (simp; done) | (simp [*]; done)), H', ⟨Nat.le_refl _⟩, ⟨by first | exact Kd.S_nil _ _ _ _ _ | exact Kd.N_nil _ _ _ _ _ | exact Kd.V_nil _ _ _ _ _ | exact Kd.Q_nil _ _ _ _ _ | exact Kd.Zem _ _ _ _ _⟩, ⟨by (with_reducible repeat (first | refine Zah ?_ _ | refine Zaj ?_ | refine Zaf ?_ _)); exact BK324.out⟩, ⟨by repeat (first | (with_reducible first | exact HB.out | apply Zac | apply Zaa | apply Zab | refine Zag ?_ GE324.out) | exact HB.out)⟩⟩
 case round =>
  clear H'
  try clear c1
  try clear p2
  obtain ⟨x6_1, x17_1, rfl, HA, HK1, HO_6, BK324, HB⟩ := hrel
  cases gk with
  | zero => exact absurd HA.out (by simp [Zau.l0])
  | succ k1 =>
   have H := HA.out
   clear HA
   simp only [Zau.l0] at H
   by_cases c4 : x17_1 < (l0.length : Int)
   ·rw [if_pos c4] at H
    have c4b0 : decide (x17_1 < (l0.length : Int)) = true := decide_eq_true c4
    clear c4
    by_cases c5 : 0 ≤ x17_1
    rotate_left
    ·rw [if_neg c5] at H
     exact absurd H (by simp)
    rw [if_pos c5] at H
    have c5b0 : decide (0 ≤ x17_1) = true := decide_eq_true c5
    clear c5
    by_cases c6 : x17_1 < (l0.length : Int)
    rotate_left
    ·rw [if_neg c6] at H
     exact absurd H (by simp)
    rw [if_pos c6] at H
    have c6b0 : decide (x17_1 < (l0.length : Int)) = true := decide_eq_true c6
    clear c6
    by_cases c7 : ((Zcb l0 x17_1).length : Int) = 0
    ·rw [if_pos c7] at H
     have c7b0 : (((Zcb l0 x17_1).length : Int) == 0) = true := beq_iff_eq.mpr c7
     have c7b1 : (((Zcb l0 x17_1).length : Int) != 0) = false := bne_eq_false_iff_eq.mpr c7
     clear c7
     simp only [Option.some.injEq, Prod.mk.injEq] at H
     obtain ⟨rfl, rfl⟩ := H
     have p325 : 0 ≤ (x17_1 : Int) := of_decide_eq_true (by first | (with_reducible assumption) | assumption)
     have q325 : x17_1 < (l0.length : Int) := of_decide_eq_true (by first | (with_reducible assumption) | assumption)
     obtain ⟨ad325, A325_0, c325_0, e325, hx325_0, hl325_0, hi325_0⟩ := Zfn HR0.out x17_1 p325 q325
     cases e325
     replace hx325_0 := (HB.out.cell (World.block_lt_of_cell? w _ hx325_0)).trans hx325_0
     have HR325_0 := Za.mk hi325_0
     have HC325_0 := Za.mk hl325_0
     clear hi325_0 hl325_0
     replace p325 := eq_true p325
     replace q325 := eq_true q325
     go_wp2
     go_ret2
     exact ⟨_, by first | rfl | (simp [Zaq, Zar] <;> rfl) | (simp [*, Zaq, Zar] <;> rfl), by first | exact Kd.S_nil _ _ _ _ _ | exact Kd.N_nil _ _ _ _ _ | exact Kd.V_nil _ _ _ _ _ | exact Kd.Q_nil _ _ _ _ _ | exact Kd.Zem _ _ _ _ _, by repeat (first | (with_reducible first | exact HB.out | apply Zac | apply Zaa | apply Zab | refine Zag ?_ GE324.out) | exact HB.out)⟩
    rw [if_neg c7] at H
    have c7b0 : (((Zcb l0 x17_1).length : Int) == 0) = false := beq_eq_false_iff_ne.mpr c7
    have c7b1 : (((Zcb l0 x17_1).length : Int) != 0) = true := bne_iff_ne.mpr c7
    have c7b2 : ¬ ((Zcb l0 x17_1) = []) := fun h_ => c7 (by rw [h_]; rfl)
    replace H := Option.bind_eq_some_iff.mp H
    obtain ⟨t326, A80, H⟩ := H
    replace H : (if x6_1.length < 5864062014805 then (Zau.l0 k1 l0 (x6_1 ++ [t326]) l0 (l0.length : Int) (wrap64 (x17_1 + 1)) a1_0 l1_1 l1_2 a1_3 a1_4 l1_5 a1_6) else (none)) = some (r1, r2) := H
    have A8 := Za.mk A80
    clear A80
    by_cases c9 : x6_1.length < 5864062014805
    rotate_left
    ·rw [if_neg c9] at H
     exact absurd H (by simp)
    rw [if_pos c9] at H
    have LMc9 := Za.mk c9
    clear c9
    obtain ⟨y329, hy329⟩ : ∃ y_ : List (List (S41)), y_ = (x6_1 ++ [t326]) := ⟨_, rfl⟩
    replace H : (Zau.l0 k1 l0 y329 l0 (l0.length : Int) (wrap64 (x17_1 + 1)) a1_0 l1_1 l1_2 a1_3 a1_4 l1_5 a1_6) = some (r1, r2) := by first | (rw [hy329]; with_reducible exact H) | (have H2_ := (Option.bind_some _ _).symm.trans H; rw [hy329]; with_reducible exact H2_) | (have H2_ := (Option.bind_some _ _).symm.trans H; with_reducible exact H2_) | with_reducible exact H | (rw [hy329]; exact H) | exact H
    have Ny329 := Za.mk hy329
    clear hy329
    have H' := Za.mk H
    clear H
    have p325 : 0 ≤ (x17_1 : Int) := of_decide_eq_true (by first | (with_reducible assumption) | assumption)
    have q325 : x17_1 < (l0.length : Int) := of_decide_eq_true (by first | (with_reducible assumption) | assumption)
    obtain ⟨ad325, A325_0, c325_0, e325, hx325_0, hl325_0, hi325_0⟩ := Zfn HR0.out x17_1 p325 q325
    cases e325
    replace hx325_0 := (HB.out.cell (World.block_lt_of_cell? w _ hx325_0)).trans hx325_0
    have HR325_0 := Za.mk hi325_0
    have HC325_0 := Za.mk hl325_0
    clear hi325_0 hl325_0
    replace p325 := eq_true p325
    replace q325 := eq_true q325
    go_wp2_with (first | ((with_reducible refine Za2 (f := 42) rfl ?_); refine Zb0 (some 26) rfl rfl Try.func42 (by kernel_rfl) rfl #[.slice A325_0 (Zcb l0 x17_1).length c325_0] rfl (by (try simp only [List.map_toArray, List.map_cons, List.map_nil]); first | done | rfl | (simp only [List.length_drop, List.length_take]; rfl)) ?_; (refine withB (m := w.heap.size) (w0 := w) (by repeat (first | (with_reducible first | exact HB.out | apply Zac | apply Zaa | apply Zab | refine Zag ?_ GE324.out) | exact HB.out)) ?_); intro hL_; (with_reducible refine (cloneR.calls _ _ (Zcb l0 x17_1) t326 _ ?side1 ?side2 A8.out).mono ?_); (case side1 => repeat (first | exact (Kd.Zaw HR325_0.out HB.out) | (with_reducible refine Kd.C_alloc ?_ _) | (with_reducible refine Kd.Za0 ?_ _) | (with_reducible refine Kd.C_drew ?_))); (case side2 => exact HC325_0.out); rintro e w10 ⟨v327, rfl, ho0, hb⟩; refine ⟨_, rfl, ?_⟩; have n0_ := Za.mk (Kd.Zee (mvS HO_6.out) (Kd.Zdn ho0) hb); have n1_ := Za.mk (Kd.Zbz ho0 (Zam hL_)); have n2_ := Za.mk (Za6 (g := gb324) (o := .cells #[.int .i64 a1_0, .slice A1_1 l1_1.length c1_1, .slice A1_2 l1_2.length c1_2, .int .i64 a1_3, .int .i64 a1_4, .slice A1_5 l1_5.length c1_5, .int .i64 a1_6] 25 (0, 0)) (mvK BK324.out) hb); have n3_ := Za.mk (Zan hL_ hb); clear HO_6; clear BK324; clear HB; have HO_6 := n0_; have HO328 := n1_; have BK324 := n2_; have HB := n3_; clear n0_ n1_ n2_ n3_; (try clear hb); (try clear hb2); (try clear hk); (try clear hi); (try clear ho0); obtain ⟨Ao12, co12, eo12⟩ := Kd.Zbw HO328.out; subst eo12) | ((with_reducible refine Zbg (b := .append) (xs := #[.tmp 24, .tmp 27]) rfl ?_); at_builtin; refine Kd.Zfr (Kd.slice 41 k41) (w0 := w) w.heap.size rfl (.tmp 24) (.tmp 27) 28 39 (.slice none 0 0) 24 rfl Try.underlying28 info39 rfl (by decide) (by omega) u6 x6_1 t326 [.slice Ao12 t326.length co12] (fun _ => True) (fun k_ => some k_ = (.slice Ao12 t326.length co12 : Value).ownBlock) rfl rfl ?aP (fun k_ hk_ => ((Kd.Zbm (ok' := fun k_ => ((fun _ => True)) k_ ∧ some k_ ≠ (u6 : Value).ownBlock) (Kd.Zc0 (HO328.out) (Kd.Zc2 HO_6.out) (by decide)) (fun k_ hk => ⟨trivial, hk.2⟩))).1 k_ hk_.symm) ?aF ?aO ?aB ?aS ?aL ?_; (case aP => exact Kd.M_row (Kd.Zbm (Kd.Zd4 rfl (Kd.Zbm (ok' := fun k_ => ((fun _ => True)) k_ ∧ some k_ ≠ (u6 : Value).ownBlock) (Kd.Zc0 (HO328.out) (Kd.Zc2 HO_6.out) (by decide)) (fun k_ hk => ⟨trivial, hk.2⟩))) (fun _ h_ => h_))); (case aB => exact (by repeat (first | (with_reducible first | exact HB.out | apply Zac | apply Zaa | apply Zab | refine Zag ?_ GE324.out) | exact HB.out))); (case aF => exact (fun _ _ => trivial)); (case aO => exact (mvS (Kd.Zck HO_6.out (fun k_ hk => ⟨trivial, fun e_ => hk.2 e_⟩)))); (case aS => exact (Zam (by repeat (first | (with_reducible first | exact HB.out | apply Zac | apply Zaa | apply Zab | refine Zag ?_ GE324.out) | exact HB.out)))); (case aL => have := LMc9.out; omega); intro v330 w11 ho hb hg hat; rw [← Ny329.out] at ho; have n0_ := Za.mk (Zcp (g := gb324) (o := .cells #[.int .i64 a1_0, .slice A1_1 l1_1.length c1_1, .slice A1_2 l1_2.length c1_2, .int .i64 a1_3, .int .i64 a1_4, .slice A1_5 l1_5.length c1_5, .int .i64 a1_6] 25 (0, 0)) (mvK BK324.out) hg (Kd.S_ne HO_6.out BK324.out (by decide))); have n1_ := Za.mk (hb); have n2_ := Za.mk (ho); clear BK324; clear HB; clear HO_6; clear HO328; have BK324 := n0_; have HB := n1_; have HO331 := n2_; clear n0_ n1_ n2_; clear ho hb hg hat))
    go_roundg k1
    case measure => have := HK1.out; omega
    case rel => exact ⟨(y329), (wrap64 (x17_1 + 1)), (by first | rfl | (simp; done) | (simp [*]; done)), H', ⟨by have := HK1.out; omega⟩, ⟨by (with_reducible repeat (first | apply Kd.S_alloc | apply Kd.S_drewN | apply Kd.Zb6)); exact HO331.out⟩, ⟨by (with_reducible repeat (first | refine Zah ?_ _ | refine Zaj ?_ | refine Zaf ?_ _)); exact BK324.out⟩, ⟨by repeat (first | (with_reducible first | exact HB.out | apply Zac | apply Zaa | apply Zab | refine Zag ?_ GE324.out) | exact HB.out)⟩⟩
   rw [if_neg c4] at H
   have c4b0 : decide (x17_1 < (l0.length : Int)) = false := decide_eq_false c4
   clear c4
   replace H := Option.bind_eq_some_iff.mp H
   obtain ⟨t332, A130, H⟩ := H
   replace H : (if (t332.length : Int) = 0 then (some (([] : List (List (S41))), false)) else (Zau.l1 k1 x6_1 t332 l1_1 (l1_1.length : Int) 0)) = some (r1, r2) := H
   have A13 := Za.mk A130
   clear A130
   by_cases c14 : (t332.length : Int) = 0
   ·rw [if_pos c14] at H
    have c14b0 : ((t332.length : Int) == 0) = true := beq_iff_eq.mpr c14
    have c14b1 : ((t332.length : Int) != 0) = false := bne_eq_false_iff_eq.mpr c14
    clear c14
    simp only [Option.some.injEq, Prod.mk.injEq] at H
    obtain ⟨rfl, rfl⟩ := H
    obtain ⟨hcz15_0, hcz15_1, hcz15_2, hcz15_3, hcz15_4, hcz15_5, hcz15_6, hfz15_0, hfz15_1, hfz15_2, hfz15_3, hfz15_4, hfz15_5, hfz15_6⟩ := Zce BK324.out
    go_wp2_with (first | ((with_reducible refine Za2 (f := 20) rfl ?_); refine Zb0 (some 32) rfl rfl Try.func20 (by kernel_rfl) rfl #[.slice A0 l0.length c0, .agg #[.int .i64 a1_0, .slice A1_1 l1_1.length c1_1, .slice A1_2 l1_2.length c1_2, .int .i64 a1_3, .int .i64 a1_4, .slice A1_5 l1_5.length c1_5, .int .i64 a1_6]] rfl (by (try simp only [List.map_toArray, List.map_cons, List.map_nil]); first | done | rfl | (simp only [List.length_drop, List.length_take]; rfl)) ?_; (refine withB (m := w.heap.size) (w0 := w) (by repeat (first | (with_reducible first | exact HB.out | apply Zac | apply Zaa | apply Zab | refine Zag ?_ GE324.out) | exact HB.out)) ?_); intro hL_; (with_reducible refine (Zbe.calls k1 _ _ l0 a1_0 _ _ l1_1 _ _ l1_2 a1_3 a1_4 _ _ l1_5 a1_6 t332 _ ?side1 ?side2 ?side3 ?side4 ?side5 ?side6 ?side7 ?side8 A13.out).mono ?_); (case side1 => repeat (first | exact (Kd.Zaw HR0.out HB.out) | (with_reducible refine Kd.C_alloc ?_ _) | (with_reducible refine Kd.Za0 ?_ _) | (with_reducible refine Kd.C_drew ?_))); (case side2 => exact HC0.out); (case side3 => repeat (first | exact (Kd.Zaw HR1_1.out HB.out) | (with_reducible refine Kd.C_alloc ?_ _) | (with_reducible refine Kd.Za0 ?_ _) | (with_reducible refine Kd.C_drew ?_))); (case side4 => exact HC1_1.out); (case side5 => repeat (first | exact (Kd.Zaw HR1_2.out HB.out) | (with_reducible refine Kd.C_alloc ?_ _) | (with_reducible refine Kd.Za0 ?_ _) | (with_reducible refine Kd.C_drew ?_))); (case side6 => exact HC1_2.out); (case side7 => repeat (first | exact (Kd.Zaw HR1_5.out HB.out) | (with_reducible refine Kd.C_alloc ?_ _) | (with_reducible refine Kd.Za0 ?_ _) | (with_reducible refine Kd.C_drew ?_))); (case side8 => exact HC1_5.out); rintro e w16 ⟨v333, rfl, ho0, hb⟩; refine ⟨_, rfl, ?_⟩; have n1_ := Za.mk (Kd.Zd5 ho0 (Zam hL_)); have n3_ := Za.mk (Zan hL_ hb); clear HO_6; clear BK324; clear HB; have HO334 := n1_; have HB := n3_; clear n1_ n3_; (try clear hb); (try clear hb2); (try clear hk); (try clear hi); (try clear ho0); obtain ⟨Ao17, co17, eo17⟩ := Kd.Zen HO334.out; subst eo17))
    go_ret2
    exact ⟨_, by first | rfl | (simp [Zaq, Zar] <;> rfl) | (simp [*, Zaq, Zar] <;> rfl), by first | exact Kd.S_nil _ _ _ _ _ | exact Kd.N_nil _ _ _ _ _ | exact Kd.V_nil _ _ _ _ _ | exact Kd.Q_nil _ _ _ _ _ | exact Kd.Zem _ _ _ _ _, by repeat (first | (with_reducible first | exact HB.out | apply Zac | apply Zaa | apply Zab | refine Zag ?_ GE324.out) | exact HB.out)⟩
   rw [if_neg c14] at H
   have c14b0 : ((t332.length : Int) == 0) = false := beq_eq_false_iff_ne.mpr c14
   have c14b1 : ((t332.length : Int) != 0) = true := bne_iff_ne.mpr c14
   have c14b2 : ¬ (t332 = []) := fun h_ => c14 (by rw [h_]; rfl)
   have H' := Za.mk H
   clear H
   obtain ⟨hcz18_0, hcz18_1, hcz18_2, hcz18_3, hcz18_4, hcz18_5, hcz18_6, hfz18_0, hfz18_1, hfz18_2, hfz18_3, hfz18_4, hfz18_5, hfz18_6⟩ := Zce BK324.out
   go_wp2_with (first | ((with_reducible refine Za2 (f := 20) rfl ?_); refine Zb0 (some 32) rfl rfl Try.func20 (by kernel_rfl) rfl #[.slice A0 l0.length c0, .agg #[.int .i64 a1_0, .slice A1_1 l1_1.length c1_1, .slice A1_2 l1_2.length c1_2, .int .i64 a1_3, .int .i64 a1_4, .slice A1_5 l1_5.length c1_5, .int .i64 a1_6]] rfl (by (try simp only [List.map_toArray, List.map_cons, List.map_nil]); first | done | rfl | (simp only [List.length_drop, List.length_take]; rfl)) ?_; (refine withB (m := w.heap.size) (w0 := w) (by repeat (first | (with_reducible first | exact HB.out | apply Zac | apply Zaa | apply Zab | refine Zag ?_ GE324.out) | exact HB.out)) ?_); intro hL_; (with_reducible refine (Zbe.calls k1 _ _ l0 a1_0 _ _ l1_1 _ _ l1_2 a1_3 a1_4 _ _ l1_5 a1_6 t332 _ ?side1 ?side2 ?side3 ?side4 ?side5 ?side6 ?side7 ?side8 A13.out).mono ?_); (case side1 => repeat (first | exact (Kd.Zaw HR0.out HB.out) | (with_reducible refine Kd.C_alloc ?_ _) | (with_reducible refine Kd.Za0 ?_ _) | (with_reducible refine Kd.C_drew ?_))); (case side2 => exact HC0.out); (case side3 => repeat (first | exact (Kd.Zaw HR1_1.out HB.out) | (with_reducible refine Kd.C_alloc ?_ _) | (with_reducible refine Kd.Za0 ?_ _) | (with_reducible refine Kd.C_drew ?_))); (case side4 => exact HC1_1.out); (case side5 => repeat (first | exact (Kd.Zaw HR1_2.out HB.out) | (with_reducible refine Kd.C_alloc ?_ _) | (with_reducible refine Kd.Za0 ?_ _) | (with_reducible refine Kd.C_drew ?_))); (case side6 => exact HC1_2.out); (case side7 => repeat (first | exact (Kd.Zaw HR1_5.out HB.out) | (with_reducible refine Kd.C_alloc ?_ _) | (with_reducible refine Kd.Za0 ?_ _) | (with_reducible refine Kd.C_drew ?_))); (case side8 => exact HC1_5.out); rintro e w19 ⟨v333, rfl, ho0, hb⟩; refine ⟨_, rfl, ?_⟩; have n0_ := Za.mk (Kd.Zc1 (mvS HO_6.out) hb); have n1_ := Za.mk (Kd.Zd5 ho0 (Zam hL_)); have n2_ := Za.mk (Za6 (g := gb324) (o := .cells #[.int .i64 a1_0, .slice A1_1 l1_1.length c1_1, .slice A1_2 l1_2.length c1_2, .int .i64 a1_3, .int .i64 a1_4, .slice A1_5 l1_5.length c1_5, .int .i64 a1_6] 25 (0, 0)) (mvK BK324.out) hb); have n3_ := Za.mk (Zan hL_ hb); clear HO_6; clear BK324; clear HB; have HO_6 := n0_; have HO334 := n1_; have BK324 := n2_; have HB := n3_; clear n0_ n1_ n2_ n3_; (try clear hb); (try clear hb2); (try clear hk); (try clear hi); (try clear ho0); obtain ⟨Ao20, co20, eo20⟩ := Kd.Zen HO334.out; subst eo20; obtain ⟨hcz21_0, hcz21_1, hcz21_2, hcz21_3, hcz21_4, hcz21_5, hcz21_6, hfz21_0, hfz21_1, hfz21_2, hfz21_3, hfz21_4, hfz21_5, hfz21_6⟩ := Zce BK324.out))
   go_loopg [39] k1 (fun kq v39 w' => ∃ (x6_2 : List (List (S41))) (x39_2 : Int), v39 = .int .i64 x39_2 ∧ Za (Zau.l1 kq x6_2 t332 l1_1 (l1_1.length : Int) x39_2 = some (r1, r2)) ∧ Za (kq ≤ k1) ∧ Za (Kd.S (Kd.slice 41 k41) 39 w' w.heap.size (fun _ => True) u6 x6_2) ∧ Za (Kd.S (Kd.slice 3 (Kd.int .i64)) 23 w' w.heap.size (fun _ => True) (.slice Ao20 t332.length co20) t332) ∧ Za (w'.heap[gb324]? = some (.cells #[.int .i64 a1_0, (.slice A1_1 l1_1.length c1_1), (.slice A1_2 l1_2.length c1_2), .int .i64 a1_3, .int .i64 a1_4, (.slice A1_5 l1_5.length c1_5), .int .i64 a1_6] 25 (0, 0))) ∧ Za (Below w.heap.size w w'))
   case atStart => exact ⟨(x6_1), (0), (by first | rfl | (simp; done) | (simp [*]; done)), H', ⟨Nat.le_refl _⟩, ⟨by (with_reducible repeat (first | apply Kd.S_alloc | apply Kd.S_drewN | apply Kd.Zb6)); exact HO_6.out⟩, ⟨by (with_reducible repeat (first | apply Kd.S_alloc | apply Kd.S_drewN | apply Kd.Zb6)); exact HO334.out⟩, ⟨by (with_reducible repeat (first | refine Zah ?_ _ | refine Zaj ?_ | refine Zaf ?_ _)); exact BK324.out⟩, ⟨by repeat (first | (with_reducible first | exact HB.out | apply Zac | apply Zaa | apply Zab | refine Zag ?_ GE324.out) | exact HB.out)⟩⟩
   case round =>
    clear H'
    try clear c1
    try clear c2
    try clear p2
    try clear c3
    try clear p3
    try clear q3
    try clear hx3
    try clear c4
    try clear c4b0
    try clear c5
    try clear c5b0
    try clear c6
    try clear c6b0
    try clear p6
    try clear c7
    try clear c7b0
    try clear c7b1
    try clear c7b2
    try clear c9
    try clear c14
    try clear c14b0
    try clear c14b1
    try clear c14b2
    try clear c18
    try clear c20
    try clear hcz15_0
    try clear hcz15_1
    try clear hcz15_2
    try clear hcz15_3
    try clear hcz15_4
    try clear hcz15_5
    try clear hcz15_6
    try clear hcz18_0
    try clear hcz18_1
    try clear hcz18_2
    try clear hcz18_3
    try clear hcz18_4
    try clear hcz18_5
    try clear hcz18_6
    try clear hcz21_0
    try clear hcz21_1
    try clear hcz21_2
    try clear hcz21_3
    try clear hcz21_4
    try clear hcz21_5
    try clear hcz21_6
    try clear hfz15_0
    try clear hfz15_1
    try clear hfz15_2
    try clear hfz15_3
    try clear hfz15_4
    try clear hfz15_5
    try clear hfz15_6
    try clear hfz18_0
    try clear hfz18_1
    try clear hfz18_2
    try clear hfz18_3
    try clear hfz18_4
    try clear hfz18_5
    try clear hfz18_6
    try clear hfz21_0
    try clear hfz21_1
    try clear hfz21_2
    try clear hfz21_3
    try clear hfz21_4
    try clear hfz21_5
    try clear hfz21_6
    try clear hx325_0
    try clear p2
    try clear p325
    try clear q325
    obtain ⟨x6_2, x39_2, rfl, HA, HK2, HO_6, HO_9, BK324, HB⟩ := hrel
    cases gk with
    | zero => exact absurd HA.out (by simp [Zau.l1])
    | succ k2 =>
     have H := HA.out
     clear HA
     simp only [Zau.l1] at H
     by_cases c22 : x39_2 < (l1_1.length : Int)
     rotate_left
     ·rw [if_neg c22] at H
      have c22b0 : decide (x39_2 < (l1_1.length : Int)) = false := decide_eq_false c22
      clear c22
      simp only [Option.some.injEq, Prod.mk.injEq] at H
      obtain ⟨rfl, rfl⟩ := H
      go_wp2
      go_ret2
      exact ⟨_, by first | rfl | (simp [Zaq, Zar] <;> rfl) | (simp [*, Zaq, Zar] <;> rfl), by (with_reducible repeat (first | apply Kd.S_alloc | apply Kd.S_drewN | apply Kd.Zb6)); exact HO_6.out, by repeat (first | (with_reducible first | exact HB.out | apply Zac | apply Zaa | apply Zab | refine Zag ?_ GE324.out) | exact HB.out)⟩
     rw [if_pos c22] at H
     have c22b0 : decide (x39_2 < (l1_1.length : Int)) = true := decide_eq_true c22
     clear c22
     by_cases c23 : 0 ≤ x39_2
     rotate_left
     ·rw [if_neg c23] at H
      exact absurd H (by simp)
     rw [if_pos c23] at H
     have c23b0 : decide (0 ≤ x39_2) = true := decide_eq_true c23
     clear c23
     by_cases c24 : x39_2 < (l1_1.length : Int)
     rotate_left
     ·rw [if_neg c24] at H
      exact absurd H (by simp)
     rw [if_pos c24] at H
     have c24b0 : decide (x39_2 < (l1_1.length : Int)) = true := decide_eq_true c24
     clear c24
     have H' := Za.mk H
     clear H
     have p335 : 0 ≤ (x39_2 : Int) := of_decide_eq_true (by first | (with_reducible assumption) | assumption)
     have q335 : x39_2 < (l1_1.length : Int) := of_decide_eq_true (by first | (with_reducible assumption) | assumption)
     obtain ⟨ad335, e335, hx335_0⟩ := Kd.Zby HR1_1.out x39_2 p335 q335
     cases e335
     replace hx335_0 := (HB.out.cell (World.block_lt_of_cell? w _ hx335_0)).trans hx335_0
     replace p335 := eq_true p335
     replace q335 := eq_true q335
     go_wp2
     go_loopg [12, 46] k2 (fun kq v12 v46 w' => ∃ (x12_3 : List Int) (x46_3 : Int), v46 = .int .i64 x46_3 ∧ Za (Zau.l2 kq x6_2 t332 x39_2 (rd l1_1 x39_2) x12_3 l1_1 (l1_1.length : Int) x39_2 t332 (t332.length : Int) x46_3 = some (r1, r2)) ∧ Za (kq ≤ k2) ∧ Za (Kd.S (Kd.slice 41 k41) 39 w' w.heap.size (fun _ => True) u6 x6_2) ∧ Za (Kd.S (Kd.slice 3 (Kd.int .i64)) 23 w' w.heap.size (fun k_ => some k_ ≠ (v12 : Value).ownBlock) (.slice Ao20 t332.length co20) t332) ∧ Za (Kd.R (Kd.int .i64) 3 w' w.heap.size (fun _ => True) v12 x12_3) ∧ Za (Kd.S (Kd.slice 3 (Kd.int .i64)) 23 w' w.heap.size (fun k_ => some k_ ≠ (v12 : Value).ownBlock) (.slice Ao20 t332.length co20) t332) ∧ Za (w'.heap[gb324]? = some (.cells #[.int .i64 a1_0, (.slice (some ad335) l1_1.length c1_1), (.slice A1_2 l1_2.length c1_2), .int .i64 a1_3, .int .i64 a1_4, (.slice A1_5 l1_5.length c1_5), .int .i64 a1_6] 25 (0, 0))) ∧ Za (Below w.heap.size w w'))
     case atStart => exact ⟨(([] : List Int)), (0), (by first | rfl | (simp; done) | (simp [*]; done)), H', ⟨Nat.le_refl _⟩, ⟨by (with_reducible repeat (first | apply Kd.S_alloc | apply Kd.S_drewN | apply Kd.Zb6)); exact HO_6.out⟩, ⟨by (with_reducible repeat (first | apply Kd.S_alloc | apply Kd.S_drewN | apply Kd.Zb6)); exact Kd.Zck HO_9.out (fun _ hk => (by simp [Value.ownBlock]))⟩, ⟨by first | exact Kd.Zem _ _ _ _ _ | exact Kd.N_nil _ _ _ _ _ | exact Kd.V_nil _ _ _ _ _ | exact Kd.Q_nil _ _ _ _ _ | exact Kd.S_nil _ _ _ _ _⟩, ⟨by (with_reducible repeat (first | apply Kd.S_alloc | apply Kd.S_drewN | apply Kd.Zb6)); exact Kd.Zck HO_9.out (fun _ hk => (by simp [Value.ownBlock]))⟩, ⟨by (with_reducible repeat (first | refine Zah ?_ _ | refine Zaj ?_ | refine Zaf ?_ _)); exact BK324.out⟩, ⟨by repeat (first | (with_reducible first | exact HB.out | apply Zac | apply Zaa | apply Zab | refine Zag ?_ GE324.out) | exact HB.out)⟩⟩
     case round =>
      clear H'
      try clear c1
      try clear c2
      try clear p2
      try clear c3
      try clear p3
      try clear q3
      try clear hx3
      try clear c4
      try clear c4b0
      try clear c5
      try clear c5b0
      try clear c6
      try clear c6b0
      try clear p6
      try clear c7
      try clear c7b0
      try clear c7b1
      try clear c7b2
      try clear c9
      try clear c14
      try clear c14b0
      try clear c14b1
      try clear c14b2
      try clear c18
      try clear c20
      try clear c22
      try clear c22b0
      try clear c23
      try clear c23b0
      try clear c24
      try clear c24b0
      try clear hcz15_0
      try clear hcz15_1
      try clear hcz15_2
      try clear hcz15_3
      try clear hcz15_4
      try clear hcz15_5
      try clear hcz15_6
      try clear hcz18_0
      try clear hcz18_1
      try clear hcz18_2
      try clear hcz18_3
      try clear hcz18_4
      try clear hcz18_5
      try clear hcz18_6
      try clear hcz21_0
      try clear hcz21_1
      try clear hcz21_2
      try clear hcz21_3
      try clear hcz21_4
      try clear hcz21_5
      try clear hcz21_6
      try clear hfz15_0
      try clear hfz15_1
      try clear hfz15_2
      try clear hfz15_3
      try clear hfz15_4
      try clear hfz15_5
      try clear hfz15_6
      try clear hfz18_0
      try clear hfz18_1
      try clear hfz18_2
      try clear hfz18_3
      try clear hfz18_4
      try clear hfz18_5
      try clear hfz18_6
      try clear hfz21_0
      try clear hfz21_1
      try clear hfz21_2
      try clear hfz21_3
      try clear hfz21_4
      try clear hfz21_5
      try clear hfz21_6
      try clear hx325_0
      try clear hx335_0
      try clear p2
      try clear p3
      try clear p325
      try clear p335
      try clear p6
      try clear q3
      try clear q325
      try clear q335
      obtain ⟨x12_3, x46_3, rfl, HA, HK3, HO_6, HO_9, HO_12, HO_44, BK324, HB⟩ := hrel
      cases gk with
      | zero => exact absurd HA.out (by simp [Zau.l2])
      | succ k3 =>
       have H := HA.out
       clear HA
       simp only [Zau.l2] at H
       by_cases c25 : x46_3 < (t332.length : Int)
       ·rw [if_pos c25] at H
        have c25b0 : decide (x46_3 < (t332.length : Int)) = true := decide_eq_true c25
        clear c25
        by_cases c26 : 0 ≤ x46_3
        rotate_left
        ·rw [if_neg c26] at H
         exact absurd H (by simp)
        rw [if_pos c26] at H
        have c26b0 : decide (0 ≤ x46_3) = true := decide_eq_true c26
        clear c26
        by_cases c27 : x46_3 < (t332.length : Int)
        rotate_left
        ·rw [if_neg c27] at H
         exact absurd H (by simp)
        rw [if_pos c27] at H
        have c27b0 : decide (x46_3 < (t332.length : Int)) = true := decide_eq_true c27
        clear c27
        by_cases c28 : 0 ≤ x39_2
        rotate_left
        ·rw [if_neg c28] at H
         exact absurd H (by simp)
        rw [if_pos c28] at H
        have c28b0 : decide (0 ≤ x39_2) = true := decide_eq_true c28
        clear c28
        by_cases c29 : x39_2 < ((Zbt t332 x46_3).length : Int)
        rotate_left
        ·rw [if_neg c29] at H
         exact absurd H (by simp)
        rw [if_pos c29] at H
        have c29b0 : decide (x39_2 < ((Zbt t332 x46_3).length : Int)) = true := decide_eq_true c29
        clear c29
        by_cases c30 : x12_3.length < 17592186044416
        rotate_left
        ·rw [if_neg c30] at H
         exact absurd H (by simp)
        rw [if_pos c30] at H
        have LMc30 := Za.mk c30
        clear c30
        obtain ⟨y338, hy338⟩ : ∃ y_ : List Int, y_ = (x12_3 ++ [rd (Zbt t332 x46_3) x39_2]) := ⟨_, rfl⟩
        replace H : (Zau.l2 k3 x6_2 t332 x39_2 (rd l1_1 x39_2) y338 l1_1 (l1_1.length : Int) x39_2 t332 (t332.length : Int) (wrap64 (x46_3 + 1))) = some (r1, r2) := by first | (rw [hy338]; with_reducible exact H) | (have H2_ := (Option.bind_some _ _).symm.trans H; rw [hy338]; with_reducible exact H2_) | (have H2_ := (Option.bind_some _ _).symm.trans H; with_reducible exact H2_) | with_reducible exact H | (rw [hy338]; exact H) | exact H
        have Ny338 := Za.mk hy338
        clear hy338
        have H' := Za.mk H
        clear H
        have p336 : 0 ≤ (x46_3 : Int) := of_decide_eq_true (by first | (with_reducible assumption) | assumption)
        have q336 : x46_3 < (t332.length : Int) := of_decide_eq_true (by first | (with_reducible assumption) | assumption)
        obtain ⟨ad336, A336_0, c336_0, e336, hx336_0, hl336_0, hi336_0⟩ := Zd2 (Kd.Zcy HO_44.out).2.2 x46_3 p336 q336
        cases e336
        obtain ⟨ce336, hce336, hMe336, hcc336⟩ := Kd.S_get HO_44.out [] x46_3 p336 (by first | exact q336 | exact of_decide_eq_true (by first | (with_reducible assumption) | assumption) | (have e_ := (Kd.Zcy HO_44.out).1; omega))
        obtain ⟨ve336_0, rfl, ge336_0⟩ := hMe336
        have hv336_0 := hcc336 0 _ rfl
        rw [Nat.add_zero, show ((Kd.slice 3 (Kd.int .i64))).sz = 1 from rfl, Nat.mul_one] at hv336_0
        replace hv336_0 := Option.some.inj (hv336_0.symm.trans hx336_0)
        rw [hv336_0] at ge336_0
        have HL336_0 := Za.mk (show Kd.R (Kd.int .i64) 3 _ _ _ _ (Zbt t332 x46_3) from ge336_0)
        clear hv336_0 ge336_0
        clear hcc336 hce336
        have HR336_0 := Za.mk hi336_0
        have HC336_0 := Za.mk hl336_0
        clear hi336_0 hl336_0
        replace p336 := eq_true p336
        replace q336 := eq_true q336
        have p337 : 0 ≤ (x39_2 : Int) := of_decide_eq_true (by first | (with_reducible assumption) | assumption)
        have q337 : x39_2 < ((Zbt t332 x46_3).length : Int) := of_decide_eq_true (by first | (with_reducible assumption) | assumption)
        obtain ⟨ad337, e337, hx337_0⟩ := Kd.Zby (by repeat (first | (with_reducible exact HR336_0.out) | (with_reducible refine Kd.C_alloc ?_ _) | (with_reducible refine Kd.Za0 ?_ _) | (with_reducible refine Kd.C_drew ?_) | exact HR336_0.out)) x39_2 p337 q337
        cases e337
        replace p337 := eq_true p337
        replace q337 := eq_true q337
        go_wp2_with (first | ((with_reducible refine Zbg (b := .append) (xs := #[.tmp 50, .tmp 55]) rfl ?_); at_builtin; refine Kd.Zb9 (Kd.int .i64) (w0 := w) w.heap.size rfl (.tmp 50) (.tmp 55) 23 3 (.int .i64 0) 8 rfl Try.underlying23 info3 rfl (by decide) (by omega) u12 x12_3 (rd (Zbt t332 x46_3) x39_2) [.int .i64 (rd (Zbt t332 x46_3) x39_2)] (fun _ => True) (fun _ => False) rfl rfl ?aP (fun _ hk => hk.elim) ?aF ?aO ?aB ?aS ?aL ?_; (case aP => exact rfl); (case aB => exact (by repeat (first | (with_reducible first | exact HB.out | apply Zac | apply Zaa | apply Zab | refine Zag ?_ GE324.out) | exact HB.out))); (case aF => exact (fun _ _ => trivial)); (case aO => exact (mvR HO_12.out)); (case aS => exact (Zam (by repeat (first | (with_reducible first | exact HB.out | apply Zac | apply Zaa | apply Zab | refine Zag ?_ GE324.out) | exact HB.out)))); (case aL => have := LMc30.out; omega); intro v339 w31 ho hb hg hat; rw [← Ny338.out] at ho; have n0_ := Za.mk (Kd.S_over' (mvS HO_6.out) (Kd.R_typed (mvR HO_12.out)) (by decide) hg); have n1_ := Za.mk (Kd.S_after (ok := (fun _ => True)) (mvS (Kd.Zck HO_9.out (fun _ hk => ⟨trivial, hk⟩))) hg hat); have n2_ := Za.mk (Kd.S_after (ok := (fun _ => True)) (mvS (Kd.Zck HO_44.out (fun _ hk => ⟨trivial, hk⟩))) hg hat); have n3_ := Za.mk (Zcp (g := gb324) (o := .cells #[.int .i64 a1_0, .slice (some ad335) l1_1.length c1_1, .slice A1_2 l1_2.length c1_2, .int .i64 a1_3, .int .i64 a1_4, .slice A1_5 l1_5.length c1_5, .int .i64 a1_6] 25 (0, 0)) (mvK BK324.out) hg (Kd.R_ne HO_12.out BK324.out (by decide))); have n5_ := Za.mk (hb); have n6_ := Za.mk (ho); clear HO_6; clear HO_9; clear HO_44; clear BK324; clear HL336_0; clear HB; clear HO_12; have HO_6 := n0_; have HO_9 := n1_; have HO_44 := n2_; have BK324 := n3_; have HB := n5_; have HO340 := n6_; clear n0_ n1_ n2_ n3_ n5_ n6_; clear ho hb hg hat))
        go_roundg k3
        case measure => have := HK1.out; have := HK2.out; have := HK3.out; omega
        case rel => exact ⟨(y338), (wrap64 (x46_3 + 1)), (by first | rfl | (simp; done) | (simp [*]; done)), H', ⟨by have := HK1.out; have := HK2.out; have := HK3.out; omega⟩, ⟨by (with_reducible repeat (first | apply Kd.S_alloc | apply Kd.S_drewN | apply Kd.Zb6)); exact HO_6.out⟩, ⟨by (with_reducible repeat (first | apply Kd.S_alloc | apply Kd.S_drewN | apply Kd.Zb6)); exact Kd.Zck HO_9.out (fun _ hk => hk.2)⟩, ⟨by (with_reducible repeat (first | apply Kd.R_alloc | apply Kd.Zbh | apply Kd.Zbl)); exact HO340.out⟩, ⟨by (with_reducible repeat (first | apply Kd.S_alloc | apply Kd.S_drewN | apply Kd.Zb6)); exact Kd.Zck HO_44.out (fun _ hk => hk.2)⟩, ⟨by (with_reducible repeat (first | refine Zah ?_ _ | refine Zaj ?_ | refine Zaf ?_ _)); exact BK324.out⟩, ⟨by repeat (first | (with_reducible first | exact HB.out | apply Zac | apply Zaa | apply Zab | refine Zag ?_ GE324.out) | exact HB.out)⟩⟩
       rw [if_neg c25] at H
       have c25b0 : decide (x46_3 < (t332.length : Int)) = false := decide_eq_false c25
       clear c25
       replace H := Option.bind_eq_some_iff.mp H
       obtain ⟨⟨t341, t342⟩, A320, H⟩ := H
       replace H : (if 0 ≤ (rd l1_1 x39_2) then (if (rd l1_1 x39_2) < (x6_2.length : Int) then (Zau.l1 k3 (x6_2.set ((rd l1_1 x39_2) : Int).toNat t341) t332 l1_1 (l1_1.length : Int) (wrap64 (x39_2 + 1))) else (none)) else (none)) = some (r1, r2) := H
       have A32 := Za.mk A320
       clear A320
       by_cases c33 : 0 ≤ (rd l1_1 x39_2)
       rotate_left
       ·rw [if_neg c33] at H
        exact absurd H (by simp)
       rw [if_pos c33] at H
       have c33b0 : decide (0 ≤ (rd l1_1 x39_2)) = true := decide_eq_true c33
       clear c33
       by_cases c34 : (rd l1_1 x39_2) < (x6_2.length : Int)
       rotate_left
       ·rw [if_neg c34] at H
        exact absurd H (by simp)
       rw [if_pos c34] at H
       have c34b0 : decide ((rd l1_1 x39_2) < (x6_2.length : Int)) = true := decide_eq_true c34
       clear c34
       obtain ⟨y345, hy345⟩ : ∃ y_ : List (List (S41)), y_ = (x6_2.set ((rd l1_1 x39_2) : Int).toNat t341) := ⟨_, rfl⟩
       replace H : (Zau.l1 k3 y345 t332 l1_1 (l1_1.length : Int) (wrap64 (x39_2 + 1))) = some (r1, r2) := by first | (rw [hy345]; with_reducible exact H) | (have H2_ := (Option.bind_some _ _).symm.trans H; rw [hy345]; with_reducible exact H2_) | (have H2_ := (Option.bind_some _ _).symm.trans H; with_reducible exact H2_) | with_reducible exact H | (rw [hy345]; exact H) | exact H
       have Ny345 := Za.mk hy345
       clear hy345
       have H' := Za.mk H
       clear H
       obtain ⟨Ao36, co36, eo36⟩ := Kd.Zbw HO_12.out
       subst eo36
       go_wp2_with (first | ((with_reducible refine Za2 (f := 43) rfl ?_); refine Zb0 (some 62) rfl rfl Try.func43 (by kernel_rfl) rfl #[.slice Ao36 x12_3.length co36] rfl (by (try simp only [List.map_toArray, List.map_cons, List.map_nil]); first | done | rfl | (simp only [List.length_drop, List.length_take]; rfl)) ?_; (refine withB (m := w.heap.size) (w0 := w) (by repeat (first | (with_reducible first | exact HB.out | apply Zac | apply Zaa | apply Zab | refine Zag ?_ GE324.out) | exact HB.out)) ?_); intro hL_; (with_reducible refine (Zfg.calls k3 _ _ x12_3 t341 t342 _ ?side1 ?side2 A32.out).mono ?_); (case side1 => repeat (first | exact (Kd.Za3 HO_12.out).2.2 | (with_reducible refine Kd.C_alloc ?_ _) | (with_reducible refine Kd.Za0 ?_ _) | (with_reducible refine Kd.C_drew ?_))); (case side2 => exact (Kd.Za3 HO_12.out).2.1); rintro e w37 ⟨v343, rfl, ho0, hb⟩; refine ⟨_, rfl, ?_⟩; have n0_ := Za.mk (Kd.Zee (mvS HO_6.out) (Kd.Zdn ho0) hb); have n1_ := Za.mk (Kd.Zc1 (mvS HO_9.out) hb); have n4_ := Za.mk (Kd.Zbz ho0 (Zam hL_)); have n5_ := Za.mk (Za6 (g := gb324) (o := .cells #[.int .i64 a1_0, .slice (some ad335) l1_1.length c1_1, .slice A1_2 l1_2.length c1_2, .int .i64 a1_3, .int .i64 a1_4, .slice A1_5 l1_5.length c1_5, .int .i64 a1_6] 25 (0, 0)) (mvK BK324.out) hb); have n6_ := Za.mk (Zan hL_ hb); clear HO_6; clear HO_9; clear HO_12; clear HO_44; clear BK324; clear HB; have HO_6 := n0_; have HO_9 := n1_; have HO344 := n4_; have BK324 := n5_; have HB := n6_; clear n0_ n1_ n4_ n5_ n6_; (try clear hb); (try clear hb2); (try clear hk); (try clear hi); (try clear ho0); have p35 : 0 ≤ ((rd l1_1 x39_2) : Int) := of_decide_eq_true (by first | (with_reducible assumption) | assumption); have q35 : ((rd l1_1 x39_2) : Int) < ((x6_2.length : Int) : Int) := of_decide_eq_true (by first | (with_reducible assumption) | assumption); obtain ⟨go35, co35, eo35, gb35, gl35, cl35, HG35⟩ := Kd.S_form HO_6.out (by omega); (first | cases eo35 | (injection eo35 with ea_ en_ ec_; (first | subst ea_ | (injection ea_ with ea_; subst ea_)); subst ec_; clear en_)); have GB35 := Za.mk gb35; have GG35 := Za.mk HG35; clear gb35 gl35 HG35; obtain ⟨_, ce35, hcl35, hM35, hcc35, hfr35, _, _⟩ := Kd.S_elem HO_6.out [] ((rd l1_1 x39_2) : Int) p35 q35; obtain ⟨ve35_0, rfl, ge35_0⟩ := hM35; have hx35_0 := hcc35 0 _ rfl; have hf35_0 := hfr35 0; (try simp only [show ((Kd.slice 41 k41)).sz = 1 from rfl, Nat.mul_one, Nat.add_zero] at hx35_0); (try simp only [show ((Kd.slice 41 k41)).sz = 1 from rfl, Nat.mul_one, Nat.add_zero] at hf35_0); (try clear hM35); clear hcl35 hcc35 hfr35; replace p35 := eq_true p35; replace q35 := eq_true q35; have n_ := Za.mk (Kd.Zck (ok' := (fun k_ => some k_ ≠ (v343 : Value).ownBlock)) HO_6.out (fun k_ hk => hk.2)); clear HO_6; have HO_6 := n_; clear n_; have HX38 := Za.mk (show Kd.S (Kd.slice 41 k41) 39 w37 w.heap.size (fun k_ => ((fun _ => True)) k_ ∧ ¬ ((fun k_ => some k_ = (v343 : Value).ownBlock)) k_) (.slice (some ⟨go35, 0, none⟩) x6_2.length co35) x6_2 from (mvS (Kd.Zck HO_6.out (fun k_ hk => ⟨trivial, fun e_ => hk e_⟩)))); obtain ⟨oki38, ce38, hcl38, hM38, hcc38, hfr38, hoki38, hH38⟩ := Kd.S_elem HX38.out [] ((rd l1_1 x39_2) : Int) (of_decide_eq_true (by first | (with_reducible assumption) | assumption)) (by have h_ : ((rd l1_1 x39_2) : Int) < ((x6_2.length : Int) : Int) := of_decide_eq_true (by first | (with_reducible assumption) | assumption); first | exact h_ | (have e_ := (Kd.Zcy HO_6.out).1; omega) | simpa using h_); obtain ⟨ve38_0, rfl, ge38_0⟩ := hM38; have HP38 := Kd.S_seg hH38 (of_decide_eq_true (by first | (with_reducible assumption) | assumption)) (by have h_ : ((rd l1_1 x39_2) : Int) < ((x6_2.length : Int) : Int) := of_decide_eq_true (by first | (with_reducible assumption) | assumption); first | exact h_ | (have e_ := (Kd.Zcy HO_6.out).1; omega) | simpa using h_) (seg := [v343]) (j := 0) (show 1 ≤ 1 from by decide) (x' := t341) (Kd.M_row (Kd.Zbm (Kd.Zd4 rfl (Kd.Zbm (ok' := fun k_ => ((fun _ => True)) k_ ∧ k_ ≠ go35) (Kd.Zc0 (HO344.out) (Kd.Zc2 HO_6.out) (by decide)) (fun k_ hk => ⟨trivial, fun e_ => (hk.2) (by rw [e_]; rfl)⟩))) (fun _ h_ => Or.inr (h_)))) (fun _ hk => hk) (fun k_ hk_ => ((Kd.Zbm (ok' := fun k_ => ((fun _ => True)) k_ ∧ k_ ≠ go35) (Kd.Zc0 (HO344.out) (Kd.Zc2 HO_6.out) (by decide)) (fun k_ hk => ⟨trivial, fun e_ => (hk.2) (by rw [e_]; rfl)⟩))).1 k_ hk_.symm); have hx38_0 := hcc38 0 _ rfl; (try simp only [show ((Kd.slice 41 k41)).sz = 1 from rfl, Nat.mul_one, Nat.add_zero] at hx38_0); have hf38_0 := hfr38 0; (try simp only [show ((Kd.slice 41 k41)).sz = 1 from rfl, Nat.mul_one, Nat.add_zero] at hf38_0); (try clear hM38); clear hcl38 hcc38 hfr38 hoki38 hH38; (try simp only [show ((Kd.slice 41 k41)).sz = 1 from rfl, Nat.mul_one, Nat.add_zero] at HP38)) | ((with_reducible refine Zdh (t := 39) (p := 65) rfl ?_); refine Zdb (t := 39) (p := 65) (v := ?vo_w39) (w1 := (w37.setCell ⟨go35, ((rd l1_1 x39_2) : Int).toNat, none⟩ (v343))) ?hg ?ho ?hn ?hr ?_; (case ho => rfl); (case hg => rfl); (case hn => rfl); (case hr => first | (go_simp; done) | (go_simp; rfl) | (obtain ⟨Aq_, cq_, eq_⟩ := Kd.Zbw HO344.out; subst eq_; first | (go_simp; done) | (go_simp; rfl))); intro w39 hw; have hg : w37.grownBy w39 (some go35) := (by rw [hw]; exact HP38.2); have hp_ : Kd.S (Kd.slice 41 k41) 39 w39 w.heap.size (fun _ => True) (.slice (some ⟨go35, 0, none⟩) x6_2.length co35) y345 := (by rw [hw, Ny345.out]; exact HP38.1); clear HP38; have n0_ := Za.mk (hp_); have n1_ := Za.mk (Kd.S_over' (v := (.slice (some ⟨go35, 0, none⟩) x6_2.length co35)) (mvS HO_9.out) (Kd.Zc2 HO_6.out) (by decide) hg); have n4_ := Za.mk (Zcp (g := gb324) (o := .cells #[.int .i64 a1_0, .slice (some ad335) l1_1.length c1_1, .slice A1_2 l1_2.length c1_2, .int .i64 a1_3, .int .i64 a1_4, .slice A1_5 l1_5.length c1_5, .int .i64 a1_6] 25 (0, 0)) (mvK BK324.out) hg (Kd.S_ne HO_6.out BK324.out (by decide))); have n5_ := Za.mk ((by rw [hw]; exact Zag (HB.out) GB35.out : Below w.heap.size w w39)); clear HO_6; clear HO_9; clear BK324; clear HB; clear HO344; have HO_6 := n0_; have HO_9 := n1_; have BK324 := n4_; have HB := n5_; clear n0_ n1_ n4_ n5_; clear hg hw hp_))
       go_roundg k3
       case measure => have := HK1.out; have := HK2.out; have := HK3.out; omega
       case rel => exact ⟨(y345), (wrap64 (x39_2 + 1)), (by first | rfl | (simp; done) | (simp [*]; done)), H', ⟨by have := HK1.out; have := HK2.out; have := HK3.out; omega⟩, ⟨by (with_reducible repeat (first | apply Kd.S_alloc | apply Kd.S_drewN | apply Kd.Zb6)); exact HO_6.out⟩, ⟨by (with_reducible repeat (first | apply Kd.S_alloc | apply Kd.S_drewN | apply Kd.Zb6)); exact Kd.Zck HO_9.out (fun _ hk => trivial)⟩, ⟨by (with_reducible repeat (first | refine Zah ?_ _ | refine Zaj ?_ | refine Zaf ?_ _)); exact BK324.out⟩, ⟨by repeat (first | (with_reducible first | exact HB.out | apply Zac | apply Zaa | apply Zab | refine Zag ?_ GE324.out) | exact HB.out)⟩⟩
theorem eqA41 (d : Nat) (w : World) (x0 y0 : Int) (x1 y1 : Int) :
  (Op.equalIn (d + 2) 41 (.agg #[.int .i64 x0, .int .i64 x1]) (.agg #[.int .i64 y0, .int .i64 y1])).run Try.prog w = .ok (x0 == y0 && (x1 == y1)) w := by
 refine eqA_of Try.underlying41 (by kernel_rfl) ?_
 refine eqf_cons (by rfl) (by go_simp; rfl) (by go_simp; rfl) (by go_simp) ?_
 exact eqf_last (by rfl) (by go_simp; rfl) (by go_simp; rfl) (by go_simp)
end Go.Proofs.Ytpbcigilipdedaa.P
namespace Go.Proofs.Ytpbcigilipdedaa.P
open Go.RowKit Go.Proofs.YtpbcigilipdedaaW.PrintWords Go.Proofs.YtpbcigilipdedaaW.PrintLast Go.Proofs.YtpbcigilipdedaaW.PrintMore
attribute [local go_sem] Zcg Zci Zcr Zcs Zb7 Zb8 Zch Zcj
set_option linter.unusedVariables false
set_option linter.unusedSimpArgs false
attribute [local go_sem high] eqA41
def Zbb.l0 : Nat → List (S41) → List (S41) → Int → Option (Bool)
 | 0, _, _, _ => none
 | k + 1, x0, x1, x5 => if x5 < (x0.length : Int) then (if 0 ≤ x5 then (if x5 < (x1.length : Int) then (if (!(((Zbu x0 x5).f0) == ((Zbu x1 x5).f0)) || (!(((Zbu x0 x5).f1) == ((Zbu x1 x5).f1)))) = true then (some false) else (Zbb.l0 k x0 x1 (wrap64 (x5 + 1)))) else (none)) else (none)) else (some true)
def Zbb.f (k : Nat) (l0 : List (S41)) (l1 : List (S41)) : Option (Bool) := if (l0.length : Int) = (l1.length : Int) then (Zbb.l0 k l0 l1 0) else (some false)
set_option maxHeartbeats 8000000 in
set_option maxRecDepth 100000 in
theorem Zbb.calls (k : Nat) (A0 : Option Addr) (c0 : Nat) (l0 : List (S41)) (A1 : Option Addr) (c1 : Nat) (l1 : List (S41)) (r : Bool) (w : World) (hr0 : Kd.C k41 w A0 l0.length l0) (hc0 : l0.length ≤ c0) (hr1 : Kd.C k41 w A1 l1.length l1) (hc1 : l1.length ≤ c1) (h : Zbb.f k l0 l1 = some r) :
  Calls Try.prog 39 #[.slice A0 l0.length c0, .slice A1 l1.length c1] w fun e w' => e = .returned (.bool r) ∧ Zb w w' := by
 have hu41 := Try.underlying41
 have HR0 := Za.mk hr0
 have HC0 := Za.mk hc0
 clear hr0 hc0
 have HR1 := Za.mk hr1
 have HC1 := Za.mk hc1
 clear hr1 hc1
 have H : (if (l0.length : Int) = (l1.length : Int) then (Zbb.l0 k l0 l1 0) else (some false)) = some r := h
 clear h
 by_cases c3 : (l0.length : Int) = (l1.length : Int)
 rotate_left
 ·rw [if_neg c3] at H
  have c3b0 : ((l0.length : Int) == (l1.length : Int)) = false := beq_eq_false_iff_ne.mpr c3
  have c3b1 : ((l0.length : Int) != (l1.length : Int)) = true := bne_iff_ne.mpr c3
  have c3b2 : (l0.length == l1.length) = false := by first | simpa using c3 | (simp at c3 ⊢; omega)
  obtain rfl := Option.some.inj H
  go_enter Try.func39, Try.ntmps39
  go_wp2
  repeat (go_quiet (fail); try go_wp2)
  go_ret
  exact ⟨by first | rfl | (simp; done) | (simp [*]; done), by repeat (first | exact Zb.refl _ | apply Zb.step)⟩
 rw [if_pos c3] at H
 have c3b0 : ((l0.length : Int) == (l1.length : Int)) = true := beq_iff_eq.mpr c3
 have c3b1 : ((l0.length : Int) != (l1.length : Int)) = false := bne_eq_false_iff_eq.mpr c3
 have c3b2 : (l0.length == l1.length) = true := by first | simpa using c3 | (simp at c3 ⊢; omega)
 clear c3
 have H' := Za.mk H
 clear H
 go_enter Try.func39, Try.ntmps39
 go_wp2
 repeat (go_quiet (fail); try go_wp2)
 go_loopg [5] k (fun kq v5 w' => ∃ (x5_1 : Int), v5 = .int .i64 x5_1 ∧ Za (Zbb.l0 kq l0 l1 x5_1 = some r) ∧ Za (kq ≤ k) ∧ Zb w w')
 case atStart => exact ⟨(0), (by first | rfl | (simp; done) | (simp [*]; done)), H', ⟨Nat.le_refl _⟩, by repeat (first | exact Zb.refl _ | apply Zb.step)⟩
 case round =>
  clear H'
  try clear c1
  try clear p2
  try clear c3
  try clear c3b0
  try clear c3b1
  try clear c3b2
  obtain ⟨x5_1, rfl, HA, HK1, ⟨m1, rfl⟩⟩ := hrel
  cases gk with
  | zero => exact absurd HA.out (by simp [Zbb.l0])
  | succ k1 =>
   have H := HA.out
   clear HA
   simp only [Zbb.l0] at H
   by_cases c4 : x5_1 < (l0.length : Int)
   rotate_left
   ·rw [if_neg c4] at H
    have c4b0 : decide (x5_1 < (l0.length : Int)) = false := decide_eq_false c4
    clear c4
    obtain rfl := Option.some.inj H
    go_wp2
    repeat (go_quiet (fail); try go_wp2)
    go_ret
    exact ⟨by first | rfl | (simp; done) | (simp [*]; done), by repeat (first | exact Zb.refl _ | apply Zb.step)⟩
   rw [if_pos c4] at H
   have c4b0 : decide (x5_1 < (l0.length : Int)) = true := decide_eq_true c4
   clear c4
   by_cases c5 : 0 ≤ x5_1
   rotate_left
   ·rw [if_neg c5] at H
    exact absurd H (by simp)
   rw [if_pos c5] at H
   have c5b0 : decide (0 ≤ x5_1) = true := decide_eq_true c5
   clear c5
   by_cases c6 : x5_1 < (l1.length : Int)
   rotate_left
   ·rw [if_neg c6] at H
    exact absurd H (by simp)
   rw [if_pos c6] at H
   have c6b0 : decide (x5_1 < (l1.length : Int)) = true := decide_eq_true c6
   clear c6
   by_cases c7 : (!(((Zbu l0 x5_1).f0) == ((Zbu l1 x5_1).f0)) || (!(((Zbu l0 x5_1).f1) == ((Zbu l1 x5_1).f1)))) = true
   ·rw [if_pos c7] at H
    have c7b0 : (!(((Zbu l0 x5_1).f0) == ((Zbu l1 x5_1).f0)) || (!(((Zbu l0 x5_1).f1) == ((Zbu l1 x5_1).f1)))) = true := c7
    clear c7
    obtain rfl := Option.some.inj H
    have p346 : 0 ≤ (x5_1 : Int) := of_decide_eq_true (by first | (with_reducible assumption) | assumption)
    have q346 : x5_1 < (l0.length : Int) := of_decide_eq_true (by first | (with_reducible assumption) | assumption)
    obtain ⟨ad346, e346, hx346_0, hx346_1⟩ := Zdv HR0.out x5_1 p346 q346
    cases e346
    replace p346 := eq_true p346
    replace q346 := eq_true q346
    have p347 : 0 ≤ (x5_1 : Int) := of_decide_eq_true (by first | (with_reducible assumption) | assumption)
    have q347 : x5_1 < (l1.length : Int) := of_decide_eq_true (by first | (with_reducible assumption) | assumption)
    obtain ⟨ad347, e347, hx347_0, hx347_1⟩ := Zdv HR1.out x5_1 p347 q347
    cases e347
    replace p347 := eq_true p347
    replace q347 := eq_true q347
    go_wp2
    repeat (go_quiet (fail); try go_wp2)
    go_ret
    exact ⟨by first | rfl | (simp; done) | (simp [*]; done), by repeat (first | exact Zb.refl _ | apply Zb.step)⟩
   rw [if_neg c7] at H
   have c7b0 : (!(((Zbu l0 x5_1).f0) == ((Zbu l1 x5_1).f0)) || (!(((Zbu l0 x5_1).f1) == ((Zbu l1 x5_1).f1)))) = false := by simpa using c7
   clear c7
   have H' := Za.mk H
   clear H
   have p346 : 0 ≤ (x5_1 : Int) := of_decide_eq_true (by first | (with_reducible assumption) | assumption)
   have q346 : x5_1 < (l0.length : Int) := of_decide_eq_true (by first | (with_reducible assumption) | assumption)
   obtain ⟨ad346, e346, hx346_0, hx346_1⟩ := Zdv HR0.out x5_1 p346 q346
   cases e346
   replace p346 := eq_true p346
   replace q346 := eq_true q346
   have p347 : 0 ≤ (x5_1 : Int) := of_decide_eq_true (by first | (with_reducible assumption) | assumption)
   have q347 : x5_1 < (l1.length : Int) := of_decide_eq_true (by first | (with_reducible assumption) | assumption)
   obtain ⟨ad347, e347, hx347_0, hx347_1⟩ := Zdv HR1.out x5_1 p347 q347
   cases e347
   replace p347 := eq_true p347
   replace q347 := eq_true q347
   go_wp2
   repeat (go_quiet (fail); try go_wp2)
   go_roundg k1
   case measure => have := HK1.out; omega
   case rel => exact ⟨(wrap64 (x5_1 + 1)), (by first | rfl | (simp; done) | (simp [*]; done)), H', ⟨by have := HK1.out; omega⟩, by repeat (first | exact Zb.refl _ | apply Zb.step)⟩
end Go.Proofs.Ytpbcigilipdedaa.P
