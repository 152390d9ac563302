/- Proved: what each function of the program that the statements of this seat reach comes to, for whatever memory and arguments it is called with (on condition that its plain text tells a result). -/
import Derived.Test.YtpbcigilipdedaaProg
import Derived.Below
import Derived.Deep.Draws
import Derived.Deep.AppendLies
import Derived.Maps.AppendAt
import Derived.OwnWalk
import Derived.Laws.BytesArg
import Derived.Laws.MakeOwn
import Derived.Laws.OwnMore
import Derived.Deep.OwnRows
import Derived.Tactics
import Derived.Lib.ConvBytes
import Derived.Laws.Slices
import Derived.WalkKit
import Derived.KernelRfl
import Derived.RowKit3
import Derived.Deep.LoopGhost
import Derived.Deep.QuietTactic
import Derived.BigQuiet
import Derived.WideLaws
import Derived.Deep.DeepCutAuto
import Derived.Deep.CutBlock
import Derived.Deep.RegionHeld3
import Derived.Laws.Rows
import Derived.Lib.AppendStr
import Derived.ArgAppend
import Derived.Laws.IdiomCopy
import Derived.OrdersHeld
import Derived.Laws.BitsLemmas
import Derived.RowKit
import Derived.Test.YtpbcigilipdedaaU1
import Derived.RangeFuncNested
import Derived.RangeFuncBox
import Derived.RangeFuncBound
import Derived.RangeFuncCalls
import Derived.RangeFuncLeaves
import Derived.Shelf.Abstract
import Derived.Shelf.AbstractIn
import Derived.OwnWalkIn
import Derived.TacticsInMore
import Derived.LoopNIn
import Derived.LoopIn
import Derived.Shelf.SlLaysF
import Derived.Shelf.SlLaysF0
import Derived.Shelf.SlLaysH
import Derived.Shelf.SlLaysM
import Derived.Shelf.SortM.Plain
import Derived.Shelf.SortM.SortNone
import Derived.Sort.OwnSortedInts
import Derived.Shelf.GgClosure.Gives
import Derived.Lib.SlBy
namespace Go.Proofs.Ytpbcigilipdedaa.P
open Go.RowKit Go.Proofs.YtpbcigilipdedaaW.PrintWords Go.Proofs.YtpbcigilipdedaaW.PrintLast Go.Proofs.YtpbcigilipdedaaW.PrintMore
attribute [local go_sem] Zcz Zc1 Zde Zdf Zct Zcu Zc0 Zc2
set_option linter.unusedVariables false
set_option linter.unusedSimpArgs false
def errW : Option Int → Value
 | none => .nilIface
 | some c => .iface 0 (.int .i64 c)
theorem Za1 : errW none = .nilIface := rfl
theorem Za2 (c : Int) : errW (some c) = .iface 0 (.int .i64 c) := rfl
theorem info3 : (Try.prog.info? 3).map (fun i => (i.zero, i.size, i.bytes)) = some (some (.int .i64 0), 1, 8) := by kernel_rfl
theorem info23 : (Try.prog.info? 23).map (fun i => (i.zero, i.size, i.bytes)) = some (some (.slice none 0 0), 1, 24) := by kernel_rfl
theorem info39 : (Try.prog.info? 39).map (fun i => (i.zero, i.size, i.bytes)) = some (some (.slice none 0 0), 1, 24) := by kernel_rfl
theorem Zeb : (Try.prog.info? 41).map (fun i => (i.zero, i.size, i.bytes)) = some (some (.agg #[(.int .i64 0), (.int .i64 0)]), 2, 16) := by kernel_rfl
def Zci (xs : List (List Int)) (i : Int) : (List Int) := xs.getD i.toNat ([] : List Int)
theorem Zf9 {w : World} {A : Option Addr} {n : Nat} {xs : List (List Int)} (h : Kd.C (Kd.slice 3 (Kd.int .i64)) w A n xs) (i : Int) (h0 : 0 ≤ i) (h1 : i < n) : ∃ ad A0 c0, A = some ad ∧ w.cell? (ad.add i.toNat) = some (.slice A0 (Zci xs i).length c0) ∧ (Zci xs i).length ≤ c0 ∧ (Kd.int .i64).C w A0 (Zci xs i).length (Zci xs i) := by
 obtain ⟨ad, c, e, _, hK, hc0⟩ := Kd.C_get h ([] : List Int) i h0 h1
 have hc : ∀ j u, c[j]? = some u → w.cell? (ad.add (i.toNat * 1 + j)) = some u := hc0
 obtain ⟨A0, c0, rfl, l0, g0⟩ := hK
 exact ⟨ad, A0, c0, e, by have hq := hc 0 _ rfl; rwa [Nat.mul_one, Nat.add_zero] at hq, l0, g0⟩
structure S41 where
 f0 : Int
 f1 : Int
def z41 : S41 := ⟨(0 : Int), (0 : Int)⟩
def k41 : Kd S41 := Kd.iso (Kd.pair (Kd.int .i64) (Kd.int .i64)) (fun x : S41 => (x.f0, x.f1))
theorem k41_open {w : World} {x : S41} {cs : List Value} (h : k41.K w x cs) : cs = [.int .i64 x.f0, .int .i64 x.f1] := by
 obtain ⟨_, _, rfl, rfl, rfl⟩ := h
 exact rfl
theorem Zev {w : World} {base : Nat} {ok : Nat → Prop} {x : S41} {cs : List Value} (h : k41.M w base ok x cs) : cs = [.int .i64 x.f0, .int .i64 x.f1] := by
 obtain ⟨_, _, rfl, rfl, rfl⟩ := h
 exact rfl
theorem k41_mk (w : World) (x : S41)  : k41.K w x [.int .i64 x.f0, .int .i64 x.f1] := ⟨[.int .i64 x.f0], [.int .i64 x.f1], rfl, rfl, rfl⟩
theorem Zcy (w : World) (base : Nat) (ok : Nat → Prop) (x : S41)  : k41.M w base ok x [.int .i64 x.f0, .int .i64 x.f1] := ⟨[.int .i64 x.f0], [.int .i64 x.f1], rfl, rfl, rfl⟩
theorem k41_mkF (W : World) (ok : Nat → Prop) (x : S41) : Kd.FK k41 W ok x [.int .i64 x.f0, .int .i64 x.f1] := fun W2 _ => k41_mk W2 x
def Zaw (xs : List S41) (i : Int) : S41 := xs.getD i.toNat z41
theorem Zch {w : World} {A : Option Addr} {n : Nat} {xs : List S41} (h : Kd.C k41 w A n xs) (i : Int) (h0 : 0 ≤ i) (h1 : i < n) : ∃ ad , A = some ad ∧ w.cell? (ad.add (i.toNat * 2)) = some (.int .i64 (Zaw xs i).f0) ∧ w.cell? ⟨(ad.add (i.toNat * 2)).block, (ad.add (i.toNat * 2)).off + 1, none⟩ = some (.int .i64 (Zaw xs i).f1) := by
 obtain ⟨ad, c, e, _, hK, hc0⟩ := Kd.C_get h z41 i h0 h1
 have hc : ∀ j u, c[j]? = some u → w.cell? (ad.add (i.toNat * 2 + j)) = some u := hc0
 obtain rfl := k41_open hK
 exact ⟨ad, e, hc 0 _ rfl, by rw [← Zd9 _ _ 1 (by omega)]; exact hc 1 _ rfl⟩
def Zdb (xs : List (List S41)) (i : Int) : (List S41) := xs.getD i.toNat ([] : List S41)
theorem Zfu {w : World} {A : Option Addr} {n : Nat} {xs : List (List S41)} (h : Kd.C (Kd.slice 41 k41) w A n xs) (i : Int) (h0 : 0 ≤ i) (h1 : i < n) : ∃ ad A0 c0, A = some ad ∧ w.cell? (ad.add i.toNat) = some (.slice A0 (Zdb xs i).length c0) ∧ (Zdb xs i).length ≤ c0 ∧ k41.C w A0 (Zdb xs i).length (Zdb xs i) := by
 obtain ⟨ad, c, e, _, hK, hc0⟩ := Kd.C_get h ([] : List S41) i h0 h1
 have hc : ∀ j u, c[j]? = some u → w.cell? (ad.add (i.toNat * 1 + j)) = some u := hc0
 obtain ⟨A0, c0, rfl, l0, g0⟩ := hK
 exact ⟨ad, A0, c0, e, by have hq := hc 0 _ rfl; rwa [Nat.mul_one, Nat.add_zero] at hq, l0, g0⟩
def rd_L5 (xs : List (List (List Int))) (i : Int) : (List (List Int)) := xs.getD i.toNat ([] : List (List Int))
theorem at_L5 {w : World} {A : Option Addr} {n : Nat} {xs : List (List (List Int))} (h : Kd.C (Kd.slice 23 (Kd.slice 3 (Kd.int .i64))) w A n xs) (i : Int) (h0 : 0 ≤ i) (h1 : i < n) : ∃ ad A0 c0, A = some ad ∧ w.cell? (ad.add i.toNat) = some (.slice A0 (rd_L5 xs i).length c0) ∧ (rd_L5 xs i).length ≤ c0 ∧ (Kd.slice 3 (Kd.int .i64)).C w A0 (rd_L5 xs i).length (rd_L5 xs i) := by
 obtain ⟨ad, c, e, _, hK, hc0⟩ := Kd.C_get h ([] : List (List Int)) i h0 h1
 have hc : ∀ j u, c[j]? = some u → w.cell? (ad.add (i.toNat * 1 + j)) = some u := hc0
 obtain ⟨A0, c0, rfl, l0, g0⟩ := hK
 exact ⟨ad, A0, c0, e, by have hq := hc 0 _ rfl; rwa [Nat.mul_one, Nat.add_zero] at hq, l0, g0⟩
structure S25 where
 f0 : Int
 f1 : (List Int)
 f2 : (List Int)
 f3 : Int
 f4 : Int
 f5 : (List (List Int))
 f6 : Int
def z25 : S25 := ⟨(0 : Int), ([] : List Int), ([] : List Int), (0 : Int), (0 : Int), ([] : List (List Int)), (0 : Int)⟩
def k25 : Kd S25 := Kd.iso (Kd.pair (Kd.int .i64) (Kd.pair (Kd.slice 3 (Kd.int .i64)) (Kd.pair (Kd.slice 3 (Kd.int .i64)) (Kd.pair (Kd.int .i64) (Kd.pair (Kd.int .i64) (Kd.pair (Kd.slice 23 (Kd.slice 3 (Kd.int .i64))) (Kd.int .i64))))))) (fun x : S25 => (x.f0, x.f1, x.f2, x.f3, x.f4, x.f5, x.f6))
theorem Zfj {w : World} {x : S25} {cs : List Value} (h : k25.K w x cs) : ∃ A1 c1 A2 c2 A5 c5, cs = [.int .i64 x.f0, .slice A1 x.f1.length c1, .slice A2 x.f2.length c2, .int .i64 x.f3, .int .i64 x.f4, .slice A5 x.f5.length c5, .int .i64 x.f6] ∧ x.f1.length ≤ c1 ∧ (Kd.int .i64).C w A1 x.f1.length x.f1 ∧ x.f2.length ≤ c2 ∧ (Kd.int .i64).C w A2 x.f2.length x.f2 ∧ x.f5.length ≤ c5 ∧ (Kd.slice 3 (Kd.int .i64)).C w A5 x.f5.length x.f5 := by
 obtain ⟨_, _, rfl, rfl, ⟨_, _, rfl, ⟨A1, c1, rfl, l1, g1⟩, ⟨_, _, rfl, ⟨A2, c2, rfl, l2, g2⟩, ⟨_, _, rfl, rfl, ⟨_, _, rfl, rfl, ⟨_, _, rfl, ⟨A5, c5, rfl, l5, g5⟩, rfl⟩⟩⟩⟩⟩⟩ := h
 exact ⟨A1, c1, A2, c2, A5, c5, rfl, l1, g1, l2, g2, l5, g5⟩
theorem k25_openM {w : World} {base : Nat} {ok : Nat → Prop} {x : S25} {cs : List Value} (h : k25.M w base ok x cs) : ∃ v1 v2 v5, cs = [.int .i64 x.f0, v1, v2, .int .i64 x.f3, .int .i64 x.f4, v5, .int .i64 x.f6] ∧ (Kd.int .i64).R 3 w base ok v1 x.f1 ∧ (Kd.int .i64).R 3 w base ok v2 x.f2 ∧ (Kd.slice 3 (Kd.int .i64)).R 23 w base ok v5 x.f5 := by
 obtain ⟨_, _, rfl, rfl, ⟨_, _, rfl, ⟨v1, rfl, g1⟩, ⟨_, _, rfl, ⟨v2, rfl, g2⟩, ⟨_, _, rfl, rfl, ⟨_, _, rfl, rfl, ⟨_, _, rfl, ⟨v5, rfl, g5⟩, rfl⟩⟩⟩⟩⟩⟩ := h
 exact ⟨v1, v2, v5, rfl, g1, g2, g5⟩
theorem k25_mk (w : World) (x : S25) {A1 : Option Addr} {c1 : Nat} (l1 : x.f1.length ≤ c1) (g1 : (Kd.int .i64).C w A1 x.f1.length x.f1) {A2 : Option Addr} {c2 : Nat} (l2 : x.f2.length ≤ c2) (g2 : (Kd.int .i64).C w A2 x.f2.length x.f2) {A5 : Option Addr} {c5 : Nat} (l5 : x.f5.length ≤ c5) (g5 : (Kd.slice 3 (Kd.int .i64)).C w A5 x.f5.length x.f5) : k25.K w x [.int .i64 x.f0, .slice A1 x.f1.length c1, .slice A2 x.f2.length c2, .int .i64 x.f3, .int .i64 x.f4, .slice A5 x.f5.length c5, .int .i64 x.f6] := ⟨[.int .i64 x.f0], [.slice A1 x.f1.length c1, .slice A2 x.f2.length c2, .int .i64 x.f3, .int .i64 x.f4, .slice A5 x.f5.length c5, .int .i64 x.f6], rfl, rfl, ⟨[.slice A1 x.f1.length c1], [.slice A2 x.f2.length c2, .int .i64 x.f3, .int .i64 x.f4, .slice A5 x.f5.length c5, .int .i64 x.f6], rfl, ⟨A1, c1, rfl, l1, g1⟩, ⟨[.slice A2 x.f2.length c2], [.int .i64 x.f3, .int .i64 x.f4, .slice A5 x.f5.length c5, .int .i64 x.f6], rfl, ⟨A2, c2, rfl, l2, g2⟩, ⟨[.int .i64 x.f3], [.int .i64 x.f4, .slice A5 x.f5.length c5, .int .i64 x.f6], rfl, rfl, ⟨[.int .i64 x.f4], [.slice A5 x.f5.length c5, .int .i64 x.f6], rfl, rfl, ⟨[.slice A5 x.f5.length c5], [.int .i64 x.f6], rfl, ⟨A5, c5, rfl, l5, g5⟩, rfl⟩⟩⟩⟩⟩⟩
theorem k25_mkM (w : World) (base : Nat) (ok : Nat → Prop) (x : S25) {v1 : Value} (g1 : (Kd.int .i64).R 3 w base ok v1 x.f1) {v2 : Value} (g2 : (Kd.int .i64).R 3 w base ok v2 x.f2) {v5 : Value} (g5 : (Kd.slice 3 (Kd.int .i64)).R 23 w base ok v5 x.f5) : k25.M w base ok x [.int .i64 x.f0, v1, v2, .int .i64 x.f3, .int .i64 x.f4, v5, .int .i64 x.f6] := ⟨[.int .i64 x.f0], [v1, v2, .int .i64 x.f3, .int .i64 x.f4, v5, .int .i64 x.f6], rfl, rfl, ⟨[v1], [v2, .int .i64 x.f3, .int .i64 x.f4, v5, .int .i64 x.f6], rfl, ⟨v1, rfl, g1⟩, ⟨[v2], [.int .i64 x.f3, .int .i64 x.f4, v5, .int .i64 x.f6], rfl, ⟨v2, rfl, g2⟩, ⟨[.int .i64 x.f3], [.int .i64 x.f4, v5, .int .i64 x.f6], rfl, rfl, ⟨[.int .i64 x.f4], [v5, .int .i64 x.f6], rfl, rfl, ⟨[v5], [.int .i64 x.f6], rfl, ⟨v5, rfl, g5⟩, rfl⟩⟩⟩⟩⟩⟩
theorem k25_openF {W : World} {ok : Nat → Prop} {x : S25} {cs : List Value} (h : Kd.FK k25 W ok x cs) : ∃ A1 c1 A2 c2 A5 c5, cs = [.int .i64 x.f0, .slice A1 x.f1.length c1, .slice A2 x.f2.length c2, .int .i64 x.f3, .int .i64 x.f4, .slice A5 x.f5.length c5, .int .i64 x.f6] ∧ x.f1.length ≤ c1 ∧ Kd.F (Kd.int .i64) W ok A1 x.f1.length x.f1 ∧ x.f2.length ≤ c2 ∧ Kd.F (Kd.int .i64) W ok A2 x.f2.length x.f2 ∧ x.f5.length ≤ c5 ∧ Kd.F (Kd.slice 3 (Kd.int .i64)) W ok A5 x.f5.length x.f5 := by
 obtain ⟨A1, c1, A2, c2, A5, c5, rfl, l1, _, l2, _, l5, _⟩ := Zfj (Kd.Zfb h)
 exact ⟨A1, c1, A2, c2, A5, c5, rfl, l1, (fun W' hW => by obtain ⟨A1_, c1_, A2_, c2_, A5_, c5_, he, l1_, g1_, l2_, g2_, l5_, g5_⟩ := Zfj (h W' hW); injection (Option.some.inj (show some (Value.slice A1 x.f1.length c1) = some (Value.slice A1_ x.f1.length c1_) from congrArg (fun l => l[1]?) he)) with ha_ _ _; rw [ha_]; exact g1_), l2, (fun W' hW => by obtain ⟨A1_, c1_, A2_, c2_, A5_, c5_, he, l1_, g1_, l2_, g2_, l5_, g5_⟩ := Zfj (h W' hW); injection (Option.some.inj (show some (Value.slice A2 x.f2.length c2) = some (Value.slice A2_ x.f2.length c2_) from congrArg (fun l => l[2]?) he)) with ha_ _ _; rw [ha_]; exact g2_), l5, (fun W' hW => by obtain ⟨A1_, c1_, A2_, c2_, A5_, c5_, he, l1_, g1_, l2_, g2_, l5_, g5_⟩ := Zfj (h W' hW); injection (Option.some.inj (show some (Value.slice A5 x.f5.length c5) = some (Value.slice A5_ x.f5.length c5_) from congrArg (fun l => l[5]?) he)) with ha_ _ _; rw [ha_]; exact g5_)⟩
theorem k25_mkF (W : World) (ok : Nat → Prop) (x : S25) {A1 : Option Addr} {c1 : Nat} (l1 : x.f1.length ≤ c1) (g1 : Kd.F (Kd.int .i64) W ok A1 x.f1.length x.f1) {A2 : Option Addr} {c2 : Nat} (l2 : x.f2.length ≤ c2) (g2 : Kd.F (Kd.int .i64) W ok A2 x.f2.length x.f2) {A5 : Option Addr} {c5 : Nat} (l5 : x.f5.length ≤ c5) (g5 : Kd.F (Kd.slice 3 (Kd.int .i64)) W ok A5 x.f5.length x.f5) : Kd.FK k25 W ok x [.int .i64 x.f0, .slice A1 x.f1.length c1, .slice A2 x.f2.length c2, .int .i64 x.f3, .int .i64 x.f4, .slice A5 x.f5.length c5, .int .i64 x.f6] := fun W2 hW => k25_mk W2 x l1 (g1 W2 hW) l2 (g2 W2 hW) l5 (g5 W2 hW)
def Zd4 (xs : List S25) (i : Int) : S25 := xs.getD i.toNat z25
theorem at_T25 {w : World} {A : Option Addr} {n : Nat} {xs : List S25} (h : Kd.C k25 w A n xs) (i : Int) (h0 : 0 ≤ i) (h1 : i < n) : ∃ ad A1 c1 A2 c2 A5 c5, A = some ad ∧ w.cell? (ad.add (i.toNat * 7)) = some (.int .i64 (Zd4 xs i).f0) ∧ w.cell? ⟨(ad.add (i.toNat * 7)).block, (ad.add (i.toNat * 7)).off + 1, none⟩ = some (.slice A1 (Zd4 xs i).f1.length c1) ∧ w.cell? ⟨(ad.add (i.toNat * 7)).block, (ad.add (i.toNat * 7)).off + 2, none⟩ = some (.slice A2 (Zd4 xs i).f2.length c2) ∧ w.cell? ⟨(ad.add (i.toNat * 7)).block, (ad.add (i.toNat * 7)).off + 3, none⟩ = some (.int .i64 (Zd4 xs i).f3) ∧ w.cell? ⟨(ad.add (i.toNat * 7)).block, (ad.add (i.toNat * 7)).off + 4, none⟩ = some (.int .i64 (Zd4 xs i).f4) ∧ w.cell? ⟨(ad.add (i.toNat * 7)).block, (ad.add (i.toNat * 7)).off + 5, none⟩ = some (.slice A5 (Zd4 xs i).f5.length c5) ∧ w.cell? ⟨(ad.add (i.toNat * 7)).block, (ad.add (i.toNat * 7)).off + 6, none⟩ = some (.int .i64 (Zd4 xs i).f6) ∧ (Zd4 xs i).f1.length ≤ c1 ∧ (Kd.int .i64).C w A1 (Zd4 xs i).f1.length (Zd4 xs i).f1 ∧ (Zd4 xs i).f2.length ≤ c2 ∧ (Kd.int .i64).C w A2 (Zd4 xs i).f2.length (Zd4 xs i).f2 ∧ (Zd4 xs i).f5.length ≤ c5 ∧ (Kd.slice 3 (Kd.int .i64)).C w A5 (Zd4 xs i).f5.length (Zd4 xs i).f5 := by
 obtain ⟨ad, c, e, _, hK, hc0⟩ := Kd.C_get h z25 i h0 h1
 have hc : ∀ j u, c[j]? = some u → w.cell? (ad.add (i.toNat * 7 + j)) = some u := hc0
 obtain ⟨A1, c1, A2, c2, A5, c5, rfl, l1, g1, l2, g2, l5, g5⟩ := Zfj hK
 exact ⟨ad, A1, c1, A2, c2, A5, c5, e, hc 0 _ rfl, by rw [← Zd9 _ _ 1 (by omega)]; exact hc 1 _ rfl, by rw [← Zd9 _ _ 2 (by omega)]; exact hc 2 _ rfl, by rw [← Zd9 _ _ 3 (by omega)]; exact hc 3 _ rfl, by rw [← Zd9 _ _ 4 (by omega)]; exact hc 4 _ rfl, by rw [← Zd9 _ _ 5 (by omega)]; exact hc 5 _ rfl, by rw [← Zd9 _ _ 6 (by omega)]; exact hc 6 _ rfl, l1, g1, l2, g2, l5, g5⟩
end Go.Proofs.Ytpbcigilipdedaa.P
/- Plain: 'from some number of rounds on it tells a'; lists of numbers in order. No program in sight. -/
namespace Go.Proofs.Ytpbcigilipdedaa.P
open Go.RowKit Go.Proofs.YtpbcigilipdedaaW.PrintWords Go.Proofs.YtpbcigilipdedaaW.PrintLast Go.Proofs.YtpbcigilipdedaaW.PrintMore
set_option linter.unusedVariables false
set_option linter.unusedSimpArgs false
def Ev {α : Type} (F : Nat → Option α) (a : α) : Prop := ∃ k0, ∀ k, k0 ≤ k → F k = some a
section
variable {α β : Type} {F G : Nat → Option α} {a : α} {b : β}
theorem Ev.out (h : Ev F a) : ∃ k, F k = some a := by obtain ⟨k, h⟩ := h; exact ⟨k, h k (Nat.le_refl _)⟩
theorem Ev.const {x : Option α} (h : x = some a) : Ev (fun _ => x) a := ⟨0, fun _ _ => h⟩
theorem Ev.pure (a : α) : Ev (fun _ => some a) a := Ev.const rfl
theorem Ev.bind {H : Nat → α → Option β} (h : Ev F a) (g : Ev (fun k => H k a) b) : Ev (fun k => (F k).bind (H k)) b := by
  obtain ⟨k1, h1⟩ := h
  obtain ⟨k2, h2⟩ := g
  refine ⟨max k1 k2, fun k hk => ?_⟩
  show (F k).bind (H k) = some b
  rw [h1 k (by omega)]
  exact h2 k (by omega)
theorem Ev.step (h : ∀ k, F (k + 1) = G k) (g : Ev G a) : Ev F a := by
  obtain ⟨k1, h1⟩ := g
  refine ⟨k1 + 1, fun k hk => ?_⟩
  obtain ⟨m, rfl⟩ : ∃ m, k = m + 1 := ⟨k - 1, by omega⟩
  rw [h m]
  exact h1 m (by omega)
theorem Ev.eq (h : ∀ k, F k = G k) (g : Ev G a) : Ev F a := by
  obtain ⟨k1, h1⟩ := g
  exact ⟨k1, fun k hk => (h k).trans (h1 k hk)⟩
theorem Ev.of_mono (k : Nat) (h : F k = some a) (hm : ∀ k, LeO (F k) (F (k + 1))) : Ev F a := by
  refine ⟨k, fun m hm' => ?_⟩
  induction hm' with
  | refl => exact h
  | step _ ih => exact hm _ _ ih
theorem Ev.Zcf {c : Prop} [Decidable c] (hc : c) (g : Ev F a) : Ev (fun k => if c then F k else G k) a := Ev.eq (fun k => if_pos hc) g
theorem Ev.Zc4 {c : Prop} [Decidable c] (hc : ¬ c) (g : Ev G a) : Ev (fun k => if c then F k else G k) a := Ev.eq (fun k => if_neg hc) g
theorem Ev.unique (h : Ev F a) {a' : α} (h' : Ev F a') : a = a' := by
  obtain ⟨k1, h1⟩ := h
  obtain ⟨k2, h2⟩ := h'
  exact Option.some.inj ((h1 (max k1 k2) (by omega)).symm.trans (h2 (max k1 k2) (by omega)))
end
theorem w64 {n : Int} (h1 : -9223372036854775808 ≤ n) (h2 : n ≤ 9223372036854775807) : wrap64 n = n := by unfold wrap64; omega
theorem w1 {n : Nat} (h : n < 4611686018427387904) : wrap64 ((n : Int) + 1) = ((n + 1 : Nat) : Int) := by rw [w64 (by omega) (by omega)]; omega
theorem wf64 {n : Int} (h : (Lit.int .i64 n).wf = true) : -9223372036854775808 ≤ n ∧ n ≤ 9223372036854775807 := by
  simp [Lit.wf, IntKind.min, IntKind.max, IntKind.signed, IntKind.bits] at h
  omega
theorem Zcw (l : List Int) (n : Nat) (h : n < l.length) : rd l (n : Int) = l[n] := by simp [rd, List.getD_eq_getElem?_getD, List.getElem?_eq_getElem h]
abbrev SS (l : List Int) : Prop := List.Pairwise (fun a b : Int => a < b) l
theorem SS.ext : ∀ {l m : List Int}, SS l → SS m → (∀ x, x ∈ l ↔ x ∈ m) → l = m
  | [], [], _, _, _ => rfl
  | [], y :: m, _, _, h => absurd ((h y).2 List.mem_cons_self) (by simp)
  | x :: l, [], _, _, h => absurd ((h x).1 List.mem_cons_self) (by simp)
  | x :: l, y :: m, h1, h2, h => by
    obtain ⟨hx, hl⟩ := List.pairwise_cons.1 h1
    obtain ⟨hy, hm⟩ := List.pairwise_cons.1 h2
    have e : x = y := by
      rcases List.mem_cons.1 ((h x).1 List.mem_cons_self) with e | h3
      · exact e
      rcases List.mem_cons.1 ((h y).2 List.mem_cons_self) with e | h4
      · exact e.symm
      have := hy x h3; have := hx y h4; omega
    subst e
    congr 1
    refine SS.ext hl hm (fun z => ⟨fun hz => ?_, fun hz => ?_⟩)
    · rcases List.mem_cons.1 ((h z).1 (List.mem_cons_of_mem _ hz)) with e | h3
      · have := hx z hz; omega
      exact h3
    rcases List.mem_cons.1 ((h z).2 (List.mem_cons_of_mem _ hz)) with e | h3
    · have := hy z hz; omega
    exact h3
def insU (x : Int) : List Int → List Int
  | [] => [x]
  | y :: l => if x < y then x :: y :: l else if x = y then y :: l else y :: insU x l
theorem Zgd (x z : Int) : ∀ l, z ∈ insU x l ↔ z = x ∨ z ∈ l
  | [] => by simp [insU]
  | y :: l => by
    unfold insU
    split
    · simp
    split
    · rename_i h1 h2
      subst h2
      simp
    rw [List.mem_cons, Zgd x z l, List.mem_cons]
    constructor
    · rintro (h | h | h)
      · exact .inr (.inl h)
      · exact .inl h
      exact .inr (.inr h)
    rintro (h | h | h)
    · exact .inr (.inl h)
    · exact .inl h
    exact .inr (.inr h)
theorem insU_ss (x : Int) : ∀ l, SS l → SS (insU x l)
  | [], _ => by simp [insU]
  | y :: l, h => by
    obtain ⟨hy, hl⟩ := List.pairwise_cons.1 h
    unfold insU
    split
    · refine List.pairwise_cons.2 ⟨fun z hz => ?_, h⟩
      rcases List.mem_cons.1 hz with rfl | hz
      · assumption
      have := hy z hz; omega
    split
    · exact h
    refine List.pairwise_cons.2 ⟨fun z hz => ?_, insU_ss x l hl⟩
    rcases (Zgd x z l).1 hz with rfl | hz
    · omega
    exact hy z hz
def sd : List Int → List Int
  | [] => []
  | x :: l => insU x (sd l)
theorem Zew (z : Int) : ∀ l, z ∈ sd l ↔ z ∈ l
  | [] => by simp [sd]
  | x :: l => by rw [sd, Zgd, Zew z l, List.mem_cons]
theorem Zgz : ∀ l, SS (sd l)
  | [] => List.Pairwise.nil
  | x :: l => insU_ss x _ (Zgz l)
theorem sd_eq {l m : List Int} (hm : SS m) (h : ∀ x, x ∈ m ↔ x ∈ l) : sd l = m := SS.ext (Zgz l) hm (fun x => (Zew x l).trans (h x).symm)
theorem sd_self {m : List Int} (hm : SS m) : sd m = m := sd_eq hm (fun _ => Iff.rfl)
theorem sd_congr {l m : List Int} (h : ∀ x, x ∈ l ↔ x ∈ m) : sd l = sd m := sd_eq (Zgz m) (fun x => (Zew x m).trans (h x).symm)
theorem Zf (x : Int) : ∀ l, (insU x l).length ≤ l.length + 1
  | [] => by simp [insU]
  | y :: l => by
    unfold insU
    split
    · simp
    split
    · simp
    have := Zf x l
    simp; omega
theorem Zee : ∀ l, (sd l).length ≤ l.length
  | [] => by simp [sd]
  | x :: l => by
    have := Zf x (sd l)
    have := Zee l
    simp [sd]; omega
theorem Zf4 {l : List Int} {i j : Nat} (h : SS l) (hi : i < l.length) (hj : j < l.length) (hij : i < j) : l[i] < l[j] := List.pairwise_iff_getElem.1 h i j hi hj hij
theorem ss_length {l : List Int} {a b : Int} (h : SS l) (hb : ∀ x ∈ l, a ≤ x ∧ x ≤ b) : (l.length : Int) ≤ max 0 (b + 1 - a) := by
  induction l generalizing a with
  | nil => simp; omega
  | cons x l ih =>
    obtain ⟨hx, hl⟩ := List.pairwise_cons.1 h
    have h1 := hb x List.mem_cons_self
    have := ih (a := x + 1) hl (fun y hy => ⟨by have := hx y hy; omega, (hb y (List.mem_cons_of_mem _ hy)).2⟩)
    simp
    omega
end Go.Proofs.Ytpbcigilipdedaa.P
/- Plain: the values of ranges, at most so many of them (what dom.all goes over). -/
namespace Go.Proofs.Ytpbcigilipdedaa.P
open Go.RowKit Go.Proofs.YtpbcigilipdedaaW.PrintWords Go.Proofs.YtpbcigilipdedaaW.PrintLast Go.Proofs.YtpbcigilipdedaaW.PrintMore
set_option linter.unusedVariables false
set_option linter.unusedSimpArgs false
def upTo : Nat → Int → Int → List Int
  | 0, _, _ => []
  | r + 1, v, hi => if v ≤ hi then v :: upTo r (v + 1) hi else []
def allV : Nat → List S41 → List Int
  | _, [] => []
  | r, x :: ds => upTo r x.f0 x.f1 ++ allV (r - (upTo r x.f0 x.f1).length) ds
theorem upTo_length (r : Nat) : ∀ v hi, (upTo r v hi).length ≤ r := by
  induction r with
  | zero => intro v hi; simp [upTo]
  | succ r ih =>
    intro v hi
    unfold upTo
    split
    · have := ih (v + 1) hi
      simp
      omega
    simp
theorem upTo_yes {r : Nat} {v hi : Int} (hr : 0 < r) (h : v ≤ hi) : upTo r v hi = v :: upTo (r - 1) (v + 1) hi := by
  obtain ⟨r, rfl⟩ : ∃ m, r = m + 1 := ⟨r - 1, by omega⟩
  simp [upTo, h]
theorem upTo_no {r : Nat} {v hi : Int} (h : r = 0 ∨ ¬ v ≤ hi) : upTo r v hi = [] := by
  rcases h with rfl | h
  · rfl
  cases r with
  | zero => rfl
  | succ r => simp [upTo, h]
theorem allV_length (ds : List S41) : ∀ r, (allV r ds).length ≤ r := by
  induction ds with
  | nil => intro r; simp [allV]
  | cons x ds ih =>
    intro r
    have h1 := upTo_length r x.f0 x.f1
    have h2 := ih (r - (upTo r x.f0 x.f1).length)
    simp [allV]
    omega
def niceD (d : List S41) : Bool := d.all fun x => decide (-1048576 ≤ x.f0 ∧ x.f0 ≤ 1048576 ∧ -1048576 ≤ x.f1 ∧ x.f1 ≤ 1048576)
theorem niceD_at {d : List S41} (h : niceD d = true) {k : Nat} (hk : k < d.length) : -1048576 ≤ (Zaw d k).f0 ∧ (Zaw d k).f0 ≤ 1048576 ∧ -1048576 ≤ (Zaw d k).f1 ∧ (Zaw d k).f1 ≤ 1048576 := by
  have := (List.all_eq_true.1 h) (d[k]) (List.getElem_mem hk)
  simp [Zaw, List.getD_eq_getElem?_getD, List.getElem?_eq_getElem hk]
  simpa using this
theorem drop_at {d : List S41} {k : Nat} (hk : k < d.length) : d.drop k = Zaw d k :: d.drop (k + 1) := by
  rw [List.drop_eq_getElem_cons hk]
  simp [Zaw, List.getD_eq_getElem?_getD, List.getElem?_eq_getElem hk]
end Go.Proofs.Ytpbcigilipdedaa.P
/- Plain: domains as lists of ranges. A domain is told by its values: two good lists of ranges with the same values are one. -/
namespace Go.Proofs.Ytpbcigilipdedaa.P
open Go.RowKit Go.Proofs.YtpbcigilipdedaaW.PrintWords Go.Proofs.YtpbcigilipdedaaW.PrintLast Go.Proofs.YtpbcigilipdedaaW.PrintMore
set_option linter.unusedVariables false
set_option linter.unusedSimpArgs false
abbrev Rg := S41
abbrev rg (d : List Rg) (i : Int) : Rg := Zaw d i
theorem Rg.ext' {x y : Rg} (h0 : x.f0 = y.f0) (h1 : x.f1 = y.f1) : x = y := by cases x; cases y; simp at *; exact ⟨h0, h1⟩
theorem Zf7 (d : List Rg) (n : Nat) (h : n < d.length) : rg d (n : Int) = d[n] := by simp [rg, Zaw, List.getD_eq_getElem?_getD, List.getElem?_eq_getElem h]
def Gd (V : Int) : Int → List Rg → Prop
  | _, [] => True
  | b, x :: d => b ≤ x.f0 ∧ x.f0 ≤ x.f1 ∧ x.f1 ≤ V ∧ Gd V (x.f1 + 2) d
def Va (d : List Rg) (v : Int) : Prop := ∃ x ∈ d, x.f0 ≤ v ∧ v ≤ x.f1
@[simp] theorem Va_nil (v : Int) : Va [] v ↔ False := by simp [Va]
@[simp] theorem Zco (x : Rg) (d : List Rg) (v : Int) : Va (x :: d) v ↔ (x.f0 ≤ v ∧ v ≤ x.f1) ∨ Va d v := by simp [Va]
theorem Zdi (d e : List Rg) (v : Int) : Va (d ++ e) v ↔ Va d v ∨ Va e v := by
  induction d with
  | nil => simp
  | cons x d ih => simp [ih, or_assoc]
theorem Gd.mono {V b c : Int} {d : List Rg} (h : Gd V b d) (hc : c ≤ b) : Gd V c d := by
  cases d with
  | nil => trivial
  | cons x d => obtain ⟨h1, h2, h3, h4⟩ := h; exact ⟨by omega, h2, h3, h4⟩
theorem Gd.ge {V : Int} : ∀ {b : Int} {d : List Rg} {v : Int}, Gd V b d → Va d v → b ≤ v
  | _, [], _, _, h => absurd h (by simp)
  | b, x :: d, v, ⟨h1, h2, h3, h4⟩, h => by
    rcases (Zco x d v).1 h with h | h
    · omega
    have := Gd.ge h4 h; omega
theorem Gd.le {V : Int} : ∀ {b : Int} {d : List Rg} {v : Int}, Gd V b d → Va d v → v ≤ V
  | _, [], _, _, h => absurd h (by simp)
  | b, x :: d, v, ⟨h1, h2, h3, h4⟩, h => by
    rcases (Zco x d v).1 h with h | h
    · omega
    exact Gd.le h4 h
theorem Gd.ext {V : Int} : ∀ {b c : Int} {d e : List Rg}, Gd V b d → Gd V c e → (∀ v, Va d v ↔ Va e v) → d = e
  | _, _, [], [], _, _, _ => rfl
  | _, _, [], y :: e, _, ⟨_, h2, _, _⟩, h => absurd ((h y.f0).2 ((Zco _ _ _).2 (.inl ⟨Int.le_refl _, h2⟩))) (by simp)
  | _, _, x :: d, [], ⟨_, h2, _, _⟩, _, h => absurd ((h x.f0).1 ((Zco _ _ _).2 (.inl ⟨Int.le_refl _, h2⟩))) (by simp)
  | b, c, x :: d, y :: e, ⟨h1, h2, h3, h4⟩, ⟨k1, k2, k3, k4⟩, h => by
    have gx : ∀ v, Va (x :: d) v → x.f0 ≤ v := fun v hv => Gd.ge (V := V) (b := x.f0) (d := x :: d) ⟨Int.le_refl _, h2, h3, h4⟩ hv
    have gy : ∀ v, Va (y :: e) v → y.f0 ≤ v := fun v hv => Gd.ge (V := V) (b := y.f0) (d := y :: e) ⟨Int.le_refl _, k2, k3, k4⟩ hv
    have a1 := gy _ ((h x.f0).1 ((Zco _ _ _).2 (.inl ⟨Int.le_refl _, h2⟩)))
    have a2 := gx _ ((h y.f0).2 ((Zco _ _ _).2 (.inl ⟨Int.le_refl _, k2⟩)))
    have e0 : x.f0 = y.f0 := by omega
    have no1 : ¬ x.f1 < y.f1 := fun hlt => by
      have := (h (x.f1 + 1)).2 ((Zco _ _ _).2 (.inl ⟨by omega, by omega⟩))
      rcases (Zco _ _ _).1 this with h | h
      · omega
      have := Gd.ge h4 h; omega
    have no2 : ¬ y.f1 < x.f1 := fun hlt => by
      have := (h (y.f1 + 1)).1 ((Zco _ _ _).2 (.inl ⟨by omega, by omega⟩))
      rcases (Zco _ _ _).1 this with h | h
      · omega
      have := Gd.ge k4 h; omega
    have e1 : x.f1 = y.f1 := by omega
    obtain rfl := Rg.ext' e0 e1
    congr 1
    refine Gd.ext h4 k4 (fun v => ⟨fun hv => ?_, fun hv => ?_⟩)
    · have hg := Gd.ge h4 hv
      rcases (Zco _ _ _).1 ((h v).1 ((Zco _ _ _).2 (.inr hv))) with h | h
      · omega
      exact h
    have hg := Gd.ge k4 hv
    rcases (Zco _ _ _).1 ((h v).2 ((Zco _ _ _).2 (.inr hv))) with h | h
    · omega
    exact h
def endB (b : Int) (d : List Rg) : Int := (d.getLast?.map fun x => x.f1 + 2).getD b
theorem Zeu (b : Int) (d : List Rg) (x : Rg) : endB b (d ++ [x]) = x.f1 + 2 := by simp [endB]
theorem endB_cons (b : Int) (x : Rg) (d : List Rg) : endB b (x :: d) = endB (x.f1 + 2) d := by
  cases d with
  | nil => simp [endB]
  | cons y d => simp [endB, List.getLast?_cons]
theorem Gd_append (V : Int) : ∀ (b : Int) (d e : List Rg), Gd V b (d ++ e) ↔ Gd V b d ∧ Gd V (endB b d) e
  | b, [], e => by simp [Gd, endB]
  | b, x :: d, e => by
    rw [List.cons_append, Gd, Gd, Gd_append V (x.f1 + 2) d e, endB_cons]
    simp [and_assoc]
theorem Zd3 {V b : Int} {d : List Rg} {x : Rg} : Gd V b (d ++ [x]) ↔ Gd V b d ∧ endB b d ≤ x.f0 ∧ x.f0 ≤ x.f1 ∧ x.f1 ≤ V := by
  rw [Gd_append]
  simp [Gd]
theorem Gd.lt_end {V : Int} : ∀ {b : Int} {d : List Rg} {v : Int}, Gd V b d → Va d v → v + 2 ≤ endB b d
  | _, [], _, _, h => absurd h (by simp)
  | b, x :: d, v, ⟨h1, h2, h3, h4⟩, h => by
    rw [endB_cons]
    have h5 : x.f1 + 2 ≤ endB (x.f1 + 2) d := by
      cases d with
      | nil => simp [endB]
      | cons y d =>
        obtain ⟨k1, k2, k3, k4⟩ := h4
        have := Gd.lt_end (V := V) (b := x.f1 + 2) (d := y :: d) (v := y.f1) ⟨k1, k2, k3, k4⟩ ((Zco _ _ _).2 (.inl ⟨k2, Int.le_refl _⟩))
        omega
    rcases (Zco _ _ _).1 h with h | h
    · omega
    exact Gd.lt_end h4 h
theorem Gd.end_ge {V b : Int} {d : List Rg} (h : Gd V b d) : b ≤ endB b d := by
  cases d with
  | nil => simp [endB]
  | cons y d =>
    obtain ⟨k1, k2, k3, k4⟩ := h
    have := Gd.lt_end (V := V) (b := b) (d := y :: d) (v := y.f1) ⟨k1, k2, k3, k4⟩ ((Zco _ _ _).2 (.inl ⟨k2, Int.le_refl _⟩))
    omega
def vals : List Rg → List Int
  | [] => []
  | x :: d => upTo (x.f1 + 1 - x.f0).toNat x.f0 x.f1 ++ vals d
theorem Ze3 : ∀ (r : Nat) (v hi z : Int), z ∈ upTo r v hi ↔ v ≤ z ∧ z ≤ hi ∧ z < v + r
  | 0, v, hi, z => by simp [upTo]; omega
  | r + 1, v, hi, z => by
    unfold upTo
    split
    · rw [List.mem_cons, Ze3 r (v + 1) hi z]
      omega
    simp
    omega
theorem upTo_ss : ∀ (r : Nat) (v hi : Int), SS (upTo r v hi)
  | 0, v, hi => by simp [upTo]
  | r + 1, v, hi => by
    unfold upTo
    split
    · refine List.pairwise_cons.2 ⟨fun z hz => ?_, upTo_ss r (v + 1) hi⟩
      have := (Ze3 r (v + 1) hi z).1 hz
      omega
    exact List.Pairwise.nil
theorem Zfq : ∀ (r : Nat) (v hi : Int), ((upTo r v hi).length : Int) = min (r : Int) (max 0 (hi + 1 - v))
  | 0, v, hi => by simp [upTo]; omega
  | r + 1, v, hi => by
    unfold upTo
    split
    · have := Zfq r (v + 1) hi
      simp
      omega
    simp
    omega
theorem Zc8 (z : Int) : ∀ d, z ∈ vals d ↔ Va d z
  | [] => by simp [vals]
  | x :: d => by
    rw [vals, List.mem_append, Zc8 z d, Zco, Ze3]
    have : (x.f0 ≤ z ∧ z ≤ x.f1 ∧ z < x.f0 + ((x.f1 + 1 - x.f0).toNat : Int)) ↔ (x.f0 ≤ z ∧ z ≤ x.f1) := by omega
    rw [this]
theorem Zf3 {V : Int} : ∀ {b : Int} {d : List Rg}, Gd V b d → SS (vals d)
  | _, [], _ => List.Pairwise.nil
  | b, x :: d, ⟨h1, h2, h3, h4⟩ => by
    rw [vals]
    refine List.pairwise_append.2 ⟨upTo_ss _ _ _, Zf3 h4, fun y hy z hz => ?_⟩
    have := (Ze3 _ _ _ _).1 hy
    have := Gd.ge h4 ((Zc8 z d).1 hz)
    omega
theorem Zdg {V b : Int} {d : List Rg} (h : Gd V b d) : ((vals d).length : Int) ≤ max 0 (V + 1 - b) :=
  ss_length (Zf3 h) (fun x hx => ⟨Gd.ge h ((Zc8 x d).1 hx), Gd.le h ((Zc8 x d).1 hx)⟩)
theorem Zcx {V : Int} : ∀ {b : Int} {d : List Rg}, Gd V b d → d.length ≤ (vals d).length
  | _, [], _ => by simp
  | b, x :: d, ⟨h1, h2, h3, h4⟩ => by
    have h5 := Zcx h4
    have h6 := Zfq (x.f1 + 1 - x.f0).toNat x.f0 x.f1
    rw [vals]
    simp
    omega
def pack : List Int → List Rg
  | [] => []
  | x :: l => match pack l with
    | [] => [⟨x, x⟩]
    | r :: rs => if r.f0 = x + 1 then ⟨x, r.f1⟩ :: rs else ⟨x, x⟩ :: r :: rs
theorem Zd2 {V : Int} : ∀ {b : Int} {l : List Int}, SS l → (∀ x ∈ l, b ≤ x ∧ x ≤ V) → Gd V b (pack l) ∧ ∀ v, Va (pack l) v ↔ v ∈ l
  | b, [], _, _ => ⟨trivial, fun v => by simp [pack]⟩
  | b, x :: l, h, hb => by
    obtain ⟨hx, hl⟩ := List.pairwise_cons.1 h
    obtain ⟨g, m⟩ := Zd2 (V := V) (b := x + 1) hl (fun y hy => ⟨by have := hx y hy; omega, (hb y (List.mem_cons_of_mem _ hy)).2⟩)
    obtain ⟨b1, b2⟩ := hb x List.mem_cons_self
    unfold pack
    cases hp : pack l with
    | nil =>
      rw [hp] at m
      refine ⟨⟨b1, Int.le_refl _, b2, trivial⟩, fun v => ?_⟩
      have := m v
      simp at this
      simp [this]
      omega
    | cons r rs =>
      rw [hp] at g m
      obtain ⟨g1, g2, g3, g4⟩ := g
      dsimp only
      split
      · rename_i e
        refine ⟨⟨b1, by show x ≤ r.f1; omega, g3, g4⟩, fun v => ?_⟩
        have := m v
        rw [List.mem_cons, ← this, Zco, Zco]
        dsimp only
        constructor
        · rintro (h | h)
          · by_cases e2 : v = x
            · exact .inl e2
            exact .inr (.inl ⟨by omega, h.2⟩)
          exact .inr (.inr h)
        rintro (h | h | h)
        · exact .inl ⟨by omega, by omega⟩
        · exact .inl ⟨by omega, h.2⟩
        exact .inr h
      rename_i e
      refine ⟨⟨b1, Int.le_refl _, b2, by show x + 2 ≤ r.f0; omega, g2, g3, g4⟩, fun v => ?_⟩
      have := m v
      rw [List.mem_cons, ← this, Zco]
      dsimp only
      constructor
      · rintro (h | h)
        · exact .inl (by omega)
        exact .inr h
      rintro (h | h)
      · exact .inl ⟨by omega, by omega⟩
      exact .inr h
theorem pack_eq {V b : Int} {d : List Rg} {l : List Int} (hd : Gd V b d) (hl : SS l) (h : ∀ v, Va d v ↔ v ∈ l) : d = pack l := by
  obtain ⟨g, m⟩ := Zd2 (V := V) (b := b) hl (fun x hx => ⟨Gd.ge hd ((h x).2 hx), Gd.le hd ((h x).2 hx)⟩)
  exact Gd.ext hd g (fun v => (h v).trans (m v).symm)
theorem vals_pack {l : List Int} (hl : SS l) : vals (pack l) = l := by
  have hb : ∃ b V : Int, ∀ x ∈ l, b ≤ x ∧ x ≤ V := by
    clear hl
    induction l with
    | nil => exact ⟨0, 0, fun x hx => by simp at hx⟩
    | cons y l ih =>
      obtain ⟨b, V, ih⟩ := ih
      refine ⟨min b y, max V y, fun x hx => ?_⟩
      rcases List.mem_cons.1 hx with rfl | hx
      · omega
      have := ih x hx; omega
  obtain ⟨b, V, hb⟩ := hb
  obtain ⟨g, m⟩ := Zd2 (V := V) (b := b) hl hb
  exact SS.ext (Zf3 g) hl (fun x => (Zc8 x _).trans (m x))
theorem pack_vals {V b : Int} {d : List Rg} (hd : Gd V b d) : pack (vals d) = d := (pack_eq hd (Zf3 hd) (fun v => (Zc8 v d).symm)).symm
theorem pack_length_le (l : List Int) : (pack l).length ≤ l.length := by
  induction l with
  | nil => simp [pack]
  | cons x l ih =>
    unfold pack
    cases hp : pack l with
    | nil => simp
    | cons r rs =>
      rw [hp] at ih
      dsimp only
      split
      · simp at *; omega
      simp at *; omega
theorem upTo_enough {r : Nat} {v hi : Int} (h : hi + 1 - v ≤ r) : upTo r v hi = upTo (hi + 1 - v).toNat v hi :=
  SS.ext (upTo_ss _ _ _) (upTo_ss _ _ _) (fun z => by rw [Ze3, Ze3]; omega)
theorem allV_vals : ∀ (d : List Rg) (r : Nat), (vals d).length ≤ r → allV r d = vals d
  | [], r, _ => by simp [allV, vals]
  | x :: d, r, h => by
    rw [vals, List.length_append] at h
    have h1 := Zfq (x.f1 + 1 - x.f0).toNat x.f0 x.f1
    have e : upTo r x.f0 x.f1 = upTo (x.f1 + 1 - x.f0).toNat x.f0 x.f1 := upTo_enough (by omega)
    rw [allV, vals, e, allV_vals d _ (by omega)]
theorem niceD_good {b : Int} {d : List Rg} (h : Gd 1048576 b d) (hb : -1048576 ≤ b) : niceD d = true := by
  induction d generalizing b with
  | nil => rfl
  | cons x d ih =>
    obtain ⟨h1, h2, h3, h4⟩ := h
    have := ih h4 (by omega)
    unfold niceD at *
    rw [List.all_cons, this]
    simp
    omega
end Go.Proofs.Ytpbcigilipdedaa.P
namespace Go.Proofs.Ytpbcigilipdedaa.P
open Go.RowKit Go.Proofs.YtpbcigilipdedaaW.PrintWords Go.Proofs.YtpbcigilipdedaaW.PrintLast Go.Proofs.YtpbcigilipdedaaW.PrintMore
attribute [local go_sem] Zcz Zc1 Zde Zdf Zct Zcu Zc0 Zc2
set_option linter.unusedVariables false
set_option linter.unusedSimpArgs false
def Za4.l0 : Nat → List Int → Int → Int → Option (Bool)
 | 0, _, _, _ => none
 | k + 1, x0, x1, x5 => if x5 < (x0.length : Int) then (if 0 ≤ x5 then (if (rd x0 x5) = x1 then (some true) else (Za4.l0 k x0 x1 (wrap64 (x5 + 1)))) else (none)) else (some false)
def Za4.f (k : Nat) (l0 : List Int) (a1 : Int) : Option (Bool) := Za4.l0 k l0 a1 0
theorem Za4.Zb4 : ∀ k, (∀ y0 y1 y2, LeO (Za4.l0 k y0 y1 y2) (Za4.l0 (k + 1) y0 y1 y2))
 | 0 => fun _ _ _ r h => by simp [Za4.l0] at h
 | k + 1 => by
  have ih0 := Za4.Zb4 k
  intro y0 y1 y2
  unfold Za4.l0
  repeat' first
  | (with_reducible exact ih0 _ _ _)
  | (with_reducible exact LeO.refl _)
  | (with_reducible exact LeO.none _)
  | (with_reducible refine LeO.ite ?_ ?_)
  | (with_reducible refine LeO.bind ?_ (fun _ => ?_))
  | exact ih0 _ _ _
  | exact LeO.none _
  | refine LeO.ite ?_ ?_
  | refine LeO.bind ?_ (fun _ => ?_)
theorem Za4.mono : ∀ a0 a1 k, LeO (Za4.f k a0 a1) (Za4.f (k + 1) a0 a1) := by
 intro a0 a1 k
 have ih0 := Za4.Zb4 k
 unfold Za4.f
 repeat' first
   | (with_reducible exact ih0 _ _ _)
   | (with_reducible exact LeO.refl _)
   | (with_reducible exact LeO.none _)
   | (with_reducible refine LeO.ite ?_ ?_)
   | (with_reducible refine LeO.bind ?_ (fun _ => ?_))
   | exact ih0 _ _ _
   | exact LeO.none _
   | refine LeO.ite ?_ ?_
   | refine LeO.bind ?_ (fun _ => ?_)
set_option maxHeartbeats 8000000 in
set_option maxRecDepth 100000 in
theorem Za4.calls (k : Nat) (A0 : Option Addr) (c0 : Nat) (l0 : List Int) (a1 : Int) (r : Bool) (w : World) (hr0 : Kd.C (Kd.int .i64) w A0 l0.length l0) (hc0 : l0.length ≤ c0) (h : Za4.f k l0 a1 = some r) :
  Calls Try.prog 31 #[.slice A0 l0.length c0, .int .i64 a1] w fun e w' => e = .returned (.bool r) ∧ Zbw w w' := by
 have HR0 := Zaa.mk hr0
 have HC0 := Zaa.mk hc0
 clear hr0 hc0
 have H : (Za4.l0 k l0 a1 0) = some r := h
 clear h
 have H' := Zaa.mk H
 clear H
 go_enter Try.func31, Try.ntmps31
 go_wp2
 go_loopg [5] k (fun kq v5 w' => ∃ (x5_1 : Int), v5 = .int .i64 x5_1 ∧ Zaa (Za4.l0 kq l0 a1 x5_1 = some r) ∧ Zaa (kq ≤ k) ∧ Zbw w w')
 case atStart => exact ⟨(0), (by first | rfl | (simp; done) | (simp [*]; done)), H', ⟨Nat.le_refl _⟩, by repeat (first | exact Zbw.refl _ | apply Zbw.step)⟩
 case round =>
  clear H'
  try clear p2
  obtain ⟨x5_1, rfl, HA, HK1, ⟨m1, rfl⟩⟩ := hrel
  cases gk with
  | zero => exact absurd HA.out (by simp [Za4.l0])
  | succ k1 =>
   have H := HA.out
   clear HA
   simp only [Za4.l0] at H
   by_cases c3 : x5_1 < (l0.length : Int)
   rotate_left
   ·rw [if_neg c3] at H
    have c3b0 : decide (x5_1 < (l0.length : Int)) = false := decide_eq_false c3
    clear c3
    obtain rfl := Option.some.inj H
    go_wp2
    go_ret
    exact ⟨by first | rfl | (simp; done) | (simp [*]; done), by repeat (first | exact Zbw.refl _ | apply Zbw.step)⟩
   rw [if_pos c3] at H
   have c3b0 : decide (x5_1 < (l0.length : Int)) = true := decide_eq_true c3
   clear c3
   by_cases c4 : 0 ≤ x5_1
   rotate_left
   ·rw [if_neg c4] at H
    exact absurd H (by simp)
   rw [if_pos c4] at H
   have c4b0 : decide (0 ≤ x5_1) = true := decide_eq_true c4
   clear c4
   by_cases c5 : (rd l0 x5_1) = a1
   ·rw [if_pos c5] at H
    have c5b0 : ((rd l0 x5_1) == a1) = true := beq_iff_eq.mpr c5
    have c5b1 : ((rd l0 x5_1) != a1) = false := bne_eq_false_iff_eq.mpr c5
    clear c5
    obtain rfl := Option.some.inj H
    have p131 : 0 ≤ (x5_1 : Int) := of_decide_eq_true (by first | (with_reducible assumption) | assumption)
    have q131 : x5_1 < (l0.length : Int) := of_decide_eq_true (by first | (with_reducible assumption) | assumption)
    obtain ⟨ad131, e131, hx131_0⟩ := Kd.Zbx HR0.out x5_1 p131 q131
    cases e131
    replace p131 := eq_true p131
    replace q131 := eq_true q131
    go_wp2
    go_ret
    exact ⟨by first | rfl | (simp; done) | (simp [*]; done), by repeat (first | exact Zbw.refl _ | apply Zbw.step)⟩
   rw [if_neg c5] at H
   have c5b0 : ((rd l0 x5_1) == a1) = false := beq_eq_false_iff_ne.mpr c5
   have c5b1 : ((rd l0 x5_1) != a1) = true := bne_iff_ne.mpr c5
   have H' := Zaa.mk H
   clear H
   have p131 : 0 ≤ (x5_1 : Int) := of_decide_eq_true (by first | (with_reducible assumption) | assumption)
   have q131 : x5_1 < (l0.length : Int) := of_decide_eq_true (by first | (with_reducible assumption) | assumption)
   obtain ⟨ad131, e131, hx131_0⟩ := Kd.Zbx HR0.out x5_1 p131 q131
   cases e131
   replace p131 := eq_true p131
   replace q131 := eq_true q131
   go_wp2
   go_roundg k1
   case measure => have := HK1.out; omega
   case rel => exact ⟨(wrap64 (x5_1 + 1)), (by first | rfl | (simp; done) | (simp [*]; done)), H', ⟨by have := HK1.out; omega⟩, by repeat (first | exact Zbw.refl _ | apply Zbw.step)⟩
def Zbg.l0 : Nat → List Int → List Int → Int → Option (Bool)
 | 0, _, _, _ => none
 | k + 1, x0, x1, x5 => if x5 < (x0.length : Int) then (if 0 ≤ x5 then (if x5 < (x1.length : Int) then (if (rd x0 x5) = (rd x1 x5) then (Zbg.l0 k x0 x1 (wrap64 (x5 + 1))) else (some false)) else (none)) else (none)) else (some true)
def Zbg.f (k : Nat) (l0 : List Int) (l1 : List Int) : Option (Bool) := if (l0.length : Int) = (l1.length : Int) then (Zbg.l0 k l0 l1 0) else (some false)
theorem Zbg.Zb4 : ∀ k, (∀ y0 y1 y2, LeO (Zbg.l0 k y0 y1 y2) (Zbg.l0 (k + 1) y0 y1 y2))
 | 0 => fun _ _ _ r h => by simp [Zbg.l0] at h
 | k + 1 => by
  have ih0 := Zbg.Zb4 k
  intro y0 y1 y2
  unfold Zbg.l0
  repeat' first
  | (with_reducible exact ih0 _ _ _)
  | (with_reducible exact LeO.refl _)
  | (with_reducible exact LeO.none _)
  | (with_reducible refine LeO.ite ?_ ?_)
  | (with_reducible refine LeO.bind ?_ (fun _ => ?_))
  | exact ih0 _ _ _
  | exact LeO.none _
  | refine LeO.ite ?_ ?_
  | refine LeO.bind ?_ (fun _ => ?_)
theorem Zbg.mono : ∀ a0 a1 k, LeO (Zbg.f k a0 a1) (Zbg.f (k + 1) a0 a1) := by
 intro a0 a1 k
 have ih0 := Zbg.Zb4 k
 unfold Zbg.f
 repeat' first
   | (with_reducible exact ih0 _ _ _)
   | (with_reducible exact LeO.refl _)
   | (with_reducible exact LeO.none _)
   | (with_reducible refine LeO.ite ?_ ?_)
   | (with_reducible refine LeO.bind ?_ (fun _ => ?_))
   | exact ih0 _ _ _
   | exact LeO.none _
   | refine LeO.ite ?_ ?_
   | refine LeO.bind ?_ (fun _ => ?_)
set_option maxHeartbeats 8000000 in
set_option maxRecDepth 100000 in
theorem Zbg.calls (k : Nat) (A0 : Option Addr) (c0 : Nat) (l0 : List Int) (A1 : Option Addr) (c1 : Nat) (l1 : List Int) (r : Bool) (w : World) (hr0 : Kd.C (Kd.int .i64) w A0 l0.length l0) (hc0 : l0.length ≤ c0) (hr1 : Kd.C (Kd.int .i64) w A1 l1.length l1) (hc1 : l1.length ≤ c1) (h : Zbg.f k l0 l1 = some r) :
  Calls Try.prog 28 #[.slice A0 l0.length c0, .slice A1 l1.length c1] w fun e w' => e = .returned (.bool r) ∧ Zbw w w' := by
 have HR0 := Zaa.mk hr0
 have HC0 := Zaa.mk hc0
 clear hr0 hc0
 have HR1 := Zaa.mk hr1
 have HC1 := Zaa.mk hc1
 clear hr1 hc1
 have H : (if (l0.length : Int) = (l1.length : Int) then (Zbg.l0 k l0 l1 0) else (some false)) = some r := h
 clear h
 by_cases c3 : (l0.length : Int) = (l1.length : Int)
 rotate_left
 ·rw [if_neg c3] at H
  have c3b0 : ((l0.length : Int) == (l1.length : Int)) = false := beq_eq_false_iff_ne.mpr c3
  have c3b1 : ((l0.length : Int) != (l1.length : Int)) = true := bne_iff_ne.mpr c3
  have c3b2 : (l0.length == l1.length) = false := by first | simpa using c3 | (simp at c3 ⊢; omega)
  obtain rfl := Option.some.inj H
  go_enter Try.func28, Try.ntmps28
  go_wp2
  repeat (go_quiet (fail); try go_wp2)
  go_ret
  exact ⟨by first | rfl | (simp; done) | (simp [*]; done), by repeat (first | exact Zbw.refl _ | apply Zbw.step)⟩
 rw [if_pos c3] at H
 have c3b0 : ((l0.length : Int) == (l1.length : Int)) = true := beq_iff_eq.mpr c3
 have c3b1 : ((l0.length : Int) != (l1.length : Int)) = false := bne_eq_false_iff_eq.mpr c3
 have c3b2 : (l0.length == l1.length) = true := by first | simpa using c3 | (simp at c3 ⊢; omega)
 clear c3
 have H' := Zaa.mk H
 clear H
 go_enter Try.func28, Try.ntmps28
 go_wp2
 repeat (go_quiet (fail); try go_wp2)
 go_loopg [5] k (fun kq v5 w' => ∃ (x5_1 : Int), v5 = .int .i64 x5_1 ∧ Zaa (Zbg.l0 kq l0 l1 x5_1 = some r) ∧ Zaa (kq ≤ k) ∧ Zbw w w')
 case atStart => exact ⟨(0), (by first | rfl | (simp; done) | (simp [*]; done)), H', ⟨Nat.le_refl _⟩, by repeat (first | exact Zbw.refl _ | apply Zbw.step)⟩
 case round =>
  clear H'
  try clear c1
  try clear c2
  try clear p2
  try clear c3
  try clear c3b0
  try clear c3b1
  try clear c3b2
  obtain ⟨x5_1, rfl, HA, HK1, ⟨m1, rfl⟩⟩ := hrel
  cases gk with
  | zero => exact absurd HA.out (by simp [Zbg.l0])
  | succ k1 =>
   have H := HA.out
   clear HA
   simp only [Zbg.l0] at H
   by_cases c4 : x5_1 < (l0.length : Int)
   rotate_left
   ·rw [if_neg c4] at H
    have c4b0 : decide (x5_1 < (l0.length : Int)) = false := decide_eq_false c4
    clear c4
    obtain rfl := Option.some.inj H
    go_wp2
    repeat (go_quiet (fail); try go_wp2)
    go_ret
    exact ⟨by first | rfl | (simp; done) | (simp [*]; done), by repeat (first | exact Zbw.refl _ | apply Zbw.step)⟩
   rw [if_pos c4] at H
   have c4b0 : decide (x5_1 < (l0.length : Int)) = true := decide_eq_true c4
   clear c4
   by_cases c5 : 0 ≤ x5_1
   rotate_left
   ·rw [if_neg c5] at H
    exact absurd H (by simp)
   rw [if_pos c5] at H
   have c5b0 : decide (0 ≤ x5_1) = true := decide_eq_true c5
   clear c5
   by_cases c6 : x5_1 < (l1.length : Int)
   rotate_left
   ·rw [if_neg c6] at H
    exact absurd H (by simp)
   rw [if_pos c6] at H
   have c6b0 : decide (x5_1 < (l1.length : Int)) = true := decide_eq_true c6
   clear c6
   by_cases c7 : (rd l0 x5_1) = (rd l1 x5_1)
   rotate_left
   ·rw [if_neg c7] at H
    have c7b0 : ((rd l0 x5_1) == (rd l1 x5_1)) = false := beq_eq_false_iff_ne.mpr c7
    have c7b1 : ((rd l0 x5_1) != (rd l1 x5_1)) = true := bne_iff_ne.mpr c7
    obtain rfl := Option.some.inj H
    have p351 : 0 ≤ (x5_1 : Int) := of_decide_eq_true (by first | (with_reducible assumption) | assumption)
    have q351 : x5_1 < (l0.length : Int) := of_decide_eq_true (by first | (with_reducible assumption) | assumption)
    obtain ⟨ad351, e351, hx351_0⟩ := Kd.Zbx HR0.out x5_1 p351 q351
    cases e351
    replace p351 := eq_true p351
    replace q351 := eq_true q351
    have p352 : 0 ≤ (x5_1 : Int) := of_decide_eq_true (by first | (with_reducible assumption) | assumption)
    have q352 : x5_1 < (l1.length : Int) := of_decide_eq_true (by first | (with_reducible assumption) | assumption)
    obtain ⟨ad352, e352, hx352_0⟩ := Kd.Zbx HR1.out x5_1 p352 q352
    cases e352
    replace p352 := eq_true p352
    replace q352 := eq_true q352
    go_wp2
    repeat (go_quiet (fail); try go_wp2)
    go_ret
    exact ⟨by first | rfl | (simp; done) | (simp [*]; done), by repeat (first | exact Zbw.refl _ | apply Zbw.step)⟩
   rw [if_pos c7] at H
   have c7b0 : ((rd l0 x5_1) == (rd l1 x5_1)) = true := beq_iff_eq.mpr c7
   have c7b1 : ((rd l0 x5_1) != (rd l1 x5_1)) = false := bne_eq_false_iff_eq.mpr c7
   clear c7
   have H' := Zaa.mk H
   clear H
   have p351 : 0 ≤ (x5_1 : Int) := of_decide_eq_true (by first | (with_reducible assumption) | assumption)
   have q351 : x5_1 < (l0.length : Int) := of_decide_eq_true (by first | (with_reducible assumption) | assumption)
   obtain ⟨ad351, e351, hx351_0⟩ := Kd.Zbx HR0.out x5_1 p351 q351
   cases e351
   replace p351 := eq_true p351
   replace q351 := eq_true q351
   have p352 : 0 ≤ (x5_1 : Int) := of_decide_eq_true (by first | (with_reducible assumption) | assumption)
   have q352 : x5_1 < (l1.length : Int) := of_decide_eq_true (by first | (with_reducible assumption) | assumption)
   obtain ⟨ad352, e352, hx352_0⟩ := Kd.Zbx HR1.out x5_1 p352 q352
   cases e352
   replace p352 := eq_true p352
   replace q352 := eq_true q352
   go_wp2
   repeat (go_quiet (fail); try go_wp2)
   go_roundg k1
   case measure => have := HK1.out; omega
   case rel => exact ⟨(wrap64 (x5_1 + 1)), (by first | rfl | (simp; done) | (simp [*]; done)), H', ⟨by have := HK1.out; omega⟩, by repeat (first | exact Zbw.refl _ | apply Zbw.step)⟩
end Go.Proofs.Ytpbcigilipdedaa.P
/- The document's comparisons of lists of numbers. -/
namespace Go.Proofs.Ytpbcigilipdedaa.P
open Go.RowKit Go.Proofs.YtpbcigilipdedaaW.PrintWords Go.Proofs.YtpbcigilipdedaaW.PrintLast Go.Proofs.YtpbcigilipdedaaW.PrintMore
set_option linter.unusedVariables false
set_option linter.unusedSimpArgs false
theorem drop_nil' {α : Type} {l : List α} {n : Nat} (h : n + 0 = l.length) : l.drop n = [] := List.drop_eq_nil_iff.2 (by omega)
theorem ref_Has_l (l : List Int) (v : Int) (hl : l.length < 4611686018427387904) : ∀ (m n : Nat), n + m = l.length → Ev (fun k => Za4.l0 k l v (n : Int)) (decide (v ∈ l.drop n)) := by
  intro m
  induction m with
  | zero =>
    intro n h
    rw [drop_nil' h]
    exact Ev.step (G := fun _ => some false) (fun k => by rw [Za4.l0, if_neg (by omega)]) (Ev.const (by simp))
  | succ m ih =>
    intro n h
    have hn : n < l.length := by omega
    have hm : v ∈ l.drop n ↔ v = l[n] ∨ v ∈ l.drop (n + 1) := by rw [List.drop_eq_getElem_cons hn, List.mem_cons]
    by_cases e : l[n] = v
    · exact Ev.step (G := fun _ => some true) (fun k => by rw [Za4.l0, if_pos (by omega), if_pos (by omega), Zcw l n hn, if_pos e]) (Ev.const (by rw [decide_eq_true (hm.2 (.inl e.symm))]))
    have e2 : decide (v ∈ l.drop n) = decide (v ∈ l.drop (n + 1)) := decide_eq_decide.2 (hm.trans ⟨fun h => h.elim (fun h => absurd h.symm e) id, .inr⟩)
    rw [e2]
    exact Ev.step (fun k => by rw [Za4.l0, if_pos (by omega), if_pos (by omega), Zcw l n hn, if_neg e, w1 (by omega)]) (ih (n + 1) (by omega))
theorem ref_Has (l : List Int) (v : Int) (hl : l.length < 4611686018427387904) : Ev (fun k => Za4.f k l v) (decide (v ∈ l)) := ref_Has_l l v hl l.length 0 (by omega)
theorem ref_Nums_l (l m : List Int) (hl : l.length < 4611686018427387904) (hm : l.length = m.length) : ∀ (r n : Nat), n + r = l.length → Ev (fun k => Zbg.l0 k l m (n : Int)) (decide (l.drop n = m.drop n)) := by
  intro r
  induction r with
  | zero =>
    intro n h
    rw [drop_nil' h, drop_nil' (l := m) (by omega)]
    exact Ev.step (G := fun _ => some true) (fun k => by rw [Zbg.l0, if_neg (by omega)]) (Ev.const (by simp))
  | succ r ih =>
    intro n h
    have hn : n < l.length := by omega
    have hn2 : n < m.length := by omega
    have hm : l.drop n = m.drop n ↔ l[n] = m[n] ∧ l.drop (n + 1) = m.drop (n + 1) := by rw [List.drop_eq_getElem_cons hn, List.drop_eq_getElem_cons hn2, List.cons.injEq]
    by_cases e : l[n] = m[n]
    rotate_left
    · exact Ev.step (G := fun _ => some false) (fun k => by rw [Zbg.l0, if_pos (by omega), if_pos (by omega), if_pos (by omega), Zcw l n hn, Zcw m n hn2, if_neg e]) (Ev.const (by rw [decide_eq_false (fun h => e (hm.1 h).1)]))
    have e2 : decide (l.drop n = m.drop n) = decide (l.drop (n + 1) = m.drop (n + 1)) := decide_eq_decide.2 (hm.trans ⟨And.right, fun h => ⟨e, h⟩⟩)
    rw [e2]
    exact Ev.step (fun k => by rw [Zbg.l0, if_pos (by omega), if_pos (by omega), if_pos (by omega), Zcw l n hn, Zcw m n hn2, if_pos e, w1 (by omega)]) (ih (n + 1) (by omega))
theorem ref_Nums (l m : List Int) (hl : l.length < 4611686018427387904) : Ev (fun k => Zbg.f k l m) (decide (l = m)) := by
  by_cases h : l.length = m.length
  · exact Ev.eq (fun k => by rw [Zbg.f, if_pos (by omega)]; rfl) (ref_Nums_l l m hl h l.length 0 (by omega))
  exact Ev.eq (G := fun _ => some false) (fun k => by rw [Zbg.f, if_neg (by omega)]) (Ev.const (by simp; intro e; exact h (by rw [e])))
theorem ref_Nums_self (l : List Int) (hl : l.length < 4611686018427387904) : Ev (fun k => Zbg.f k l l) true := by have := ref_Nums l l hl; simpa using this
end Go.Proofs.Ytpbcigilipdedaa.P
/- The iterators that the program goes over: the values of a slice (slices.Values); what comes, round by round, for every loop body that keeps the rest of memory. -/
namespace Go.Proofs.Ytpbcigilipdedaa.P
open Go.RowKit Go.Shelf Go.Proofs.YtpbcigilipdedaaW.PrintWords Go.Proofs.YtpbcigilipdedaaW.PrintLast Go.Proofs.YtpbcigilipdedaaW.PrintMore
set_option linter.unusedVariables false
set_option linter.unusedSimpArgs false
attribute [local go_sem] Oper.semAt_some
def KeepsTy (t : Nat) (W W' : World) : Prop := ∀ (k : Nat) (cs : Array Value) (fr : Nat × Nat), W.heap[k]? = some (Obj.cells cs t fr) → W'.heap[k]? = some (Obj.cells cs t fr)
theorem KeepsTy.refl (t : Nat) (W : World) : KeepsTy t W W := fun _ _ _ h => h
theorem KeepsTy.trans {t : Nat} {A B C : World} (h : KeepsTy t A B) (k : KeepsTy t B C) : KeepsTy t A C := fun i cs fr hi => k i cs fr (h i cs fr hi)
theorem KeepsTy.grown {t : Nat} {W W' : World} {row : Option Nat} (hg : W.grownBy W' row) (hr : ∀ r, row = some r → ∀ cs fr, W.heap[r]? ≠ some (Obj.cells cs t fr)) : KeepsTy t W W' := fun k cs fr h =>
  (hg.block k (Array.getElem?_eq_some_iff.1 h).1 (fun e => hr k e.symm cs fr h)).trans h
theorem KeepsTy.alloc (t : Nat) (W : World) (o : Obj) : KeepsTy t W (W.alloc o) := KeepsTy.grown (World.grownBy_alloc W o none) (fun r e => by cases e)
theorem KeepsTy.box {t t' B : Nat} {W : World} {v v' : Value} (h : Boxed W B t' v) (hne : t' ≠ t) : KeepsTy t W (W.setCell ⟨B, 0, none⟩ v') :=
  KeepsTy.grown (grownBy_setCell' W B v') (fun r e cs fr hh => by
    cases e
    have := (show W.heap[B]? = _ from h).symm.trans hh
    simp at this
    exact hne this.2.1)
theorem KeepsTy.putObj {t l : Nat} {W : World} {o : Obj} (o' : Obj) (h : W.heap[l]? = some o) (ho : o.isCells = false) : KeepsTy t W (W.putObj l o') :=
  KeepsTy.grown (grownBy_putObj' W l o') (fun r e cs fr hh => by
    cases e
    rw [h] at hh
    cases hh
    cases ho)
theorem KeepsTy.row {t e base size n : Nat} {W W' : World} {v : Value} {xs : List Value} (hr : W.ownsRow base e size v n xs) (hne : e ≠ t) (hg : W.grownBy W' v.ownBlock) : KeepsTy t W W' :=
  KeepsTy.grown hg (fun r er cs fr hh => by
    rcases hr.2 with ⟨rfl, _⟩ | ⟨g, cap, cur, rfl, _, hgb, _⟩
    · simp [Value.ownBlock] at er
    obtain rfl : g = r := by simpa [Value.ownBlock] using er
    rw [hgb] at hh
    simp at hh
    exact hne hh.2.1)
def Kp (n₀ : Nat) (W W' : World) : Prop := Below n₀ W W' ∧ KeepsTy 41 W W'
theorem Kp.t {n₀ : Nat} {A B C : World} (h : Kp n₀ A B) (k : Kp n₀ B C) : Kp n₀ A C := ⟨h.1.trans k.1, h.2.trans k.2⟩
theorem Kp.b {n₀ : Nat} {w : World} (hn : n₀ ≤ w.heap.size) (W : World) (l : Nat) (o o' : Obj) (hl : w.heap.size ≤ l) (h : W.heap[l]? = some o) (hc : o.isCells = false) (hw : o.isWalk = false) : Kp n₀ W (W.putObj l o') :=
  ⟨belowK_b hn W l o o' hl h hc hw, KeepsTy.putObj o' h hc⟩
set_option maxRecDepth 100000 in
set_option maxHeartbeats 4000000 in
theorem values1_in (F : Fence) (n : Nat) (h1 : F.fn 92) (hro : F.round = none) (hn : 1 ≤ n) (l Bs : Nat) (w : World) (A : Option Addr) (c : Nat) (zs : List Int) (hr : Kd.C (Kd.int .i64) w A zs.length zs) (J Jx : List Int → World → Prop)
    (hY : ∀ pre x W, J pre W → pre.length < zs.length → YieldAt F (n - 1) Try.prog l #[.int .i64 x] W fun e W' =>
      (e = .returned (.bool true) ∧ J (pre ++ [x]) W' ∧ Kp w.heap.size W W') ∨ (e = .returned (.bool false) ∧ Jx (pre ++ [x]) W'))
    (W : World) (hW : Below w.heap.size w W) (hBs : W.cell? ⟨Bs, 0, none⟩ = some (.slice A zs.length c)) (h0 : J [] W) :
    CallsIn F n Try.prog 92 #[.func (.yield l) #[] #[], .pointer (some ⟨Bs, 0, none⟩)] W fun e W' => (∃ v, e = .returned v) ∧
      ((∃ ys, ys = zs ∧ J ys W') ∨ (∃ pre, pre <+: zs ∧ Jx pre W')) := by
  refine callsIn_of_wp Try.func92 rfl h1 ?_ hro
  simp only [Try.ntmps92, List.size_toArray, List.length_cons, List.length_nil, Nat.reduceAdd, Nat.reduceSub, Array.replicate_succ, Array.replicate_zero, List.push_toArray, List.append_toArray, List.nil_append, List.cons_append]
  have hlen : zs.length ≤ 9223372036854775807 := hr.2.1
  gi_wp2
  gi_loopw [7] (fun i7 wr => ∃ (k : Nat), k ≤ zs.length ∧ i7 = .int .i64 k ∧ J (zs.take k) wr ∧ Below w.heap.size w wr)
    (fun i _ => zs.length - (intOf i).toNat)
  case atStart => exact ⟨0, Nat.zero_le _, rfl, by simpa using h0, hW⟩
  case round =>
    obtain ⟨k, hk, rfl, hJs, hb⟩ := hrel
    by_cases hlt : k < zs.length
    rotate_left
    · obtain rfl : k = zs.length := by omega
      gi_wp2
      go_end0
      exact ⟨⟨_, rfl⟩, .inl ⟨zs, rfl, by simpa using hJs⟩⟩
    obtain ⟨ad, rfl, hx0⟩ := Kd.Zbx hr (k : Int) (by omega) (by omega)
    have hx0 := (hb.cell (World.block_lt_of_cell? w _ hx0)).trans hx0
    simp only [Int.toNat_natCast] at hx0
    have htk : zs.take (k + 1) = zs.take k ++ [rd zs (k : Int)] := by
      rw [List.take_succ_eq_append_getElem hlt]
      simp [rd, List.getD_eq_getElem?_getD, List.getElem?_eq_getElem hlt]
    have HT := Zaa.mk htk
    clear htk
    have hy0 := hY (zs.take k) (rd zs (k : Int)) wr hJs (by rw [List.length_take]; omega)
    generalize rd zs (k : Int) = x at *
    obtain ⟨fn, tmps, assign, body, hy, hR⟩ := hy0
    gi_wp2
    refine hR.mono ?_
    rintro e W3 (⟨rfl, hJ3, hk3⟩ | ⟨rfl, hJx3⟩)
    · have hb3 := hb.trans hk3.1
      clear hR hy hx0
      gi_wp2
      go_roundw
      case rel => exact ⟨k + 1, by omega, by first | rfl | go_num, by rw [HT.out]; exact hJ3, hb3⟩
      case measure => simp [intOf]; omega
    gi_wp2
    refine bodyPost_ret (results_none rfl _ _ _) rfl ?_
    exact ⟨⟨_, rfl⟩, .inr ⟨_, by rw [← HT.out]; exact List.take_prefix _ _, hJx3⟩⟩
theorem values_in (F : Fence) (n : Nat) (h : F.fn 68) (hro : F.round = none) (A : Option Addr) (len cap : Nat) (w : World) :
    CallsIn F n Try.prog 68 #[.slice A len cap] w fun e w' => e = .returned (.func (.func 92) #[] #[.pointer (some ⟨w.heap.size, 0, none⟩)]) ∧ w' = w.alloc (.cells #[.slice A len cap] 23) := by
  refine callsIn_of_wp Try.func68 rfl h ?_ hro
  simp only [Try.ntmps68, List.size_toArray, List.length_cons, List.length_nil, Nat.reduceAdd, Nat.reduceSub, Array.replicate_succ, Array.replicate_zero, List.push_toArray, List.append_toArray, List.nil_append, List.cons_append]
  gi_wp2
  go_ret
  exact ⟨rfl, rfl⟩
theorem values_stops (F : Fence) (n : Nat) (h1 : F.fn 92) (hro : F.round = none) (hn : 1 ≤ n) (Bs : Nat) (w0 w : World) (A : Option Addr) (c : Nat) (zs : List Int) (hr : Kd.C (Kd.int .i64) w0 A zs.length zs) (hBs : Bs < w.heap.size) (hw : Below w0.heap.size w0 w)
    (hc : w.cell? ⟨Bs, 0, none⟩ = some (.slice A zs.length c)) :
    SeqStopsK F n Try.prog 92 #[.pointer (some ⟨Bs, 0, none⟩)] (fun x : Int => #[Value.int .i64 x]) (Kp w0.heap.size) (fun ys => ys = zs) (fun pre => pre <+: zs) zs.length w := fun l J Jx W hW _ _ hY h0 =>
  values1_in F n h1 hro hn l Bs w0 A c zs hr J Jx hY W (hw.trans (hW.mono hw.size)) ((hW.cell (p := ⟨Bs, 0, none⟩) hBs).trans hc) h0
theorem infoI : (Try.prog.info? 3).map (fun i => (i.zero, i.size, i.bytes)) = some (some (.int .i64 0), 1, 8) := by kernel_rfl
set_option maxRecDepth 100000 in
set_option maxHeartbeats 4000000 in
theorem appendSeq_in (F : Fence) (n : Nat) (h : F.fn 97) (hro : F.round = none) (hn : 2 ≤ n) (g : Nat) (lb : Array Value) (hFg : F.fn g) (eg : ∀ args w, (callFunc g args).run Try.prog w = .ok (.enter g args) w)
    (n0 : Nat) (S Sp : List Int → Prop) (N : Nat) (hN : N * 8 ≤ 140737488355328) (w0 w : World) (hw : Below w0.heap.size w0 w) (hn0 : n0 ≤ w.heap.size) (hseq : SeqStopsK F (n - 1) Try.prog g lb (fun x : Int => #[Value.int .i64 x]) (Kp n0) S Sp N w0) :
    CallsIn F n Try.prog 97 #[.slice none 0 0, .func (.func g) #[] lb] w fun e w' => ∃ (v : Value) (xs : List Int), e = .returned v ∧ S xs ∧ w'.ownsRow w.heap.size 3 1 v xs.length (xs.map (Value.int .i64)) ∧ Below w.heap.size w w' := by
  have h1 : 1 ≤ n := by omega
  obtain ⟨i0, hi, hz0, hz1, hz2⟩ := info_parts infoI
  refine callsIn_of_wp_marks Try.func97 rfl h ?_ hro
  simp only [Try.ntmps97, List.size_toArray, List.length_cons, List.length_nil, Nat.reduceAdd, Nat.reduceSub, Array.replicate_succ, Array.replicate_zero, List.push_toArray, List.append_toArray, List.nil_append, List.cons_append]
  gi_wp2
  have bO := Boxed.new w 23 (.slice none 0 0)
  have hB0 : Below w.heap.size w (w.alloc (.cells #[.slice none 0 0] 23)) := (Below.refl _ w).alloc (Nat.le_refl _) _
  have hseq' : SeqStopsK F (n - 1) Try.prog g lb (fun x : Int => #[Value.int .i64 x]) (Kp n0) S Sp N (w.alloc (.cells #[.slice none 0 0] 23)) := fun l J Jx W hW a b c d => hseq l J Jx W (hw.trans ((hB0.mono hw.size).trans (hW.mono (by have := hw.size; simp; omega)))) a b c d
  refine wpIn_rangeFunc_ownG hro h1 (gf := g) (lb := lb) rfl hFg eg hseq' Kp.t (Kp.b (by simp; omega)) (Below.refl _ _) (fun _ => rfl)
    (fun pre W => (∃ v, Boxed W w.heap.size 23 v ∧ W.ownsRow w.heap.size 3 1 v pre.length (pre.map (Value.int .i64)) ∧ True) ∧ Below w.heap.size w W)
    (fun _ _ _ => False)
    (OwnFrom.and (Own.from (holdsRow_own w.heap.size w.heap.size 23 3 1 (fun pre : List Int => pre.length) (fun pre => pre.map (Value.int .i64)) (fun _ _ => True)) _) (ownFrom_below (Nat.le_refl _) (by simp)))
    (fun _ _ _ _ _ hs _ _ => hs)
    ⟨⟨_, bO, World.ownsRow_nil _ _ _ _, trivial⟩, hB0⟩
    (fun x => { tmps := #[.slice none 0 0, .func (.func g) #[] lb, .pointer (some ⟨w.heap.size, 0, none⟩), undef, .slice none 0 0, .int .i64 x, .func (.func g) #[] lb, .int .i64 x, undef, undef, undef, undef, undef], defers := [] }) ?assign ?body ?done ?stop
  case assign =>
    intro l x W K hK
    gi_wp2
    exact hK
  case body =>
    rintro l pre x W ⟨⟨v, hv, hrow, _⟩, hB⟩ hlt
    have hc := hv.cell
    gi_wp2_with (gi_at_builtin; refine wpListIn_append_own _ rfl _ _ 23 rfl w.heap.size 3 i0 (.int .i64 0) 1 8 Try.underlying23 hi hz0 hz1 hz2 rfl (by decide) _ _ _ rfl (hrow.alloc _) ⟨W.heap.size, 0, none⟩ 1 1 [.int .i64 x] rfl rfl (cell_one_new _ _ _) (by simp [Value.oneCell']) (by unfold maxLen; omega) (by omega) (by have := hB.size; simp; omega) ?_; intro v' w1 hown' hgrow _; obtain ⟨g', cap', rfl⟩ := ownsRow_succ hown'; have hty := (KeepsTy.alloc 41 W (.cells #[.int .i64 x] 3)).trans (KeepsTy.row (hrow.alloc _) (by decide) hgrow); obtain ⟨hv1, hv2, hr2, hk2, hb2⟩ := hv.appended (by decide) hrow hB.size (Nat.le_refl _) hown' hgrow; have hty2 := hty.trans (KeepsTy.box hv1 (v' := .slice (some ⟨g', 0, none⟩) (pre.length + 1) cap') (by decide)); have hc1 := hv1.cell; have hf1 := hv1.frozen)
    exact ⟨hk2.from _, ⟨hb2.mono hn0, hty2⟩, ⟨_, hv2, by simpa using hr2, trivial⟩, hB.trans hb2⟩
  case done =>
    rintro D ys W hD hS ⟨⟨v, hv, hrow, _⟩, hB⟩ hK
    have hc := hv.cell
    gi_wp2
    refine ⟨by simp, .inl ⟨_, _, rfl, run_takeDeferred hK, ?_⟩⟩
    exact ⟨_, results_tmp rfl _ _ _, v, ys, rfl, hS, ownsRow_putObj hrow _ hK rfl, hB.trans (belowK_b (w := w) (Nat.le_refl _) W D _ _ (by simp at hD; omega) hK rfl rfl)⟩
  case stop =>
    rintro D c pre W _ _ h _
    exact h.elim
set_option maxHeartbeats 1000000 in
theorem collect_in (F : Fence) (n : Nat) (h : F.fn 81) (h2 : F.fn 97) (hro : F.round = none) (hn : 3 ≤ n) (g : Nat) (lb : Array Value) (hFg : F.fn g) (eg : ∀ args w, (callFunc g args).run Try.prog w = .ok (.enter g args) w)
    (n0 : Nat) (S Sp : List Int → Prop) (N : Nat) (hN : N * 8 ≤ 140737488355328) (w0 w : World) (hw : Below w0.heap.size w0 w) (hn0 : n0 ≤ w.heap.size) (hseq : SeqStopsK F (n - 1 - 1) Try.prog g lb (fun x : Int => #[Value.int .i64 x]) (Kp n0) S Sp N w0) :
    CallsIn F n Try.prog 81 #[.func (.func g) #[] lb] w fun e w' => ∃ (v : Value) (xs : List Int), e = .returned v ∧ S xs ∧ w'.ownsRow w.heap.size 3 1 v xs.length (xs.map (Value.int .i64)) ∧ Below w.heap.size w w' := by
  have h1 : 1 ≤ n := by omega
  refine callsIn_of_wp Try.func81 rfl h ?_ hro
  simp only [Try.ntmps81, List.size_toArray, List.length_cons, List.length_nil, Nat.reduceAdd, Nat.reduceSub, Array.replicate_succ, Array.replicate_zero, List.push_toArray, List.append_toArray, List.nil_append, List.cons_append]
  have cA := fun W (hw : Below w0.heap.size w0 W) hn0 => appendSeq_in F (n - 1) h2 hro (by omega) g lb hFg eg n0 S Sp N hN w0 W hw hn0 hseq
  gi_wp2_with (gi_at_call 97; refine (cA _ hw hn0).mono ?_; rintro e w' ⟨v, xs, rfl, hS, hrow, hb⟩)
  go_ret
  exact ⟨v, xs, rfl, hS, hrow, hb⟩
end Go.Proofs.Ytpbcigilipdedaa.P
/- The library's sort and its like, laid at this program (the shelf's contracts). -/
namespace Go.Proofs.Ytpbcigilipdedaa.P
open Go.Shelf Go.Proofs
def lsort_ren : Go.Shelf.Ren := ⟨fun | 5 => 91 | 7 => 100 | 8 => 95 | 10 => 119 | 11 => 120 | 12 => 121 | 13 => 122 | 14 => 123 | 15 => 124 | 16 => 125 | 17 => 126 | 18 => 127 | 19 => 109 | 20 => 110 | 30 => 136 | 31 => 129 | 32 => 130 | 33 => 137 | 34 => 138 | 35 => 96 | 40 => 141 | n => n, fun | 0 => 0 | 3 => 3 | 4 => 4 | 5 => 5 | 9 => 9 | 22 => 23 | 23 => 23 | 25 => 3 | 32 => 99 | 35 => 104 | 36 => 105 | 41 => 109 | 44 => 112 | 46 => 114 | 53 => 126 | 57 => 130 | 63 => 136 | 64 => 137 | n => n, fun n => n⟩
theorem lsort : SlLaysM.n5 Try.prog lsort_ren := {
  mixed := by kernel_rfl,
  f5 := ⟨Try.f91.name, by decide, Try.func91.trans (congrArg some (by kernel_rfl))⟩,
  f7 := ⟨Try.f100.name, by decide, Try.func100.trans (congrArg some (by kernel_rfl))⟩,
  f8 := Try.func95.trans (congrArg some (by kernel_rfl)),
  f10 := ⟨Try.f119.name, by decide, Try.func119.trans (congrArg some (by kernel_rfl))⟩,
  f11 := ⟨Try.f120.name, by decide, Try.func120.trans (congrArg some (by kernel_rfl))⟩,
  f12 := ⟨Try.f121.name, by decide, Try.func121.trans (congrArg some (by kernel_rfl))⟩,
  f13 := ⟨Try.f122.name, by decide, Try.func122.trans (congrArg some (by kernel_rfl))⟩,
  f14 := ⟨Try.f123.name, by decide, Try.func123.trans (congrArg some (by kernel_rfl))⟩,
  f15 := ⟨Try.f124.name, by decide, Try.func124.trans (congrArg some (by kernel_rfl))⟩,
  f16 := ⟨Try.f125.name, by decide, Try.func125.trans (congrArg some (by kernel_rfl))⟩,
  f17 := ⟨Try.f126.name, by decide, Try.func126.trans (congrArg some (by kernel_rfl))⟩,
  f18 := ⟨Try.f127.name, by decide, Try.func127.trans (congrArg some (by kernel_rfl))⟩,
  f19 := Try.func109.trans (congrArg some (by kernel_rfl)),
  f20 := Try.func110.trans (congrArg some (by kernel_rfl)),
  f30 := ⟨Try.f136.name, by decide, Try.func136.trans (congrArg some (by kernel_rfl))⟩,
  f31 := Try.func129.trans (congrArg some (by kernel_rfl)),
  f32 := Try.func130.trans (congrArg some (by kernel_rfl)),
  f33 := ⟨Try.f137.name, by decide, Try.func137.trans (congrArg some (by kernel_rfl))⟩,
  f34 := ⟨Try.f138.name, by decide, Try.func138.trans (congrArg some (by kernel_rfl))⟩,
  f35 := ⟨Try.f96.name, by decide, Try.func96.trans (congrArg some (by kernel_rfl))⟩,
  f40 := ⟨Try.f141.name, by decide, Try.func141.trans (congrArg some (by kernel_rfl))⟩,
  t0 := Try.underlying0,
  a0 := Try.isAgg0,
  z0 := Try.sizeOf0,
  v0 := Try.zeroValue0,
  t3 := Try.underlying3,
  a3 := Try.isAgg3,
  z3 := Try.sizeOf3,
  v3 := Try.zeroValue3,
  t4 := Try.underlying4,
  a4 := Try.isAgg4,
  z4 := Try.sizeOf4,
  v4 := Try.zeroValue4,
  t5 := Try.underlying5,
  a5 := Try.isAgg5,
  z5 := Try.sizeOf5,
  v5 := Try.zeroValue5,
  t9 := Try.underlying9,
  a9 := Try.isAgg9,
  z9 := Try.sizeOf9,
  v9 := Try.zeroValue9,
  t22 := Try.underlying23,
  a22 := Try.isAgg23,
  z22 := Try.sizeOf23,
  v22 := Try.zeroValue23,
  t23 := Try.underlying23,
  a23 := Try.isAgg23,
  z23 := Try.sizeOf23,
  v23 := Try.zeroValue23,
  t25 := Try.underlying3,
  a25 := Try.isAgg3,
  z25 := Try.sizeOf3,
  v25 := Try.zeroValue3,
  t32 := Try.underlying99,
  a32 := Try.isAgg99,
  z32 := Try.sizeOf99,
  v32 := Try.zeroValue99,
  t35 := Try.underlying104,
  a35 := Try.isAgg104,
  z35 := Try.sizeOf104,
  v35 := Try.zeroValue104,
  t36 := Try.underlying105,
  a36 := Try.isAgg105,
  z36 := Try.sizeOf105,
  v36 := Try.zeroValue105,
  t41 := Try.underlying109,
  a41 := Try.isAgg109,
  z41 := Try.sizeOf109,
  v41 := Try.zeroValue109,
  t44 := Try.underlying112,
  a44 := Try.isAgg112,
  z44 := Try.sizeOf112,
  v44 := Try.zeroValue112,
  t46 := Try.underlying114,
  a46 := Try.isAgg114,
  z46 := Try.sizeOf114,
  v46 := Try.zeroValue114,
  t53 := Try.underlying126,
  a53 := Try.isAgg126,
  z53 := Try.sizeOf126,
  v53 := Try.zeroValue126,
  t57 := Try.underlying130,
  a57 := Try.isAgg130,
  z57 := Try.sizeOf130,
  v57 := Try.zeroValue130,
  t63 := Try.underlying136,
  a63 := Try.isAgg136,
  z63 := Try.sizeOf136,
  v63 := Try.zeroValue136,
  t64 := Try.underlying137,
  a64 := Try.isAgg137,
  z64 := Try.sizeOf137,
  v64 := Try.zeroValue137 }
def lsortF_ren : Go.Shelf.Ren := ⟨fun | 6 => 83 | 14 => 99 | 15 => 95 | 20 => 111 | 21 => 112 | 22 => 113 | 23 => 114 | 24 => 115 | 25 => 116 | 26 => 117 | 27 => 118 | 28 => 109 | 29 => 110 | 46 => 133 | 47 => 129 | 48 => 130 | 49 => 134 | 50 => 135 | 57 => 140 | n => n, fun | 0 => 0 | 3 => 3 | 4 => 4 | 5 => 5 | 9 => 9 | 22 => 39 | 24 => 41 | 25 => 91 | 39 => 99 | 45 => 104 | 46 => 105 | 50 => 109 | 53 => 112 | 55 => 114 | 66 => 126 | 70 => 130 | 76 => 136 | 77 => 137 | n => n, fun n => n⟩
theorem lsortF : SlLaysF0.n6 Try.prog lsortF_ren := {
  mixed := by kernel_rfl,
  f6 := ⟨Try.f83.name, by decide, Try.func83.trans (congrArg some (by kernel_rfl))⟩,
  f14 := ⟨Try.f99.name, by decide, Try.func99.trans (congrArg some (by kernel_rfl))⟩,
  f15 := Try.func95.trans (congrArg some (by kernel_rfl)),
  f20 := ⟨Try.f111.name, by decide, Try.func111.trans (congrArg some (by kernel_rfl))⟩,
  f21 := ⟨Try.f112.name, by decide, Try.func112.trans (congrArg some (by kernel_rfl))⟩,
  f22 := ⟨Try.f113.name, by decide, Try.func113.trans (congrArg some (by kernel_rfl))⟩,
  f23 := ⟨Try.f114.name, by decide, Try.func114.trans (congrArg some (by kernel_rfl))⟩,
  f24 := ⟨Try.f115.name, by decide, Try.func115.trans (congrArg some (by kernel_rfl))⟩,
  f25 := ⟨Try.f116.name, by decide, Try.func116.trans (congrArg some (by kernel_rfl))⟩,
  f26 := ⟨Try.f117.name, by decide, Try.func117.trans (congrArg some (by kernel_rfl))⟩,
  f27 := ⟨Try.f118.name, by decide, Try.func118.trans (congrArg some (by kernel_rfl))⟩,
  f28 := Try.func109.trans (congrArg some (by kernel_rfl)),
  f29 := Try.func110.trans (congrArg some (by kernel_rfl)),
  f46 := ⟨Try.f133.name, by decide, Try.func133.trans (congrArg some (by kernel_rfl))⟩,
  f47 := Try.func129.trans (congrArg some (by kernel_rfl)),
  f48 := Try.func130.trans (congrArg some (by kernel_rfl)),
  f49 := ⟨Try.f134.name, by decide, Try.func134.trans (congrArg some (by kernel_rfl))⟩,
  f50 := ⟨Try.f135.name, by decide, Try.func135.trans (congrArg some (by kernel_rfl))⟩,
  f57 := ⟨Try.f140.name, by decide, Try.func140.trans (congrArg some (by kernel_rfl))⟩,
  t0 := Try.underlying0,
  a0 := Try.isAgg0,
  z0 := Try.sizeOf0,
  v0 := Try.zeroValue0,
  t3 := Try.underlying3,
  a3 := Try.isAgg3,
  z3 := Try.sizeOf3,
  v3 := Try.zeroValue3,
  t4 := Try.underlying4,
  a4 := Try.isAgg4,
  z4 := Try.sizeOf4,
  v4 := Try.zeroValue4,
  t5 := Try.underlying5,
  a5 := Try.isAgg5,
  z5 := Try.sizeOf5,
  v5 := Try.zeroValue5,
  t9 := Try.underlying9,
  a9 := Try.isAgg9,
  z9 := Try.sizeOf9,
  v9 := Try.zeroValue9,
  t22 := Try.underlying39,
  a22 := Try.isAgg39,
  z22 := Try.sizeOf39,
  v22 := Try.zeroValue39,
  t25 := Try.underlying91,
  a25 := Try.isAgg91,
  z25 := Try.sizeOf91,
  v25 := Try.zeroValue91,
  t39 := Try.underlying99,
  a39 := Try.isAgg99,
  z39 := Try.sizeOf99,
  v39 := Try.zeroValue99,
  t45 := Try.underlying104,
  a45 := Try.isAgg104,
  z45 := Try.sizeOf104,
  v45 := Try.zeroValue104,
  t46 := Try.underlying105,
  a46 := Try.isAgg105,
  z46 := Try.sizeOf105,
  v46 := Try.zeroValue105,
  t50 := Try.underlying109,
  a50 := Try.isAgg109,
  z50 := Try.sizeOf109,
  v50 := Try.zeroValue109,
  t53 := Try.underlying112,
  a53 := Try.isAgg112,
  z53 := Try.sizeOf112,
  v53 := Try.zeroValue112,
  t55 := Try.underlying114,
  a55 := Try.isAgg114,
  z55 := Try.sizeOf114,
  v55 := Try.zeroValue114,
  t66 := Try.underlying126,
  a66 := Try.isAgg126,
  z66 := Try.sizeOf126,
  v66 := Try.zeroValue126,
  t70 := Try.underlying130,
  a70 := Try.isAgg130,
  z70 := Try.sizeOf130,
  v70 := Try.zeroValue130,
  t76 := Try.underlying136,
  a76 := Try.isAgg136,
  z76 := Try.sizeOf136,
  v76 := Try.zeroValue136,
  t77 := Try.underlying137,
  a77 := Try.isAgg137,
  z77 := Try.sizeOf137,
  v77 := Try.zeroValue137 }
def lsortL_ren : Go.Shelf.Ren := ⟨fun | 6 => 76 | 14 => 94 | 15 => 95 | 20 => 101 | 21 => 102 | 22 => 103 | 23 => 104 | 24 => 105 | 25 => 106 | 26 => 107 | 27 => 108 | 28 => 109 | 29 => 110 | 46 => 128 | 47 => 129 | 48 => 130 | 49 => 131 | 50 => 132 | 57 => 139 | n => n, fun | 0 => 0 | 3 => 3 | 4 => 4 | 5 => 5 | 9 => 9 | 22 => 22 | 24 => 23 | 25 => 51 | 39 => 99 | 45 => 104 | 46 => 105 | 50 => 109 | 53 => 112 | 55 => 114 | 66 => 126 | 70 => 130 | 76 => 136 | 77 => 137 | n => n, fun n => n⟩
theorem lsortL : SlLaysF.n6 Try.prog lsortL_ren := {
  mixed := by kernel_rfl,
  f6 := ⟨Try.f76.name, by decide, Try.func76.trans (congrArg some (by kernel_rfl))⟩,
  f14 := ⟨Try.f94.name, by decide, Try.func94.trans (congrArg some (by kernel_rfl))⟩,
  f15 := Try.func95.trans (congrArg some (by kernel_rfl)),
  f20 := ⟨Try.f101.name, by decide, Try.func101.trans (congrArg some (by kernel_rfl))⟩,
  f21 := ⟨Try.f102.name, by decide, Try.func102.trans (congrArg some (by kernel_rfl))⟩,
  f22 := ⟨Try.f103.name, by decide, Try.func103.trans (congrArg some (by kernel_rfl))⟩,
  f23 := ⟨Try.f104.name, by decide, Try.func104.trans (congrArg some (by kernel_rfl))⟩,
  f24 := ⟨Try.f105.name, by decide, Try.func105.trans (congrArg some (by kernel_rfl))⟩,
  f25 := ⟨Try.f106.name, by decide, Try.func106.trans (congrArg some (by kernel_rfl))⟩,
  f26 := ⟨Try.f107.name, by decide, Try.func107.trans (congrArg some (by kernel_rfl))⟩,
  f27 := ⟨Try.f108.name, by decide, Try.func108.trans (congrArg some (by kernel_rfl))⟩,
  f28 := Try.func109.trans (congrArg some (by kernel_rfl)),
  f29 := Try.func110.trans (congrArg some (by kernel_rfl)),
  f46 := ⟨Try.f128.name, by decide, Try.func128.trans (congrArg some (by kernel_rfl))⟩,
  f47 := Try.func129.trans (congrArg some (by kernel_rfl)),
  f48 := Try.func130.trans (congrArg some (by kernel_rfl)),
  f49 := ⟨Try.f131.name, by decide, Try.func131.trans (congrArg some (by kernel_rfl))⟩,
  f50 := ⟨Try.f132.name, by decide, Try.func132.trans (congrArg some (by kernel_rfl))⟩,
  f57 := ⟨Try.f139.name, by decide, Try.func139.trans (congrArg some (by kernel_rfl))⟩,
  t0 := Try.underlying0,
  a0 := Try.isAgg0,
  z0 := Try.sizeOf0,
  v0 := Try.zeroValue0,
  t3 := Try.underlying3,
  a3 := Try.isAgg3,
  z3 := Try.sizeOf3,
  v3 := Try.zeroValue3,
  t4 := Try.underlying4,
  a4 := Try.isAgg4,
  z4 := Try.sizeOf4,
  v4 := Try.zeroValue4,
  t5 := Try.underlying5,
  a5 := Try.isAgg5,
  z5 := Try.sizeOf5,
  v5 := Try.zeroValue5,
  t9 := Try.underlying9,
  a9 := Try.isAgg9,
  z9 := Try.sizeOf9,
  v9 := Try.zeroValue9,
  t22 := Try.underlying22,
  a22 := Try.isAgg22,
  z22 := Try.sizeOf22,
  v22 := Try.zeroValue22,
  a24 := Try.isAgg23,
  z24 := Try.sizeOf23,
  t25 := Try.underlying51,
  a25 := Try.isAgg51,
  z25 := Try.sizeOf51,
  v25 := Try.zeroValue51,
  t39 := Try.underlying99,
  a39 := Try.isAgg99,
  z39 := Try.sizeOf99,
  v39 := Try.zeroValue99,
  t45 := Try.underlying104,
  a45 := Try.isAgg104,
  z45 := Try.sizeOf104,
  v45 := Try.zeroValue104,
  t46 := Try.underlying105,
  a46 := Try.isAgg105,
  z46 := Try.sizeOf105,
  v46 := Try.zeroValue105,
  t50 := Try.underlying109,
  a50 := Try.isAgg109,
  z50 := Try.sizeOf109,
  v50 := Try.zeroValue109,
  t53 := Try.underlying112,
  a53 := Try.isAgg112,
  z53 := Try.sizeOf112,
  v53 := Try.zeroValue112,
  t55 := Try.underlying114,
  a55 := Try.isAgg114,
  z55 := Try.sizeOf114,
  v55 := Try.zeroValue114,
  t66 := Try.underlying126,
  a66 := Try.isAgg126,
  z66 := Try.sizeOf126,
  v66 := Try.zeroValue126,
  t70 := Try.underlying130,
  a70 := Try.isAgg130,
  z70 := Try.sizeOf130,
  v70 := Try.zeroValue130,
  t76 := Try.underlying136,
  a76 := Try.isAgg136,
  z76 := Try.sizeOf136,
  v76 := Try.zeroValue136,
  t77 := Try.underlying137,
  a77 := Try.isAgg137,
  z77 := Try.sizeOf137,
  v77 := Try.zeroValue137 }
def ldel_ren : Go.Shelf.Ren := ⟨fun | 6 => 80 | 10 => 53 | n => n, fun | 0 => 0 | 3 => 3 | 4 => 4 | 22 => 23 | 23 => 3 | 25 => 71 | n => n, fun n => n⟩
theorem ldel : SlLaysH.n10 Try.prog ldel_ren := {
  mixed := by kernel_rfl,
  f6 := ⟨Try.f80.name, by decide, Try.func80.trans (congrArg some (by kernel_rfl))⟩,
  f10 := ⟨Try.f53.name, by decide, Try.func53.trans (congrArg some (by kernel_rfl))⟩,
  t0 := Try.underlying0,
  a0 := Try.isAgg0,
  z0 := Try.sizeOf0,
  v0 := Try.zeroValue0,
  t3 := Try.underlying3,
  a3 := Try.isAgg3,
  z3 := Try.sizeOf3,
  v3 := Try.zeroValue3,
  t4 := Try.underlying4,
  a4 := Try.isAgg4,
  z4 := Try.sizeOf4,
  v4 := Try.zeroValue4,
  t22 := Try.underlying23,
  a22 := Try.isAgg23,
  z22 := Try.sizeOf23,
  v22 := Try.zeroValue23,
  a23 := Try.isAgg3,
  z23 := Try.sizeOf3,
  t25 := Try.underlying71,
  a25 := Try.isAgg71,
  z25 := Try.sizeOf71,
  v25 := Try.zeroValue71 }
end Go.Proofs.Ytpbcigilipdedaa.P
/- slices.ContainsFunc over ints, slices.Sorted over an iterator. -/
namespace Go.Proofs.Ytpbcigilipdedaa.P
open Go.RowKit Go.Shelf Go.Proofs.YtpbcigilipdedaaW.PrintWords Go.Proofs.YtpbcigilipdedaaW.PrintLast Go.Proofs.YtpbcigilipdedaaW.PrintMore
set_option linter.unusedVariables false
set_option linter.unusedSimpArgs false
def insI (x : Int) : List Int → List Int
  | [] => [x]
  | y :: ys => if x ≤ y then x :: y :: ys else y :: insI x ys
def sortI : List Int → List Int
  | [] => []
  | x :: xs => insI x (sortI xs)
theorem Zgo (x : Int) : ∀ l, List.Perm (insI x l) (x :: l)
  | [] => List.Perm.refl _
  | y :: ys => by
    unfold insI
    split
    · exact List.Perm.refl _
    exact ((Zgo x ys).cons y).trans (List.Perm.swap x y ys)
theorem Zef : ∀ l, List.Perm (sortI l) l
  | [] => List.Perm.refl _
  | x :: xs => (Zgo x _).trans ((Zef xs).cons x)
theorem insI_le (x : Int) : ∀ l, List.Pairwise (fun a b : Int => a ≤ b) l → List.Pairwise (fun a b : Int => a ≤ b) (insI x l)
  | [], _ => by simp [insI]
  | y :: ys, h => by
    unfold insI
    split
    · rename_i hxy
      refine List.pairwise_cons.2 ⟨fun z hz => ?_, h⟩
      rcases List.mem_cons.1 hz with rfl | hz
      · exact hxy
      have := (List.pairwise_cons.1 h).1 z hz
      omega
    rename_i hxy
    refine List.pairwise_cons.2 ⟨fun z hz => ?_, insI_le x ys (List.pairwise_cons.1 h).2⟩
    rcases List.mem_cons.1 ((Zgo x ys).mem_iff.1 hz) with rfl | hz
    · omega
    exact (List.pairwise_cons.1 h).1 z hz
theorem sortI_le : ∀ l, List.Pairwise (fun a b : Int => a ≤ b) (sortI l)
  | [] => List.Pairwise.nil
  | x :: xs => insI_le x _ (sortI_le xs)
theorem Zgr (l : List Int) : (l.mergeSort fun x y => decide (x ≤ y)) = sortI l := by
  refine List.Perm.eq_of_pairwise (le := fun a b : Int => a ≤ b) (fun a b _ _ h1 h2 => by omega) ?_ (sortI_le l) ((List.mergeSort_perm l _).trans (Zef l).symm)
  have := List.pairwise_mergeSort (le := fun x y : Int => decide (x ≤ y)) (fun a b c h1 h2 => by simp at *; omega) (fun a b => by simp; omega) l
  exact this.imp (fun h => by simpa using h)
theorem Zez (l : List Int) : (sortI l).length = l.length := (Zef l).length_eq
set_option maxHeartbeats 2000000 in
theorem indexFunc_int (p : Int → Bool) (g : Nat) (lb : Array Value) (eg : ∀ args w, (callFunc g args).run Try.prog w = .ok (.enter g args) w) (A : Option Addr) (c : Nat) (zs : List Int) (w : World) (hr : Kd.C (Kd.int .i64) w A zs.length zs)
    (hp : ∀ k, k < zs.length → ∀ q, Calls Try.prog g (#[.int .i64 (rd zs (k : Int))] ++ lb) (w.drewN q) fun e w' => e = .returned (.bool (p (rd zs (k : Int)))) ∧ ∃ q', w' = (w.drewN q).drewN q') :
    Calls Try.prog 80 #[.slice A zs.length c, .func (.func g) #[] lb] w fun e w' => (∃ i : Int, e = .returned (.int .i64 i) ∧ decide (0 ≤ i) = zs.any p) ∧ ∃ q, w' = w.drewN q := by
  have hlen : zs.length ≤ 9223372036854775807 := hr.2.1
  have hany : ∀ k, zs.any p = ((zs.take k).any p || (zs.drop k).any p) := fun k => by rw [← List.any_append, List.take_append_drop]
  have HY := Zaa.mk hany
  clear hany
  go_enter Try.func80, Try.ntmps80
  go_wp2
  go_loopg [5, 8] zs.length (fun gg _ s8 wr => ∃ kk q : Nat, kk ≤ zs.length ∧ zs.length - kk ≤ gg ∧ s8 = .int .i64 kk ∧ wr = w.drewN q ∧ Zaa ((zs.take kk).any p = false))
  case atStart => exact ⟨0, 0, Nat.zero_le _, by omega, rfl, rfl, ⟨by simp⟩⟩
  case round =>
    obtain ⟨kk, q, hkk, hg, rfl, rfl, A1⟩ := hrel
    by_cases hlt : kk < zs.length
    rotate_left
    · obtain rfl : kk = zs.length := by omega
      go_wp2
      go_ret
      refine ⟨⟨_, rfl, ?_⟩, q, rfl⟩
      have := A1.out
      rw [List.take_length] at this
      rw [this]
      rfl
    obtain ⟨ad, rfl, hx0⟩ := Kd.Zbx hr (kk : Int) (by omega) (by omega)
    simp only [Int.toNat_natCast] at hx0
    have hcall := hp kk hlt
    clear hp
    have htk : Zaa (zs.take (kk + 1) = zs.take kk ++ [rd zs (kk : Int)]) := ⟨by
      rw [List.take_succ_eq_append_getElem hlt]
      simp [rd, List.getD_eq_getElem?_getD, List.getElem?_eq_getElem hlt]⟩
    generalize rd zs (kk : Int) = y at *
    cases hq : p y with
    | true =>
      rw [hq] at hcall
      have B := Zaa.mk hq
      clear hq
      go_wp2_with (go_at_fn g; refine (hcall _).mono ?_; rintro e w' ⟨rfl, q', rfl⟩)
      go_ret
      refine ⟨⟨_, rfl, ?_⟩, _, rfl⟩
      rw [HY.out (kk + 1), htk.out, List.any_append]
      simp [B.out]
    | false =>
      rw [hq] at hcall
      have B := Zaa.mk hq
      clear hq
      go_wp2_with (go_at_fn g; refine (hcall _).mono ?_; rintro e w' ⟨rfl, q', rfl⟩)
      go_roundg (zs.length - (kk + 1))
      case measure => omega
      case rel => exact ⟨kk + 1, _, by omega, by omega, by go_num, rfl, ⟨by rw [htk.out, List.any_append, A1.out]; simp [B.out]⟩⟩
theorem Zg (p : Int → Bool) (g : Nat) (lb : Array Value) (eg : ∀ args w, (callFunc g args).run Try.prog w = .ok (.enter g args) w) (A : Option Addr) (c : Nat) (zs : List Int) (w : World) (hr : Kd.C (Kd.int .i64) w A zs.length zs)
    (hp : ∀ k, k < zs.length → ∀ q, Calls Try.prog g (#[.int .i64 (rd zs (k : Int))] ++ lb) (w.drewN q) fun e w' => e = .returned (.bool (p (rd zs (k : Int)))) ∧ ∃ q', w' = (w.drewN q).drewN q') :
    Calls Try.prog 63 #[.slice A zs.length c, .func (.func g) #[] lb] w fun e w' => e = .returned (.bool (zs.any p)) ∧ ∃ q, w' = w.drewN q := by
  have hI := indexFunc_int p g lb eg A c zs w hr hp
  go_enter Try.func63, Try.ntmps63
  go_wp2_with (go_at_call 80; refine hI.mono ?_; rintro e w' ⟨⟨i, rfl, hi⟩, q, rfl⟩)
  go_ret
  exact ⟨by rw [← hi]; rfl, q, rfl⟩
set_option maxHeartbeats 2000000 in
theorem sorted_int (v : Value) (xs : List Int) (w0 w : World) (hx : xs.length < 4611686018427387904) (hS : w0.heap.size ≤ w.heap.size) (hrow : w.ownsRow w0.heap.size 3 1 v xs.length (xs.map (Value.int .i64))) (hB : Below w0.heap.size w0 w) :
    Calls Try.prog 91 #[v] w fun e w' => e = .returned (.tuple #[]) ∧ w'.ownsRow w0.heap.size 3 1 v xs.length ((sortI xs).map (Value.int .i64)) ∧ Below w0.heap.size w0 w' := by
  rcases hrow.2 with ⟨rfl, h0⟩ | ⟨g, cap, cur, rfl, hg, hb, hn, hcap, hsz, htk⟩
  · have hx : xs = [] := List.length_eq_zero_iff.1 h0
    subst hx
    refine (AnyM.slices_Sort_int_none lsort none 0 w).mono ?_
    rintro e w' ⟨rfl, rfl⟩
    exact ⟨rfl, hrow, hB⟩
  have hlt : g < w.heap.size := (Array.getElem?_eq_some_iff.1 hb).1
  refine (AnyM.slices_Sort_int lsort g 0 cap xs w (holds_of_blockI hb (by simpa using htk)) hlt hx).mono ?_
  rintro e w' ⟨rfl, n, os, rfl⟩
  rw [Zgr]
  refine ⟨rfl, ownsRow_sortedI (Zez xs) hg hb hn hcap hsz, ?_⟩
  exact hB.grown (grownBy_sortedI _) hS (fun k e => by cases e; exact hg)
set_option maxHeartbeats 1000000 in
theorem sorted_calls (g : Nat) (lb : Array Value) (eg : ∀ args w, (callFunc g args).run Try.prog w = .ok (.enter g args) w) (n0 : Nat) (S Sp : List Int → Prop) (N : Nat) (hN : N * 8 ≤ 140737488355328) (hSN : ∀ xs, S xs → xs.length ≤ N) (w0 w : World) (hw : Below w0.heap.size w0 w) (hn0 : n0 ≤ w.heap.size)
    (hseq : SeqStopsK Fence.wide 7 Try.prog g lb (fun x : Int => #[Value.int .i64 x]) (Kp n0) S Sp N w0) :
    Calls Try.prog 67 #[.func (.func g) #[] lb] w fun e w' => ∃ (v : Value) (xs : List Int), e = .returned v ∧ S xs ∧ w'.ownsRow w.heap.size 3 1 v xs.length ((sortI xs).map (Value.int .i64)) ∧ Below w.heap.size w w' := by
  have cB := callsIn_wide.1 (collect_in Fence.wide 9 trivial trivial rfl (by omega) g lb trivial eg n0 S Sp N hN w0 w hw hn0 hseq)
  go_enter Try.func67, Try.ntmps67
  go_wp2_with (first | (go_at_call 81; refine cB.mono ?_; rintro e w' ⟨v, xs, rfl, hS, hrow, hb⟩) | (go_at_call 91; refine (sorted_int v xs w w' (by have := hSN xs hS; omega) hb.size hrow hb).mono ?_; rintro e w'' ⟨rfl, hrow2, hb2⟩))
  go_ret
  exact ⟨v, xs, rfl, hS, hrow2, hb2⟩
end Go.Proofs.Ytpbcigilipdedaa.P
namespace Go.Proofs.Ytpbcigilipdedaa.P
open Go.RowKit Go.Proofs.YtpbcigilipdedaaW.PrintWords Go.Proofs.YtpbcigilipdedaaW.PrintLast Go.Proofs.YtpbcigilipdedaaW.PrintMore
attribute [local go_sem] Zcz Zc1 Zde Zdf Zct Zcu Zc0 Zc2
set_option linter.unusedVariables false
set_option linter.unusedSimpArgs false
def Zet.f (a0 : Int) : Option (Bool) := if a0 ≥ (-1048576) then (some (decide (a0 ≤ 1048576))) else (some false)
set_option maxHeartbeats 8000000 in
set_option maxRecDepth 100000 in
theorem Zet.calls (a0 : Int) (r : Bool) (w : World) (h : Zet.f a0 = some r) :
  Calls Try.prog 65 #[.int .i64 a0] w fun e w' => e = .returned (.bool r) ∧ Zbw w w' := by
 have H : (if a0 ≥ (-1048576) then (some (decide (a0 ≤ 1048576))) else (some false)) = some r := h
 clear h
 by_cases c2 : a0 ≥ (-1048576)
 ·rw [if_pos c2] at H
  have c2b0 : decide ((-1048576) ≤ a0) = true := decide_eq_true c2
  clear c2
  obtain rfl := Option.some.inj H
  go_enter Try.func65, Try.ntmps65
  go_wp2
  go_ret
  exact ⟨by first | rfl | (simp; done) | (simp [*]; done), by repeat (first | exact Zbw.refl _ | apply Zbw.step)⟩
 rw [if_neg c2] at H
 have c2b0 : decide ((-1048576) ≤ a0) = false := decide_eq_false c2
 clear c2
 obtain rfl := Option.some.inj H
 go_enter Try.func65, Try.ntmps65
 go_wp2
 go_ret
 exact ⟨by first | rfl | (simp; done) | (simp [*]; done), by repeat (first | exact Zbw.refl _ | apply Zbw.step)⟩
end Go.Proofs.Ytpbcigilipdedaa.P
/- Facts of a world, at a world that an alloc or a draw has moved: told by the class 'Mv', so that the texts stay short. -/
namespace Go.Proofs.Ytpbcigilipdedaa.P
open Go.RowKit Go.Proofs.YtpbcigilipdedaaW.PrintWords Go.Proofs.YtpbcigilipdedaaW.PrintLast Go.Proofs.YtpbcigilipdedaaW.PrintMore
class Mv (w w' : World) : Prop where
  out : Below w.heap.size w w'
instance (w : World) : Mv w w := ⟨Below.refl _ _⟩
instance (w w' : World) [h : Mv w w'] : Mv w w'.drew := ⟨Zam h.out (Zcl (Below.refl _ _))⟩
instance (w w' : World) (n : Nat) [h : Mv w w'] : Mv w (w'.drewN n) := ⟨Zam h.out (Za (Below.refl _ _) n)⟩
instance (w w' : World) (o : Obj) [h : Mv w w'] : Mv w (w'.alloc o) := ⟨Zam h.out (Zab (Below.refl _ _) o)⟩
section
variable {α : Type} {d : Kd α} {e base : Nat} {ok : Nat → Prop} {w w' W : World} {v : Value} {xs : List α}
theorem mvR [m : Mv w w'] (h : d.R e w base ok v xs) : d.R e w' base ok v xs := Kd.Zca h m.out
theorem mvS [m : Mv w w'] (h : Kd.S d e w base ok v xs) : Kd.S d e w' base ok v xs := Kd.Zdv h m.out
theorem mvN [m : Mv w w'] (h : Kd.N d e w base ok v xs) : Kd.N d e w' base ok v xs := Kd.Zdm h m.out
theorem mvC {A : Option Addr} {n : Nat} [m : Mv w w'] (h : d.C w A n xs) : d.C w' A n xs := Kd.Za8 h m.out
theorem mvB [m : Mv w w'] (h : Below W.heap.size W w) : Below W.heap.size W w' := Zam h m.out
theorem mvK {g : Nat} {o : Obj} [m : Mv w w'] (h : w.heap[g]? = some o) : w'.heap[g]? = some o := Zbe h m.out
theorem mvV [m : Mv w w'] (h : Kd.V d e w base ok v xs) : Kd.V d e w' base ok v xs := Kd.V_below h m.out
theorem fatR1 {g : Nat} {i0 : Nat} {u0 : Value} (hm : d.R e w base (fun k => ok k ∧ k ≠ g) v xs) : d.R e (w.setCell ⟨g, i0, none⟩ u0) base ok v xs := Kd.Zbm (Kd.Zb5 (p := ⟨g, i0, none⟩) hm (fun _ hk => hk.2) u0) (fun _ h => h.1)
theorem farR1 {g : Nat} {i0 : Nat} {u0 : Value} (h : d.R e w base ok v xs) (hok : ∀ k, ok k → k ≠ g) : d.R e (w.setCell ⟨g, i0, none⟩ u0) base ok v xs := fatR1 (Kd.Zbm h fun k hk => ⟨hk, hok k hk⟩)
theorem fatR2 {g : Nat} {i0 i1 : Nat} {u0 u1 : Value} (hm : d.R e w base (fun k => ok k ∧ k ≠ g) v xs) : d.R e ((w.setCell ⟨g, i0, none⟩ u0).setCell ⟨g, i1, none⟩ u1) base ok v xs := Kd.Zbm (Kd.Zb5 (p := ⟨g, i1, none⟩) (Kd.Zb5 (p := ⟨g, i0, none⟩) hm (fun _ hk => hk.2) u0) (fun _ hk => hk.2) u1) (fun _ h => h.1)
theorem farR2 {g : Nat} {i0 i1 : Nat} {u0 u1 : Value} (h : d.R e w base ok v xs) (hok : ∀ k, ok k → k ≠ g) : d.R e ((w.setCell ⟨g, i0, none⟩ u0).setCell ⟨g, i1, none⟩ u1) base ok v xs := fatR2 (Kd.Zbm h fun k hk => ⟨hk, hok k hk⟩)
theorem Zfg {g : Nat} {i0 i1 i2 i3 i4 i5 i6 : Nat} {u0 u1 u2 u3 u4 u5 u6 : Value} (hm : d.R e w base (fun k => ok k ∧ k ≠ g) v xs) : d.R e (((((((w.setCell ⟨g, i0, none⟩ u0).setCell ⟨g, i1, none⟩ u1).setCell ⟨g, i2, none⟩ u2).setCell ⟨g, i3, none⟩ u3).setCell ⟨g, i4, none⟩ u4).setCell ⟨g, i5, none⟩ u5).setCell ⟨g, i6, none⟩ u6) base ok v xs := Kd.Zbm (Kd.Zb5 (p := ⟨g, i6, none⟩) (Kd.Zb5 (p := ⟨g, i5, none⟩) (Kd.Zb5 (p := ⟨g, i4, none⟩) (Kd.Zb5 (p := ⟨g, i3, none⟩) (Kd.Zb5 (p := ⟨g, i2, none⟩) (Kd.Zb5 (p := ⟨g, i1, none⟩) (Kd.Zb5 (p := ⟨g, i0, none⟩) hm (fun _ hk => hk.2) u0) (fun _ hk => hk.2) u1) (fun _ hk => hk.2) u2) (fun _ hk => hk.2) u3) (fun _ hk => hk.2) u4) (fun _ hk => hk.2) u5) (fun _ hk => hk.2) u6) (fun _ h => h.1)
theorem farR7 {g : Nat} {i0 i1 i2 i3 i4 i5 i6 : Nat} {u0 u1 u2 u3 u4 u5 u6 : Value} (h : d.R e w base ok v xs) (hok : ∀ k, ok k → k ≠ g) : d.R e (((((((w.setCell ⟨g, i0, none⟩ u0).setCell ⟨g, i1, none⟩ u1).setCell ⟨g, i2, none⟩ u2).setCell ⟨g, i3, none⟩ u3).setCell ⟨g, i4, none⟩ u4).setCell ⟨g, i5, none⟩ u5).setCell ⟨g, i6, none⟩ u6) base ok v xs := Zfg (Kd.Zbm h fun k hk => ⟨hk, hok k hk⟩)
theorem fatR8 {g : Nat} {i0 i1 i2 i3 i4 i5 i6 i7 : Nat} {u0 u1 u2 u3 u4 u5 u6 u7 : Value} (hm : d.R e w base (fun k => ok k ∧ k ≠ g) v xs) : d.R e ((((((((w.setCell ⟨g, i0, none⟩ u0).setCell ⟨g, i1, none⟩ u1).setCell ⟨g, i2, none⟩ u2).setCell ⟨g, i3, none⟩ u3).setCell ⟨g, i4, none⟩ u4).setCell ⟨g, i5, none⟩ u5).setCell ⟨g, i6, none⟩ u6).setCell ⟨g, i7, none⟩ u7) base ok v xs := Kd.Zbm (Kd.Zb5 (p := ⟨g, i7, none⟩) (Kd.Zb5 (p := ⟨g, i6, none⟩) (Kd.Zb5 (p := ⟨g, i5, none⟩) (Kd.Zb5 (p := ⟨g, i4, none⟩) (Kd.Zb5 (p := ⟨g, i3, none⟩) (Kd.Zb5 (p := ⟨g, i2, none⟩) (Kd.Zb5 (p := ⟨g, i1, none⟩) (Kd.Zb5 (p := ⟨g, i0, none⟩) hm (fun _ hk => hk.2) u0) (fun _ hk => hk.2) u1) (fun _ hk => hk.2) u2) (fun _ hk => hk.2) u3) (fun _ hk => hk.2) u4) (fun _ hk => hk.2) u5) (fun _ hk => hk.2) u6) (fun _ hk => hk.2) u7) (fun _ h => h.1)
theorem farR8 {g : Nat} {i0 i1 i2 i3 i4 i5 i6 i7 : Nat} {u0 u1 u2 u3 u4 u5 u6 u7 : Value} (h : d.R e w base ok v xs) (hok : ∀ k, ok k → k ≠ g) : d.R e ((((((((w.setCell ⟨g, i0, none⟩ u0).setCell ⟨g, i1, none⟩ u1).setCell ⟨g, i2, none⟩ u2).setCell ⟨g, i3, none⟩ u3).setCell ⟨g, i4, none⟩ u4).setCell ⟨g, i5, none⟩ u5).setCell ⟨g, i6, none⟩ u6).setCell ⟨g, i7, none⟩ u7) base ok v xs := fatR8 (Kd.Zbm h fun k hk => ⟨hk, hok k hk⟩)
theorem fatS1 {g : Nat} {i0 : Nat} {u0 : Value} (hm : Kd.S d e w base (fun k => ok k ∧ k ≠ g) v xs) : Kd.S d e (w.setCell ⟨g, i0, none⟩ u0) base ok v xs := Kd.Zc5 (Kd.Zcc (p := ⟨g, i0, none⟩) hm (fun _ hk => hk.2) u0) (fun _ h => h.1)
theorem farS1 {g : Nat} {i0 : Nat} {u0 : Value} (h : Kd.S d e w base ok v xs) (hok : ∀ k, ok k → k ≠ g) : Kd.S d e (w.setCell ⟨g, i0, none⟩ u0) base ok v xs := fatS1 (Kd.Zc5 h fun k hk => ⟨hk, hok k hk⟩)
theorem fatS2 {g : Nat} {i0 i1 : Nat} {u0 u1 : Value} (hm : Kd.S d e w base (fun k => ok k ∧ k ≠ g) v xs) : Kd.S d e ((w.setCell ⟨g, i0, none⟩ u0).setCell ⟨g, i1, none⟩ u1) base ok v xs := Kd.Zc5 (Kd.Zcc (p := ⟨g, i1, none⟩) (Kd.Zcc (p := ⟨g, i0, none⟩) hm (fun _ hk => hk.2) u0) (fun _ hk => hk.2) u1) (fun _ h => h.1)
theorem farS2 {g : Nat} {i0 i1 : Nat} {u0 u1 : Value} (h : Kd.S d e w base ok v xs) (hok : ∀ k, ok k → k ≠ g) : Kd.S d e ((w.setCell ⟨g, i0, none⟩ u0).setCell ⟨g, i1, none⟩ u1) base ok v xs := fatS2 (Kd.Zc5 h fun k hk => ⟨hk, hok k hk⟩)
theorem fatS7 {g : Nat} {i0 i1 i2 i3 i4 i5 i6 : Nat} {u0 u1 u2 u3 u4 u5 u6 : Value} (hm : Kd.S d e w base (fun k => ok k ∧ k ≠ g) v xs) : Kd.S d e (((((((w.setCell ⟨g, i0, none⟩ u0).setCell ⟨g, i1, none⟩ u1).setCell ⟨g, i2, none⟩ u2).setCell ⟨g, i3, none⟩ u3).setCell ⟨g, i4, none⟩ u4).setCell ⟨g, i5, none⟩ u5).setCell ⟨g, i6, none⟩ u6) base ok v xs := Kd.Zc5 (Kd.Zcc (p := ⟨g, i6, none⟩) (Kd.Zcc (p := ⟨g, i5, none⟩) (Kd.Zcc (p := ⟨g, i4, none⟩) (Kd.Zcc (p := ⟨g, i3, none⟩) (Kd.Zcc (p := ⟨g, i2, none⟩) (Kd.Zcc (p := ⟨g, i1, none⟩) (Kd.Zcc (p := ⟨g, i0, none⟩) hm (fun _ hk => hk.2) u0) (fun _ hk => hk.2) u1) (fun _ hk => hk.2) u2) (fun _ hk => hk.2) u3) (fun _ hk => hk.2) u4) (fun _ hk => hk.2) u5) (fun _ hk => hk.2) u6) (fun _ h => h.1)
theorem farS7 {g : Nat} {i0 i1 i2 i3 i4 i5 i6 : Nat} {u0 u1 u2 u3 u4 u5 u6 : Value} (h : Kd.S d e w base ok v xs) (hok : ∀ k, ok k → k ≠ g) : Kd.S d e (((((((w.setCell ⟨g, i0, none⟩ u0).setCell ⟨g, i1, none⟩ u1).setCell ⟨g, i2, none⟩ u2).setCell ⟨g, i3, none⟩ u3).setCell ⟨g, i4, none⟩ u4).setCell ⟨g, i5, none⟩ u5).setCell ⟨g, i6, none⟩ u6) base ok v xs := fatS7 (Kd.Zc5 h fun k hk => ⟨hk, hok k hk⟩)
theorem fatS8 {g : Nat} {i0 i1 i2 i3 i4 i5 i6 i7 : Nat} {u0 u1 u2 u3 u4 u5 u6 u7 : Value} (hm : Kd.S d e w base (fun k => ok k ∧ k ≠ g) v xs) : Kd.S d e ((((((((w.setCell ⟨g, i0, none⟩ u0).setCell ⟨g, i1, none⟩ u1).setCell ⟨g, i2, none⟩ u2).setCell ⟨g, i3, none⟩ u3).setCell ⟨g, i4, none⟩ u4).setCell ⟨g, i5, none⟩ u5).setCell ⟨g, i6, none⟩ u6).setCell ⟨g, i7, none⟩ u7) base ok v xs := Kd.Zc5 (Kd.Zcc (p := ⟨g, i7, none⟩) (Kd.Zcc (p := ⟨g, i6, none⟩) (Kd.Zcc (p := ⟨g, i5, none⟩) (Kd.Zcc (p := ⟨g, i4, none⟩) (Kd.Zcc (p := ⟨g, i3, none⟩) (Kd.Zcc (p := ⟨g, i2, none⟩) (Kd.Zcc (p := ⟨g, i1, none⟩) (Kd.Zcc (p := ⟨g, i0, none⟩) hm (fun _ hk => hk.2) u0) (fun _ hk => hk.2) u1) (fun _ hk => hk.2) u2) (fun _ hk => hk.2) u3) (fun _ hk => hk.2) u4) (fun _ hk => hk.2) u5) (fun _ hk => hk.2) u6) (fun _ hk => hk.2) u7) (fun _ h => h.1)
theorem farS8 {g : Nat} {i0 i1 i2 i3 i4 i5 i6 i7 : Nat} {u0 u1 u2 u3 u4 u5 u6 u7 : Value} (h : Kd.S d e w base ok v xs) (hok : ∀ k, ok k → k ≠ g) : Kd.S d e ((((((((w.setCell ⟨g, i0, none⟩ u0).setCell ⟨g, i1, none⟩ u1).setCell ⟨g, i2, none⟩ u2).setCell ⟨g, i3, none⟩ u3).setCell ⟨g, i4, none⟩ u4).setCell ⟨g, i5, none⟩ u5).setCell ⟨g, i6, none⟩ u6).setCell ⟨g, i7, none⟩ u7) base ok v xs := fatS8 (Kd.Zc5 h fun k hk => ⟨hk, hok k hk⟩)
theorem fatN1 {g : Nat} {i0 : Nat} {u0 : Value} (hm : Kd.N d e w base (fun k => ok k ∧ k ≠ g) v xs) : Kd.N d e (w.setCell ⟨g, i0, none⟩ u0) base ok v xs := Kd.Zdc (Kd.Zen (p := ⟨g, i0, none⟩) hm (fun _ hk => hk.2) u0) (fun _ h => h.1)
theorem Zga {g : Nat} {i0 : Nat} {u0 : Value} (h : Kd.N d e w base ok v xs) (hok : ∀ k, ok k → k ≠ g) : Kd.N d e (w.setCell ⟨g, i0, none⟩ u0) base ok v xs := fatN1 (Kd.Zdc h fun k hk => ⟨hk, hok k hk⟩)
theorem fatN2 {g : Nat} {i0 i1 : Nat} {u0 u1 : Value} (hm : Kd.N d e w base (fun k => ok k ∧ k ≠ g) v xs) : Kd.N d e ((w.setCell ⟨g, i0, none⟩ u0).setCell ⟨g, i1, none⟩ u1) base ok v xs := Kd.Zdc (Kd.Zen (p := ⟨g, i1, none⟩) (Kd.Zen (p := ⟨g, i0, none⟩) hm (fun _ hk => hk.2) u0) (fun _ hk => hk.2) u1) (fun _ h => h.1)
theorem farN2 {g : Nat} {i0 i1 : Nat} {u0 u1 : Value} (h : Kd.N d e w base ok v xs) (hok : ∀ k, ok k → k ≠ g) : Kd.N d e ((w.setCell ⟨g, i0, none⟩ u0).setCell ⟨g, i1, none⟩ u1) base ok v xs := fatN2 (Kd.Zdc h fun k hk => ⟨hk, hok k hk⟩)
theorem fatN7 {g : Nat} {i0 i1 i2 i3 i4 i5 i6 : Nat} {u0 u1 u2 u3 u4 u5 u6 : Value} (hm : Kd.N d e w base (fun k => ok k ∧ k ≠ g) v xs) : Kd.N d e (((((((w.setCell ⟨g, i0, none⟩ u0).setCell ⟨g, i1, none⟩ u1).setCell ⟨g, i2, none⟩ u2).setCell ⟨g, i3, none⟩ u3).setCell ⟨g, i4, none⟩ u4).setCell ⟨g, i5, none⟩ u5).setCell ⟨g, i6, none⟩ u6) base ok v xs := Kd.Zdc (Kd.Zen (p := ⟨g, i6, none⟩) (Kd.Zen (p := ⟨g, i5, none⟩) (Kd.Zen (p := ⟨g, i4, none⟩) (Kd.Zen (p := ⟨g, i3, none⟩) (Kd.Zen (p := ⟨g, i2, none⟩) (Kd.Zen (p := ⟨g, i1, none⟩) (Kd.Zen (p := ⟨g, i0, none⟩) hm (fun _ hk => hk.2) u0) (fun _ hk => hk.2) u1) (fun _ hk => hk.2) u2) (fun _ hk => hk.2) u3) (fun _ hk => hk.2) u4) (fun _ hk => hk.2) u5) (fun _ hk => hk.2) u6) (fun _ h => h.1)
theorem Zfx {g : Nat} {i0 i1 i2 i3 i4 i5 i6 : Nat} {u0 u1 u2 u3 u4 u5 u6 : Value} (h : Kd.N d e w base ok v xs) (hok : ∀ k, ok k → k ≠ g) : Kd.N d e (((((((w.setCell ⟨g, i0, none⟩ u0).setCell ⟨g, i1, none⟩ u1).setCell ⟨g, i2, none⟩ u2).setCell ⟨g, i3, none⟩ u3).setCell ⟨g, i4, none⟩ u4).setCell ⟨g, i5, none⟩ u5).setCell ⟨g, i6, none⟩ u6) base ok v xs := fatN7 (Kd.Zdc h fun k hk => ⟨hk, hok k hk⟩)
theorem fatN8 {g : Nat} {i0 i1 i2 i3 i4 i5 i6 i7 : Nat} {u0 u1 u2 u3 u4 u5 u6 u7 : Value} (hm : Kd.N d e w base (fun k => ok k ∧ k ≠ g) v xs) : Kd.N d e ((((((((w.setCell ⟨g, i0, none⟩ u0).setCell ⟨g, i1, none⟩ u1).setCell ⟨g, i2, none⟩ u2).setCell ⟨g, i3, none⟩ u3).setCell ⟨g, i4, none⟩ u4).setCell ⟨g, i5, none⟩ u5).setCell ⟨g, i6, none⟩ u6).setCell ⟨g, i7, none⟩ u7) base ok v xs := Kd.Zdc (Kd.Zen (p := ⟨g, i7, none⟩) (Kd.Zen (p := ⟨g, i6, none⟩) (Kd.Zen (p := ⟨g, i5, none⟩) (Kd.Zen (p := ⟨g, i4, none⟩) (Kd.Zen (p := ⟨g, i3, none⟩) (Kd.Zen (p := ⟨g, i2, none⟩) (Kd.Zen (p := ⟨g, i1, none⟩) (Kd.Zen (p := ⟨g, i0, none⟩) hm (fun _ hk => hk.2) u0) (fun _ hk => hk.2) u1) (fun _ hk => hk.2) u2) (fun _ hk => hk.2) u3) (fun _ hk => hk.2) u4) (fun _ hk => hk.2) u5) (fun _ hk => hk.2) u6) (fun _ hk => hk.2) u7) (fun _ h => h.1)
theorem farN8 {g : Nat} {i0 i1 i2 i3 i4 i5 i6 i7 : Nat} {u0 u1 u2 u3 u4 u5 u6 u7 : Value} (h : Kd.N d e w base ok v xs) (hok : ∀ k, ok k → k ≠ g) : Kd.N d e ((((((((w.setCell ⟨g, i0, none⟩ u0).setCell ⟨g, i1, none⟩ u1).setCell ⟨g, i2, none⟩ u2).setCell ⟨g, i3, none⟩ u3).setCell ⟨g, i4, none⟩ u4).setCell ⟨g, i5, none⟩ u5).setCell ⟨g, i6, none⟩ u6).setCell ⟨g, i7, none⟩ u7) base ok v xs := fatN8 (Kd.Zdc h fun k hk => ⟨hk, hok k hk⟩)
theorem fatV1 {g : Nat} {i0 : Nat} {u0 : Value} (hm : Kd.V d e w base (fun k => ok k ∧ k ≠ g) v xs) : Kd.V d e (w.setCell ⟨g, i0, none⟩ u0) base ok v xs := Kd.Zd1 (Kd.Zeo (p := ⟨g, i0, none⟩) hm (fun _ hk => hk.2) u0) (fun _ h => h.1)
theorem farV1 {g : Nat} {i0 : Nat} {u0 : Value} (h : Kd.V d e w base ok v xs) (hok : ∀ k, ok k → k ≠ g) : Kd.V d e (w.setCell ⟨g, i0, none⟩ u0) base ok v xs := fatV1 (Kd.Zd1 h fun k hk => ⟨hk, hok k hk⟩)
theorem fatV2 {g : Nat} {i0 i1 : Nat} {u0 u1 : Value} (hm : Kd.V d e w base (fun k => ok k ∧ k ≠ g) v xs) : Kd.V d e ((w.setCell ⟨g, i0, none⟩ u0).setCell ⟨g, i1, none⟩ u1) base ok v xs := Kd.Zd1 (Kd.Zeo (p := ⟨g, i1, none⟩) (Kd.Zeo (p := ⟨g, i0, none⟩) hm (fun _ hk => hk.2) u0) (fun _ hk => hk.2) u1) (fun _ h => h.1)
theorem farV2 {g : Nat} {i0 i1 : Nat} {u0 u1 : Value} (h : Kd.V d e w base ok v xs) (hok : ∀ k, ok k → k ≠ g) : Kd.V d e ((w.setCell ⟨g, i0, none⟩ u0).setCell ⟨g, i1, none⟩ u1) base ok v xs := fatV2 (Kd.Zd1 h fun k hk => ⟨hk, hok k hk⟩)
theorem fatV7 {g : Nat} {i0 i1 i2 i3 i4 i5 i6 : Nat} {u0 u1 u2 u3 u4 u5 u6 : Value} (hm : Kd.V d e w base (fun k => ok k ∧ k ≠ g) v xs) : Kd.V d e (((((((w.setCell ⟨g, i0, none⟩ u0).setCell ⟨g, i1, none⟩ u1).setCell ⟨g, i2, none⟩ u2).setCell ⟨g, i3, none⟩ u3).setCell ⟨g, i4, none⟩ u4).setCell ⟨g, i5, none⟩ u5).setCell ⟨g, i6, none⟩ u6) base ok v xs := Kd.Zd1 (Kd.Zeo (p := ⟨g, i6, none⟩) (Kd.Zeo (p := ⟨g, i5, none⟩) (Kd.Zeo (p := ⟨g, i4, none⟩) (Kd.Zeo (p := ⟨g, i3, none⟩) (Kd.Zeo (p := ⟨g, i2, none⟩) (Kd.Zeo (p := ⟨g, i1, none⟩) (Kd.Zeo (p := ⟨g, i0, none⟩) hm (fun _ hk => hk.2) u0) (fun _ hk => hk.2) u1) (fun _ hk => hk.2) u2) (fun _ hk => hk.2) u3) (fun _ hk => hk.2) u4) (fun _ hk => hk.2) u5) (fun _ hk => hk.2) u6) (fun _ h => h.1)
theorem farV7 {g : Nat} {i0 i1 i2 i3 i4 i5 i6 : Nat} {u0 u1 u2 u3 u4 u5 u6 : Value} (h : Kd.V d e w base ok v xs) (hok : ∀ k, ok k → k ≠ g) : Kd.V d e (((((((w.setCell ⟨g, i0, none⟩ u0).setCell ⟨g, i1, none⟩ u1).setCell ⟨g, i2, none⟩ u2).setCell ⟨g, i3, none⟩ u3).setCell ⟨g, i4, none⟩ u4).setCell ⟨g, i5, none⟩ u5).setCell ⟨g, i6, none⟩ u6) base ok v xs := fatV7 (Kd.Zd1 h fun k hk => ⟨hk, hok k hk⟩)
theorem fatV8 {g : Nat} {i0 i1 i2 i3 i4 i5 i6 i7 : Nat} {u0 u1 u2 u3 u4 u5 u6 u7 : Value} (hm : Kd.V d e w base (fun k => ok k ∧ k ≠ g) v xs) : Kd.V d e ((((((((w.setCell ⟨g, i0, none⟩ u0).setCell ⟨g, i1, none⟩ u1).setCell ⟨g, i2, none⟩ u2).setCell ⟨g, i3, none⟩ u3).setCell ⟨g, i4, none⟩ u4).setCell ⟨g, i5, none⟩ u5).setCell ⟨g, i6, none⟩ u6).setCell ⟨g, i7, none⟩ u7) base ok v xs := Kd.Zd1 (Kd.Zeo (p := ⟨g, i7, none⟩) (Kd.Zeo (p := ⟨g, i6, none⟩) (Kd.Zeo (p := ⟨g, i5, none⟩) (Kd.Zeo (p := ⟨g, i4, none⟩) (Kd.Zeo (p := ⟨g, i3, none⟩) (Kd.Zeo (p := ⟨g, i2, none⟩) (Kd.Zeo (p := ⟨g, i1, none⟩) (Kd.Zeo (p := ⟨g, i0, none⟩) hm (fun _ hk => hk.2) u0) (fun _ hk => hk.2) u1) (fun _ hk => hk.2) u2) (fun _ hk => hk.2) u3) (fun _ hk => hk.2) u4) (fun _ hk => hk.2) u5) (fun _ hk => hk.2) u6) (fun _ hk => hk.2) u7) (fun _ h => h.1)
theorem farV8 {g : Nat} {i0 i1 i2 i3 i4 i5 i6 i7 : Nat} {u0 u1 u2 u3 u4 u5 u6 u7 : Value} (h : Kd.V d e w base ok v xs) (hok : ∀ k, ok k → k ≠ g) : Kd.V d e ((((((((w.setCell ⟨g, i0, none⟩ u0).setCell ⟨g, i1, none⟩ u1).setCell ⟨g, i2, none⟩ u2).setCell ⟨g, i3, none⟩ u3).setCell ⟨g, i4, none⟩ u4).setCell ⟨g, i5, none⟩ u5).setCell ⟨g, i6, none⟩ u6).setCell ⟨g, i7, none⟩ u7) base ok v xs := fatV8 (Kd.Zd1 h fun k hk => ⟨hk, hok k hk⟩)
end
theorem withB {P : Program} {n m : Nat} {args : Array Value} {W w0 : World} {Q : Ending → World → Prop} (h : Below m w0 W) (k : Below m w0 W → Calls P n args W Q) : Calls P n args W Q := k h
end Go.Proofs.Ytpbcigilipdedaa.P
namespace Go.Proofs.Ytpbcigilipdedaa.P
open Go.RowKit Go.Proofs.YtpbcigilipdedaaW.PrintWords Go.Proofs.YtpbcigilipdedaaW.PrintLast Go.Proofs.YtpbcigilipdedaaW.PrintMore
attribute [local go_sem] Zcz Zc1 Zde Zdf Zct Zcu Zc0 Zc2
set_option linter.unusedVariables false
set_option linter.unusedSimpArgs false
mutual
def Zbj.l0 : Nat → List (S41) → List Int → Int → Int → Option ((List (S41)))
 | 0, _, _, _, _ => none
 | k + 1, x3, x7, x8, x9 => if x9 < x8 then (if 0 ≤ x9 then (if x9 < (x7.length : Int) then (if (x3.length : Int) > 0 then (if 0 ≤ (wrap64 ((x3.length : Int) - 1)) then (if (wrap64 ((x3.length : Int) - 1)) < (x3.length : Int) then (Zbj.j1 k x3 (rd x7 x9) (x3.length : Int) x7 x8 x9 (decide (((Zaw x3 (wrap64 ((x3.length : Int) - 1))).f1) ≥ (rd x7 x9)))) else (none)) else (none)) else (Zbj.j1 k x3 (rd x7 x9) (x3.length : Int) x7 x8 x9 false)) else (none)) else (none)) else (some x3)
def Zbj.j1 : Nat → List (S41) → Int → Int → List Int → Int → Int → Bool → Option ((List (S41)))
 | 0, _, _, _, _, _, _, _ => none
 | k + 1, x3, x5, x6, x7, x8, x9, x21 => if x21 = true then (Zbj.l0 k x3 x7 x8 (wrap64 (x9 + 1))) else (if x6 > 0 then (if 0 ≤ (wrap64 (x6 - 1)) then (if (wrap64 (x6 - 1)) < (x3.length : Int) then (if ((Zaw x3 (wrap64 (x6 - 1))).f1) = (wrap64 (x5 - 1)) then (Zbj.l0 k (x3.set ((wrap64 (x6 - 1)) : Int).toNat (⟨(Zaw x3 (wrap64 (x6 - 1))).f0, x5⟩ : S41)) x7 x8 (wrap64 (x9 + 1))) else (if x3.length < 8796093022208 then (Zbj.l0 k (x3 ++ [(⟨x5, x5⟩ : S41)]) x7 x8 (wrap64 (x9 + 1))) else (none))) else (none)) else (none)) else (if x3.length < 8796093022208 then (Zbj.l0 k (x3 ++ [(⟨x5, x5⟩ : S41)]) x7 x8 (wrap64 (x9 + 1))) else (none)))
end
def Zbj.f (k : Nat) (l0 : List Int) : Option ((List (S41))) := Zbj.l0 k ([] : List (S41)) l0 (l0.length : Int) 0
theorem Zbj.Zb4 : ∀ k, (∀ y0 y1 y2 y3, LeO (Zbj.l0 k y0 y1 y2 y3) (Zbj.l0 (k + 1) y0 y1 y2 y3)) ∧ (∀ y0 y1 y2 y3 y4 y5 y6, LeO (Zbj.j1 k y0 y1 y2 y3 y4 y5 y6) (Zbj.j1 (k + 1) y0 y1 y2 y3 y4 y5 y6))
 | 0 => ⟨fun _ _ _ _ r h => by simp [Zbj.l0] at h, fun _ _ _ _ _ _ _ r h => by simp [Zbj.j1] at h⟩
 | k + 1 => by
  obtain ⟨ih0, ih1⟩ := Zbj.Zb4 k
  refine ⟨?_, ?_⟩
  ·intro y0 y1 y2 y3
   unfold Zbj.l0
   repeat' first
   | (with_reducible exact ih0 _ _ _ _)
   | (with_reducible exact ih1 _ _ _ _ _ _ _)
   | (with_reducible exact LeO.refl _)
   | (with_reducible exact LeO.none _)
   | (with_reducible refine LeO.ite ?_ ?_)
   | (with_reducible refine LeO.bind ?_ (fun _ => ?_))
   | exact ih0 _ _ _ _
   | exact ih1 _ _ _ _ _ _ _
   | exact LeO.none _
   | refine LeO.ite ?_ ?_
   | refine LeO.bind ?_ (fun _ => ?_)
  intro y0 y1 y2 y3 y4 y5 y6
  unfold Zbj.j1
  repeat' first
  | (with_reducible exact ih0 _ _ _ _)
  | (with_reducible exact ih1 _ _ _ _ _ _ _)
  | (with_reducible exact LeO.refl _)
  | (with_reducible exact LeO.none _)
  | (with_reducible refine LeO.ite ?_ ?_)
  | (with_reducible refine LeO.bind ?_ (fun _ => ?_))
  | exact ih0 _ _ _ _
  | exact ih1 _ _ _ _ _ _ _
  | exact LeO.none _
  | refine LeO.ite ?_ ?_
  | refine LeO.bind ?_ (fun _ => ?_)
theorem Zbj.mono : ∀ a0 k, LeO (Zbj.f k a0) (Zbj.f (k + 1) a0) := by
 intro a0 k
 obtain ⟨ih0, ih1⟩ := Zbj.Zb4 k
 unfold Zbj.f
 repeat' first
   | (with_reducible exact ih0 _ _ _ _)
   | (with_reducible exact ih1 _ _ _ _ _ _ _)
   | (with_reducible exact LeO.refl _)
   | (with_reducible exact LeO.none _)
   | (with_reducible refine LeO.ite ?_ ?_)
   | (with_reducible refine LeO.bind ?_ (fun _ => ?_))
   | exact ih0 _ _ _ _
   | exact ih1 _ _ _ _ _ _ _
   | exact LeO.none _
   | refine LeO.ite ?_ ?_
   | refine LeO.bind ?_ (fun _ => ?_)
set_option maxHeartbeats 8000000 in
set_option maxRecDepth 100000 in
theorem Zbj.calls (k : Nat) (A0 : Option Addr) (c0 : Nat) (l0 : List Int) (r : List (S41)) (w : World) (hr0 : Kd.C (Kd.int .i64) w A0 l0.length l0) (hc0 : l0.length ≤ c0) (h : Zbj.f k l0 = some r) :
  Calls Try.prog 66 #[.slice A0 l0.length c0] w fun e w' => ∃ v0_ : Value, e = .returned (v0_) ∧ Kd.R k41 41 w' w.heap.size (fun _ => True) v0_ r ∧ Below w.heap.size w w' := by
 have hu41 := Try.underlying41
 have HR0 := Zaa.mk hr0
 have HC0 := Zaa.mk hc0
 clear hr0 hc0
 have HB := Zaa.mk (Below.refl w.heap.size w)
 have H : (Zbj.l0 k ([] : List (S41)) l0 (l0.length : Int) 0) = some r := h
 clear h
 have H' := Zaa.mk H
 clear H
 go_enter Try.func66, Try.ntmps66
 go_wp2
 go_loopg [3, 9] k (fun kq v3 v9 w' => ∃ (x3_1 : List (S41)) (x9_1 : Int), v9 = .int .i64 x9_1 ∧ Zaa (Zbj.l0 kq x3_1 l0 (l0.length : Int) x9_1 = some r) ∧ Zaa (kq ≤ k) ∧ Zaa (Kd.R k41 41 w' w.heap.size (fun _ => True) v3 x3_1) ∧ Zaa (Below w.heap.size w w'))
 case atStart => exact ⟨(([] : List (S41))), (0), (by first | rfl | (simp; done) | (simp [*]; done)), H', ⟨Nat.le_refl _⟩, ⟨by first | exact Kd.Zgh _ _ _ _ _ | exact Kd.N_nil _ _ _ _ _ | exact Kd.V_nil _ _ _ _ _ | exact Kd.Q_nil _ _ _ _ _ | exact Kd.S_nil _ _ _ _ _⟩, ⟨by repeat (first | (with_reducible first | exact HB.out | apply Zab | apply Za | apply Zac) | exact HB.out)⟩⟩
 case round =>
  clear H'
  obtain ⟨x3_1, x9_1, rfl, HA, HK1, HO_3, HB⟩ := hrel
  cases gk with
  | zero => exact absurd HA.out (by simp [Zbj.l0])
  | succ k1 =>
   have H := HA.out
   clear HA
   simp only [Zbj.l0] at H
   by_cases c2 : x9_1 < (l0.length : Int)
   rotate_left
   ·rw [if_neg c2] at H
    have c2b0 : decide (x9_1 < (l0.length : Int)) = false := decide_eq_false c2
    clear c2
    obtain rfl := Option.some.inj H
    go_wp2
    go_ret
    exact ⟨_, by first | rfl | (simp [Za1, Za2] <;> rfl) | (simp [*, Za1, Za2] <;> rfl), by (with_reducible repeat (first | apply Kd.Za6 | apply Kd.Za5 | apply Kd.Zbb)); exact HO_3.out, by repeat (first | (with_reducible first | exact HB.out | apply Zab | apply Za | apply Zac) | exact HB.out)⟩
   rw [if_pos c2] at H
   have c2b0 : decide (x9_1 < (l0.length : Int)) = true := decide_eq_true c2
   clear c2
   by_cases c3 : 0 ≤ x9_1
   rotate_left
   ·rw [if_neg c3] at H
    exact absurd H (by simp)
   rw [if_pos c3] at H
   have c3b0 : decide (0 ≤ x9_1) = true := decide_eq_true c3
   clear c3
   by_cases c4 : x9_1 < (l0.length : Int)
   rotate_left
   ·rw [if_neg c4] at H
    exact absurd H (by simp)
   rw [if_pos c4] at H
   have c4b0 : decide (x9_1 < (l0.length : Int)) = true := decide_eq_true c4
   clear c4
   have HC5 := Zaa.mk H
   clear H
   have p312 : 0 ≤ (x9_1 : Int) := of_decide_eq_true (by first | (with_reducible assumption) | assumption)
   have q312 : x9_1 < (l0.length : Int) := of_decide_eq_true (by first | (with_reducible assumption) | assumption)
   obtain ⟨ad312, e312, hx312_0⟩ := Kd.Zbx HR0.out x9_1 p312 q312
   cases e312
   replace hx312_0 := (HB.out.cell (World.block_lt_of_cell? w _ hx312_0)).trans hx312_0
   replace p312 := eq_true p312
   replace q312 := eq_true q312
   obtain ⟨Ao6, co6, eo6⟩ := Kd.Zbn HO_3.out
   subst eo6
   go_upto_region 7 with (fail)
   go_cut [21] (fun v21 wc => ∃ (kq : Nat) (x21_4 : Bool), v21 = .bool x21_4 ∧ Zaa (Zbj.j1 kq x3_1 (rd l0 x9_1) (x3_1.length : Int) l0 (l0.length : Int) x9_1 x21_4 = some r) ∧ Zaa (kq ≤ k1) ∧ Zaa (Kd.R k41 41 wc w.heap.size (fun _ => True) (.slice Ao6 x3_1.length co6) x3_1) ∧ Zaa (Below w.heap.size w wc))
   case first =>
    have H := HC5.out
    clear HC5
    by_cases c7 : (x3_1.length : Int) > 0
    rotate_left
    ·rw [if_neg c7] at H
     have c7b0 : decide (0 < (x3_1.length : Int)) = false := decide_eq_false c7
     have c7b1 : decide (0 < x3_1.length) = false := decide_eq_false (by omega)
     clear c7
     (first | rw [c7b0] | (simp only [Zbh, Zbi]; rw [c7b0]) | skip)
     have H' := Zaa.mk H
     clear H
     go_wp2
     go_meet
     case rel => exact ⟨_, (false), (by first | rfl | (simp; done) | (simp [*]; done)), H', ⟨by have := HK1.out; first | omega | exact Nat.le_refl _⟩, ⟨by (with_reducible repeat (first | apply Kd.Za6 | apply Kd.Za5 | apply Kd.Zbb)); exact HO_3.out⟩, ⟨by repeat (first | (with_reducible first | exact HB.out | apply Zab | apply Za | apply Zac) | exact HB.out)⟩⟩
    rw [if_pos c7] at H
    have c7b0 : decide (0 < (x3_1.length : Int)) = true := decide_eq_true c7
    have c7b1 : decide (0 < x3_1.length) = true := decide_eq_true (by omega)
    clear c7
    (first | rw [c7b0] | (simp only [Zbh, Zbi]; rw [c7b0]) | skip)
    obtain ⟨ji8, hji8⟩ : ∃ j_ : Int, (wrap64 ((x3_1.length : Int) - 1)) = j_ := ⟨_, rfl⟩
    replace H : (if 0 ≤ (ji8) then (if (ji8) < (x3_1.length : Int) then (Zbj.j1 k1 x3_1 (rd l0 x9_1) (x3_1.length : Int) l0 (l0.length : Int) x9_1 (decide (((Zaw x3_1 (ji8)).f1) ≥ (rd l0 x9_1)))) else (none)) else (none)) = some r := by first | (rw [hji8] at H; exact H) | (simp only [hji8] at H ⊢; exact H)
    have hji8w : (IntKind.i64.wrap ((x3_1.length : Int) - 1)) = ji8 := (Zbh _).trans hji8
    by_cases c9 : 0 ≤ (ji8)
    rotate_left
    ·rw [if_neg c9] at H
     exact absurd H (by simp)
    rw [if_pos c9] at H
    have c9b0 : decide (0 ≤ (ji8)) = true := decide_eq_true c9
    clear c9
    by_cases c10 : (ji8) < (x3_1.length : Int)
    rotate_left
    ·rw [if_neg c10] at H
     exact absurd H (by simp)
    rw [if_pos c10] at H
    have c10b0 : decide ((ji8) < (x3_1.length : Int)) = true := decide_eq_true c10
    clear c10
    have H' := Zaa.mk H
    clear H
    have p313 : 0 ≤ ((ji8) : Int) := of_decide_eq_true (by first | (with_reducible assumption) | assumption)
    have q313 : (ji8) < (x3_1.length : Int) := of_decide_eq_true (by first | (with_reducible assumption) | assumption)
    obtain ⟨ad313, e313, hx313_0, hx313_1⟩ := Zch (Kd.Zaz HO_3.out).2.2 (ji8) p313 q313
    cases e313
    replace p313 := eq_true p313
    replace q313 := eq_true q313
    go_wp2
    go_meet
    case rel => exact ⟨_, (decide (((Zaw x3_1 (ji8)).f1) ≥ (rd l0 x9_1))), (by first | rfl | (simp; done) | (simp only [← hji8] <;> (first | rfl | simp)) | (simp [*]; done)), H', ⟨by have := HK1.out; first | omega | exact Nat.le_refl _⟩, ⟨by (with_reducible repeat (first | apply Kd.Za6 | apply Kd.Za5 | apply Kd.Zbb)); exact HO_3.out⟩, ⟨by repeat (first | (with_reducible first | exact HB.out | apply Zab | apply Za | apply Zac) | exact HB.out)⟩⟩
   case rest =>
    clear HC5
    try clear c1
    try clear c2
    try clear c2b0
    try clear p2
    try clear c3
    try clear c3b0
    try clear p3
    try clear q3
    try clear hx3
    try clear c4
    try clear c4b0
    try clear c6
    try clear p6
    try clear c7
    try clear c7b0
    try clear c7b1
    try clear c9
    try clear c9b0
    try clear c10
    try clear c10b0
    try clear hx312_0
    try clear hx313_0
    try clear hx313_1
    try clear p312
    try clear p313
    try clear q312
    try clear q313
    obtain ⟨kq, x21_4, rfl, HA, HJ4, HO_3, HB⟩ := hcut
    cases kq with
    | zero => exact absurd HA.out (by simp [Zbj.j1])
    | succ kj4 =>
     have H := HA.out
     clear HA
     simp only [Zbj.j1] at H
     by_cases c11 : x21_4 = true
     ·subst c11
      have H1 : (Zbj.l0 kj4 x3_1 l0 (l0.length : Int) (wrap64 (x9_1 + 1))) = some r := by rw [if_pos rfl] at H; exact H
      clear H
      have H := H1
      clear H1
      have H' := Zaa.mk H
      clear H
      go_wp2
      go_roundg kj4
      case measure => have := HK1.out; have := HJ4.out; omega
      case rel => exact ⟨(x3_1), (wrap64 (x9_1 + 1)), (by first | rfl | (simp; done) | (simp [*]; done)), H', ⟨by have := HK1.out; have := HJ4.out; omega⟩, ⟨by (with_reducible repeat (first | apply Kd.Za6 | apply Kd.Za5 | apply Kd.Zbb)); exact HO_3.out⟩, ⟨by repeat (first | (with_reducible first | exact HB.out | apply Zab | apply Za | apply Zac) | exact HB.out)⟩⟩
     replace c11 := Bool.eq_false_iff.mpr c11
     subst c11
     have H1 : (if (x3_1.length : Int) > 0 then (if 0 ≤ (wrap64 ((x3_1.length : Int) - 1)) then (if (wrap64 ((x3_1.length : Int) - 1)) < (x3_1.length : Int) then (if ((Zaw x3_1 (wrap64 ((x3_1.length : Int) - 1))).f1) = (wrap64 ((rd l0 x9_1) - 1)) then (Zbj.l0 kj4 (x3_1.set ((wrap64 ((x3_1.length : Int) - 1)) : Int).toNat (⟨(Zaw x3_1 (wrap64 ((x3_1.length : Int) - 1))).f0, (rd l0 x9_1)⟩ : S41)) l0 (l0.length : Int) (wrap64 (x9_1 + 1))) else (if x3_1.length < 8796093022208 then (Zbj.l0 kj4 (x3_1 ++ [(⟨(rd l0 x9_1), (rd l0 x9_1)⟩ : S41)]) l0 (l0.length : Int) (wrap64 (x9_1 + 1))) else (none))) else (none)) else (none)) else (if x3_1.length < 8796093022208 then (Zbj.l0 kj4 (x3_1 ++ [(⟨(rd l0 x9_1), (rd l0 x9_1)⟩ : S41)]) l0 (l0.length : Int) (wrap64 (x9_1 + 1))) else (none))) = some r := by rw [if_neg (show ¬ (false = true) by decide)] at H; exact H
     clear H
     have H := H1
     clear H1
     by_cases c12 : (x3_1.length : Int) > 0
     rotate_left
     ·rw [if_neg c12] at H
      have c12b0 : decide (0 < (x3_1.length : Int)) = false := decide_eq_false c12
      have c12b1 : decide (0 < x3_1.length) = false := decide_eq_false (by omega)
      clear c12
      by_cases c22 : x3_1.length < 8796093022208
      rotate_left
      ·rw [if_neg c22] at H
       exact absurd H (by simp)
      rw [if_pos c22] at H
      have LMc22 := Zaa.mk c22
      clear c22
      obtain ⟨y319, hy319⟩ : ∃ y_ : List (S41), y_ = (x3_1 ++ [(⟨(rd l0 x9_1), (rd l0 x9_1)⟩ : S41)]) := ⟨_, rfl⟩
      replace H : (Zbj.l0 kj4 y319 l0 (l0.length : Int) (wrap64 (x9_1 + 1))) = some r := by first | (rw [hy319]; with_reducible exact H) | (have H2_ := (Option.bind_some _ _).symm.trans H; rw [hy319]; with_reducible exact H2_) | (have H2_ := (Option.bind_some _ _).symm.trans H; with_reducible exact H2_) | with_reducible exact H | (rw [hy319]; exact H) | exact H
      have Ny319 := Zaa.mk hy319
      clear hy319
      have H' := Zaa.mk H
      clear H
      go_wp2_with (first | ((with_reducible refine Zbk (b := .append) (xs := #[.tmp 15, .tmp 19]) rfl ?_); at_builtin; refine Kd.Zcd k41 (w0 := w) w.heap.size rfl (.tmp 15) (.tmp 19) 39 41 (.agg #[(.int .i64 0), (.int .i64 0)]) 16 rfl Try.underlying39 Zeb rfl (by decide) (by omega) (.slice Ao6 x3_1.length co6) x3_1 (⟨(rd l0 x9_1), (rd l0 x9_1)⟩ : S41) [.int .i64 (rd l0 x9_1), .int .i64 (rd l0 x9_1)] (fun _ => True) (fun _ => False) rfl rfl ?aP (fun _ hk => hk.elim) ?aF ?aO ?aB ?aS ?aL ?_; (case aP => exact Zcy _ _ _ (⟨(rd l0 x9_1), (rd l0 x9_1)⟩ : S41)); (case aB => exact (by repeat (first | (with_reducible first | exact HB.out | apply Zab | apply Za | apply Zac) | exact HB.out))); (case aF => exact (fun _ _ => trivial)); (case aO => exact (mvR HO_3.out)); (case aS => exact (Zae (by repeat (first | (with_reducible first | exact HB.out | apply Zab | apply Za | apply Zac) | exact HB.out)))); (case aL => have := LMc22.out; omega); intro v320 w23 ho hb hg hat; rw [← Ny319.out] at ho; have n0_ := Zaa.mk (hb); have n1_ := Zaa.mk (ho); clear HB; clear HO_3; have HB := n0_; have HO321 := n1_; clear n0_ n1_; clear ho hb hg hat))
      go_roundg kj4
      case measure => have := HK1.out; have := HJ4.out; omega
      case rel => exact ⟨(y319), (wrap64 (x9_1 + 1)), (by first | rfl | (simp; done) | (simp [*]; done)), H', ⟨by have := HK1.out; have := HJ4.out; omega⟩, ⟨by (with_reducible repeat (first | apply Kd.Za6 | apply Kd.Za5 | apply Kd.Zbb)); exact HO321.out⟩, ⟨by repeat (first | (with_reducible first | exact HB.out | apply Zab | apply Za | apply Zac) | exact HB.out)⟩⟩
     rw [if_pos c12] at H
     have c12b0 : decide (0 < (x3_1.length : Int)) = true := decide_eq_true c12
     have c12b1 : decide (0 < x3_1.length) = true := decide_eq_true (by omega)
     clear c12
     try clear hji8w
     obtain ⟨ji13, hji13⟩ : ∃ j_ : Int, (wrap64 ((x3_1.length : Int) - 1)) = j_ := ⟨_, rfl⟩
     replace H : (if 0 ≤ (ji13) then (if (ji13) < (x3_1.length : Int) then (if ((Zaw x3_1 (ji13)).f1) = (wrap64 ((rd l0 x9_1) - 1)) then (Zbj.l0 kj4 (x3_1.set ((ji13) : Int).toNat (⟨(Zaw x3_1 (ji13)).f0, (rd l0 x9_1)⟩ : S41)) l0 (l0.length : Int) (wrap64 (x9_1 + 1))) else (if x3_1.length < 8796093022208 then (Zbj.l0 kj4 (x3_1 ++ [(⟨(rd l0 x9_1), (rd l0 x9_1)⟩ : S41)]) l0 (l0.length : Int) (wrap64 (x9_1 + 1))) else (none))) else (none)) else (none)) = some r := by first | (rw [hji13] at H; exact H) | (simp only [hji13] at H ⊢; exact H)
     have hji13w : (IntKind.i64.wrap ((x3_1.length : Int) - 1)) = ji13 := (Zbh _).trans hji13
     by_cases c14 : 0 ≤ (ji13)
     rotate_left
     ·rw [if_neg c14] at H
      exact absurd H (by simp)
     rw [if_pos c14] at H
     have c14b0 : decide (0 ≤ (ji13)) = true := decide_eq_true c14
     clear c14
     by_cases c15 : (ji13) < (x3_1.length : Int)
     rotate_left
     ·rw [if_neg c15] at H
      exact absurd H (by simp)
     rw [if_pos c15] at H
     have c15b0 : decide ((ji13) < (x3_1.length : Int)) = true := decide_eq_true c15
     clear c15
     by_cases c16 : ((Zaw x3_1 (ji13)).f1) = (wrap64 ((rd l0 x9_1) - 1))
     rotate_left
     ·rw [if_neg c16] at H
      have c16b0 : (((Zaw x3_1 (ji13)).f1) == (wrap64 ((rd l0 x9_1) - 1))) = false := beq_eq_false_iff_ne.mpr c16
      have c16b1 : (((Zaw x3_1 (ji13)).f1) != (wrap64 ((rd l0 x9_1) - 1))) = true := bne_iff_ne.mpr c16
      by_cases c20 : x3_1.length < 8796093022208
      rotate_left
      ·rw [if_neg c20] at H
       exact absurd H (by simp)
      rw [if_pos c20] at H
      have LMc20 := Zaa.mk c20
      clear c20
      obtain ⟨y316, hy316⟩ : ∃ y_ : List (S41), y_ = (x3_1 ++ [(⟨(rd l0 x9_1), (rd l0 x9_1)⟩ : S41)]) := ⟨_, rfl⟩
      replace H : (Zbj.l0 kj4 y316 l0 (l0.length : Int) (wrap64 (x9_1 + 1))) = some r := by first | (rw [hy316]; with_reducible exact H) | (have H2_ := (Option.bind_some _ _).symm.trans H; rw [hy316]; with_reducible exact H2_) | (have H2_ := (Option.bind_some _ _).symm.trans H; with_reducible exact H2_) | with_reducible exact H | (rw [hy316]; exact H) | exact H
      have Ny316 := Zaa.mk hy316
      clear hy316
      have H' := Zaa.mk H
      clear H
      have p314 : 0 ≤ ((ji13) : Int) := of_decide_eq_true (by first | (with_reducible assumption) | assumption)
      have q314 : (ji13) < (x3_1.length : Int) := of_decide_eq_true (by first | (with_reducible assumption) | assumption)
      obtain ⟨ad314, e314, hx314_0, hx314_1⟩ := Zch (Kd.Zaz HO_3.out).2.2 (ji13) p314 q314
      cases e314
      replace p314 := eq_true p314
      replace q314 := eq_true q314
      go_wp2_with (first | ((with_reducible refine Zbk (b := .append) (xs := #[.tmp 15, .tmp 19]) rfl ?_); at_builtin; refine Kd.Zcd k41 (w0 := w) w.heap.size rfl (.tmp 15) (.tmp 19) 39 41 (.agg #[(.int .i64 0), (.int .i64 0)]) 16 rfl Try.underlying39 Zeb rfl (by decide) (by omega) (.slice (some ad314) x3_1.length co6) x3_1 (⟨(rd l0 x9_1), (rd l0 x9_1)⟩ : S41) [.int .i64 (rd l0 x9_1), .int .i64 (rd l0 x9_1)] (fun _ => True) (fun _ => False) rfl rfl ?aP (fun _ hk => hk.elim) ?aF ?aO ?aB ?aS ?aL ?_; (case aP => exact Zcy _ _ _ (⟨(rd l0 x9_1), (rd l0 x9_1)⟩ : S41)); (case aB => exact (by repeat (first | (with_reducible first | exact HB.out | apply Zab | apply Za | apply Zac) | exact HB.out))); (case aF => exact (fun _ _ => trivial)); (case aO => exact (mvR HO_3.out)); (case aS => exact (Zae (by repeat (first | (with_reducible first | exact HB.out | apply Zab | apply Za | apply Zac) | exact HB.out)))); (case aL => have := LMc20.out; omega); intro v317 w21 ho hb hg hat; rw [← Ny316.out] at ho; have n0_ := Zaa.mk (hb); have n1_ := Zaa.mk (ho); clear HB; clear HO_3; have HB := n0_; have HO318 := n1_; clear n0_ n1_; clear ho hb hg hat))
      go_roundg kj4
      case measure => have := HK1.out; have := HJ4.out; omega
      case rel => exact ⟨(y316), (wrap64 (x9_1 + 1)), (by first | rfl | (simp; done) | (simp [*]; done)), H', ⟨by have := HK1.out; have := HJ4.out; omega⟩, ⟨by (with_reducible repeat (first | apply Kd.Za6 | apply Kd.Za5 | apply Kd.Zbb)); exact HO318.out⟩, ⟨by repeat (first | (with_reducible first | exact HB.out | apply Zab | apply Za | apply Zac) | exact HB.out)⟩⟩
     rw [if_pos c16] at H
     have c16b0 : (((Zaw x3_1 (ji13)).f1) == (wrap64 ((rd l0 x9_1) - 1))) = true := beq_iff_eq.mpr c16
     have c16b1 : (((Zaw x3_1 (ji13)).f1) != (wrap64 ((rd l0 x9_1) - 1))) = false := bne_eq_false_iff_eq.mpr c16
     clear c16
     obtain ⟨y315, hy315⟩ : ∃ y_ : List (S41), y_ = (x3_1.set ((ji13) : Int).toNat (⟨(Zaw x3_1 (ji13)).f0, (rd l0 x9_1)⟩ : S41)) := ⟨_, rfl⟩
     replace H : (Zbj.l0 kj4 y315 l0 (l0.length : Int) (wrap64 (x9_1 + 1))) = some r := by first | (rw [hy315]; with_reducible exact H) | (have H2_ := (Option.bind_some _ _).symm.trans H; rw [hy315]; with_reducible exact H2_) | (have H2_ := (Option.bind_some _ _).symm.trans H; with_reducible exact H2_) | with_reducible exact H | (rw [hy315]; exact H) | exact H
     have Ny315 := Zaa.mk hy315
     clear hy315
     have H' := Zaa.mk H
     clear H
     have p314 : 0 ≤ ((ji13) : Int) := of_decide_eq_true (by first | (with_reducible assumption) | assumption)
     have q314 : (ji13) < (x3_1.length : Int) := of_decide_eq_true (by first | (with_reducible assumption) | assumption)
     obtain ⟨ad314, e314, hx314_0, hx314_1⟩ := Zch (Kd.Zaz HO_3.out).2.2 (ji13) p314 q314
     cases e314
     replace p314 := eq_true p314
     replace q314 := eq_true q314
     have p17 : 0 ≤ ((ji13) : Int) := of_decide_eq_true (by first | (with_reducible assumption) | assumption)
     have q17 : ((ji13) : Int) < ((x3_1.length : Int) : Int) := of_decide_eq_true (by first | (with_reducible assumption) | assumption)
     obtain ⟨go17, co17, eo17, gb17, gl17, cl17, HG17⟩ := Kd.R_form HO_3.out (by omega)
     (first | cases eo17 | (injection eo17 with ea_ en_ ec_; (first | subst ea_ | (injection ea_ with ea_; subst ea_)); subst ec_; clear en_))
     have GB17 := Zaa.mk gb17
     have GG17 := Zaa.mk HG17
     clear gb17 gl17 HG17
     (first | simp only [add_plain] at hx314_0 | skip)
     (first | simp only [add_plain] at hx314_1 | skip)
     obtain ⟨ce17, hcl17, hM17, hcc17, hfr17⟩ := Kd.Zg5 HO_3.out z41 ((ji13) : Int) p17 q17
     obtain rfl := Zev hM17
     have hx17_0 : wc.cell? ⟨go17, ((ji13) : Int).toNat * 2, none⟩ = some (.int .i64 ((Zaw x3_1 (ji13)).f0)) := hcc17 0 _ rfl
     have hx17_1 : wc.cell? ⟨go17, ((ji13) : Int).toNat * 2 + 1, none⟩ = some (.int .i64 ((Zaw x3_1 (ji13)).f1)) := hcc17 1 _ rfl
     have hf17_0 : wc.frozen? ⟨go17, ((ji13) : Int).toNat * 2, none⟩ = false := hfr17 0
     have hf17_1 : wc.frozen? ⟨go17, ((ji13) : Int).toNat * 2 + 1, none⟩ = false := hfr17 1
     (try clear hM17); clear hcl17 hcc17 hfr17
     replace p17 := eq_true p17
     replace q17 := eq_true q17
     have HX18 := Zaa.mk (show Kd.R k41 41 wc w.heap.size (fun _ => True) (.slice (some ⟨go17, 0, none⟩) x3_1.length co6) x3_1 from (mvR HO_3.out))
     obtain ⟨ce18, hcl18, hM18, hcc18, hfr18⟩ := Kd.Zg5 HX18.out z41 ((ji13) : Int) (of_decide_eq_true (by first | (with_reducible assumption) | assumption)) (by have h_ : ((ji13) : Int) < ((x3_1.length : Int) : Int) := of_decide_eq_true (by first | (with_reducible assumption) | assumption); first | exact h_ | (have e_ := (Kd.Zaz HO_3.out).1; omega) | simpa using h_)
     obtain rfl := Zev hM18
     have HP18 := Kd.R_seg HX18.out ((ji13) : Int) (of_decide_eq_true (by first | (with_reducible assumption) | assumption)) (by have h_ : ((ji13) : Int) < ((x3_1.length : Int) : Int) := of_decide_eq_true (by first | (with_reducible assumption) | assumption); first | exact h_ | (have e_ := (Kd.Zaz HO_3.out).1; omega) | simpa using h_) (seg := [.int .i64 (rd l0 x9_1)]) (j := 1) hcl18 hcc18 (show 2 ≤ 2 from by decide) (x' := (⟨(Zaw x3_1 (ji13)).f0, (rd l0 x9_1)⟩ : S41)) (Zcy _ _ _ (⟨(Zaw x3_1 (ji13)).f0, (rd l0 x9_1)⟩ : S41) ) (fun _ hk => hk)
     have hx18_1 := hcc18 1 _ rfl
     (try simp only [show (k41).sz = 2 from rfl, Nat.mul_one, Nat.add_zero] at hx18_1)
     have hf18_1 := hfr18 1
     (try simp only [show (k41).sz = 2 from rfl, Nat.mul_one, Nat.add_zero] at hf18_1)
     (try clear hM18); clear hcl18 hcc18 hfr18
     go_wp2_with (first | ((with_reducible refine Zdu (t := 3) (p := 53) rfl ?_); refine Zdo (t := 3) (p := 53) (v := ?vo_w19) (w1 := (wc.setCell ⟨go17, ((ji13) : Int).toNat * 2 + 1, none⟩ (.int .i64 (rd l0 x9_1)))) ?hg ?ho ?hn ?hr ?_; (case ho => rfl); (case hg => rfl); (case hn => rfl); (case hr => first | (go_simp; done) | (go_simp; rfl)); intro w19 hw; have hg : wc.grownBy w19 (some go17) := (by rw [hw]; exact HP18.2); have hp_ : Kd.R k41 41 w19 w.heap.size (fun _ => True) (.slice (some ⟨go17, 0, none⟩) x3_1.length co6) y315 := (by rw [hw, Ny315.out]; exact HP18.1); clear HP18; have n0_ := Zaa.mk (hp_); have n1_ := Zaa.mk ((by rw [hw]; exact Zaf (HB.out) GB17.out : Below w.heap.size w w19)); clear HO_3; clear HB; have HO_3 := n0_; have HB := n1_; clear n0_ n1_; clear hg hw hp_))
     go_roundg kj4
     case measure => have := HK1.out; have := HJ4.out; omega
     case rel => exact ⟨(y315), (wrap64 (x9_1 + 1)), (by first | rfl | (simp; done) | (simp [*]; done)), H', ⟨by have := HK1.out; have := HJ4.out; omega⟩, ⟨by (with_reducible repeat (first | apply Kd.Za6 | apply Kd.Za5 | apply Kd.Zbb)); exact HO_3.out⟩, ⟨by repeat (first | (with_reducible first | exact HB.out | apply Zab | apply Za | apply Zac) | exact HB.out)⟩⟩
def Zcp.l0 : Nat → Int → List (S41) → Int → Int → Option (Int)
 | 0, _, _, _, _ => none
 | k + 1, x3, x6, x7, x8 => if x8 < x7 then (if 0 ≤ x8 then (if x8 < (x6.length : Int) then (Zcp.l0 k (wrap64 (x3 + (wrap64 ((wrap64 (((Zaw x6 x8).f1) - ((Zaw x6 x8).f0))) + 1)))) x6 x7 (wrap64 (x8 + 1))) else (none)) else (none)) else (some x3)
def Zcp.f (k : Nat) (l0 : List (S41)) : Option (Int) := Zcp.l0 k 0 l0 (l0.length : Int) 0
theorem Zcp.Zb4 : ∀ k, (∀ y0 y1 y2 y3, LeO (Zcp.l0 k y0 y1 y2 y3) (Zcp.l0 (k + 1) y0 y1 y2 y3))
 | 0 => fun _ _ _ _ r h => by simp [Zcp.l0] at h
 | k + 1 => by
  have ih0 := Zcp.Zb4 k
  intro y0 y1 y2 y3
  unfold Zcp.l0
  repeat' first
  | (with_reducible exact ih0 _ _ _ _)
  | (with_reducible exact LeO.refl _)
  | (with_reducible exact LeO.none _)
  | (with_reducible refine LeO.ite ?_ ?_)
  | (with_reducible refine LeO.bind ?_ (fun _ => ?_))
  | exact ih0 _ _ _ _
  | exact LeO.none _
  | refine LeO.ite ?_ ?_
  | refine LeO.bind ?_ (fun _ => ?_)
theorem Zcp.mono : ∀ a0 k, LeO (Zcp.f k a0) (Zcp.f (k + 1) a0) := by
 intro a0 k
 have ih0 := Zcp.Zb4 k
 unfold Zcp.f
 repeat' first
   | (with_reducible exact ih0 _ _ _ _)
   | (with_reducible exact LeO.refl _)
   | (with_reducible exact LeO.none _)
   | (with_reducible refine LeO.ite ?_ ?_)
   | (with_reducible refine LeO.bind ?_ (fun _ => ?_))
   | exact ih0 _ _ _ _
   | exact LeO.none _
   | refine LeO.ite ?_ ?_
   | refine LeO.bind ?_ (fun _ => ?_)
set_option maxHeartbeats 8000000 in
set_option maxRecDepth 100000 in
theorem Zcp.calls (k : Nat) (A0 : Option Addr) (c0 : Nat) (l0 : List (S41)) (r : Int) (w : World) (hr0 : Kd.C k41 w A0 l0.length l0) (hc0 : l0.length ≤ c0) (h : Zcp.f k l0 = some r) :
  Calls Try.prog 69 #[.slice A0 l0.length c0] w fun e w' => e = .returned (.int .i64 r) ∧ Below w.heap.size w w' := by
 have hu41 := Try.underlying41
 have HR0 := Zaa.mk hr0
 have HC0 := Zaa.mk hc0
 clear hr0 hc0
 have HB := Zaa.mk (Below.refl w.heap.size w)
 have H : (Zcp.l0 k 0 l0 (l0.length : Int) 0) = some r := h
 clear h
 have H' := Zaa.mk H
 clear H
 go_enter Try.func69, Try.ntmps69
 go_wp2
 go_loopg [3, 8] k (fun kq v3 v8 w' => ∃ (x3_1 : Int) (x8_1 : Int), v3 = .int .i64 x3_1 ∧ v8 = .int .i64 x8_1 ∧ Zaa (Zcp.l0 kq x3_1 l0 (l0.length : Int) x8_1 = some r) ∧ Zaa (kq ≤ k) ∧ Zaa (Below w.heap.size w w'))
 case atStart => exact ⟨(0), (0), (by first | rfl | (simp; done) | (simp [*]; done)), (by first | rfl | (simp; done) | (simp [*]; done)), H', ⟨Nat.le_refl _⟩, ⟨by repeat (first | (with_reducible first | exact HB.out | apply Zab | apply Za | apply Zac) | exact HB.out)⟩⟩
 case round =>
  clear H'
  obtain ⟨x3_1, x8_1, rfl, rfl, HA, HK1, HB⟩ := hrel
  cases gk with
  | zero => exact absurd HA.out (by simp [Zcp.l0])
  | succ k1 =>
   have H := HA.out
   clear HA
   simp only [Zcp.l0] at H
   by_cases c2 : x8_1 < (l0.length : Int)
   rotate_left
   ·rw [if_neg c2] at H
    have c2b0 : decide (x8_1 < (l0.length : Int)) = false := decide_eq_false c2
    clear c2
    obtain rfl := Option.some.inj H
    go_wp2
    go_ret
    exact ⟨by first | rfl | (simp [Za1, Za2] <;> rfl) | (simp [*, Za1, Za2] <;> rfl), by repeat (first | (with_reducible first | exact HB.out | apply Zab | apply Za | apply Zac) | exact HB.out)⟩
   rw [if_pos c2] at H
   have c2b0 : decide (x8_1 < (l0.length : Int)) = true := decide_eq_true c2
   clear c2
   by_cases c3 : 0 ≤ x8_1
   rotate_left
   ·rw [if_neg c3] at H
    exact absurd H (by simp)
   rw [if_pos c3] at H
   have c3b0 : decide (0 ≤ x8_1) = true := decide_eq_true c3
   clear c3
   by_cases c4 : x8_1 < (l0.length : Int)
   rotate_left
   ·rw [if_neg c4] at H
    exact absurd H (by simp)
   rw [if_pos c4] at H
   have c4b0 : decide (x8_1 < (l0.length : Int)) = true := decide_eq_true c4
   clear c4
   have H' := Zaa.mk H
   clear H
   have p322 : 0 ≤ (x8_1 : Int) := of_decide_eq_true (by first | (with_reducible assumption) | assumption)
   have q322 : x8_1 < (l0.length : Int) := of_decide_eq_true (by first | (with_reducible assumption) | assumption)
   obtain ⟨ad322, e322, hx322_0, hx322_1⟩ := Zch HR0.out x8_1 p322 q322
   cases e322
   replace hx322_0 := (HB.out.cell (World.block_lt_of_cell? w _ hx322_0)).trans hx322_0
   replace hx322_1 := (HB.out.cell (World.block_lt_of_cell? w _ hx322_1)).trans hx322_1
   replace p322 := eq_true p322
   replace q322 := eq_true q322
   go_wp2_with (first | ((with_reducible refine Zbq (N := 5) rfl ?_); refine Zb9 ?hg (N := 5) ?hd (cs := #[.int .i64 0, .int .i64 0]) (t := 41) ?hr ?_; (case hd => rfl); (case hg => rfl); (case hr => first | (go_simp; done) | (go_simp; rfl)); intro gb323 hg w5 hbox hb; have n0_ := Zaa.mk (Zam (by repeat (first | (with_reducible first | exact HB.out | apply Zab | apply Za | apply Zac) | exact HB.out)) hb); have n1_ := Zaa.mk (hbox); have n2_ := Zaa.mk ((by rw [hg]; exact (Zae (by repeat (first | (with_reducible first | exact HB.out | apply Zab | apply Za | apply Zac) | exact HB.out))) : w.heap.size ≤ gb323)); have n3_ := Zaa.mk ((by rw [hg]; exact (Zae (by repeat (first | (with_reducible first | exact HB.out | apply Zab | apply Za | apply Zac) | exact HB.out))) : w.heap.size ≤ gb323)); clear HB; have HB := n0_; have BK323 := n1_; have GW323 := n2_; have GE323 := n3_; clear n0_ n1_ n2_ n3_; clear hb hbox hg; obtain ⟨hcz6_0, hcz6_1, hfz6_0, hfz6_1⟩ := blks2 BK323.out))
   go_roundg k1
   case measure => have := HK1.out; omega
   case rel => exact ⟨(wrap64 (x3_1 + (wrap64 ((wrap64 (((Zaw l0 x8_1).f1) - ((Zaw l0 x8_1).f0))) + 1)))), (wrap64 (x8_1 + 1)), (by first | rfl | (simp; done) | (simp [*]; done)), (by first | rfl | (simp; done) | (simp [*]; done)), H', ⟨by have := HK1.out; omega⟩, ⟨by repeat (first | (with_reducible first | exact HB.out | apply Zab | apply Za | apply Zac | refine Zaf ?_ GE323.out) | exact HB.out)⟩⟩
end Go.Proofs.Ytpbcigilipdedaa.P
/- dom.Of: the domain of values. -/
namespace Go.Proofs.Ytpbcigilipdedaa.P
open Go.RowKit Go.Shelf Go.Proofs.YtpbcigilipdedaaW.PrintWords Go.Proofs.YtpbcigilipdedaaW.PrintLast Go.Proofs.YtpbcigilipdedaaW.PrintMore
set_option linter.unusedVariables false
def isVal (v : Int) : Bool := decide (-1048576 ≤ v) && decide (v ≤ 1048576)
def Ze.f (k : Nat) (l0 : List Int) : Option (List S41 × Int) :=
  if (l0.any fun v => !isVal v) = true then some ([], 20) else if 1000000 < l0.length then none else (Zbj.f k (sortI l0)).bind fun d => (Zcp.f k d).bind fun n => if n > 4096 then some ([], 2) else some (d, 0)
theorem Ze.mono : ∀ a0 k, LeO (Ze.f k a0) (Ze.f (k + 1) a0) := by
  intro a0 k
  unfold Ze.f
  refine LeO.ite (LeO.refl _) (LeO.ite (LeO.refl _) ?_)
  refine LeO.bind (Zbj.mono _ k) (fun _ => ?_)
  refine LeO.bind (Zcp.mono _ k) (fun _ => ?_)
  exact LeO.refl _
theorem value_f (x : Int) : Zet.f x = some (isVal x) := by
  unfold Zet.f isVal
  by_cases h : x ≥ -1048576
  · rw [if_pos h]; simp [decide_eq_true h]
  rw [if_neg h]; have : decide (-1048576 ≤ x) = false := decide_eq_false h; simp [this]
theorem ofPred (x : Int) (w : World) : Calls Try.prog 64 #[.int .i64 x] w fun e w' => e = .returned (.bool (!isVal x)) ∧ ∃ q, w' = w.drewN q := by
  have cv := fun W => Zet.calls x _ W (value_f x)
  go_enter Try.func64, Try.ntmps64
  go_wp2_with (go_at_call 65; refine (cv _).mono ?_; rintro e w' ⟨rfl, ⟨q, rfl⟩⟩)
  go_ret
  exact ⟨rfl, q, rfl⟩
theorem row_of' (W : World) (base : Nat) (v : Value) (xs : List Int) {n : Nat} (hn : xs.length = n) (h : W.ownsRow base 3 1 v n (xs.map (Value.int .i64))) : Kd.R (Kd.int .i64) 3 W base (fun _ => True) v xs := by
  subst hn
  exact Kd.R_of_own (enc := Value.int .i64) h (fun _ _ => trivial)
set_option maxRecDepth 100000 in
set_option maxHeartbeats 2000000 in
theorem Ze.calls (k : Nat) (A0 : Option Addr) (c0 : Nat) (l0 : List Int) (r1 : List S41) (r2 : Int) (w : World) (hr0 : Kd.C (Kd.int .i64) w A0 l0.length l0) (hc0 : l0.length ≤ c0) (h : Ze.f k l0 = some (r1, r2)) :
    Calls Try.prog 43 #[.slice A0 l0.length c0] w fun e w' => ∃ v0_ : Value, e = .returned (.tuple #[v0_, .int .i64 r2]) ∧ Kd.R k41 41 w' w.heap.size (fun _ => True) v0_ r1 ∧ Below w.heap.size w w' := by
  have HR := Zaa.mk hr0
  have cC := fun (W : World) (hW : Kd.C (Kd.int .i64) W A0 l0.length l0) => Zg (fun v => !isVal v) 64 #[] (enters_of Try.func64 (by kernel_rfl) rfl) A0 c0 l0 W hW (fun k _ q => ofPred _ _)
  have cC := cC w hr0
  clear hr0
  have hlen : l0.length ≤ 9223372036854775807 := HR.out.2.1
  have cV := fun (W : World) => callsIn_wide.1 (values_in Fence.wide 9 trivial rfl A0 l0.length c0 W)
  unfold Ze.f at h
  cases hany : (l0.any fun v => !isVal v) with
  | true =>
    rw [if_pos hany] at h
    obtain ⟨rfl, rfl⟩ : [] = r1 ∧ 20 = r2 := by simpa using h
    rw [hany] at cC
    clear h hany
    go_enter Try.func43, Try.ntmps43
    go_wp2_with (first | (go_at_call 63; refine cC.mono ?_; rintro e w' ⟨rfl, q, rfl⟩))
    refine bodyPost_ret (results_tmp2 rfl _ _ _) rfl ?_
    exact ⟨_, rfl, Kd.Zgh _ _ _ _ _, Za (Below.refl _ w) q⟩
  | false =>
    rw [if_neg (by rw [hany]; simp)] at h
    rw [hany] at cC
    by_cases hbig : 1000000 < l0.length
    · rw [if_pos hbig] at h; cases h
    rw [if_neg hbig] at h
    obtain ⟨d, hd, h⟩ := Option.bind_eq_some_iff.1 h
    obtain ⟨n, hn, h⟩ := Option.bind_eq_some_iff.1 h
    have HD := Zaa.mk hd
    have HN := Zaa.mk hn
    have HH := Zaa.mk h
    clear hany h hd hn
    have hsz : ∀ q, (w.drewN q).heap.size = w.heap.size := fun q => by simp
    have cS := fun (q : Nat) => sorted_calls 92 #[.pointer (some ⟨w.heap.size, 0, none⟩)] (enters_of Try.func92 (by kernel_rfl) rfl) w.heap.size _ _ l0.length (by omega) (fun xs e => by rw [e]; exact Nat.le_refl _)
      ((w.drewN q).alloc (.cells #[.slice A0 l0.length c0] 23)) ((w.drewN q).alloc (.cells #[.slice A0 l0.length c0] 23)) (Below.refl _ _) (by simp)
      (values_stops Fence.wide 7 trivial rfl (by omega) w.heap.size w _ A0 c0 l0 HR.out (by simp) ((Za (Below.refl _ w) q).alloc (by simp) _) (by have := (Boxed.new (w.drewN q) 23 (.slice A0 l0.length c0)).cell; rwa [hsz] at this))
    have cP := fun (A : Option Addr) (c : Nat) (W : World) (hW : Kd.C (Kd.int .i64) W A (sortI l0).length (sortI l0)) (hc : (sortI l0).length ≤ c) => Zbj.calls k A c (sortI l0) d W hW hc HD.out
    have cZ := fun (A : Option Addr) (c : Nat) (W : World) (hW : Kd.C k41 W A d.length d) (hc : d.length ≤ c) => Zcp.calls k A c d n W hW hc HN.out
    have hsl := Zaa.mk (Zez l0)
    have cS2 := fun (q : Nat) => (cS q)
    by_cases hn : n > 4096
    · have HH' := HH.out
      rw [if_pos hn] at HH'
      obtain ⟨rfl, rfl⟩ : [] = r1 ∧ 2 = r2 := by simpa using HH'
      clear HH' HH
      have c2b0 : decide (4096 < n) = true := decide_eq_true hn
      clear hn
      go_enter Try.func43, Try.ntmps43
      go_wp2_with (first | (go_at_call 63; refine cC.mono ?_; rintro e w' ⟨rfl, q, rfl⟩) | (go_at_call 68; refine (cV _).mono ?_; rintro e w' ⟨rfl, rfl⟩) | (go_at_call 67; go_loud (refine (cS q).mono ?_; rintro e W1 ⟨v, xs, rfl, rfl, hrow, hb⟩; obtain ⟨A1, c1, rfl, hcl1, hC1⟩ := Kd.Ze8 (row_of' _ _ _ _ hsl.out hrow))) | (go_at_call 66; go_loud (refine (cP _ _ _ hC1 hcl1).mono ?_; rintro e W2 ⟨v0, rfl, hR, hb2⟩; obtain ⟨A2, c2, rfl, hcl2, hC2⟩ := Kd.Ze8 hR)) | (go_at_call 69; go_loud (refine (cZ _ _ _ hC2 hcl2).mono ?_; rintro e W3 ⟨rfl, hb3⟩)))
      refine bodyPost_ret (results_tmp2 rfl _ _ _) rfl ?_
      have hB1 : Below w.heap.size w W2 := ((Za (Below.refl _ w) q).alloc (by simp) _).trans ((hb.mono (by simp)).trans (hb2.mono (by have := hb.size; simp at this; omega)))
      exact ⟨_, rfl, Kd.Zgh _ _ _ _ _, hB1.trans (hb3.mono hB1.size)⟩
    have HH' := HH.out
    rw [if_neg hn] at HH'
    obtain ⟨rfl, rfl⟩ : d = r1 ∧ 0 = r2 := by simpa using HH'
    clear HH' HH
    have c2b0 : decide (4096 < n) = false := decide_eq_false hn
    clear hn
    go_enter Try.func43, Try.ntmps43
    go_wp2_with (first | (go_at_call 63; refine cC.mono ?_; rintro e w' ⟨rfl, q, rfl⟩) | (go_at_call 68; refine (cV _).mono ?_; rintro e w' ⟨rfl, rfl⟩) | (go_at_call 67; go_loud (refine (cS q).mono ?_; rintro e W1 ⟨v, xs, rfl, rfl, hrow, hb⟩; obtain ⟨A1, c1, rfl, hcl1, hC1⟩ := Kd.Ze8 (row_of' _ _ _ _ hsl.out hrow))) | (go_at_call 66; go_loud (refine (cP _ _ _ hC1 hcl1).mono ?_; rintro e W2 ⟨v0, rfl, hR, hb2⟩; obtain ⟨A2, c2, rfl, hcl2, hC2⟩ := Kd.Ze8 hR)) | (go_at_call 69; go_loud (refine (cZ _ _ _ hC2 hcl2).mono ?_; rintro e W3 ⟨rfl, hb3⟩)))
    refine bodyPost_ret (results_tmp2 rfl _ _ _) rfl ?_
    have hB1 : Below w.heap.size w W2 := ((Za (Below.refl _ w) q).alloc (by simp) _).trans ((hb.mono (by simp)).trans (hb2.mono (by have := hb.size; simp at this; omega)))
    exact ⟨_, rfl, Kd.Zbs (Kd.Zca hR hb3) (by have := hb.size; simp at this; omega), hB1.trans (hb3.mono hB1.size)⟩
end Go.Proofs.Ytpbcigilipdedaa.P
namespace Go.Proofs.Ytpbcigilipdedaa.P
open Go.RowKit Go.Proofs.YtpbcigilipdedaaW.PrintWords Go.Proofs.YtpbcigilipdedaaW.PrintLast Go.Proofs.YtpbcigilipdedaaW.PrintMore
attribute [local go_sem] Zcz Zc1 Zde Zdf Zct Zcu Zc0 Zc2
set_option linter.unusedVariables false
set_option linter.unusedSimpArgs false
mutual
def Zan.l0 : Nat → List (S41) → List Int → Int → Option (List Int)
 | 0, _, _, _ => none
 | k + 1, x0, x3, x4 => if x4 < (x0.length : Int) then (if 0 ≤ x4 then (Zan.l1 k x0 x3 x4 ((Zaw x0 x4).f0)) else (none)) else (some x3)
def Zan.l1 : Nat → List (S41) → List Int → Int → Int → Option (List Int)
 | 0, _, _, _, _ => none
 | k + 1, x0, x3, x4, x5 => if 0 ≤ x4 then (if x4 < (x0.length : Int) then (if x5 ≤ ((Zaw x0 x4).f1) then (if x3.length < 17592186044416 then (Zan.l1 k x0 (x3 ++ [x5]) x4 (wrap64 (x5 + 1))) else (none)) else (Zan.l0 k x0 x3 (wrap64 (x4 + 1)))) else (none)) else (none)
end
def Zan.f (k : Nat) (l0 : List (S41)) : Option (List Int) := Zan.l0 k l0 (([] : List Int)) 0
theorem Zan.Zb4 : ∀ k, (∀ y0 y1 y2, LeO (Zan.l0 k y0 y1 y2) (Zan.l0 (k + 1) y0 y1 y2)) ∧ (∀ y0 y1 y2 y3, LeO (Zan.l1 k y0 y1 y2 y3) (Zan.l1 (k + 1) y0 y1 y2 y3))
 | 0 => ⟨fun _ _ _ r h => by simp [Zan.l0] at h, fun _ _ _ _ r h => by simp [Zan.l1] at h⟩
 | k + 1 => by
  obtain ⟨ih0, ih1⟩ := Zan.Zb4 k
  refine ⟨?_, ?_⟩
  ·intro y0 y1 y2
   unfold Zan.l0
   repeat' first
   | (with_reducible exact ih0 _ _ _)
   | (with_reducible exact ih1 _ _ _ _)
   | (with_reducible exact LeO.refl _)
   | (with_reducible exact LeO.none _)
   | (with_reducible refine LeO.ite ?_ ?_)
   | (with_reducible refine LeO.bind ?_ (fun _ => ?_))
   | exact ih0 _ _ _
   | exact ih1 _ _ _ _
   | exact LeO.none _
   | refine LeO.ite ?_ ?_
   | refine LeO.bind ?_ (fun _ => ?_)
  intro y0 y1 y2 y3
  unfold Zan.l1
  repeat' first
  | (with_reducible exact ih0 _ _ _)
  | (with_reducible exact ih1 _ _ _ _)
  | (with_reducible exact LeO.refl _)
  | (with_reducible exact LeO.none _)
  | (with_reducible refine LeO.ite ?_ ?_)
  | (with_reducible refine LeO.bind ?_ (fun _ => ?_))
  | exact ih0 _ _ _
  | exact ih1 _ _ _ _
  | exact LeO.none _
  | refine LeO.ite ?_ ?_
  | refine LeO.bind ?_ (fun _ => ?_)
theorem Zan.mono : ∀ a0 k, LeO (Zan.f k a0) (Zan.f (k + 1) a0) := by
 intro a0 k
 obtain ⟨ih0, ih1⟩ := Zan.Zb4 k
 unfold Zan.f
 repeat' first
   | (with_reducible exact ih0 _ _ _)
   | (with_reducible exact ih1 _ _ _ _)
   | (with_reducible exact LeO.refl _)
   | (with_reducible exact LeO.none _)
   | (with_reducible refine LeO.ite ?_ ?_)
   | (with_reducible refine LeO.bind ?_ (fun _ => ?_))
   | exact ih0 _ _ _
   | exact ih1 _ _ _ _
   | exact LeO.none _
   | refine LeO.ite ?_ ?_
   | refine LeO.bind ?_ (fun _ => ?_)
set_option maxHeartbeats 8000000 in
set_option maxRecDepth 100000 in
theorem Zan.calls (k : Nat) (A0 : Option Addr) (c0 : Nat) (l0 : List (S41)) (r : List Int) (w : World) (hr0 : Kd.C k41 w A0 l0.length l0) (hc0 : l0.length ≤ c0) (h : Zan.f k l0 = some r) :
  Calls Try.prog 29 #[.slice A0 l0.length c0] w fun e w' => ∃ v0_ : Value, e = .returned (v0_) ∧ Kd.R (Kd.int .i64) 3 w' w.heap.size (fun _ => True) v0_ r ∧ Below w.heap.size w w' := by
 have HR0 := Zaa.mk hr0
 have HC0 := Zaa.mk hc0
 clear hr0 hc0
 have HB := Zaa.mk (Below.refl w.heap.size w)
 have H : (Zan.l0 k l0 (([] : List Int)) 0) = some r := h
 clear h
 obtain ⟨y402, hy402⟩ : ∃ y_ : List Int, y_ = (([] : List Int)) := ⟨_, rfl⟩
 replace H : (Zan.l0 k l0 y402 0) = some r := by first | (rw [hy402]; with_reducible exact H) | (have H2_ := (Option.bind_some _ _).symm.trans H; rw [hy402]; with_reducible exact H2_) | (have H2_ := (Option.bind_some _ _).symm.trans H; with_reducible exact H2_) | with_reducible exact H | (rw [hy402]; exact H) | exact H
 have Ny402 := Zaa.mk hy402
 clear hy402
 have H' := Zaa.mk H
 clear H
 go_enter Try.func29, Try.ntmps29
 go_wp2_with (first | ((with_reducible refine Zbq (N := 6) rfl ?_); refine Kd.Zds (Kd.int .i64) _ 3 ?hg (N := 6) ?hd (xs := ([] : List Int)) (inner := []) (ok := fun _ => True) (okp := fun _ => True) ?hr ?hp (fun _ hk => hk) trivial (Below.refl _ _) (Nat.le_refl _) (by simp) ?_; (case hd => rfl); (case hg => rfl); (case hr => first | (go_simp; done) | (go_simp; rfl)); (case hp => exact (Reps.none _ _)); intro v403 w2 ho3 hb hg_ hnew_; clear hg_ hnew_; (first | rw [← Ny402.out] at ho3 | (simp only [Int.reduceToNat] at ho3; rw [← Ny402.out] at ho3)); have n0_ := Zaa.mk (Kd.Zbs ho3 (Zae (by repeat (first | (with_reducible first | exact HB.out | apply Zab | apply Za | apply Zac) | exact HB.out)))); have n1_ := Zaa.mk (Zam (by repeat (first | (with_reducible first | exact HB.out | apply Zab | apply Za | apply Zac) | exact HB.out)) hb); clear HB; have HO404 := n0_; have HB := n1_; clear n0_ n1_; clear hb ho3))
 go_loopg [3, 4] k (fun kq v3 v4 w' => ∃ (x3_1 : List Int) (x4_1 : Int), v4 = .int .i64 x4_1 ∧ Zaa (Zan.l0 kq l0 x3_1 x4_1 = some r) ∧ Zaa (kq ≤ k) ∧ Zaa (Kd.R (Kd.int .i64) 3 w' w.heap.size (fun _ => True) v3 x3_1) ∧ Zaa (Below w.heap.size w w'))
 case atStart => exact ⟨(y402), (0), (by first | rfl | (simp; done) | (simp [*]; done)), H', ⟨Nat.le_refl _⟩, ⟨by (with_reducible repeat (first | apply Kd.Za6 | apply Kd.Za5 | apply Kd.Zbb)); exact HO404.out⟩, ⟨by repeat (first | (with_reducible first | exact HB.out | apply Zab | apply Za | apply Zac) | exact HB.out)⟩⟩
 case round =>
  clear H'
  try clear c2
  try clear p2
  obtain ⟨x3_1, x4_1, rfl, HA, HK1, HO_3, HB⟩ := hrel
  cases gk with
  | zero => exact absurd HA.out (by simp [Zan.l0])
  | succ k1 =>
   have H := HA.out
   clear HA
   simp only [Zan.l0] at H
   by_cases c4 : x4_1 < (l0.length : Int)
   rotate_left
   ·rw [if_neg c4] at H
    have c4b0 : decide (x4_1 < (l0.length : Int)) = false := decide_eq_false c4
    clear c4
    obtain rfl := Option.some.inj H
    go_wp2
    go_ret
    exact ⟨_, by first | rfl | (simp [Za1, Za2] <;> rfl) | (simp [*, Za1, Za2] <;> rfl), by (with_reducible repeat (first | apply Kd.Za6 | apply Kd.Za5 | apply Kd.Zbb)); exact HO_3.out, by repeat (first | (with_reducible first | exact HB.out | apply Zab | apply Za | apply Zac) | exact HB.out)⟩
   rw [if_pos c4] at H
   have c4b0 : decide (x4_1 < (l0.length : Int)) = true := decide_eq_true c4
   clear c4
   by_cases c5 : 0 ≤ x4_1
   rotate_left
   ·rw [if_neg c5] at H
    exact absurd H (by simp)
   rw [if_pos c5] at H
   have c5b0 : decide (0 ≤ x4_1) = true := decide_eq_true c5
   clear c5
   have H' := Zaa.mk H
   clear H
   have p405 : 0 ≤ (x4_1 : Int) := of_decide_eq_true (by first | (with_reducible assumption) | assumption)
   have q405 : x4_1 < (l0.length : Int) := of_decide_eq_true (by first | (with_reducible assumption) | assumption)
   obtain ⟨ad405, e405, hx405_0, hx405_1⟩ := Zch HR0.out x4_1 p405 q405
   cases e405
   replace hx405_0 := (HB.out.cell (World.block_lt_of_cell? w _ hx405_0)).trans hx405_0
   replace hx405_1 := (HB.out.cell (World.block_lt_of_cell? w _ hx405_1)).trans hx405_1
   replace p405 := eq_true p405
   replace q405 := eq_true q405
   go_wp2
   go_loopg [3, 5] k1 (fun kq v3 v5 w' => ∃ (x3_2 : List Int) (x5_2 : Int), v5 = .int .i64 x5_2 ∧ Zaa (Zan.l1 kq l0 x3_2 x4_1 x5_2 = some r) ∧ Zaa (kq ≤ k1) ∧ Zaa (Kd.R (Kd.int .i64) 3 w' w.heap.size (fun _ => True) v3 x3_2) ∧ Zaa (Below w.heap.size w w'))
   case atStart => exact ⟨(x3_1), ((Zaw l0 x4_1).f0), (by first | rfl | (simp; done) | (simp [*]; done)), H', ⟨Nat.le_refl _⟩, ⟨by (with_reducible repeat (first | apply Kd.Za6 | apply Kd.Za5 | apply Kd.Zbb)); exact HO_3.out⟩, ⟨by repeat (first | (with_reducible first | exact HB.out | apply Zab | apply Za | apply Zac) | exact HB.out)⟩⟩
   case round =>
    clear H'
    try clear c2
    try clear p2
    try clear c4
    try clear c4b0
    try clear p4
    try clear q4
    try clear hx4
    try clear c5
    try clear c5b0
    try clear hx405_0
    try clear hx405_1
    try clear p2
    try clear p405
    try clear q405
    obtain ⟨x3_2, x5_2, rfl, HA, HK2, HO_3, HB⟩ := hrel
    cases gk with
    | zero => exact absurd HA.out (by simp [Zan.l1])
    | succ k2 =>
     have H := HA.out
     clear HA
     simp only [Zan.l1] at H
     by_cases c6 : 0 ≤ x4_1
     rotate_left
     ·rw [if_neg c6] at H
      exact absurd H (by simp)
     rw [if_pos c6] at H
     have c6b0 : decide (0 ≤ x4_1) = true := decide_eq_true c6
     clear c6
     by_cases c7 : x4_1 < (l0.length : Int)
     rotate_left
     ·rw [if_neg c7] at H
      exact absurd H (by simp)
     rw [if_pos c7] at H
     have c7b0 : decide (x4_1 < (l0.length : Int)) = true := decide_eq_true c7
     clear c7
     by_cases c8 : x5_2 ≤ ((Zaw l0 x4_1).f1)
     rotate_left
     ·rw [if_neg c8] at H
      have c8b0 : decide (x5_2 ≤ ((Zaw l0 x4_1).f1)) = false := decide_eq_false c8
      clear c8
      have H' := Zaa.mk H
      clear H
      have p406 : 0 ≤ (x4_1 : Int) := of_decide_eq_true (by first | (with_reducible assumption) | assumption)
      have q406 : x4_1 < (l0.length : Int) := of_decide_eq_true (by first | (with_reducible assumption) | assumption)
      obtain ⟨ad406, e406, hx406_0, hx406_1⟩ := Zch HR0.out x4_1 p406 q406
      obtain rfl : ad405 = ad406 := (by injection e406)
      replace hx406_0 := (HB.out.cell (World.block_lt_of_cell? w _ hx406_0)).trans hx406_0
      replace hx406_1 := (HB.out.cell (World.block_lt_of_cell? w _ hx406_1)).trans hx406_1
      replace p406 := eq_true p406
      replace q406 := eq_true q406
      go_wp2
      go_roundg k2
      case measure => have := HK1.out; have := HK2.out; omega
      case rel => exact ⟨(x3_2), (wrap64 (x4_1 + 1)), (by first | rfl | (simp; done) | (simp [*]; done)), H', ⟨by have := HK1.out; have := HK2.out; omega⟩, ⟨by (with_reducible repeat (first | apply Kd.Za6 | apply Kd.Za5 | apply Kd.Zbb)); exact HO_3.out⟩, ⟨by repeat (first | (with_reducible first | exact HB.out | apply Zab | apply Za | apply Zac) | exact HB.out)⟩⟩
     rw [if_pos c8] at H
     have c8b0 : decide (x5_2 ≤ ((Zaw l0 x4_1).f1)) = true := decide_eq_true c8
     clear c8
     by_cases c9 : x3_2.length < 17592186044416
     rotate_left
     ·rw [if_neg c9] at H
      exact absurd H (by simp)
     rw [if_pos c9] at H
     have LMc9 := Zaa.mk c9
     clear c9
     obtain ⟨y407, hy407⟩ : ∃ y_ : List Int, y_ = (x3_2 ++ [x5_2]) := ⟨_, rfl⟩
     replace H : (Zan.l1 k2 l0 y407 x4_1 (wrap64 (x5_2 + 1))) = some r := by first | (rw [hy407]; with_reducible exact H) | (have H2_ := (Option.bind_some _ _).symm.trans H; rw [hy407]; with_reducible exact H2_) | (have H2_ := (Option.bind_some _ _).symm.trans H; with_reducible exact H2_) | with_reducible exact H | (rw [hy407]; exact H) | exact H
     have Ny407 := Zaa.mk hy407
     clear hy407
     have H' := Zaa.mk H
     clear H
     have p406 : 0 ≤ (x4_1 : Int) := of_decide_eq_true (by first | (with_reducible assumption) | assumption)
     have q406 : x4_1 < (l0.length : Int) := of_decide_eq_true (by first | (with_reducible assumption) | assumption)
     obtain ⟨ad406, e406, hx406_0, hx406_1⟩ := Zch HR0.out x4_1 p406 q406
     obtain rfl : ad405 = ad406 := (by injection e406)
     replace hx406_0 := (HB.out.cell (World.block_lt_of_cell? w _ hx406_0)).trans hx406_0
     replace hx406_1 := (HB.out.cell (World.block_lt_of_cell? w _ hx406_1)).trans hx406_1
     replace p406 := eq_true p406
     replace q406 := eq_true q406
     go_wp2_with (first | ((with_reducible refine Zbk (b := .append) (xs := #[.tmp 27, .tmp 29]) rfl ?_); at_builtin; refine Kd.Zcd (Kd.int .i64) (w0 := w) w.heap.size rfl (.tmp 27) (.tmp 29) 23 3 (.int .i64 0) 8 rfl Try.underlying23 info3 rfl (by decide) (by omega) u3 x3_2 x5_2 [.int .i64 x5_2] (fun _ => True) (fun _ => False) rfl rfl ?aP (fun _ hk => hk.elim) ?aF ?aO ?aB ?aS ?aL ?_; (case aP => exact rfl); (case aB => exact (by repeat (first | (with_reducible first | exact HB.out | apply Zab | apply Za | apply Zac) | exact HB.out))); (case aF => exact (fun _ _ => trivial)); (case aO => exact (by (with_reducible repeat (first | apply Kd.Za6 | apply Kd.Za5 | apply Kd.Zbb)); exact HO_3.out)); (case aS => exact (Zae (by repeat (first | (with_reducible first | exact HB.out | apply Zab | apply Za | apply Zac) | exact HB.out)))); (case aL => have := LMc9.out; omega); intro v408 w10 ho hb hg hat; rw [← Ny407.out] at ho; have n0_ := Zaa.mk (hb); have n1_ := Zaa.mk (ho); clear HB; clear HO_3; have HB := n0_; have HO409 := n1_; clear n0_ n1_; clear ho hb hg hat))
     go_roundg k2
     case measure => have := HK1.out; have := HK2.out; omega
     case rel => exact ⟨(y407), (wrap64 (x5_2 + 1)), (by first | rfl | (simp; done) | (simp [*]; done)), H', ⟨by have := HK1.out; have := HK2.out; omega⟩, ⟨by (with_reducible repeat (first | apply Kd.Za6 | apply Kd.Za5 | apply Kd.Zbb)); exact HO409.out⟩, ⟨by repeat (first | (with_reducible first | exact HB.out | apply Zab | apply Za | apply Zac) | exact HB.out)⟩⟩
mutual
def Zah.l0 : Nat → List Int → List Int → Int → Option (List Int)
 | 0, _, _, _ => none
 | k + 1, x0, x3, x4 => if x4 < (x0.length : Int) then (if 0 ≤ x4 then ((Za4.f k x3 (rd x0 x4)).bind fun t139 => (Zah.l1 k x0 x3 x4 (([] : List Int)) t139 0)) else (none)) else (some x3)
def Zah.l1 : Nat → List Int → List Int → Int → List Int → Bool → Int → Option (List Int)
 | 0, _, _, _, _, _, _ => none
 | k + 1, x0, x3, x4, x5, x6, x7 => if x7 < (x3.length : Int) then (if x6 = true then (if 0 ≤ x7 then (if x5.length < 17592186044416 then (Zah.l1 k x0 x3 x4 (x5 ++ [rd x3 x7]) x6 (wrap64 (x7 + 1))) else (none)) else (none)) else (if 0 ≤ x4 then (if x4 < (x0.length : Int) then (if 0 ≤ x7 then (if (rd x0 x4) < (rd x3 x7) then (if x5.length < 17592186044416 then ((some (x5 ++ [rd x0 x4] : List Int)).bind fun y147 => (if y147.length < 17592186044416 then (Zah.l1 k x0 x3 x4 (y147 ++ [rd x3 x7]) true (wrap64 (x7 + 1))) else (none))) else (none)) else (if x5.length < 17592186044416 then (Zah.l1 k x0 x3 x4 (x5 ++ [rd x3 x7]) x6 (wrap64 (x7 + 1))) else (none))) else (none)) else (none)) else (none))) else (if x6 = true then (Zah.l0 k x0 x5 (wrap64 (x4 + 1))) else (if 0 ≤ x4 then (if x4 < (x0.length : Int) then (if x5.length < 17592186044416 then (Zah.l0 k x0 (x5 ++ [rd x0 x4]) (wrap64 (x4 + 1))) else (none)) else (none)) else (none)))
end
def Zah.f (k : Nat) (l0 : List Int) : Option (List Int) := Zah.l0 k l0 (([] : List Int)) 0
theorem Zah.Zb4 : ∀ k, (∀ y0 y1 y2, LeO (Zah.l0 k y0 y1 y2) (Zah.l0 (k + 1) y0 y1 y2)) ∧ (∀ y0 y1 y2 y3 y4 y5, LeO (Zah.l1 k y0 y1 y2 y3 y4 y5) (Zah.l1 (k + 1) y0 y1 y2 y3 y4 y5))
 | 0 => ⟨fun _ _ _ r h => by simp [Zah.l0] at h, fun _ _ _ _ _ _ r h => by simp [Zah.l1] at h⟩
 | k + 1 => by
  obtain ⟨ih0, ih1⟩ := Zah.Zb4 k
  refine ⟨?_, ?_⟩
  ·intro y0 y1 y2
   unfold Zah.l0
   repeat' first
   | (with_reducible exact ih0 _ _ _)
   | (with_reducible exact ih1 _ _ _ _ _ _)
   | (with_reducible exact Za4.mono _ _ _)
   | (with_reducible exact LeO.refl _)
   | (with_reducible exact LeO.none _)
   | (with_reducible refine LeO.ite ?_ ?_)
   | (with_reducible refine LeO.bind ?_ (fun _ => ?_))
   | exact ih0 _ _ _
   | exact ih1 _ _ _ _ _ _
   | exact Za4.mono _ _ _
   | exact LeO.none _
   | refine LeO.ite ?_ ?_
   | refine LeO.bind ?_ (fun _ => ?_)
  intro y0 y1 y2 y3 y4 y5
  unfold Zah.l1
  repeat' first
  | (with_reducible exact ih0 _ _ _)
  | (with_reducible exact ih1 _ _ _ _ _ _)
  | (with_reducible exact Za4.mono _ _ _)
  | (with_reducible exact LeO.refl _)
  | (with_reducible exact LeO.none _)
  | (with_reducible refine LeO.ite ?_ ?_)
  | (with_reducible refine LeO.bind ?_ (fun _ => ?_))
  | exact ih0 _ _ _
  | exact ih1 _ _ _ _ _ _
  | exact Za4.mono _ _ _
  | exact LeO.none _
  | refine LeO.ite ?_ ?_
  | refine LeO.bind ?_ (fun _ => ?_)
theorem Zah.mono : ∀ a0 k, LeO (Zah.f k a0) (Zah.f (k + 1) a0) := by
 intro a0 k
 obtain ⟨ih0, ih1⟩ := Zah.Zb4 k
 unfold Zah.f
 repeat' first
   | (with_reducible exact ih0 _ _ _)
   | (with_reducible exact ih1 _ _ _ _ _ _)
   | (with_reducible exact Za4.mono _ _ _)
   | (with_reducible exact LeO.refl _)
   | (with_reducible exact LeO.none _)
   | (with_reducible refine LeO.ite ?_ ?_)
   | (with_reducible refine LeO.bind ?_ (fun _ => ?_))
   | exact ih0 _ _ _
   | exact ih1 _ _ _ _ _ _
   | exact Za4.mono _ _ _
   | exact LeO.none _
   | refine LeO.ite ?_ ?_
   | refine LeO.bind ?_ (fun _ => ?_)
set_option maxHeartbeats 8000000 in
set_option maxRecDepth 100000 in
theorem Zah.calls (k : Nat) (A0 : Option Addr) (c0 : Nat) (l0 : List Int) (r : List Int) (w : World) (hr0 : Kd.C (Kd.int .i64) w A0 l0.length l0) (hc0 : l0.length ≤ c0) (h : Zah.f k l0 = some r) :
  Calls Try.prog 38 #[.slice A0 l0.length c0] w fun e w' => ∃ v0_ : Value, e = .returned (v0_) ∧ Kd.R (Kd.int .i64) 3 w' w.heap.size (fun _ => True) v0_ r ∧ Below w.heap.size w w' := by
 have HR0 := Zaa.mk hr0
 have HC0 := Zaa.mk hc0
 clear hr0 hc0
 have HB := Zaa.mk (Below.refl w.heap.size w)
 have H : (Zah.l0 k l0 (([] : List Int)) 0) = some r := h
 clear h
 obtain ⟨y132, hy132⟩ : ∃ y_ : List Int, y_ = (([] : List Int)) := ⟨_, rfl⟩
 replace H : (Zah.l0 k l0 y132 0) = some r := by first | (rw [hy132]; with_reducible exact H) | (have H2_ := (Option.bind_some _ _).symm.trans H; rw [hy132]; with_reducible exact H2_) | (have H2_ := (Option.bind_some _ _).symm.trans H; with_reducible exact H2_) | with_reducible exact H | (rw [hy132]; exact H) | exact H
 have Ny132 := Zaa.mk hy132
 clear hy132
 have H' := Zaa.mk H
 clear H
 go_enter Try.func38, Try.ntmps38
 go_wp2_with (first | ((with_reducible refine Zbq (N := 8) rfl ?_); refine Kd.Zds (Kd.int .i64) _ 3 ?hg (N := 8) ?hd (xs := ([] : List Int)) (inner := []) (ok := fun _ => True) (okp := fun _ => True) ?hr ?hp (fun _ hk => hk) trivial (Below.refl _ _) (Nat.le_refl _) (by simp) ?_; (case hd => rfl); (case hg => rfl); (case hr => first | (go_simp; done) | (go_simp; rfl)); (case hp => exact (Reps.none _ _)); intro v133 w2 ho3 hb hg_ hnew_; clear hg_ hnew_; (first | rw [← Ny132.out] at ho3 | (simp only [Int.reduceToNat] at ho3; rw [← Ny132.out] at ho3)); have n0_ := Zaa.mk (Kd.Zbs ho3 (Zae (by repeat (first | (with_reducible first | exact HB.out | apply Zab | apply Za | apply Zac) | exact HB.out)))); have n1_ := Zaa.mk (Zam (by repeat (first | (with_reducible first | exact HB.out | apply Zab | apply Za | apply Zac) | exact HB.out)) hb); clear HB; have HO134 := n0_; have HB := n1_; clear n0_ n1_; clear hb ho3))
 repeat (go_quiet (first | ((with_reducible refine Zbq (N := 8) rfl ?_); refine Kd.Zds (Kd.int .i64) _ 3 ?hg (N := 8) ?hd (xs := ([] : List Int)) (inner := []) (ok := fun _ => True) (okp := fun _ => True) ?hr ?hp (fun _ hk => hk) trivial (Below.refl _ _) (Nat.le_refl _) (by simp) ?_; (case hd => rfl); (case hg => rfl); (case hr => first | (go_simp; done) | (go_simp; rfl)); (case hp => exact (Reps.none _ _)); intro v133 w2 ho3 hb hg_ hnew_; clear hg_ hnew_; (first | rw [← Ny132.out] at ho3 | (simp only [Int.reduceToNat] at ho3; rw [← Ny132.out] at ho3)); have n0_ := Zaa.mk (Kd.Zbs ho3 (Zae (by repeat (first | (with_reducible first | exact HB.out | apply Zab | apply Za | apply Zac) | exact HB.out)))); have n1_ := Zaa.mk (Zam (by repeat (first | (with_reducible first | exact HB.out | apply Zab | apply Za | apply Zac) | exact HB.out)) hb); clear HB; have HO134 := n0_; have HB := n1_; clear n0_ n1_; clear hb ho3)); try go_wp2_with (first | ((with_reducible refine Zbq (N := 8) rfl ?_); refine Kd.Zds (Kd.int .i64) _ 3 ?hg (N := 8) ?hd (xs := ([] : List Int)) (inner := []) (ok := fun _ => True) (okp := fun _ => True) ?hr ?hp (fun _ hk => hk) trivial (Below.refl _ _) (Nat.le_refl _) (by simp) ?_; (case hd => rfl); (case hg => rfl); (case hr => first | (go_simp; done) | (go_simp; rfl)); (case hp => exact (Reps.none _ _)); intro v133 w2 ho3 hb hg_ hnew_; clear hg_ hnew_; (first | rw [← Ny132.out] at ho3 | (simp only [Int.reduceToNat] at ho3; rw [← Ny132.out] at ho3)); have n0_ := Zaa.mk (Kd.Zbs ho3 (Zae (by repeat (first | (with_reducible first | exact HB.out | apply Zab | apply Za | apply Zac) | exact HB.out)))); have n1_ := Zaa.mk (Zam (by repeat (first | (with_reducible first | exact HB.out | apply Zab | apply Za | apply Zac) | exact HB.out)) hb); clear HB; have HO134 := n0_; have HB := n1_; clear n0_ n1_; clear hb ho3)))
 go_loopg [3, 4] k (fun kq v3 v4 w' => ∃ (x3_1 : List Int) (x4_1 : Int), v4 = .int .i64 x4_1 ∧ Zaa (Zah.l0 kq l0 x3_1 x4_1 = some r) ∧ Zaa (kq ≤ k) ∧ Zaa (Kd.R (Kd.int .i64) 3 w' w.heap.size (fun _ => True) v3 x3_1) ∧ Zaa (Below w.heap.size w w'))
 case atStart => exact ⟨(y132), (0), (by first | rfl | (simp; done) | (simp [*]; done)), H', ⟨Nat.le_refl _⟩, ⟨by (with_reducible repeat (first | apply Kd.Za6 | apply Kd.Za5 | apply Kd.Zbb)); exact HO134.out⟩, ⟨by repeat (first | (with_reducible first | exact HB.out | apply Zab | apply Za | apply Zac) | exact HB.out)⟩⟩
 case round =>
  clear H'
  try clear p2
  try clear c3
  obtain ⟨x3_1, x4_1, rfl, HA, HK1, HO_3, HB⟩ := hrel
  cases gk with
  | zero => exact absurd HA.out (by simp [Zah.l0])
  | succ k1 =>
   have H := HA.out
   clear HA
   simp only [Zah.l0] at H
   by_cases c4 : x4_1 < (l0.length : Int)
   rotate_left
   ·rw [if_neg c4] at H
    have c4b0 : decide (x4_1 < (l0.length : Int)) = false := decide_eq_false c4
    clear c4
    obtain rfl := Option.some.inj H
    go_wp2
    repeat (go_quiet (fail); try go_wp2)
    go_ret
    exact ⟨_, by first | rfl | (simp [Za1, Za2] <;> rfl) | (simp [*, Za1, Za2] <;> rfl), by (with_reducible repeat (first | apply Kd.Za6 | apply Kd.Za5 | apply Kd.Zbb)); exact HO_3.out, by repeat (first | (with_reducible first | exact HB.out | apply Zab | apply Za | apply Zac) | exact HB.out)⟩
   rw [if_pos c4] at H
   have c4b0 : decide (x4_1 < (l0.length : Int)) = true := decide_eq_true c4
   clear c4
   obtain ⟨y135, hy135⟩ : ∃ y_ : List Int, y_ = (([] : List Int)) := ⟨_, rfl⟩
   replace H : (if 0 ≤ x4_1 then ((Za4.f k1 x3_1 (rd l0 x4_1)).bind fun t139 => (Zah.l1 k1 l0 x3_1 x4_1 y135 t139 0)) else (none)) = some r := by first | (rw [hy135]; with_reducible exact H) | (have H2_ := (Option.bind_some _ _).symm.trans H; rw [hy135]; with_reducible exact H2_) | (have H2_ := (Option.bind_some _ _).symm.trans H; with_reducible exact H2_) | with_reducible exact H | (rw [hy135]; exact H) | exact H
   have Ny135 := Zaa.mk hy135
   clear hy135
   by_cases c5 : 0 ≤ x4_1
   rotate_left
   ·rw [if_neg c5] at H
    exact absurd H (by simp)
   rw [if_pos c5] at H
   have c5b0 : decide (0 ≤ x4_1) = true := decide_eq_true c5
   clear c5
   replace H := Option.bind_eq_some_iff.mp H
   obtain ⟨t139, A60, H⟩ := H
   replace H : (Zah.l1 k1 l0 x3_1 x4_1 y135 t139 0) = some r := H
   have A6 := Zaa.mk A60
   clear A60
   have H' := Zaa.mk H
   clear H
   go_wp2_with (first | ((with_reducible refine Zbq (N := 15) rfl ?_); refine Kd.Zds (Kd.int .i64) _ 3 ?hg (N := 15) ?hd (xs := ([] : List Int)) (inner := []) (ok := fun _ => True) (okp := fun _ => True) ?hr ?hp (fun _ hk => hk) trivial (Below.refl _ _) (Nat.le_refl _) (by simp) ?_; (case hd => rfl); (case hg => rfl); (case hr => first | (go_simp; done) | (go_simp; rfl)); (case hp => exact (Reps.none _ _)); intro v136 w7 ho8 hb hg_ hnew_; clear hg_ hnew_; (first | rw [← Ny135.out] at ho8 | (simp only [Int.reduceToNat] at ho8; rw [← Ny135.out] at ho8)); have n0_ := Zaa.mk (Kd.Zck (mvR HO_3.out) (Kd.Zb6 ho8) hb); have n1_ := Zaa.mk (Kd.Zbs (Kd.Zc3 ho8 (Kd.R_lt (mvR HO_3.out))) (Zae (by repeat (first | (with_reducible first | exact HB.out | apply Zab | apply Za | apply Zac) | exact HB.out)))); have n2_ := Zaa.mk (Zam (by repeat (first | (with_reducible first | exact HB.out | apply Zab | apply Za | apply Zac) | exact HB.out)) hb); clear HO_3; clear HB; have HO_3 := n0_; have HO137 := n1_; have HB := n2_; clear n0_ n1_ n2_; clear hb ho8; have p138 : 0 ≤ (x4_1 : Int) := of_decide_eq_true (by first | (with_reducible assumption) | assumption); have q138 : x4_1 < (l0.length : Int) := of_decide_eq_true (by first | (with_reducible assumption) | assumption); obtain ⟨ad138, e138, hx138_0⟩ := Kd.Zbx HR0.out x4_1 p138 q138; cases e138; replace hx138_0 := (HB.out.cell (World.block_lt_of_cell? w _ hx138_0)).trans hx138_0; replace p138 := eq_true p138; replace q138 := eq_true q138; obtain ⟨Ao9, co9, eo9⟩ := Kd.Zbn HO_3.out; subst eo9) | (go_at_call 31; (with_reducible refine (Za4.calls k1 _ _ x3_1 (rd l0 x4_1) t139 _ ?side1 ?side2 A6.out).mono ?_); (case side1 => repeat (first | exact (Kd.Zaz HO_3.out).2.2 | (with_reducible refine Kd.C_alloc ?_ _) | (with_reducible refine Kd.Za0 ?_ _) | (with_reducible refine Kd.C_drew ?_))); (case side2 => exact (Kd.Zaz HO_3.out).2.1); rintro e w' ⟨rfl, ⟨nd, rfl⟩⟩; (try first | exact ⟨rfl, _, World.drewN_drewN _ _ _⟩ | exact ⟨rfl, _, Eq.trans (World.drewN_drewN _ _ _) (congrArg (World.drewN _) (Nat.add_assoc _ _ _))⟩)))
   repeat (go_quiet (first | ((with_reducible refine Zbq (N := 15) rfl ?_); refine Kd.Zds (Kd.int .i64) _ 3 ?hg (N := 15) ?hd (xs := ([] : List Int)) (inner := []) (ok := fun _ => True) (okp := fun _ => True) ?hr ?hp (fun _ hk => hk) trivial (Below.refl _ _) (Nat.le_refl _) (by simp) ?_; (case hd => rfl); (case hg => rfl); (case hr => first | (go_simp; done) | (go_simp; rfl)); (case hp => exact (Reps.none _ _)); intro v136 w7 ho8 hb hg_ hnew_; clear hg_ hnew_; (first | rw [← Ny135.out] at ho8 | (simp only [Int.reduceToNat] at ho8; rw [← Ny135.out] at ho8)); have n0_ := Zaa.mk (Kd.Zck (mvR HO_3.out) (Kd.Zb6 ho8) hb); have n1_ := Zaa.mk (Kd.Zbs (Kd.Zc3 ho8 (Kd.R_lt (mvR HO_3.out))) (Zae (by repeat (first | (with_reducible first | exact HB.out | apply Zab | apply Za | apply Zac) | exact HB.out)))); have n2_ := Zaa.mk (Zam (by repeat (first | (with_reducible first | exact HB.out | apply Zab | apply Za | apply Zac) | exact HB.out)) hb); clear HO_3; clear HB; have HO_3 := n0_; have HO137 := n1_; have HB := n2_; clear n0_ n1_ n2_; clear hb ho8; have p138 : 0 ≤ (x4_1 : Int) := of_decide_eq_true (by first | (with_reducible assumption) | assumption); have q138 : x4_1 < (l0.length : Int) := of_decide_eq_true (by first | (with_reducible assumption) | assumption); obtain ⟨ad138, e138, hx138_0⟩ := Kd.Zbx HR0.out x4_1 p138 q138; cases e138; replace hx138_0 := (HB.out.cell (World.block_lt_of_cell? w _ hx138_0)).trans hx138_0; replace p138 := eq_true p138; replace q138 := eq_true q138; obtain ⟨Ao9, co9, eo9⟩ := Kd.Zbn HO_3.out; subst eo9) | (go_at_call 31; (with_reducible refine (Za4.calls k1 _ _ x3_1 (rd l0 x4_1) t139 _ ?side1 ?side2 A6.out).mono ?_); (case side1 => repeat (first | exact (Kd.Zaz HO_3.out).2.2 | (with_reducible refine Kd.C_alloc ?_ _) | (with_reducible refine Kd.Za0 ?_ _) | (with_reducible refine Kd.C_drew ?_))); (case side2 => exact (Kd.Zaz HO_3.out).2.1); rintro e w' ⟨rfl, ⟨nd, rfl⟩⟩; (try first | exact ⟨rfl, _, World.drewN_drewN _ _ _⟩ | exact ⟨rfl, _, Eq.trans (World.drewN_drewN _ _ _) (congrArg (World.drewN _) (Nat.add_assoc _ _ _))⟩))); try go_wp2_with (first | ((with_reducible refine Zbq (N := 15) rfl ?_); refine Kd.Zds (Kd.int .i64) _ 3 ?hg (N := 15) ?hd (xs := ([] : List Int)) (inner := []) (ok := fun _ => True) (okp := fun _ => True) ?hr ?hp (fun _ hk => hk) trivial (Below.refl _ _) (Nat.le_refl _) (by simp) ?_; (case hd => rfl); (case hg => rfl); (case hr => first | (go_simp; done) | (go_simp; rfl)); (case hp => exact (Reps.none _ _)); intro v136 w7 ho8 hb hg_ hnew_; clear hg_ hnew_; (first | rw [← Ny135.out] at ho8 | (simp only [Int.reduceToNat] at ho8; rw [← Ny135.out] at ho8)); have n0_ := Zaa.mk (Kd.Zck (mvR HO_3.out) (Kd.Zb6 ho8) hb); have n1_ := Zaa.mk (Kd.Zbs (Kd.Zc3 ho8 (Kd.R_lt (mvR HO_3.out))) (Zae (by repeat (first | (with_reducible first | exact HB.out | apply Zab | apply Za | apply Zac) | exact HB.out)))); have n2_ := Zaa.mk (Zam (by repeat (first | (with_reducible first | exact HB.out | apply Zab | apply Za | apply Zac) | exact HB.out)) hb); clear HO_3; clear HB; have HO_3 := n0_; have HO137 := n1_; have HB := n2_; clear n0_ n1_ n2_; clear hb ho8; have p138 : 0 ≤ (x4_1 : Int) := of_decide_eq_true (by first | (with_reducible assumption) | assumption); have q138 : x4_1 < (l0.length : Int) := of_decide_eq_true (by first | (with_reducible assumption) | assumption); obtain ⟨ad138, e138, hx138_0⟩ := Kd.Zbx HR0.out x4_1 p138 q138; cases e138; replace hx138_0 := (HB.out.cell (World.block_lt_of_cell? w _ hx138_0)).trans hx138_0; replace p138 := eq_true p138; replace q138 := eq_true q138; obtain ⟨Ao9, co9, eo9⟩ := Kd.Zbn HO_3.out; subst eo9) | (go_at_call 31; (with_reducible refine (Za4.calls k1 _ _ x3_1 (rd l0 x4_1) t139 _ ?side1 ?side2 A6.out).mono ?_); (case side1 => repeat (first | exact (Kd.Zaz HO_3.out).2.2 | (with_reducible refine Kd.C_alloc ?_ _) | (with_reducible refine Kd.Za0 ?_ _) | (with_reducible refine Kd.C_drew ?_))); (case side2 => exact (Kd.Zaz HO_3.out).2.1); rintro e w' ⟨rfl, ⟨nd, rfl⟩⟩; (try first | exact ⟨rfl, _, World.drewN_drewN _ _ _⟩ | exact ⟨rfl, _, Eq.trans (World.drewN_drewN _ _ _) (congrArg (World.drewN _) (Nat.add_assoc _ _ _))⟩))))
   go_loopg [5, 6, 7] k1 (fun kq v5 v6 v7 w' => ∃ (x5_2 : List Int) (x6_2 : Bool) (x7_2 : Int), v6 = .bool x6_2 ∧ v7 = .int .i64 x7_2 ∧ Zaa (Zah.l1 kq l0 x3_1 x4_1 x5_2 x6_2 x7_2 = some r) ∧ Zaa (kq ≤ k1) ∧ Zaa (Kd.R (Kd.int .i64) 3 w' w.heap.size (fun k_ => some k_ ≠ (v5 : Value).ownBlock) (.slice Ao9 x3_1.length co9) x3_1) ∧ Zaa (Kd.R (Kd.int .i64) 3 w' w.heap.size (fun k_ => some k_ ≠ ((.slice Ao9 x3_1.length co9) : Value).ownBlock) v5 x5_2) ∧ Zaa (Below w.heap.size w w'))
   case atStart => exact ⟨(y135), (t139), (0), (by first | rfl | (simp; done) | (simp [*]; done)), (by first | rfl | (simp; done) | (simp [*]; done)), H', ⟨Nat.le_refl _⟩, ⟨by (with_reducible repeat (first | apply Kd.Za6 | apply Kd.Za5 | apply Kd.Zbb)); exact Kd.Zbm HO_3.out (fun _ hk => hk.2)⟩, ⟨by (with_reducible repeat (first | apply Kd.Za6 | apply Kd.Za5 | apply Kd.Zbb)); exact Kd.Zbm HO137.out (fun _ hk => hk.2)⟩, ⟨by repeat (first | (with_reducible first | exact HB.out | apply Zab | apply Za | apply Zac) | exact HB.out)⟩⟩
   case round =>
    clear H'
    try clear p1
    try clear q1
    try clear hx1
    try clear p2
    try clear c3
    try clear c4
    try clear c4b0
    try clear c5
    try clear c5b0
    try clear hx138_0
    try clear p138
    try clear p2
    try clear q138
    obtain ⟨x5_2, x6_2, x7_2, rfl, rfl, HA, HK2, HO_3, HO_5, HB⟩ := hrel
    cases gk with
    | zero => exact absurd HA.out (by simp [Zah.l1])
    | succ k2 =>
     have H := HA.out
     clear HA
     simp only [Zah.l1] at H
     by_cases c10 : x7_2 < (x3_1.length : Int)
     rotate_left
     ·rw [if_neg c10] at H
      have c10b0 : decide (x7_2 < (x3_1.length : Int)) = false := decide_eq_false c10
      clear c10
      by_cases c25 : x6_2 = true
      ·subst c25
       have H1 : (Zah.l0 k2 l0 x5_2 (wrap64 (x4_1 + 1))) = some r := by rw [if_pos rfl] at H; exact H
       clear H
       have H := H1
       clear H1
       have H' := Zaa.mk H
       clear H
       go_wp2
       repeat (go_quiet (fail); try go_wp2)
       go_roundg k2
       case measure => have := HK1.out; have := HK2.out; omega
       case rel => exact ⟨(x5_2), (wrap64 (x4_1 + 1)), (by first | rfl | (simp; done) | (simp [*]; done)), H', ⟨by have := HK1.out; have := HK2.out; omega⟩, ⟨by (with_reducible repeat (first | apply Kd.Za6 | apply Kd.Za5 | apply Kd.Zbb)); exact Kd.Zbm HO_5.out (fun _ hk => trivial)⟩, ⟨by repeat (first | (with_reducible first | exact HB.out | apply Zab | apply Za | apply Zac) | exact HB.out)⟩⟩
      replace c25 := Bool.eq_false_iff.mpr c25
      subst c25
      have H1 : (if 0 ≤ x4_1 then (if x4_1 < (l0.length : Int) then (if x5_2.length < 17592186044416 then (Zah.l0 k2 l0 (x5_2 ++ [rd l0 x4_1]) (wrap64 (x4_1 + 1))) else (none)) else (none)) else (none)) = some r := by rw [if_neg (show ¬ (false = true) by decide)] at H; exact H
      clear H
      have H := H1
      clear H1
      by_cases c26 : 0 ≤ x4_1
      rotate_left
      ·rw [if_neg c26] at H
       exact absurd H (by simp)
      rw [if_pos c26] at H
      have c26b0 : decide (0 ≤ x4_1) = true := decide_eq_true c26
      clear c26
      by_cases c27 : x4_1 < (l0.length : Int)
      rotate_left
      ·rw [if_neg c27] at H
       exact absurd H (by simp)
      rw [if_pos c27] at H
      have c27b0 : decide (x4_1 < (l0.length : Int)) = true := decide_eq_true c27
      clear c27
      by_cases c28 : x5_2.length < 17592186044416
      rotate_left
      ·rw [if_neg c28] at H
       exact absurd H (by simp)
      rw [if_pos c28] at H
      have LMc28 := Zaa.mk c28
      clear c28
      obtain ⟨y159, hy159⟩ : ∃ y_ : List Int, y_ = (x5_2 ++ [rd l0 x4_1]) := ⟨_, rfl⟩
      replace H : (Zah.l0 k2 l0 y159 (wrap64 (x4_1 + 1))) = some r := by first | (rw [hy159]; with_reducible exact H) | (have H2_ := (Option.bind_some _ _).symm.trans H; rw [hy159]; with_reducible exact H2_) | (have H2_ := (Option.bind_some _ _).symm.trans H; with_reducible exact H2_) | with_reducible exact H | (rw [hy159]; exact H) | exact H
      have Ny159 := Zaa.mk hy159
      clear hy159
      have H' := Zaa.mk H
      clear H
      have p158 : 0 ≤ (x4_1 : Int) := of_decide_eq_true (by first | (with_reducible assumption) | assumption)
      have q158 : x4_1 < (l0.length : Int) := of_decide_eq_true (by first | (with_reducible assumption) | assumption)
      obtain ⟨ad158, e158, hx158_0⟩ := Kd.Zbx HR0.out x4_1 p158 q158
      obtain rfl : ad138 = ad158 := (by injection e158)
      replace hx158_0 := (HB.out.cell (World.block_lt_of_cell? w _ hx158_0)).trans hx158_0
      replace p158 := eq_true p158
      replace q158 := eq_true q158
      go_wp2_with (first | ((with_reducible refine Zbk (b := .append) (xs := #[.tmp 57, .tmp 62]) rfl ?_); at_builtin; refine Kd.Zcd (Kd.int .i64) (w0 := w) w.heap.size rfl (.tmp 57) (.tmp 62) 23 3 (.int .i64 0) 8 rfl Try.underlying23 info3 rfl (by decide) (by omega) u5 x5_2 (rd l0 x4_1) [.int .i64 (rd l0 x4_1)] (fun k_ => some k_ ≠ (.slice Ao9 x3_1.length co9 : Value).ownBlock) (fun _ => False) rfl rfl ?aP (fun _ hk => hk.elim) ?aF ?aO ?aB ?aS ?aL ?_; (case aP => exact rfl); (case aB => exact (by repeat (first | (with_reducible first | exact HB.out | apply Zab | apply Za | apply Zac) | exact HB.out))); (case aF => exact (fun k_ hk => Kd.fresh' (Kd.R_lt (mvR HO_3.out)) k_ hk)); (case aO => exact (mvR HO_5.out)); (case aS => exact (Zae (by repeat (first | (with_reducible first | exact HB.out | apply Zab | apply Za | apply Zac) | exact HB.out)))); (case aL => have := LMc28.out; omega); intro v160 w29 ho hb hg hat; rw [← Ny159.out] at ho; have n0_ := Zaa.mk (Kd.Zc9 (ok := (fun _ => True)) (mvR (Kd.Zbm HO_3.out (fun _ hk => ⟨trivial, hk⟩))) hg hat); have n1_ := Zaa.mk (hb); have n2_ := Zaa.mk (ho); clear HO_3; clear HB; clear HO_5; have HO_3 := n0_; have HB := n1_; have HO161 := n2_; clear n0_ n1_ n2_; clear ho hb hg hat))
      repeat (go_quiet (first | ((with_reducible refine Zbk (b := .append) (xs := #[.tmp 57, .tmp 62]) rfl ?_); at_builtin; refine Kd.Zcd (Kd.int .i64) (w0 := w) w.heap.size rfl (.tmp 57) (.tmp 62) 23 3 (.int .i64 0) 8 rfl Try.underlying23 info3 rfl (by decide) (by omega) u5 x5_2 (rd l0 x4_1) [.int .i64 (rd l0 x4_1)] (fun k_ => some k_ ≠ (.slice Ao9 x3_1.length co9 : Value).ownBlock) (fun _ => False) rfl rfl ?aP (fun _ hk => hk.elim) ?aF ?aO ?aB ?aS ?aL ?_; (case aP => exact rfl); (case aB => exact (by repeat (first | (with_reducible first | exact HB.out | apply Zab | apply Za | apply Zac) | exact HB.out))); (case aF => exact (fun k_ hk => Kd.fresh' (Kd.R_lt (mvR HO_3.out)) k_ hk)); (case aO => exact (mvR HO_5.out)); (case aS => exact (Zae (by repeat (first | (with_reducible first | exact HB.out | apply Zab | apply Za | apply Zac) | exact HB.out)))); (case aL => have := LMc28.out; omega); intro v160 w29 ho hb hg hat; rw [← Ny159.out] at ho; have n0_ := Zaa.mk (Kd.Zc9 (ok := (fun _ => True)) (mvR (Kd.Zbm HO_3.out (fun _ hk => ⟨trivial, hk⟩))) hg hat); have n1_ := Zaa.mk (hb); have n2_ := Zaa.mk (ho); clear HO_3; clear HB; clear HO_5; have HO_3 := n0_; have HB := n1_; have HO161 := n2_; clear n0_ n1_ n2_; clear ho hb hg hat)); try go_wp2_with (first | ((with_reducible refine Zbk (b := .append) (xs := #[.tmp 57, .tmp 62]) rfl ?_); at_builtin; refine Kd.Zcd (Kd.int .i64) (w0 := w) w.heap.size rfl (.tmp 57) (.tmp 62) 23 3 (.int .i64 0) 8 rfl Try.underlying23 info3 rfl (by decide) (by omega) u5 x5_2 (rd l0 x4_1) [.int .i64 (rd l0 x4_1)] (fun k_ => some k_ ≠ (.slice Ao9 x3_1.length co9 : Value).ownBlock) (fun _ => False) rfl rfl ?aP (fun _ hk => hk.elim) ?aF ?aO ?aB ?aS ?aL ?_; (case aP => exact rfl); (case aB => exact (by repeat (first | (with_reducible first | exact HB.out | apply Zab | apply Za | apply Zac) | exact HB.out))); (case aF => exact (fun k_ hk => Kd.fresh' (Kd.R_lt (mvR HO_3.out)) k_ hk)); (case aO => exact (mvR HO_5.out)); (case aS => exact (Zae (by repeat (first | (with_reducible first | exact HB.out | apply Zab | apply Za | apply Zac) | exact HB.out)))); (case aL => have := LMc28.out; omega); intro v160 w29 ho hb hg hat; rw [← Ny159.out] at ho; have n1_ := Zaa.mk (hb); have n2_ := Zaa.mk (ho); clear HO_3; clear HB; clear HO_5; have HB := n1_; have HO161 := n2_; clear n1_ n2_; clear ho hb hg hat)))
      go_roundg k2
      case measure => have := HK1.out; have := HK2.out; omega
      case rel => exact ⟨(y159), (wrap64 (x4_1 + 1)), (by first | rfl | (simp; done) | (simp [*]; done)), H', ⟨by have := HK1.out; have := HK2.out; omega⟩, ⟨by (with_reducible repeat (first | apply Kd.Za6 | apply Kd.Za5 | apply Kd.Zbb)); exact Kd.Zbm HO161.out (fun _ hk => trivial)⟩, ⟨by repeat (first | (with_reducible first | exact HB.out | apply Zab | apply Za | apply Zac) | exact HB.out)⟩⟩
     rw [if_pos c10] at H
     have c10b0 : decide (x7_2 < (x3_1.length : Int)) = true := decide_eq_true c10
     clear c10
     by_cases c11 : x6_2 = true
     ·subst c11
      have H1 : (if 0 ≤ x7_2 then (if x5_2.length < 17592186044416 then (Zah.l1 k2 l0 x3_1 x4_1 (x5_2 ++ [rd x3_1 x7_2]) true (wrap64 (x7_2 + 1))) else (none)) else (none)) = some r := by rw [if_pos rfl] at H; exact H
      clear H
      have H := H1
      clear H1
      by_cases c12 : 0 ≤ x7_2
      rotate_left
      ·rw [if_neg c12] at H
       exact absurd H (by simp)
      rw [if_pos c12] at H
      have c12b0 : decide (0 ≤ x7_2) = true := decide_eq_true c12
      clear c12
      by_cases c13 : x5_2.length < 17592186044416
      rotate_left
      ·rw [if_neg c13] at H
       exact absurd H (by simp)
      rw [if_pos c13] at H
      have LMc13 := Zaa.mk c13
      clear c13
      obtain ⟨y141, hy141⟩ : ∃ y_ : List Int, y_ = (x5_2 ++ [rd x3_1 x7_2]) := ⟨_, rfl⟩
      replace H : (Zah.l1 k2 l0 x3_1 x4_1 y141 true (wrap64 (x7_2 + 1))) = some r := by first | (rw [hy141]; with_reducible exact H) | (have H2_ := (Option.bind_some _ _).symm.trans H; rw [hy141]; with_reducible exact H2_) | (have H2_ := (Option.bind_some _ _).symm.trans H; with_reducible exact H2_) | with_reducible exact H | (rw [hy141]; exact H) | exact H
      have Ny141 := Zaa.mk hy141
      clear hy141
      have H' := Zaa.mk H
      clear H
      have p140 : 0 ≤ (x7_2 : Int) := of_decide_eq_true (by first | (with_reducible assumption) | assumption)
      have q140 : x7_2 < (x3_1.length : Int) := of_decide_eq_true (by first | (with_reducible assumption) | assumption)
      obtain ⟨ad140, e140, hx140_0⟩ := Kd.Zbx (Kd.Zaz HO_3.out).2.2 x7_2 p140 q140
      cases e140
      replace p140 := eq_true p140
      replace q140 := eq_true q140
      go_wp2_with (first | ((with_reducible refine Zbk (b := .append) (xs := #[.tmp 48, .tmp 53]) rfl ?_); at_builtin; refine Kd.Zcd (Kd.int .i64) (w0 := w) w.heap.size rfl (.tmp 48) (.tmp 53) 23 3 (.int .i64 0) 8 rfl Try.underlying23 info3 rfl (by decide) (by omega) u5 x5_2 (rd x3_1 x7_2) [.int .i64 (rd x3_1 x7_2)] (fun k_ => some k_ ≠ (.slice (some ad140) x3_1.length co9 : Value).ownBlock) (fun _ => False) rfl rfl ?aP (fun _ hk => hk.elim) ?aF ?aO ?aB ?aS ?aL ?_; (case aP => exact rfl); (case aB => exact (by repeat (first | (with_reducible first | exact HB.out | apply Zab | apply Za | apply Zac) | exact HB.out))); (case aF => exact (fun k_ hk => Kd.fresh' (Kd.R_lt (mvR HO_3.out)) k_ hk)); (case aO => exact (mvR HO_5.out)); (case aS => exact (Zae (by repeat (first | (with_reducible first | exact HB.out | apply Zab | apply Za | apply Zac) | exact HB.out)))); (case aL => have := LMc13.out; omega); intro v142 w14 ho hb hg hat; rw [← Ny141.out] at ho; have n0_ := Zaa.mk (Kd.Zc9 (ok := (fun _ => True)) (mvR (Kd.Zbm HO_3.out (fun _ hk => ⟨trivial, hk⟩))) hg hat); have n1_ := Zaa.mk (hb); have n2_ := Zaa.mk (ho); clear HO_3; clear HB; clear HO_5; have HO_3 := n0_; have HB := n1_; have HO143 := n2_; clear n0_ n1_ n2_; clear ho hb hg hat))
      repeat (go_quiet (first | ((with_reducible refine Zbk (b := .append) (xs := #[.tmp 48, .tmp 53]) rfl ?_); at_builtin; refine Kd.Zcd (Kd.int .i64) (w0 := w) w.heap.size rfl (.tmp 48) (.tmp 53) 23 3 (.int .i64 0) 8 rfl Try.underlying23 info3 rfl (by decide) (by omega) u5 x5_2 (rd x3_1 x7_2) [.int .i64 (rd x3_1 x7_2)] (fun k_ => some k_ ≠ (.slice (some ad140) x3_1.length co9 : Value).ownBlock) (fun _ => False) rfl rfl ?aP (fun _ hk => hk.elim) ?aF ?aO ?aB ?aS ?aL ?_; (case aP => exact rfl); (case aB => exact (by repeat (first | (with_reducible first | exact HB.out | apply Zab | apply Za | apply Zac) | exact HB.out))); (case aF => exact (fun k_ hk => Kd.fresh' (Kd.R_lt (mvR HO_3.out)) k_ hk)); (case aO => exact (mvR HO_5.out)); (case aS => exact (Zae (by repeat (first | (with_reducible first | exact HB.out | apply Zab | apply Za | apply Zac) | exact HB.out)))); (case aL => have := LMc13.out; omega); intro v142 w14 ho hb hg hat; rw [← Ny141.out] at ho; have n0_ := Zaa.mk (Kd.Zc9 (ok := (fun _ => True)) (mvR (Kd.Zbm HO_3.out (fun _ hk => ⟨trivial, hk⟩))) hg hat); have n1_ := Zaa.mk (hb); have n2_ := Zaa.mk (ho); clear HO_3; clear HB; clear HO_5; have HO_3 := n0_; have HB := n1_; have HO143 := n2_; clear n0_ n1_ n2_; clear ho hb hg hat)); try go_wp2_with (first | ((with_reducible refine Zbk (b := .append) (xs := #[.tmp 48, .tmp 53]) rfl ?_); at_builtin; refine Kd.Zcd (Kd.int .i64) (w0 := w) w.heap.size rfl (.tmp 48) (.tmp 53) 23 3 (.int .i64 0) 8 rfl Try.underlying23 info3 rfl (by decide) (by omega) u5 x5_2 (rd x3_1 x7_2) [.int .i64 (rd x3_1 x7_2)] (fun k_ => some k_ ≠ (.slice (some ad140) x3_1.length co9 : Value).ownBlock) (fun _ => False) rfl rfl ?aP (fun _ hk => hk.elim) ?aF ?aO ?aB ?aS ?aL ?_; (case aP => exact rfl); (case aB => exact (by repeat (first | (with_reducible first | exact HB.out | apply Zab | apply Za | apply Zac) | exact HB.out))); (case aF => exact (fun k_ hk => Kd.fresh' (Kd.R_lt (mvR HO_3.out)) k_ hk)); (case aO => exact (mvR HO_5.out)); (case aS => exact (Zae (by repeat (first | (with_reducible first | exact HB.out | apply Zab | apply Za | apply Zac) | exact HB.out)))); (case aL => have := LMc13.out; omega); intro v142 w14 ho hb hg hat; rw [← Ny141.out] at ho; have n0_ := Zaa.mk (Kd.Zc9 (ok := (fun _ => True)) (mvR (Kd.Zbm HO_3.out (fun _ hk => ⟨trivial, hk⟩))) hg hat); have n1_ := Zaa.mk (hb); have n2_ := Zaa.mk (ho); clear HO_3; clear HB; clear HO_5; have HO_3 := n0_; have HB := n1_; have HO143 := n2_; clear n0_ n1_ n2_; clear ho hb hg hat)))
      go_roundg k2
      case measure => have := HK1.out; have := HK2.out; omega
      case rel => exact ⟨(y141), (true), (wrap64 (x7_2 + 1)), (by first | rfl | (simp; done) | (simp [*]; done)), (by first | rfl | (simp; done) | (simp [*]; done)), H', ⟨by have := HK1.out; have := HK2.out; omega⟩, ⟨by (with_reducible repeat (first | apply Kd.Za6 | apply Kd.Za5 | apply Kd.Zbb)); exact Kd.Zbm HO_3.out (fun _ hk => hk.2)⟩, ⟨by (with_reducible repeat (first | apply Kd.Za6 | apply Kd.Za5 | apply Kd.Zbb)); exact HO143.out⟩, ⟨by repeat (first | (with_reducible first | exact HB.out | apply Zab | apply Za | apply Zac) | exact HB.out)⟩⟩
     replace c11 := Bool.eq_false_iff.mpr c11
     subst c11
     have H1 : (if 0 ≤ x4_1 then (if x4_1 < (l0.length : Int) then (if 0 ≤ x7_2 then (if (rd l0 x4_1) < (rd x3_1 x7_2) then (if x5_2.length < 17592186044416 then ((some (x5_2 ++ [rd l0 x4_1] : List Int)).bind fun y147 => (if y147.length < 17592186044416 then (Zah.l1 k2 l0 x3_1 x4_1 (y147 ++ [rd x3_1 x7_2]) true (wrap64 (x7_2 + 1))) else (none))) else (none)) else (if x5_2.length < 17592186044416 then (Zah.l1 k2 l0 x3_1 x4_1 (x5_2 ++ [rd x3_1 x7_2]) false (wrap64 (x7_2 + 1))) else (none))) else (none)) else (none)) else (none)) = some r := by rw [if_neg (show ¬ (false = true) by decide)] at H; exact H
     clear H
     have H := H1
     clear H1
     by_cases c15 : 0 ≤ x4_1
     rotate_left
     ·rw [if_neg c15] at H
      exact absurd H (by simp)
     rw [if_pos c15] at H
     have c15b0 : decide (0 ≤ x4_1) = true := decide_eq_true c15
     clear c15
     by_cases c16 : x4_1 < (l0.length : Int)
     rotate_left
     ·rw [if_neg c16] at H
      exact absurd H (by simp)
     rw [if_pos c16] at H
     have c16b0 : decide (x4_1 < (l0.length : Int)) = true := decide_eq_true c16
     clear c16
     by_cases c17 : 0 ≤ x7_2
     rotate_left
     ·rw [if_neg c17] at H
      exact absurd H (by simp)
     rw [if_pos c17] at H
     have c17b0 : decide (0 ≤ x7_2) = true := decide_eq_true c17
     clear c17
     by_cases c18 : (rd l0 x4_1) < (rd x3_1 x7_2)
     rotate_left
     ·rw [if_neg c18] at H
      have c18b0 : decide ((rd l0 x4_1) < (rd x3_1 x7_2)) = false := decide_eq_false c18
      clear c18
      by_cases c23 : x5_2.length < 17592186044416
      rotate_left
      ·rw [if_neg c23] at H
       exact absurd H (by simp)
      rw [if_pos c23] at H
      have LMc23 := Zaa.mk c23
      clear c23
      obtain ⟨y155, hy155⟩ : ∃ y_ : List Int, y_ = (x5_2 ++ [rd x3_1 x7_2]) := ⟨_, rfl⟩
      replace H : (Zah.l1 k2 l0 x3_1 x4_1 y155 false (wrap64 (x7_2 + 1))) = some r := by first | (rw [hy155]; with_reducible exact H) | (have H2_ := (Option.bind_some _ _).symm.trans H; rw [hy155]; with_reducible exact H2_) | (have H2_ := (Option.bind_some _ _).symm.trans H; with_reducible exact H2_) | with_reducible exact H | (rw [hy155]; exact H) | exact H
      have Ny155 := Zaa.mk hy155
      clear hy155
      have H' := Zaa.mk H
      clear H
      have p144 : 0 ≤ (x4_1 : Int) := of_decide_eq_true (by first | (with_reducible assumption) | assumption)
      have q144 : x4_1 < (l0.length : Int) := of_decide_eq_true (by first | (with_reducible assumption) | assumption)
      obtain ⟨ad144, e144, hx144_0⟩ := Kd.Zbx HR0.out x4_1 p144 q144
      obtain rfl : ad138 = ad144 := (by injection e144)
      replace hx144_0 := (HB.out.cell (World.block_lt_of_cell? w _ hx144_0)).trans hx144_0
      replace p144 := eq_true p144
      replace q144 := eq_true q144
      have p145 : 0 ≤ (x7_2 : Int) := of_decide_eq_true (by first | (with_reducible assumption) | assumption)
      have q145 : x7_2 < (x3_1.length : Int) := of_decide_eq_true (by first | (with_reducible assumption) | assumption)
      obtain ⟨ad145, e145, hx145_0⟩ := Kd.Zbx (Kd.Zaz HO_3.out).2.2 x7_2 p145 q145
      cases e145
      replace p145 := eq_true p145
      replace q145 := eq_true q145
      have p154 : 0 ≤ (x7_2 : Int) := of_decide_eq_true (by first | (with_reducible assumption) | assumption)
      have q154 : x7_2 < (x3_1.length : Int) := of_decide_eq_true (by first | (with_reducible assumption) | assumption)
      obtain ⟨ad154, e154, hx154_0⟩ := Kd.Zbx (Kd.Zaz HO_3.out).2.2 x7_2 p154 q154
      obtain rfl : ad145 = ad154 := (by injection e154)
      replace p154 := eq_true p154
      replace q154 := eq_true q154
      go_wp2_with (first | ((with_reducible refine Zbk (b := .append) (xs := #[.tmp 48, .tmp 53]) rfl ?_); at_builtin; refine Kd.Zcd (Kd.int .i64) (w0 := w) w.heap.size rfl (.tmp 48) (.tmp 53) 23 3 (.int .i64 0) 8 rfl Try.underlying23 info3 rfl (by decide) (by omega) u5 x5_2 (rd x3_1 x7_2) [.int .i64 (rd x3_1 x7_2)] (fun k_ => some k_ ≠ (.slice (some ad145) x3_1.length co9 : Value).ownBlock) (fun _ => False) rfl rfl ?aP (fun _ hk => hk.elim) ?aF ?aO ?aB ?aS ?aL ?_; (case aP => exact rfl); (case aB => exact (by repeat (first | (with_reducible first | exact HB.out | apply Zab | apply Za | apply Zac) | exact HB.out))); (case aF => exact (fun k_ hk => Kd.fresh' (Kd.R_lt (mvR HO_3.out)) k_ hk)); (case aO => exact (mvR HO_5.out)); (case aS => exact (Zae (by repeat (first | (with_reducible first | exact HB.out | apply Zab | apply Za | apply Zac) | exact HB.out)))); (case aL => have := LMc23.out; omega); intro v156 w24 ho hb hg hat; rw [← Ny155.out] at ho; have n0_ := Zaa.mk (Kd.Zc9 (ok := (fun _ => True)) (mvR (Kd.Zbm HO_3.out (fun _ hk => ⟨trivial, hk⟩))) hg hat); have n1_ := Zaa.mk (hb); have n2_ := Zaa.mk (ho); clear HO_3; clear HB; clear HO_5; have HO_3 := n0_; have HB := n1_; have HO157 := n2_; clear n0_ n1_ n2_; clear ho hb hg hat))
      repeat (go_quiet (first | ((with_reducible refine Zbk (b := .append) (xs := #[.tmp 48, .tmp 53]) rfl ?_); at_builtin; refine Kd.Zcd (Kd.int .i64) (w0 := w) w.heap.size rfl (.tmp 48) (.tmp 53) 23 3 (.int .i64 0) 8 rfl Try.underlying23 info3 rfl (by decide) (by omega) u5 x5_2 (rd x3_1 x7_2) [.int .i64 (rd x3_1 x7_2)] (fun k_ => some k_ ≠ (.slice (some ad145) x3_1.length co9 : Value).ownBlock) (fun _ => False) rfl rfl ?aP (fun _ hk => hk.elim) ?aF ?aO ?aB ?aS ?aL ?_; (case aP => exact rfl); (case aB => exact (by repeat (first | (with_reducible first | exact HB.out | apply Zab | apply Za | apply Zac) | exact HB.out))); (case aF => exact (fun k_ hk => Kd.fresh' (Kd.R_lt (mvR HO_3.out)) k_ hk)); (case aO => exact (mvR HO_5.out)); (case aS => exact (Zae (by repeat (first | (with_reducible first | exact HB.out | apply Zab | apply Za | apply Zac) | exact HB.out)))); (case aL => have := LMc23.out; omega); intro v156 w24 ho hb hg hat; rw [← Ny155.out] at ho; have n0_ := Zaa.mk (Kd.Zc9 (ok := (fun _ => True)) (mvR (Kd.Zbm HO_3.out (fun _ hk => ⟨trivial, hk⟩))) hg hat); have n1_ := Zaa.mk (hb); have n2_ := Zaa.mk (ho); clear HO_3; clear HB; clear HO_5; have HO_3 := n0_; have HB := n1_; have HO157 := n2_; clear n0_ n1_ n2_; clear ho hb hg hat)); try go_wp2_with (first | ((with_reducible refine Zbk (b := .append) (xs := #[.tmp 48, .tmp 53]) rfl ?_); at_builtin; refine Kd.Zcd (Kd.int .i64) (w0 := w) w.heap.size rfl (.tmp 48) (.tmp 53) 23 3 (.int .i64 0) 8 rfl Try.underlying23 info3 rfl (by decide) (by omega) u5 x5_2 (rd x3_1 x7_2) [.int .i64 (rd x3_1 x7_2)] (fun k_ => some k_ ≠ (.slice (some ad145) x3_1.length co9 : Value).ownBlock) (fun _ => False) rfl rfl ?aP (fun _ hk => hk.elim) ?aF ?aO ?aB ?aS ?aL ?_; (case aP => exact rfl); (case aB => exact (by repeat (first | (with_reducible first | exact HB.out | apply Zab | apply Za | apply Zac) | exact HB.out))); (case aF => exact (fun k_ hk => Kd.fresh' (Kd.R_lt (mvR HO_3.out)) k_ hk)); (case aO => exact (mvR HO_5.out)); (case aS => exact (Zae (by repeat (first | (with_reducible first | exact HB.out | apply Zab | apply Za | apply Zac) | exact HB.out)))); (case aL => have := LMc23.out; omega); intro v156 w24 ho hb hg hat; rw [← Ny155.out] at ho; have n0_ := Zaa.mk (Kd.Zc9 (ok := (fun _ => True)) (mvR (Kd.Zbm HO_3.out (fun _ hk => ⟨trivial, hk⟩))) hg hat); have n1_ := Zaa.mk (hb); have n2_ := Zaa.mk (ho); clear HO_3; clear HB; clear HO_5; have HO_3 := n0_; have HB := n1_; have HO157 := n2_; clear n0_ n1_ n2_; clear ho hb hg hat)))
      go_roundg k2
      case measure => have := HK1.out; have := HK2.out; omega
      case rel => exact ⟨(y155), (false), (wrap64 (x7_2 + 1)), (by first | rfl | (simp; done) | (simp [*]; done)), (by first | rfl | (simp; done) | (simp [*]; done)), H', ⟨by have := HK1.out; have := HK2.out; omega⟩, ⟨by (with_reducible repeat (first | apply Kd.Za6 | apply Kd.Za5 | apply Kd.Zbb)); exact Kd.Zbm HO_3.out (fun _ hk => hk.2)⟩, ⟨by (with_reducible repeat (first | apply Kd.Za6 | apply Kd.Za5 | apply Kd.Zbb)); exact HO157.out⟩, ⟨by repeat (first | (with_reducible first | exact HB.out | apply Zab | apply Za | apply Zac) | exact HB.out)⟩⟩
     rw [if_pos c18] at H
     have c18b0 : decide ((rd l0 x4_1) < (rd x3_1 x7_2)) = true := decide_eq_true c18
     clear c18
     by_cases c19 : x5_2.length < 17592186044416
     rotate_left
     ·rw [if_neg c19] at H
      exact absurd H (by simp)
     rw [if_pos c19] at H
     have LMc19 := Zaa.mk c19
     clear c19
     obtain ⟨y147, hy147⟩ : ∃ y_ : List Int, y_ = (x5_2 ++ [rd l0 x4_1]) := ⟨_, rfl⟩
     replace H : (if y147.length < 17592186044416 then (Zah.l1 k2 l0 x3_1 x4_1 (y147 ++ [rd x3_1 x7_2]) true (wrap64 (x7_2 + 1))) else (none)) = some r := by first | (rw [hy147]; with_reducible exact H) | (have H2_ := (Option.bind_some _ _).symm.trans H; rw [hy147]; with_reducible exact H2_) | (have H2_ := (Option.bind_some _ _).symm.trans H; with_reducible exact H2_) | with_reducible exact H | (rw [hy147]; exact H) | exact H
     have Ny147 := Zaa.mk hy147
     clear hy147
     by_cases c20 : y147.length < 17592186044416
     rotate_left
     ·rw [if_neg c20] at H
      exact absurd H (by simp)
     rw [if_pos c20] at H
     have LMc20 := Zaa.mk c20
     clear c20
     obtain ⟨y151, hy151⟩ : ∃ y_ : List Int, y_ = (y147 ++ [rd x3_1 x7_2]) := ⟨_, rfl⟩
     replace H : (Zah.l1 k2 l0 x3_1 x4_1 y151 true (wrap64 (x7_2 + 1))) = some r := by first | (rw [hy151]; with_reducible exact H) | (have H2_ := (Option.bind_some _ _).symm.trans H; rw [hy151]; with_reducible exact H2_) | (have H2_ := (Option.bind_some _ _).symm.trans H; with_reducible exact H2_) | with_reducible exact H | (rw [hy151]; exact H) | exact H
     have Ny151 := Zaa.mk hy151
     clear hy151
     have H' := Zaa.mk H
     clear H
     have p144 : 0 ≤ (x4_1 : Int) := of_decide_eq_true (by first | (with_reducible assumption) | assumption)
     have q144 : x4_1 < (l0.length : Int) := of_decide_eq_true (by first | (with_reducible assumption) | assumption)
     obtain ⟨ad144, e144, hx144_0⟩ := Kd.Zbx HR0.out x4_1 p144 q144
     obtain rfl : ad138 = ad144 := (by injection e144)
     replace hx144_0 := (HB.out.cell (World.block_lt_of_cell? w _ hx144_0)).trans hx144_0
     replace p144 := eq_true p144
     replace q144 := eq_true q144
     have p145 : 0 ≤ (x7_2 : Int) := of_decide_eq_true (by first | (with_reducible assumption) | assumption)
     have q145 : x7_2 < (x3_1.length : Int) := of_decide_eq_true (by first | (with_reducible assumption) | assumption)
     obtain ⟨ad145, e145, hx145_0⟩ := Kd.Zbx (Kd.Zaz HO_3.out).2.2 x7_2 p145 q145
     cases e145
     replace p145 := eq_true p145
     replace q145 := eq_true q145
     have p146 : 0 ≤ (x4_1 : Int) := of_decide_eq_true (by first | (with_reducible assumption) | assumption)
     have q146 : x4_1 < (l0.length : Int) := of_decide_eq_true (by first | (with_reducible assumption) | assumption)
     obtain ⟨ad146, e146, hx146_0⟩ := Kd.Zbx HR0.out x4_1 p146 q146
     obtain rfl : ad138 = ad146 := (by injection e146)
     replace hx146_0 := (HB.out.cell (World.block_lt_of_cell? w _ hx146_0)).trans hx146_0
     replace p146 := eq_true p146
     replace q146 := eq_true q146
     go_wp2_with (first | ((with_reducible refine Zbk (b := .append) (xs := #[.tmp 41, .tmp 46]) rfl ?_); at_builtin; refine Kd.Zcd (Kd.int .i64) (w0 := w) w.heap.size rfl (.tmp 41) (.tmp 46) 23 3 (.int .i64 0) 8 rfl Try.underlying23 info3 rfl (by decide) (by omega) u5 x5_2 (rd l0 x4_1) [.int .i64 (rd l0 x4_1)] (fun k_ => some k_ ≠ (.slice (some ad145) x3_1.length co9 : Value).ownBlock) (fun _ => False) rfl rfl ?aP (fun _ hk => hk.elim) ?aF ?aO ?aB ?aS ?aL ?_; (case aP => exact rfl); (case aB => exact (by repeat (first | (with_reducible first | exact HB.out | apply Zab | apply Za | apply Zac) | exact HB.out))); (case aF => exact (fun k_ hk => Kd.fresh' (Kd.R_lt (mvR HO_3.out)) k_ hk)); (case aO => exact (mvR HO_5.out)); (case aS => exact (Zae (by repeat (first | (with_reducible first | exact HB.out | apply Zab | apply Za | apply Zac) | exact HB.out)))); (case aL => have := LMc19.out; omega); intro v148 w21 ho hb hg hat; rw [← Ny147.out] at ho; have n0_ := Zaa.mk (Kd.Zc9 (ok := (fun _ => True)) (mvR (Kd.Zbm HO_3.out (fun _ hk => ⟨trivial, hk⟩))) hg hat); have n1_ := Zaa.mk (hb); have n2_ := Zaa.mk (ho); clear HO_3; clear HB; clear HO_5; have HO_3 := n0_; have HB := n1_; have HO149 := n2_; clear n0_ n1_ n2_; clear ho hb hg hat; have p150 : 0 ≤ (x7_2 : Int) := of_decide_eq_true (by first | (with_reducible assumption) | assumption); have q150 : x7_2 < (x3_1.length : Int) := of_decide_eq_true (by first | (with_reducible assumption) | assumption); obtain ⟨ad150, e150, hx150_0⟩ := Kd.Zbx (Kd.Zaz HO_3.out).2.2 x7_2 p150 q150; obtain rfl : ad145 = ad150 := (by injection e150); replace p150 := eq_true p150; replace q150 := eq_true q150) | ((with_reducible refine Zbk (b := .append) (xs := #[.tmp 48, .tmp 53]) rfl ?_); at_builtin; refine Kd.Zcd (Kd.int .i64) (w0 := w) w.heap.size rfl (.tmp 48) (.tmp 53) 23 3 (.int .i64 0) 8 rfl Try.underlying23 info3 rfl (by decide) (by omega) v148 y147 (rd x3_1 x7_2) [.int .i64 (rd x3_1 x7_2)] (fun k_ => some k_ ≠ (.slice (some ad145) x3_1.length co9 : Value).ownBlock) (fun _ => False) rfl rfl ?aP (fun _ hk => hk.elim) ?aF ?aO ?aB ?aS ?aL ?_; (case aP => exact rfl); (case aB => exact (by repeat (first | (with_reducible first | exact HB.out | apply Zab | apply Za | apply Zac) | exact HB.out))); (case aF => exact (fun k_ hk => Kd.fresh' (Kd.R_lt (mvR HO_3.out)) k_ hk)); (case aO => exact (mvR HO149.out)); (case aS => exact (Zae (by repeat (first | (with_reducible first | exact HB.out | apply Zab | apply Za | apply Zac) | exact HB.out)))); (case aL => have := LMc20.out; omega); intro v152 w22 ho hb hg hat; rw [← Ny151.out] at ho; have n0_ := Zaa.mk (Kd.Zc9 (ok := (fun _ => True)) (mvR HO_3.out) hg hat); have n1_ := Zaa.mk (hb); have n2_ := Zaa.mk (ho); clear HO_3; clear HB; clear HO149; have HO_3 := n0_; have HB := n1_; have HO153 := n2_; clear n0_ n1_ n2_; clear ho hb hg hat))
     repeat (go_quiet (first | ((with_reducible refine Zbk (b := .append) (xs := #[.tmp 41, .tmp 46]) rfl ?_); at_builtin; refine Kd.Zcd (Kd.int .i64) (w0 := w) w.heap.size rfl (.tmp 41) (.tmp 46) 23 3 (.int .i64 0) 8 rfl Try.underlying23 info3 rfl (by decide) (by omega) u5 x5_2 (rd l0 x4_1) [.int .i64 (rd l0 x4_1)] (fun k_ => some k_ ≠ (.slice (some ad145) x3_1.length co9 : Value).ownBlock) (fun _ => False) rfl rfl ?aP (fun _ hk => hk.elim) ?aF ?aO ?aB ?aS ?aL ?_; (case aP => exact rfl); (case aB => exact (by repeat (first | (with_reducible first | exact HB.out | apply Zab | apply Za | apply Zac) | exact HB.out))); (case aF => exact (fun k_ hk => Kd.fresh' (Kd.R_lt (mvR HO_3.out)) k_ hk)); (case aO => exact (mvR HO_5.out)); (case aS => exact (Zae (by repeat (first | (with_reducible first | exact HB.out | apply Zab | apply Za | apply Zac) | exact HB.out)))); (case aL => have := LMc19.out; omega); intro v148 w21 ho hb hg hat; rw [← Ny147.out] at ho; have n0_ := Zaa.mk (Kd.Zc9 (ok := (fun _ => True)) (mvR (Kd.Zbm HO_3.out (fun _ hk => ⟨trivial, hk⟩))) hg hat); have n1_ := Zaa.mk (hb); have n2_ := Zaa.mk (ho); clear HO_3; clear HB; clear HO_5; have HO_3 := n0_; have HB := n1_; have HO149 := n2_; clear n0_ n1_ n2_; clear ho hb hg hat; have p150 : 0 ≤ (x7_2 : Int) := of_decide_eq_true (by first | (with_reducible assumption) | assumption); have q150 : x7_2 < (x3_1.length : Int) := of_decide_eq_true (by first | (with_reducible assumption) | assumption); obtain ⟨ad150, e150, hx150_0⟩ := Kd.Zbx (Kd.Zaz HO_3.out).2.2 x7_2 p150 q150; obtain rfl : ad145 = ad150 := (by injection e150); replace p150 := eq_true p150; replace q150 := eq_true q150) | ((with_reducible refine Zbk (b := .append) (xs := #[.tmp 48, .tmp 53]) rfl ?_); at_builtin; refine Kd.Zcd (Kd.int .i64) (w0 := w) w.heap.size rfl (.tmp 48) (.tmp 53) 23 3 (.int .i64 0) 8 rfl Try.underlying23 info3 rfl (by decide) (by omega) v148 y147 (rd x3_1 x7_2) [.int .i64 (rd x3_1 x7_2)] (fun k_ => some k_ ≠ (.slice (some ad145) x3_1.length co9 : Value).ownBlock) (fun _ => False) rfl rfl ?aP (fun _ hk => hk.elim) ?aF ?aO ?aB ?aS ?aL ?_; (case aP => exact rfl); (case aB => exact (by repeat (first | (with_reducible first | exact HB.out | apply Zab | apply Za | apply Zac) | exact HB.out))); (case aF => exact (fun k_ hk => Kd.fresh' (Kd.R_lt (mvR HO_3.out)) k_ hk)); (case aO => exact (mvR HO149.out)); (case aS => exact (Zae (by repeat (first | (with_reducible first | exact HB.out | apply Zab | apply Za | apply Zac) | exact HB.out)))); (case aL => have := LMc20.out; omega); intro v152 w22 ho hb hg hat; rw [← Ny151.out] at ho; have n0_ := Zaa.mk (Kd.Zc9 (ok := (fun _ => True)) (mvR HO_3.out) hg hat); have n1_ := Zaa.mk (hb); have n2_ := Zaa.mk (ho); clear HO_3; clear HB; clear HO149; have HO_3 := n0_; have HB := n1_; have HO153 := n2_; clear n0_ n1_ n2_; clear ho hb hg hat)); try go_wp2_with (first | ((with_reducible refine Zbk (b := .append) (xs := #[.tmp 41, .tmp 46]) rfl ?_); at_builtin; refine Kd.Zcd (Kd.int .i64) (w0 := w) w.heap.size rfl (.tmp 41) (.tmp 46) 23 3 (.int .i64 0) 8 rfl Try.underlying23 info3 rfl (by decide) (by omega) u5 x5_2 (rd l0 x4_1) [.int .i64 (rd l0 x4_1)] (fun k_ => some k_ ≠ (.slice (some ad145) x3_1.length co9 : Value).ownBlock) (fun _ => False) rfl rfl ?aP (fun _ hk => hk.elim) ?aF ?aO ?aB ?aS ?aL ?_; (case aP => exact rfl); (case aB => exact (by repeat (first | (with_reducible first | exact HB.out | apply Zab | apply Za | apply Zac) | exact HB.out))); (case aF => exact (fun k_ hk => Kd.fresh' (Kd.R_lt (mvR HO_3.out)) k_ hk)); (case aO => exact (mvR HO_5.out)); (case aS => exact (Zae (by repeat (first | (with_reducible first | exact HB.out | apply Zab | apply Za | apply Zac) | exact HB.out)))); (case aL => have := LMc19.out; omega); intro v148 w21 ho hb hg hat; rw [← Ny147.out] at ho; have n0_ := Zaa.mk (Kd.Zc9 (ok := (fun _ => True)) (mvR (Kd.Zbm HO_3.out (fun _ hk => ⟨trivial, hk⟩))) hg hat); have n1_ := Zaa.mk (hb); have n2_ := Zaa.mk (ho); clear HO_3; clear HB; clear HO_5; have HO_3 := n0_; have HB := n1_; have HO149 := n2_; clear n0_ n1_ n2_; clear ho hb hg hat; have p150 : 0 ≤ (x7_2 : Int) := of_decide_eq_true (by first | (with_reducible assumption) | assumption); have q150 : x7_2 < (x3_1.length : Int) := of_decide_eq_true (by first | (with_reducible assumption) | assumption); obtain ⟨ad150, e150, hx150_0⟩ := Kd.Zbx (Kd.Zaz HO_3.out).2.2 x7_2 p150 q150; obtain rfl : ad145 = ad150 := (by injection e150); replace p150 := eq_true p150; replace q150 := eq_true q150) | ((with_reducible refine Zbk (b := .append) (xs := #[.tmp 48, .tmp 53]) rfl ?_); at_builtin; refine Kd.Zcd (Kd.int .i64) (w0 := w) w.heap.size rfl (.tmp 48) (.tmp 53) 23 3 (.int .i64 0) 8 rfl Try.underlying23 info3 rfl (by decide) (by omega) v148 y147 (rd x3_1 x7_2) [.int .i64 (rd x3_1 x7_2)] (fun k_ => some k_ ≠ (.slice (some ad145) x3_1.length co9 : Value).ownBlock) (fun _ => False) rfl rfl ?aP (fun _ hk => hk.elim) ?aF ?aO ?aB ?aS ?aL ?_; (case aP => exact rfl); (case aB => exact (by repeat (first | (with_reducible first | exact HB.out | apply Zab | apply Za | apply Zac) | exact HB.out))); (case aF => exact (fun k_ hk => Kd.fresh' (Kd.R_lt (mvR HO_3.out)) k_ hk)); (case aO => exact (mvR HO149.out)); (case aS => exact (Zae (by repeat (first | (with_reducible first | exact HB.out | apply Zab | apply Za | apply Zac) | exact HB.out)))); (case aL => have := LMc20.out; omega); intro v152 w22 ho hb hg hat; rw [← Ny151.out] at ho; have n0_ := Zaa.mk (Kd.Zc9 (ok := (fun _ => True)) (mvR HO_3.out) hg hat); have n1_ := Zaa.mk (hb); have n2_ := Zaa.mk (ho); clear HO_3; clear HB; clear HO149; have HO_3 := n0_; have HB := n1_; have HO153 := n2_; clear n0_ n1_ n2_; clear ho hb hg hat)))
     go_roundg k2
     case measure => have := HK1.out; have := HK2.out; omega
     case rel => exact ⟨(y151), (true), (wrap64 (x7_2 + 1)), (by first | rfl | (simp; done) | (simp [*]; done)), (by first | rfl | (simp; done) | (simp [*]; done)), H', ⟨by have := HK1.out; have := HK2.out; omega⟩, ⟨by (with_reducible repeat (first | apply Kd.Za6 | apply Kd.Za5 | apply Kd.Zbb)); exact Kd.Zbm HO_3.out (fun _ hk => hk.2)⟩, ⟨by (with_reducible repeat (first | apply Kd.Za6 | apply Kd.Za5 | apply Kd.Zbb)); exact HO153.out⟩, ⟨by repeat (first | (with_reducible first | exact HB.out | apply Zab | apply Za | apply Zac) | exact HB.out)⟩⟩
def Zal.l0 : Nat → List Int → List (S41) → Int → Int → Option ((List (S41)))
 | 0, _, _, _, _ => none
 | k + 1, x0, x3, x4, x5 => if x5 < (x0.length : Int) then (if (wrap64 (x5 + 1)) = (x0.length : Int) then (if 0 ≤ x4 then (if x4 < (x0.length : Int) then (if 0 ≤ x5 then (if x3.length < 8796093022208 then (Zal.l0 k x0 (x3 ++ [(⟨rd x0 x4, rd x0 x5⟩ : S41)]) (wrap64 (x5 + 1)) (wrap64 (x5 + 1))) else (none)) else (none)) else (none)) else (none)) else (if 0 ≤ (wrap64 (x5 + 1)) then (if (wrap64 (x5 + 1)) < (x0.length : Int) then (if 0 ≤ x5 then (if (rd x0 (wrap64 (x5 + 1))) = (wrap64 ((rd x0 x5) + 1)) then (Zal.l0 k x0 x3 x4 (wrap64 (x5 + 1))) else (if 0 ≤ x4 then (if x4 < (x0.length : Int) then (if x3.length < 8796093022208 then (Zal.l0 k x0 (x3 ++ [(⟨rd x0 x4, rd x0 x5⟩ : S41)]) (wrap64 (x5 + 1)) (wrap64 (x5 + 1))) else (none)) else (none)) else (none))) else (none)) else (none)) else (none))) else (some x3)
def Zal.f (k : Nat) (l0 : List Int) : Option ((List (S41))) := Zal.l0 k l0 (([] : List (S41))) 0 0
theorem Zal.Zb4 : ∀ k, (∀ y0 y1 y2 y3, LeO (Zal.l0 k y0 y1 y2 y3) (Zal.l0 (k + 1) y0 y1 y2 y3))
 | 0 => fun _ _ _ _ r h => by simp [Zal.l0] at h
 | k + 1 => by
  have ih0 := Zal.Zb4 k
  intro y0 y1 y2 y3
  unfold Zal.l0
  repeat' first
  | (with_reducible exact ih0 _ _ _ _)
  | (with_reducible exact LeO.refl _)
  | (with_reducible exact LeO.none _)
  | (with_reducible refine LeO.ite ?_ ?_)
  | (with_reducible refine LeO.bind ?_ (fun _ => ?_))
  | exact ih0 _ _ _ _
  | exact LeO.none _
  | refine LeO.ite ?_ ?_
  | refine LeO.bind ?_ (fun _ => ?_)
theorem Zal.mono : ∀ a0 k, LeO (Zal.f k a0) (Zal.f (k + 1) a0) := by
 intro a0 k
 have ih0 := Zal.Zb4 k
 unfold Zal.f
 repeat' first
   | (with_reducible exact ih0 _ _ _ _)
   | (with_reducible exact LeO.refl _)
   | (with_reducible exact LeO.none _)
   | (with_reducible refine LeO.ite ?_ ?_)
   | (with_reducible refine LeO.bind ?_ (fun _ => ?_))
   | exact ih0 _ _ _ _
   | exact LeO.none _
   | refine LeO.ite ?_ ?_
   | refine LeO.bind ?_ (fun _ => ?_)
def Zal.T5 : Bool × List (List Nat × List Nat) := (true, [([], []), ([0], [0]), ([], []), ([2], [2]), ([1, 3], [1, 3]), ([4], [4]), ([5], [5]), ([5], [5]), ([7, 5], [5, 7]), ([6, 8, 5], [5, 6, 8]), ([9, 5], [5, 9]), ([5], [5]), ([5], [5]), ([11, 12, 5], [5, 11, 12]), ([13, 5], [5, 13]), ([14, 5], [5, 14]), ([10, 15, 5], [5, 10, 15]), ([5, 16], [5, 16])])
def Zal.B5 : List Nat := [0, 1, 0, 4, 15, 31, 63, 63, 191, 511, 1023, 63, 63, 6207, 14399, 30783, 65535, 131071]
theorem Zal.tab5 : rtab .any (opsOf Try.f58 5) = Zal.T5 := by kernel_rfl
theorem Zal.bits5 : waitsOk Zal.T5.2 Zal.B5 = true := by kernel_rfl
def Zal.T6 : Bool × List (List Nat × List Nat) := (true, [([], []), ([], []), ([], []), ([1, 2], [1, 2]), ([3], [3]), ([], []), ([], []), ([5, 6], [5, 6]), ([7], [7]), ([4, 8], [4, 8]), ([9], [9]), ([0, 10], [0, 10]), ([11, 11, 0, 1, 2, 3, 4, 5, 6, 7, 8, 9, 10, 11], [0, 11])])
def Zal.B6 : List Nat := [0, 0, 0, 6, 14, 0, 0, 96, 224, 510, 1022, 2047, 4095]
theorem Zal.tab6 : rtab .any (opsOf Try.f58 6) = Zal.T6 := by kernel_rfl
theorem Zal.bits6 : waitsOk Zal.T6.2 Zal.B6 = true := by kernel_rfl
set_option maxHeartbeats 8000000 in
set_option maxRecDepth 100000 in
theorem Zal.calls (k : Nat) (A0 : Option Addr) (c0 : Nat) (l0 : List Int) (r : List (S41)) (w : World) (hr0 : Kd.C (Kd.int .i64) w A0 l0.length l0) (hc0 : l0.length ≤ c0) (h : Zal.f k l0 = some r) :
  Calls Try.prog 58 #[.slice A0 l0.length c0] w fun e w' => ∃ v0_ : Value, e = .returned (v0_) ∧ Kd.R k41 41 w' w.heap.size (fun _ => True) v0_ r ∧ Below w.heap.size w w' := by
 have hu41 := Try.underlying41
 have HR0 := Zaa.mk hr0
 have HC0 := Zaa.mk hc0
 clear hr0 hc0
 have HB := Zaa.mk (Below.refl w.heap.size w)
 have H : (Zal.l0 k l0 (([] : List (S41))) 0 0) = some r := h
 clear h
 obtain ⟨y162, hy162⟩ : ∃ y_ : List (S41), y_ = (([] : List (S41))) := ⟨_, rfl⟩
 replace H : (Zal.l0 k l0 y162 0 0) = some r := by first | (rw [hy162]; with_reducible exact H) | (have H2_ := (Option.bind_some _ _).symm.trans H; rw [hy162]; with_reducible exact H2_) | (have H2_ := (Option.bind_some _ _).symm.trans H; with_reducible exact H2_) | with_reducible exact H | (rw [hy162]; exact H) | exact H
 have Ny162 := Zaa.mk hy162
 clear hy162
 have H' := Zaa.mk H
 clear H
 go_enter Try.func58, Try.ntmps58
 go_wp2_with (first | ((with_reducible refine Zbq (N := 6) rfl ?_); refine Kd.Zds k41 _ 41 ?hg (N := 6) ?hd (xs := ([] : List (S41))) (inner := []) (ok := fun _ => True) (okp := fun _ => True) ?hr ?hp (fun _ hk => hk) trivial (Below.refl _ _) (Nat.le_refl _) (by simp) ?_; (case hd => rfl); (case hg => rfl); (case hr => first | (go_simp; done) | (go_simp; rfl)); (case hp => exact (Reps.none _ _)); intro v163 w2 ho3 hb hg_ hnew_; clear hg_ hnew_; (first | rw [← Ny162.out] at ho3 | (simp only [Int.reduceToNat] at ho3; rw [← Ny162.out] at ho3)); have n0_ := Zaa.mk (Kd.Zbs ho3 (Zae (by repeat (first | (with_reducible first | exact HB.out | apply Zab | apply Za | apply Zac) | exact HB.out)))); have n1_ := Zaa.mk (Zam (by repeat (first | (with_reducible first | exact HB.out | apply Zab | apply Za | apply Zac) | exact HB.out)) hb); clear HB; have HO164 := n0_; have HB := n1_; clear n0_ n1_; clear hb ho3))
 go_loopg [3, 4, 5] k (fun kq v3 v4 v5 w' => ∃ (x3_1 : List (S41)) (x4_1 : Int) (x5_1 : Int), v4 = .int .i64 x4_1 ∧ v5 = .int .i64 x5_1 ∧ Zaa (Zal.l0 kq l0 x3_1 x4_1 x5_1 = some r) ∧ Zaa (kq ≤ k) ∧ Zaa (Kd.R k41 41 w' w.heap.size (fun _ => True) v3 x3_1) ∧ Zaa (Below w.heap.size w w'))
 case atStart => exact ⟨(y162), (0), (0), (by first | rfl | (simp; done) | (simp [*]; done)), (by first | rfl | (simp; done) | (simp [*]; done)), H', ⟨Nat.le_refl _⟩, ⟨by (with_reducible repeat (first | apply Kd.Za6 | apply Kd.Za5 | apply Kd.Zbb)); exact HO164.out⟩, ⟨by repeat (first | (with_reducible first | exact HB.out | apply Zab | apply Za | apply Zac) | exact HB.out)⟩⟩
 case round =>
  clear H'
  try clear p2
  obtain ⟨x3_1, x4_1, x5_1, rfl, rfl, HA, HK1, HO_3, HB⟩ := hrel
  cases gk with
  | zero => exact absurd HA.out (by simp [Zal.l0])
  | succ k1 =>
   have H := HA.out
   clear HA
   simp only [Zal.l0] at H
   by_cases c4 : x5_1 < (l0.length : Int)
   rotate_left
   ·rw [if_neg c4] at H
    have c4b0 : decide (x5_1 < (l0.length : Int)) = false := decide_eq_false c4
    clear c4
    obtain rfl := Option.some.inj H
    go_wp2
    go_ret
    exact ⟨_, by first | rfl | (simp [Za1, Za2] <;> rfl) | (simp [*, Za1, Za2] <;> rfl), by (with_reducible repeat (first | apply Kd.Za6 | apply Kd.Za5 | apply Kd.Zbb)); exact HO_3.out, by repeat (first | (with_reducible first | exact HB.out | apply Zab | apply Za | apply Zac) | exact HB.out)⟩
   rw [if_pos c4] at H
   have c4b0 : decide (x5_1 < (l0.length : Int)) = true := decide_eq_true c4
   clear c4
   by_cases c5 : (wrap64 (x5_1 + 1)) = (l0.length : Int)
   ·rw [if_pos c5] at H
    have c5b0 : ((wrap64 (x5_1 + 1)) == (l0.length : Int)) = true := beq_iff_eq.mpr c5
    have c5b1 : ((wrap64 (x5_1 + 1)) != (l0.length : Int)) = false := bne_eq_false_iff_eq.mpr c5
    clear c5
    by_cases c6 : 0 ≤ x4_1
    rotate_left
    ·rw [if_neg c6] at H
     exact absurd H (by simp)
    rw [if_pos c6] at H
    have c6b0 : decide (0 ≤ x4_1) = true := decide_eq_true c6
    clear c6
    by_cases c7 : x4_1 < (l0.length : Int)
    rotate_left
    ·rw [if_neg c7] at H
     exact absurd H (by simp)
    rw [if_pos c7] at H
    have c7b0 : decide (x4_1 < (l0.length : Int)) = true := decide_eq_true c7
    clear c7
    by_cases c8 : 0 ≤ x5_1
    rotate_left
    ·rw [if_neg c8] at H
     exact absurd H (by simp)
    rw [if_pos c8] at H
    have c8b0 : decide (0 ≤ x5_1) = true := decide_eq_true c8
    clear c8
    by_cases c9 : x3_1.length < 8796093022208
    rotate_left
    ·rw [if_neg c9] at H
     exact absurd H (by simp)
    rw [if_pos c9] at H
    have LMc9 := Zaa.mk c9
    clear c9
    obtain ⟨y167, hy167⟩ : ∃ y_ : List (S41), y_ = (x3_1 ++ [(⟨rd l0 x4_1, rd l0 x5_1⟩ : S41)]) := ⟨_, rfl⟩
    replace H : (Zal.l0 k1 l0 y167 (wrap64 (x5_1 + 1)) (wrap64 (x5_1 + 1))) = some r := by first | (rw [hy167]; with_reducible exact H) | (have H2_ := (Option.bind_some _ _).symm.trans H; rw [hy167]; with_reducible exact H2_) | (have H2_ := (Option.bind_some _ _).symm.trans H; with_reducible exact H2_) | with_reducible exact H | (rw [hy167]; exact H) | exact H
    have Ny167 := Zaa.mk hy167
    clear hy167
    have H' := Zaa.mk H
    clear H
    try go_wp2
    have n0_ := Zaa.mk (Kd.Zbb HO_3.out)
    have n1_ := Zaa.mk (Zac HB.out)
    clear HO_3
    clear HB
    have HO_3 := n0_
    have HB := n1_
    clear n0_ n1_
    refine Zeg (n := 18) (S := fun w' => True) (ds := []) #[false, false, false, false, false, false, false, false, false, false, false, false, false, false, false, false, false, false] (by kernel_rfl) rfl rfl trivial (fun hHeld => ?_); refine Zda Zal.tab5 Zal.bits5 (fun HT_ HW_ => ?_)
    generalize wr.drew = w10 at HO_3 HB hHeld ⊢
    refine Zbv (i := 0) (N := some 13) (v := ?_) (a' := ?_) #[true, false, false, false, false, false, false, false, false, false, false, false, false, false, false, false, false, false] rfl rfl (Zbf HT_.out (by kernel_rfl)) (fun _ _ _ h => h) (Or.inl ⟨by rfl, ?_⟩) ?_ ?_
    rotate_left
    ·intro w'
     go_simp
     with_reducible rfl
    rotate_left
    ·simp only [Act.put, List.setIfInBounds_toArray, List.set_cons_zero, List.set_cons_succ, Zbh, Zbi]
     rfl
    refine Zbv (i := 1) (N := some 14) (v := ?_) (a' := ?_) #[true, true, false, false, false, false, false, false, false, false, false, false, false, false, false, false, false, false] rfl rfl (Zbf HT_.out (by kernel_rfl)) (fun _ _ _ h => h) (Or.inl ⟨by rfl, ?_⟩) ?_ ?_
    rotate_left
    ·intro w'
     go_simp
     with_reducible rfl
    rotate_left
    ·simp only [Act.put, List.setIfInBounds_toArray, List.set_cons_zero, List.set_cons_succ, Zbh, Zbi]
     rfl
    refine Zbv (i := 2) (N := some 15) (v := ?_) (a' := ?_) #[true, true, true, false, false, false, false, false, false, false, false, false, false, false, false, false, false, false] rfl rfl (Zbf HT_.out (by kernel_rfl)) (fun _ _ _ h => h) (Or.inl ⟨by rfl, ?_⟩) ?_ ?_
    rotate_left
    ·intro w'
     go_simp
     with_reducible rfl
    rotate_left
    ·simp only [Act.put, List.setIfInBounds_toArray, List.set_cons_zero, List.set_cons_succ, Zbh, Zbi]
     rfl
    refine Zbv (i := 3) (N := some 16) (v := ?_) (a' := ?_) #[true, true, true, true, false, false, false, false, false, false, false, false, false, false, false, false, false, false] rfl rfl (Zbf HT_.out (by kernel_rfl)) (fun _ _ _ h => h) (Or.inl ⟨by rfl, ?_⟩) ?_ ?_
    rotate_left
    ·intro w'
     go_simp
     with_reducible rfl
    rotate_left
    ·simp only [Act.put, List.setIfInBounds_toArray, List.set_cons_zero, List.set_cons_succ, Zbh, Zbi]
     rfl
    refine Zbv (i := 4) (N := some 17) (v := ?_) (a' := ?_) #[true, true, true, true, true, false, false, false, false, false, false, false, false, false, false, false, false, false] rfl rfl (Zbf HT_.out (by kernel_rfl)) (fun _ _ _ h => h) (Or.inl ⟨by rfl, ?_⟩) ?_ ?_
    rotate_left
    ·intro w'
     go_simp
     with_reducible rfl
    rotate_left
    ·simp only [Act.put, List.setIfInBounds_toArray, List.set_cons_zero, List.set_cons_succ, Zbh, Zbi]
     rfl
    refine Zbv (i := 5) (N := some 18) (v := ?_) (a' := ?_) #[true, true, true, true, true, true, false, false, false, false, false, false, false, false, false, false, false, false] rfl rfl (Zbf HT_.out (by kernel_rfl)) (fun _ _ _ h => h) (Or.inl ⟨by rfl, ?_⟩) ?_ ?_
    rotate_left
    ·intro w'
     go_simp
     with_reducible rfl
    rotate_left
    ·simp only [Act.put, List.setIfInBounds_toArray, List.set_cons_zero, List.set_cons_succ, Zbh, Zbi]
     rfl
    refine Zbv (i := 6) (N := some 19) (v := undef) (a' := ?_) #[true, true, true, true, true, true, true, false, false, false, false, false, false, false, false, false, false, false] rfl rfl (Zbf HT_.out (by kernel_rfl)) (fun _ _ _ h => h) (Or.inr ⟨by rfl, rfl⟩) ?_ ?_
    rotate_left
    ·simp only [Act.put, List.setIfInBounds_toArray, List.set_cons_zero, List.set_cons_succ, Zbh, Zbi]
     rfl
    refine Zbv (i := 7) (N := some 20) (v := undef) (a' := ?_) #[true, true, true, true, true, true, true, true, false, false, false, false, false, false, false, false, false, false] rfl rfl (Zbf HT_.out (by kernel_rfl)) (fun _ _ _ h => h) (Or.inr ⟨by rfl, rfl⟩) ?_ ?_
    rotate_left
    ·simp only [Act.put, List.setIfInBounds_toArray, List.set_cons_zero, List.set_cons_succ, Zbh, Zbi]
     rfl
    refine Zbv (i := 8) (N := some 21) (v := undef) (a' := ?_) #[true, true, true, true, true, true, true, true, true, false, false, false, false, false, false, false, false, false] rfl rfl (Zbf HT_.out (by kernel_rfl)) (fun _ _ _ h => h) (Or.inr ⟨by rfl, rfl⟩) ?_ ?_
    rotate_left
    ·simp only [Act.put, List.setIfInBounds_toArray, List.set_cons_zero, List.set_cons_succ, Zbh, Zbi]
     rfl
    refine Zbv (i := 9) (N := some 22) (v := undef) (a' := ?_) #[true, true, true, true, true, true, true, true, true, true, false, false, false, false, false, false, false, false] rfl rfl (Zbf HT_.out (by kernel_rfl)) (fun _ _ _ h => h) (Or.inr ⟨by rfl, rfl⟩) ?_ ?_
    rotate_left
    ·simp only [Act.put, List.setIfInBounds_toArray, List.set_cons_zero, List.set_cons_succ, Zbh, Zbi]
     rfl
    refine Zbv (i := 10) (N := some 23) (v := undef) (a' := ?_) #[true, true, true, true, true, true, true, true, true, true, true, false, false, false, false, false, false, false] rfl rfl (Zbf HT_.out (by kernel_rfl)) (fun _ _ _ h => h) (Or.inr ⟨by rfl, rfl⟩) ?_ ?_
    rotate_left
    ·simp only [Act.put, List.setIfInBounds_toArray, List.set_cons_zero, List.set_cons_succ, Zbh, Zbi]
     rfl
    refine Zbv (i := 11) (N := some 24) (v := undef) (a' := ?_) #[true, true, true, true, true, true, true, true, true, true, true, true, false, false, false, false, false, false] rfl rfl (Zbf HT_.out (by kernel_rfl)) (fun _ _ _ h => h) (Or.inr ⟨by rfl, rfl⟩) ?_ ?_
    rotate_left
    ·simp only [Act.put, List.setIfInBounds_toArray, List.set_cons_zero, List.set_cons_succ, Zbh, Zbi]
     rfl
    refine Zbv (i := 12) (N := some 25) (v := undef) (a' := ?_) #[true, true, true, true, true, true, true, true, true, true, true, true, true, false, false, false, false, false] rfl rfl (Zbf HT_.out (by kernel_rfl)) (fun _ _ _ h => h) (Or.inr ⟨by rfl, rfl⟩) ?_ ?_
    rotate_left
    ·simp only [Act.put, List.setIfInBounds_toArray, List.set_cons_zero, List.set_cons_succ, Zbh, Zbi]
     rfl
    refine Zbv (i := 13) (N := some 26) (v := undef) (a' := ?_) #[true, true, true, true, true, true, true, true, true, true, true, true, true, true, false, false, false, false] rfl rfl (Zbf HT_.out (by kernel_rfl)) (fun _ _ _ h => h) (Or.inr ⟨by rfl, rfl⟩) ?_ ?_
    rotate_left
    ·simp only [Act.put, List.setIfInBounds_toArray, List.set_cons_zero, List.set_cons_succ, Zbh, Zbi]
     rfl
    refine Zbv (i := 14) (N := some 27) (v := undef) (a' := ?_) #[true, true, true, true, true, true, true, true, true, true, true, true, true, true, true, false, false, false] rfl rfl (Zbf HT_.out (by kernel_rfl)) (fun _ _ _ h => h) (Or.inr ⟨by rfl, rfl⟩) ?_ ?_
    rotate_left
    ·simp only [Act.put, List.setIfInBounds_toArray, List.set_cons_zero, List.set_cons_succ, Zbh, Zbi]
     rfl
    refine Zbv (i := 15) (N := some 28) (v := undef) (a' := ?_) #[true, true, true, true, true, true, true, true, true, true, true, true, true, true, true, true, false, false] rfl rfl (Zbf HT_.out (by kernel_rfl)) (fun _ _ _ h => h) (Or.inr ⟨by rfl, rfl⟩) ?_ ?_
    rotate_left
    ·simp only [Act.put, List.setIfInBounds_toArray, List.set_cons_zero, List.set_cons_succ, Zbh, Zbi]
     rfl
    refine Zbv (i := 16) (N := some 29) (v := undef) (a' := ?_) #[true, true, true, true, true, true, true, true, true, true, true, true, true, true, true, true, true, false] rfl rfl (Zbf HT_.out (by kernel_rfl)) (fun _ _ _ h => h) (Or.inr ⟨by rfl, rfl⟩) ?_ ?_
    rotate_left
    ·simp only [Act.put, List.setIfInBounds_toArray, List.set_cons_zero, List.set_cons_succ, Zbh, Zbi]
     rfl
    refine Zbv (i := 17) (N := some 30) (v := ?_) (a' := ?_) #[true, true, true, true, true, true, true, true, true, true, true, true, true, true, true, true, true, true] rfl rfl (Zbf HT_.out (by kernel_rfl)) (fun _ _ _ h => h) (Or.inl ⟨by rfl, ?_⟩) ?_ ?_
    rotate_left
    ·intro w'
     go_simp
     with_reducible rfl
    rotate_left
    ·simp only [Act.put, List.setIfInBounds_toArray, List.set_cons_zero, List.set_cons_succ, Zbh, Zbi]
     rfl
    refine Zfw (Zdz HT_.out (by kernel_rfl)) ?_
    try go_wp2
    have n0_ := Zaa.mk (Kd.Zbb HO_3.out)
    have n1_ := Zaa.mk (Zac HB.out)
    clear HO_3
    clear HB
    have HO_3 := n0_
    have HB := n1_
    clear n0_ n1_
    have p165 : 0 ≤ (x4_1 : Int) := of_decide_eq_true (by first | (with_reducible assumption) | assumption)
    have q165 : x4_1 < (l0.length : Int) := of_decide_eq_true (by first | (with_reducible assumption) | assumption)
    obtain ⟨ad165, e165, hx165_0⟩ := Kd.Zbx HR0.out x4_1 p165 q165
    have hw165_0 := hx165_0
    cases e165
    replace hx165_0 := (HB.out.cell (World.block_lt_of_cell? w _ hx165_0)).trans hx165_0
    replace p165 := eq_true p165
    replace q165 := eq_true q165
    have p166 : 0 ≤ (x5_1 : Int) := of_decide_eq_true (by first | (with_reducible assumption) | assumption)
    have q166 : x5_1 < (l0.length : Int) := of_decide_eq_true (by first | (with_reducible assumption) | assumption)
    obtain ⟨ad166, e166, hx166_0⟩ := Kd.Zbx HR0.out x5_1 p166 q166
    have hw166_0 := hx166_0
    obtain rfl : ad165 = ad166 := (by injection e166)
    replace hx166_0 := (HB.out.cell (World.block_lt_of_cell? w _ hx166_0)).trans hx166_0
    replace p166 := eq_true p166
    replace q166 := eq_true q166
    refine Zeg (n := 13) (S := fun w' => w'.cell? (ad165.add (x4_1).toNat) = some (.int .i64 (rd l0 x4_1)) ∧ w'.cell? (ad165.add (x5_1).toNat) = some (.int .i64 (rd l0 x5_1))) (ds := []) #[false, false, false, false, false, false, false, false, false, false, false, false, false] (by kernel_rfl) rfl rfl ⟨((HB.out.cell (World.block_lt_of_cell? w _ hw165_0)).trans hw165_0), ((HB.out.cell (World.block_lt_of_cell? w _ hw166_0)).trans hw166_0)⟩ (fun hHeld => ?_); refine Zda Zal.tab6 Zal.bits6 (fun HT_ HW_ => ?_)
    generalize w10.drew = w11 at HO_3 HB hx165_0 hx166_0 hHeld ⊢
    refine Zbv (i := 0) (N := some 31) (v := ?_) (a' := ?_) #[true, false, false, false, false, false, false, false, false, false, false, false, false] rfl rfl (Zbf HT_.out (by kernel_rfl)) (fun _ _ _ h => h) (Or.inl ⟨by rfl, ?_⟩) ?_ ?_
    rotate_left
    ·intro w'
     go_simp
     with_reducible rfl
    rotate_left
    ·simp only [Act.put, List.setIfInBounds_toArray, List.set_cons_zero, List.set_cons_succ, Zbh, Zbi]
     rfl
    refine Zbv (i := 1) (N := some 32) (v := ?_) (a' := ?_) #[true, true, false, false, false, false, false, false, false, false, false, false, false] rfl rfl (Zbf HT_.out (by kernel_rfl)) (fun _ _ _ h => h) (Or.inl ⟨by rfl, ?_⟩) ?_ ?_
    rotate_left
    ·intro w'
     go_simp
     with_reducible rfl
    rotate_left
    ·simp only [Act.put, List.setIfInBounds_toArray, List.set_cons_zero, List.set_cons_succ, Zbh, Zbi]
     rfl
    refine Zbv (i := 2) (N := some 33) (v := ?_) (a' := ?_) #[true, true, true, false, false, false, false, false, false, false, false, false, false] rfl rfl (Zbf HT_.out (by kernel_rfl)) (fun _ _ _ h => h) (Or.inl ⟨by rfl, ?_⟩) ?_ ?_
    rotate_left
    ·intro w'
     go_simp
     with_reducible rfl
    rotate_left
    ·simp only [Act.put, List.setIfInBounds_toArray, List.set_cons_zero, List.set_cons_succ, Zbh, Zbi]
     rfl
    refine Zbv (i := 3) (N := some 34) (v := ?_) (a' := ?_) #[true, true, true, true, false, false, false, false, false, false, false, false, false] rfl rfl (Zbf HT_.out (by kernel_rfl)) (fun _ _ _ h => h) (Or.inl ⟨by rfl, ?_⟩) ?_ ?_
    rotate_left
    ·intro w'
     go_simp
     with_reducible rfl
    rotate_left
    ·simp only [Act.put, List.setIfInBounds_toArray, List.set_cons_zero, List.set_cons_succ, Zbh, Zbi]
     rfl
    refine Zbv (i := 5) (N := some 36) (v := ?_) (a' := ?_) #[true, true, true, true, false, true, false, false, false, false, false, false, false] rfl rfl (Zbf HT_.out (by kernel_rfl)) (fun _ _ _ h => h) (Or.inl ⟨by rfl, ?_⟩) ?_ ?_
    rotate_left
    ·intro w'
     go_simp
     with_reducible rfl
    rotate_left
    ·simp only [Act.put, List.setIfInBounds_toArray, List.set_cons_zero, List.set_cons_succ, Zbh, Zbi]
     rfl
    refine Zbv (i := 6) (N := some 37) (v := ?_) (a' := ?_) #[true, true, true, true, false, true, true, false, false, false, false, false, false] rfl rfl (Zbf HT_.out (by kernel_rfl)) (fun _ _ _ h => h) (Or.inl ⟨by rfl, ?_⟩) ?_ ?_
    rotate_left
    ·intro w'
     go_simp
     with_reducible rfl
    rotate_left
    ·simp only [Act.put, List.setIfInBounds_toArray, List.set_cons_zero, List.set_cons_succ, Zbh, Zbi]
     rfl
    refine Zbv (i := 7) (N := some 38) (v := ?_) (a' := ?_) #[true, true, true, true, false, true, true, true, false, false, false, false, false] rfl rfl (Zbf HT_.out (by kernel_rfl)) (fun _ _ _ h => h) (Or.inl ⟨by rfl, ?_⟩) ?_ ?_
    rotate_left
    ·intro w'
     go_simp
     with_reducible rfl
    rotate_left
    ·simp only [Act.put, List.setIfInBounds_toArray, List.set_cons_zero, List.set_cons_succ, Zbh, Zbi]
     rfl
    refine Zdw (i := 4) (N := some 35) (v := ?_) (a' := ?_) #[true, true, true, true, true, true, true, true, false, false, false, false, false] rfl rfl (Zcq HT_.out HW_.out (by kernel_rfl)) (fun _ _ _ h => h) (Or.inl ⟨by rfl, ?_⟩) hHeld ?_ ?_
    rotate_left
    ·rintro w' ⟨s0, s1⟩
     go_simp
     with_reducible rfl
    rotate_left
    ·simp only [Act.put, List.setIfInBounds_toArray, List.set_cons_zero, List.set_cons_succ, Zbh, Zbi]
     rfl
    refine Zdw (i := 8) (N := some 39) (v := ?_) (a' := ?_) #[true, true, true, true, true, true, true, true, true, false, false, false, false] rfl rfl (Zcq HT_.out HW_.out (by kernel_rfl)) (fun _ _ _ h => h) (Or.inl ⟨by rfl, ?_⟩) hHeld ?_ ?_
    rotate_left
    ·rintro w' ⟨s0, s1⟩
     go_simp
     with_reducible rfl
    rotate_left
    ·simp only [Act.put, List.setIfInBounds_toArray, List.set_cons_zero, List.set_cons_succ, Zbh, Zbi]
     rfl
    refine Zbv (i := 9) (N := some 40) (v := ?_) (a' := ?_) #[true, true, true, true, true, true, true, true, true, true, false, false, false] rfl rfl (Zbf HT_.out (by kernel_rfl)) (fun _ _ _ h => h) (Or.inl ⟨by rfl, ?_⟩) ?_ ?_
    rotate_left
    ·intro w'
     go_simp
     with_reducible rfl
    rotate_left
    ·simp only [Act.put, List.setIfInBounds_toArray, List.set_cons_zero, List.set_cons_succ, Zbh, Zbi]
     rfl
    refine one_ (i := 10) (N := some 41) #[true, true, true, true, true, true, true, true, true, true, true, false, false] rfl rfl (Zec HT_.out (by kernel_rfl)) (by decide) (fun K hK => ?_)
    refine value_ (w1 := ?_) (v := ?_) (by rfl) rfl ?_ ?_
    rotate_left 2
    ·go_simp
     constructor
     ·rfl
     rfl
    refine hK.out _ _ ⟨(World.cell?_alloc_lt _ _ _ (World.block_lt_of_cell? _ _ (((HB.out.cell (World.block_lt_of_cell? w _ hw165_0)).trans hw165_0)))).trans (((HB.out.cell (World.block_lt_of_cell? w _ hw165_0)).trans hw165_0)), (World.cell?_alloc_lt _ _ _ (World.block_lt_of_cell? _ _ (((HB.out.cell (World.block_lt_of_cell? w _ hw166_0)).trans hw166_0)))).trans (((HB.out.cell (World.block_lt_of_cell? w _ hw166_0)).trans hw166_0))⟩ (fun hHeld => ?_)
    clear hK K
    refine Zgs (a' := ?_) ?_ ?_
    rotate_left
    ·show Act.put _ (some 41) _ = _
     simp only [Act.put, List.setIfInBounds_toArray, List.set_cons_zero, List.set_cons_succ, Zbh, Zbi]
     rfl
    refine one_ (i := 11) (N := some 42) #[true, true, true, true, true, true, true, true, true, true, true, true, false] rfl rfl (Zec HT_.out (by kernel_rfl)) (by decide) (fun K hK => ?_)
    refine Kd.Zd7 k41 (w0 := w) w.heap.size (by rfl) (.tmp 31) (.tmp 41) 39 41 (.agg #[(.int .i64 0), (.int .i64 0)]) 16 rfl Try.underlying39 Zeb rfl (by decide) (by omega) u3 x3_1 (⟨rd l0 x4_1, rd l0 x5_1⟩ : S41) [.int .i64 (rd l0 x4_1), .int .i64 (rd l0 x5_1)] (fun _ => True) (fun _ => False) rfl rfl ?aP (fun _ hk => hk.elim) ?aF ?aO ?aB ?aS ?aL ?_
    (case aP => exact Zcy _ _ _ (⟨rd l0 x4_1, rd l0 x5_1⟩ : S41))
    (case aB => exact (by repeat (first | (with_reducible first | exact HB.out | apply Zab | apply Za | apply Zac) | exact HB.out)))
    (case aF => exact (fun _ _ => trivial))
    (case aO => exact (mvR HO_3.out))
    (case aS => exact (Zae (by repeat (first | (with_reducible first | exact HB.out | apply Zab | apply Za | apply Zac) | exact HB.out))))
    (case aL => have := LMc9.out; omega)
    intro v168 w12 ho hb hg hat
    rw [← Ny167.out] at ho
    have n0_ := Zaa.mk (hb)
    have n1_ := Zaa.mk (ho)
    clear HB
    clear HO_3
    have HB := n0_
    have HO169 := n1_
    clear n0_ n1_
    clear ho hb hg hat
    refine hK.out _ _ ⟨((HB.out.cell (World.block_lt_of_cell? w _ hw165_0)).trans hw165_0), ((HB.out.cell (World.block_lt_of_cell? w _ hw166_0)).trans hw166_0)⟩ (fun hHeld => ?_)
    clear hK K
    refine Zgs (a' := ?_) ?_ ?_
    rotate_left
    ·show Act.put _ (some 42) _ = _
     simp only [Act.put, List.setIfInBounds_toArray, List.set_cons_zero, List.set_cons_succ, Zbh, Zbi]
     rfl
    refine Zbv (i := 12) (N := some 3) (v := ?_) (a' := ?_) #[true, true, true, true, true, true, true, true, true, true, true, true, true] rfl rfl (Zbf HT_.out (by kernel_rfl)) (fun _ _ _ h => h) (Or.inl ⟨by rfl, ?_⟩) ?_ ?_
    rotate_left
    ·intro w'
     go_simp
     with_reducible rfl
    rotate_left
    ·simp only [Act.put, List.setIfInBounds_toArray, List.set_cons_zero, List.set_cons_succ, Zbh, Zbi]
     rfl
    refine Zfw (Zdz HT_.out (by kernel_rfl)) ?_
    try go_wp2
    go_roundg k1
    case measure => have := HK1.out; omega
    case rel => exact ⟨(y167), (wrap64 (x5_1 + 1)), (wrap64 (x5_1 + 1)), (by first | rfl | (simp; done) | (simp [*]; done)), (by first | rfl | (simp; done) | (simp [*]; done)), H', ⟨by have := HK1.out; omega⟩, ⟨by (with_reducible repeat (first | apply Kd.Za6 | apply Kd.Za5 | apply Kd.Zbb)); exact HO169.out⟩, ⟨by repeat (first | (with_reducible first | exact HB.out | apply Zab | apply Za | apply Zac) | exact HB.out)⟩⟩
   rw [if_neg c5] at H
   have c5b0 : ((wrap64 (x5_1 + 1)) == (l0.length : Int)) = false := beq_eq_false_iff_ne.mpr c5
   have c5b1 : ((wrap64 (x5_1 + 1)) != (l0.length : Int)) = true := bne_iff_ne.mpr c5
   obtain ⟨ji13, hji13⟩ : ∃ j_ : Int, (wrap64 (x5_1 + 1)) = j_ := ⟨_, rfl⟩
   replace H : (if 0 ≤ (ji13) then (if (ji13) < (l0.length : Int) then (if 0 ≤ x5_1 then (if (rd l0 (ji13)) = (wrap64 ((rd l0 x5_1) + 1)) then (Zal.l0 k1 l0 x3_1 x4_1 ji13) else (if 0 ≤ x4_1 then (if x4_1 < (l0.length : Int) then (if x3_1.length < 8796093022208 then (Zal.l0 k1 l0 (x3_1 ++ [(⟨rd l0 x4_1, rd l0 x5_1⟩ : S41)]) ji13 ji13) else (none)) else (none)) else (none))) else (none)) else (none)) else (none)) = some r := by first | (rw [hji13] at H; exact H) | (simp only [hji13] at H ⊢; exact H)
   (try rw [hji13] at c5b0)
   (try rw [hji13] at c5b1)
   have hji13w : (IntKind.i64.wrap (x5_1 + 1)) = ji13 := (Zbh _).trans hji13
   by_cases c14 : 0 ≤ (ji13)
   rotate_left
   ·rw [if_neg c14] at H
    exact absurd H (by simp)
   rw [if_pos c14] at H
   have c14b0 : decide (0 ≤ (ji13)) = true := decide_eq_true c14
   clear c14
   by_cases c15 : (ji13) < (l0.length : Int)
   rotate_left
   ·rw [if_neg c15] at H
    exact absurd H (by simp)
   rw [if_pos c15] at H
   have c15b0 : decide ((ji13) < (l0.length : Int)) = true := decide_eq_true c15
   clear c15
   by_cases c16 : 0 ≤ x5_1
   rotate_left
   ·rw [if_neg c16] at H
    exact absurd H (by simp)
   rw [if_pos c16] at H
   have c16b0 : decide (0 ≤ x5_1) = true := decide_eq_true c16
   clear c16
   by_cases c17 : (rd l0 (ji13)) = (wrap64 ((rd l0 x5_1) + 1))
   ·rw [if_pos c17] at H
    have c17b0 : ((rd l0 (ji13)) == (wrap64 ((rd l0 x5_1) + 1))) = true := beq_iff_eq.mpr c17
    have c17b1 : ((rd l0 (ji13)) != (wrap64 ((rd l0 x5_1) + 1))) = false := bne_eq_false_iff_eq.mpr c17
    clear c17
    have H' := Zaa.mk H
    clear H
    try go_wp2
    have n0_ := Zaa.mk (Kd.Zbb HO_3.out)
    have n1_ := Zaa.mk (Zac HB.out)
    clear HO_3
    clear HB
    have HO_3 := n0_
    have HB := n1_
    clear n0_ n1_
    have p170 : 0 ≤ ((ji13) : Int) := of_decide_eq_true (by first | (with_reducible assumption) | assumption)
    have q170 : (ji13) < (l0.length : Int) := of_decide_eq_true (by first | (with_reducible assumption) | assumption)
    obtain ⟨ad170, e170, hx170_0⟩ := Kd.Zbx HR0.out (ji13) p170 q170
    have hw170_0 := hx170_0
    cases e170
    replace hx170_0 := (HB.out.cell (World.block_lt_of_cell? w _ hx170_0)).trans hx170_0
    replace p170 := eq_true p170
    replace q170 := eq_true q170
    have p171 : 0 ≤ (x5_1 : Int) := of_decide_eq_true (by first | (with_reducible assumption) | assumption)
    have q171 : x5_1 < (l0.length : Int) := of_decide_eq_true (by first | (with_reducible assumption) | assumption)
    obtain ⟨ad171, e171, hx171_0⟩ := Kd.Zbx HR0.out x5_1 p171 q171
    have hw171_0 := hx171_0
    obtain rfl : ad170 = ad171 := (by injection e171)
    replace hx171_0 := (HB.out.cell (World.block_lt_of_cell? w _ hx171_0)).trans hx171_0
    replace p171 := eq_true p171
    replace q171 := eq_true q171
    refine Zeg (n := 18) (S := fun w' => w'.cell? (ad170.add ((ji13)).toNat) = some (.int .i64 (rd l0 (ji13))) ∧ w'.cell? (ad170.add (x5_1).toNat) = some (.int .i64 (rd l0 x5_1))) (ds := []) #[false, false, false, false, false, false, false, false, false, false, false, false, false, false, false, false, false, false] (by kernel_rfl) rfl rfl ⟨((HB.out.cell (World.block_lt_of_cell? w _ hw170_0)).trans hw170_0), ((HB.out.cell (World.block_lt_of_cell? w _ hw171_0)).trans hw171_0)⟩ (fun hHeld => ?_); refine Zda Zal.tab5 Zal.bits5 (fun HT_ HW_ => ?_)
    generalize wr.drew = w18 at HO_3 HB hx170_0 hx171_0 hHeld ⊢
    refine Zbv (i := 0) (N := some 13) (v := ?_) (a' := ?_) #[true, false, false, false, false, false, false, false, false, false, false, false, false, false, false, false, false, false] rfl rfl (Zbf HT_.out (by kernel_rfl)) (fun _ _ _ h => h) (Or.inl ⟨by rfl, ?_⟩) ?_ ?_
    rotate_left
    ·intro w'
     go_simp
     with_reducible rfl
    rotate_left
    ·simp only [Act.put, List.setIfInBounds_toArray, List.set_cons_zero, List.set_cons_succ, Zbh, Zbi]
     rfl
    refine Zbv (i := 1) (N := some 14) (v := ?_) (a' := ?_) #[true, true, false, false, false, false, false, false, false, false, false, false, false, false, false, false, false, false] rfl rfl (Zbf HT_.out (by kernel_rfl)) (fun _ _ _ h => h) (Or.inl ⟨by rfl, ?_⟩) ?_ ?_
    rotate_left
    ·intro w'
     go_simp
     with_reducible rfl
    rotate_left
    ·simp only [Act.put, List.setIfInBounds_toArray, List.set_cons_zero, List.set_cons_succ, Zbh, Zbi]
     rfl
    refine Zbv (i := 2) (N := some 15) (v := ?_) (a' := ?_) #[true, true, true, false, false, false, false, false, false, false, false, false, false, false, false, false, false, false] rfl rfl (Zbf HT_.out (by kernel_rfl)) (fun _ _ _ h => h) (Or.inl ⟨by rfl, ?_⟩) ?_ ?_
    rotate_left
    ·intro w'
     go_simp
     with_reducible rfl
    rotate_left
    ·simp only [Act.put, List.setIfInBounds_toArray, List.set_cons_zero, List.set_cons_succ, Zbh, Zbi]
     rfl
    refine Zbv (i := 3) (N := some 16) (v := ?_) (a' := ?_) #[true, true, true, true, false, false, false, false, false, false, false, false, false, false, false, false, false, false] rfl rfl (Zbf HT_.out (by kernel_rfl)) (fun _ _ _ h => h) (Or.inl ⟨by rfl, ?_⟩) ?_ ?_
    rotate_left
    ·intro w'
     go_simp
     with_reducible rfl
    rotate_left
    ·simp only [Act.put, List.setIfInBounds_toArray, List.set_cons_zero, List.set_cons_succ, Zbh, Zbi]
     rfl
    refine Zbv (i := 4) (N := some 17) (v := ?_) (a' := ?_) #[true, true, true, true, true, false, false, false, false, false, false, false, false, false, false, false, false, false] rfl rfl (Zbf HT_.out (by kernel_rfl)) (fun _ _ _ h => h) (Or.inl ⟨by rfl, ?_⟩) ?_ ?_
    rotate_left
    ·intro w'
     go_simp
     with_reducible rfl
    rotate_left
    ·simp only [Act.put, List.setIfInBounds_toArray, List.set_cons_zero, List.set_cons_succ, Zbh, Zbi]
     rfl
    refine Zbv (i := 5) (N := some 18) (v := ?_) (a' := ?_) #[true, true, true, true, true, true, false, false, false, false, false, false, false, false, false, false, false, false] rfl rfl (Zbf HT_.out (by kernel_rfl)) (fun _ _ _ h => h) (Or.inl ⟨by rfl, ?_⟩) ?_ ?_
    rotate_left
    ·intro w'
     go_simp
     with_reducible rfl
    rotate_left
    ·simp only [Act.put, List.setIfInBounds_toArray, List.set_cons_zero, List.set_cons_succ, Zbh, Zbi]
     rfl
    refine Zbv (i := 6) (N := some 19) (v := ?_) (a' := ?_) #[true, true, true, true, true, true, true, false, false, false, false, false, false, false, false, false, false, false] rfl rfl (Zbf HT_.out (by kernel_rfl)) (fun _ _ _ h => h) (Or.inl ⟨by rfl, ?_⟩) ?_ ?_
    rotate_left
    ·intro w'
     go_simp
     with_reducible rfl
    rotate_left
    ·simp only [Act.put, List.setIfInBounds_toArray, List.set_cons_zero, List.set_cons_succ, Zbh, Zbi]
     rfl
    refine Zbv (i := 7) (N := some 20) (v := ?_) (a' := ?_) #[true, true, true, true, true, true, true, true, false, false, false, false, false, false, false, false, false, false] rfl rfl (Zbf HT_.out (by kernel_rfl)) (fun _ _ _ h => h) (Or.inl ⟨by rfl, ?_⟩) ?_ ?_
    rotate_left
    ·intro w'
     go_simp
     with_reducible rfl
    rotate_left
    ·simp only [Act.put, List.setIfInBounds_toArray, List.set_cons_zero, List.set_cons_succ, Zbh, Zbi]
     rfl
    refine Zbv (i := 8) (N := some 21) (v := ?_) (a' := ?_) #[true, true, true, true, true, true, true, true, true, false, false, false, false, false, false, false, false, false] rfl rfl (Zbf HT_.out (by kernel_rfl)) (fun _ _ _ h => h) (Or.inl ⟨by rfl, ?_⟩) ?_ ?_
    rotate_left
    ·intro w'
     go_simp
     with_reducible rfl
    rotate_left
    ·simp only [Act.put, List.setIfInBounds_toArray, List.set_cons_zero, List.set_cons_succ, Zbh, Zbi]
     rfl
    refine Zbv (i := 9) (N := some 22) (v := ?_) (a' := ?_) #[true, true, true, true, true, true, true, true, true, true, false, false, false, false, false, false, false, false] rfl rfl (Zbf HT_.out (by kernel_rfl)) (fun _ _ _ h => h) (Or.inl ⟨by rfl, ?_⟩) ?_ ?_
    rotate_left
    ·intro w'
     go_simp
     with_reducible rfl
    rotate_left
    ·simp only [Act.put, List.setIfInBounds_toArray, List.set_cons_zero, List.set_cons_succ, Zbh, Zbi]
     rfl
    refine Zbv (i := 11) (N := some 24) (v := ?_) (a' := ?_) #[true, true, true, true, true, true, true, true, true, true, false, true, false, false, false, false, false, false] rfl rfl (Zbf HT_.out (by kernel_rfl)) (fun _ _ _ h => h) (Or.inl ⟨by rfl, ?_⟩) ?_ ?_
    rotate_left
    ·intro w'
     go_simp
     with_reducible rfl
    rotate_left
    ·simp only [Act.put, List.setIfInBounds_toArray, List.set_cons_zero, List.set_cons_succ, Zbh, Zbi]
     rfl
    refine Zbv (i := 12) (N := some 25) (v := ?_) (a' := ?_) #[true, true, true, true, true, true, true, true, true, true, false, true, true, false, false, false, false, false] rfl rfl (Zbf HT_.out (by kernel_rfl)) (fun _ _ _ h => h) (Or.inl ⟨by rfl, ?_⟩) ?_ ?_
    rotate_left
    ·intro w'
     go_simp
     with_reducible rfl
    rotate_left
    ·simp only [Act.put, List.setIfInBounds_toArray, List.set_cons_zero, List.set_cons_succ, Zbh, Zbi]
     rfl
    refine Zbv (i := 13) (N := some 26) (v := ?_) (a' := ?_) #[true, true, true, true, true, true, true, true, true, true, false, true, true, true, false, false, false, false] rfl rfl (Zbf HT_.out (by kernel_rfl)) (fun _ _ _ h => h) (Or.inl ⟨by rfl, ?_⟩) ?_ ?_
    rotate_left
    ·intro w'
     go_simp
     with_reducible rfl
    rotate_left
    ·simp only [Act.put, List.setIfInBounds_toArray, List.set_cons_zero, List.set_cons_succ, Zbh, Zbi]
     rfl
    refine Zdw (i := 10) (N := some 23) (v := ?_) (a' := ?_) #[true, true, true, true, true, true, true, true, true, true, true, true, true, true, false, false, false, false] rfl rfl (Zcq HT_.out HW_.out (by kernel_rfl)) (fun _ _ _ h => h) (Or.inl ⟨by rfl, ?_⟩) hHeld ?_ ?_
    rotate_left
    ·rintro w' ⟨s0, s1⟩
     go_simp
     with_reducible rfl
    rotate_left
    ·simp only [Act.put, List.setIfInBounds_toArray, List.set_cons_zero, List.set_cons_succ, Zbh, Zbi]
     rfl
    refine Zdw (i := 14) (N := some 27) (v := ?_) (a' := ?_) #[true, true, true, true, true, true, true, true, true, true, true, true, true, true, true, false, false, false] rfl rfl (Zcq HT_.out HW_.out (by kernel_rfl)) (fun _ _ _ h => h) (Or.inl ⟨by rfl, ?_⟩) hHeld ?_ ?_
    rotate_left
    ·rintro w' ⟨s0, s1⟩
     go_simp
     with_reducible rfl
    rotate_left
    ·simp only [Act.put, List.setIfInBounds_toArray, List.set_cons_zero, List.set_cons_succ, Zbh, Zbi]
     rfl
    refine Zbv (i := 15) (N := some 28) (v := ?_) (a' := ?_) #[true, true, true, true, true, true, true, true, true, true, true, true, true, true, true, true, false, false] rfl rfl (Zbf HT_.out (by kernel_rfl)) (fun _ _ _ h => h) (Or.inl ⟨by rfl, ?_⟩) ?_ ?_
    rotate_left
    ·intro w'
     go_simp
     with_reducible rfl
    rotate_left
    ·simp only [Act.put, List.setIfInBounds_toArray, List.set_cons_zero, List.set_cons_succ, Zbh, Zbi]
     rfl
    refine Zbv (i := 16) (N := some 29) (v := ?_) (a' := ?_) #[true, true, true, true, true, true, true, true, true, true, true, true, true, true, true, true, true, false] rfl rfl (Zbf HT_.out (by kernel_rfl)) (fun _ _ _ h => h) (Or.inl ⟨by rfl, ?_⟩) ?_ ?_
    rotate_left
    ·intro w'
     go_simp
     with_reducible rfl
    rotate_left
    ·simp only [Act.put, List.setIfInBounds_toArray, List.set_cons_zero, List.set_cons_succ, Zbh, Zbi]
     rfl
    refine Zbv (i := 17) (N := some 30) (v := ?_) (a' := ?_) #[true, true, true, true, true, true, true, true, true, true, true, true, true, true, true, true, true, true] rfl rfl (Zbf HT_.out (by kernel_rfl)) (fun _ _ _ h => h) (Or.inl ⟨by rfl, ?_⟩) ?_ ?_
    rotate_left
    ·intro w'
     go_simp
     with_reducible rfl
    rotate_left
    ·simp only [Act.put, List.setIfInBounds_toArray, List.set_cons_zero, List.set_cons_succ, Zbh, Zbi]
     rfl
    refine Zfw (Zdz HT_.out (by kernel_rfl)) ?_
    try go_wp2
    go_roundg k1
    case measure => have := HK1.out; omega
    case rel => exact ⟨(x3_1), (x4_1), (ji13), (by first | rfl | (simp; done) | (simp [*]; done)), (by first | rfl | (simp; done) | (simp only [← hji13] <;> (first | rfl | simp)) | (simp [*]; done)), H', ⟨by have := HK1.out; omega⟩, ⟨by (with_reducible repeat (first | apply Kd.Za6 | apply Kd.Za5 | apply Kd.Zbb)); exact HO_3.out⟩, ⟨by repeat (first | (with_reducible first | exact HB.out | apply Zab | apply Za | apply Zac) | exact HB.out)⟩⟩
   rw [if_neg c17] at H
   have c17b0 : ((rd l0 (ji13)) == (wrap64 ((rd l0 x5_1) + 1))) = false := beq_eq_false_iff_ne.mpr c17
   have c17b1 : ((rd l0 (ji13)) != (wrap64 ((rd l0 x5_1) + 1))) = true := bne_iff_ne.mpr c17
   by_cases c19 : 0 ≤ x4_1
   rotate_left
   ·rw [if_neg c19] at H
    exact absurd H (by simp)
   rw [if_pos c19] at H
   have c19b0 : decide (0 ≤ x4_1) = true := decide_eq_true c19
   clear c19
   by_cases c20 : x4_1 < (l0.length : Int)
   rotate_left
   ·rw [if_neg c20] at H
    exact absurd H (by simp)
   rw [if_pos c20] at H
   have c20b0 : decide (x4_1 < (l0.length : Int)) = true := decide_eq_true c20
   clear c20
   by_cases c21 : x3_1.length < 8796093022208
   rotate_left
   ·rw [if_neg c21] at H
    exact absurd H (by simp)
   rw [if_pos c21] at H
   have LMc21 := Zaa.mk c21
   clear c21
   obtain ⟨y174, hy174⟩ : ∃ y_ : List (S41), y_ = (x3_1 ++ [(⟨rd l0 x4_1, rd l0 x5_1⟩ : S41)]) := ⟨_, rfl⟩
   replace H : (Zal.l0 k1 l0 y174 ji13 ji13) = some r := by first | (rw [hy174]; with_reducible exact H) | (have H2_ := (Option.bind_some _ _).symm.trans H; rw [hy174]; with_reducible exact H2_) | (have H2_ := (Option.bind_some _ _).symm.trans H; with_reducible exact H2_) | with_reducible exact H | (rw [hy174]; exact H) | exact H
   have Ny174 := Zaa.mk hy174
   clear hy174
   have H' := Zaa.mk H
   clear H
   try go_wp2
   have n0_ := Zaa.mk (Kd.Zbb HO_3.out)
   have n1_ := Zaa.mk (Zac HB.out)
   clear HO_3
   clear HB
   have HO_3 := n0_
   have HB := n1_
   clear n0_ n1_
   have p170 : 0 ≤ ((ji13) : Int) := of_decide_eq_true (by first | (with_reducible assumption) | assumption)
   have q170 : (ji13) < (l0.length : Int) := of_decide_eq_true (by first | (with_reducible assumption) | assumption)
   obtain ⟨ad170, e170, hx170_0⟩ := Kd.Zbx HR0.out (ji13) p170 q170
   have hw170_0 := hx170_0
   cases e170
   replace hx170_0 := (HB.out.cell (World.block_lt_of_cell? w _ hx170_0)).trans hx170_0
   replace p170 := eq_true p170
   replace q170 := eq_true q170
   have p171 : 0 ≤ (x5_1 : Int) := of_decide_eq_true (by first | (with_reducible assumption) | assumption)
   have q171 : x5_1 < (l0.length : Int) := of_decide_eq_true (by first | (with_reducible assumption) | assumption)
   obtain ⟨ad171, e171, hx171_0⟩ := Kd.Zbx HR0.out x5_1 p171 q171
   have hw171_0 := hx171_0
   obtain rfl : ad170 = ad171 := (by injection e171)
   replace hx171_0 := (HB.out.cell (World.block_lt_of_cell? w _ hx171_0)).trans hx171_0
   replace p171 := eq_true p171
   replace q171 := eq_true q171
   refine Zeg (n := 18) (S := fun w' => w'.cell? (ad170.add ((ji13)).toNat) = some (.int .i64 (rd l0 (ji13))) ∧ w'.cell? (ad170.add (x5_1).toNat) = some (.int .i64 (rd l0 x5_1))) (ds := []) #[false, false, false, false, false, false, false, false, false, false, false, false, false, false, false, false, false, false] (by kernel_rfl) rfl rfl ⟨((HB.out.cell (World.block_lt_of_cell? w _ hw170_0)).trans hw170_0), ((HB.out.cell (World.block_lt_of_cell? w _ hw171_0)).trans hw171_0)⟩ (fun hHeld => ?_); refine Zda Zal.tab5 Zal.bits5 (fun HT_ HW_ => ?_)
   generalize wr.drew = w22 at HO_3 HB hx170_0 hx171_0 hHeld ⊢
   refine Zbv (i := 0) (N := some 13) (v := ?_) (a' := ?_) #[true, false, false, false, false, false, false, false, false, false, false, false, false, false, false, false, false, false] rfl rfl (Zbf HT_.out (by kernel_rfl)) (fun _ _ _ h => h) (Or.inl ⟨by rfl, ?_⟩) ?_ ?_
   rotate_left
   ·intro w'
    go_simp
    with_reducible rfl
   rotate_left
   ·simp only [Act.put, List.setIfInBounds_toArray, List.set_cons_zero, List.set_cons_succ, Zbh, Zbi]
    rfl
   refine Zbv (i := 1) (N := some 14) (v := ?_) (a' := ?_) #[true, true, false, false, false, false, false, false, false, false, false, false, false, false, false, false, false, false] rfl rfl (Zbf HT_.out (by kernel_rfl)) (fun _ _ _ h => h) (Or.inl ⟨by rfl, ?_⟩) ?_ ?_
   rotate_left
   ·intro w'
    go_simp
    with_reducible rfl
   rotate_left
   ·simp only [Act.put, List.setIfInBounds_toArray, List.set_cons_zero, List.set_cons_succ, Zbh, Zbi]
    rfl
   refine Zbv (i := 2) (N := some 15) (v := ?_) (a' := ?_) #[true, true, true, false, false, false, false, false, false, false, false, false, false, false, false, false, false, false] rfl rfl (Zbf HT_.out (by kernel_rfl)) (fun _ _ _ h => h) (Or.inl ⟨by rfl, ?_⟩) ?_ ?_
   rotate_left
   ·intro w'
    go_simp
    with_reducible rfl
   rotate_left
   ·simp only [Act.put, List.setIfInBounds_toArray, List.set_cons_zero, List.set_cons_succ, Zbh, Zbi]
    rfl
   refine Zbv (i := 3) (N := some 16) (v := ?_) (a' := ?_) #[true, true, true, true, false, false, false, false, false, false, false, false, false, false, false, false, false, false] rfl rfl (Zbf HT_.out (by kernel_rfl)) (fun _ _ _ h => h) (Or.inl ⟨by rfl, ?_⟩) ?_ ?_
   rotate_left
   ·intro w'
    go_simp
    with_reducible rfl
   rotate_left
   ·simp only [Act.put, List.setIfInBounds_toArray, List.set_cons_zero, List.set_cons_succ, Zbh, Zbi]
    rfl
   refine Zbv (i := 4) (N := some 17) (v := ?_) (a' := ?_) #[true, true, true, true, true, false, false, false, false, false, false, false, false, false, false, false, false, false] rfl rfl (Zbf HT_.out (by kernel_rfl)) (fun _ _ _ h => h) (Or.inl ⟨by rfl, ?_⟩) ?_ ?_
   rotate_left
   ·intro w'
    go_simp
    with_reducible rfl
   rotate_left
   ·simp only [Act.put, List.setIfInBounds_toArray, List.set_cons_zero, List.set_cons_succ, Zbh, Zbi]
    rfl
   refine Zbv (i := 5) (N := some 18) (v := ?_) (a' := ?_) #[true, true, true, true, true, true, false, false, false, false, false, false, false, false, false, false, false, false] rfl rfl (Zbf HT_.out (by kernel_rfl)) (fun _ _ _ h => h) (Or.inl ⟨by rfl, ?_⟩) ?_ ?_
   rotate_left
   ·intro w'
    go_simp
    with_reducible rfl
   rotate_left
   ·simp only [Act.put, List.setIfInBounds_toArray, List.set_cons_zero, List.set_cons_succ, Zbh, Zbi]
    rfl
   refine Zbv (i := 6) (N := some 19) (v := ?_) (a' := ?_) #[true, true, true, true, true, true, true, false, false, false, false, false, false, false, false, false, false, false] rfl rfl (Zbf HT_.out (by kernel_rfl)) (fun _ _ _ h => h) (Or.inl ⟨by rfl, ?_⟩) ?_ ?_
   rotate_left
   ·intro w'
    go_simp
    with_reducible rfl
   rotate_left
   ·simp only [Act.put, List.setIfInBounds_toArray, List.set_cons_zero, List.set_cons_succ, Zbh, Zbi]
    rfl
   refine Zbv (i := 7) (N := some 20) (v := ?_) (a' := ?_) #[true, true, true, true, true, true, true, true, false, false, false, false, false, false, false, false, false, false] rfl rfl (Zbf HT_.out (by kernel_rfl)) (fun _ _ _ h => h) (Or.inl ⟨by rfl, ?_⟩) ?_ ?_
   rotate_left
   ·intro w'
    go_simp
    with_reducible rfl
   rotate_left
   ·simp only [Act.put, List.setIfInBounds_toArray, List.set_cons_zero, List.set_cons_succ, Zbh, Zbi]
    rfl
   refine Zbv (i := 8) (N := some 21) (v := ?_) (a' := ?_) #[true, true, true, true, true, true, true, true, true, false, false, false, false, false, false, false, false, false] rfl rfl (Zbf HT_.out (by kernel_rfl)) (fun _ _ _ h => h) (Or.inl ⟨by rfl, ?_⟩) ?_ ?_
   rotate_left
   ·intro w'
    go_simp
    with_reducible rfl
   rotate_left
   ·simp only [Act.put, List.setIfInBounds_toArray, List.set_cons_zero, List.set_cons_succ, Zbh, Zbi]
    rfl
   refine Zbv (i := 9) (N := some 22) (v := ?_) (a' := ?_) #[true, true, true, true, true, true, true, true, true, true, false, false, false, false, false, false, false, false] rfl rfl (Zbf HT_.out (by kernel_rfl)) (fun _ _ _ h => h) (Or.inl ⟨by rfl, ?_⟩) ?_ ?_
   rotate_left
   ·intro w'
    go_simp
    with_reducible rfl
   rotate_left
   ·simp only [Act.put, List.setIfInBounds_toArray, List.set_cons_zero, List.set_cons_succ, Zbh, Zbi]
    rfl
   refine Zbv (i := 11) (N := some 24) (v := ?_) (a' := ?_) #[true, true, true, true, true, true, true, true, true, true, false, true, false, false, false, false, false, false] rfl rfl (Zbf HT_.out (by kernel_rfl)) (fun _ _ _ h => h) (Or.inl ⟨by rfl, ?_⟩) ?_ ?_
   rotate_left
   ·intro w'
    go_simp
    with_reducible rfl
   rotate_left
   ·simp only [Act.put, List.setIfInBounds_toArray, List.set_cons_zero, List.set_cons_succ, Zbh, Zbi]
    rfl
   refine Zbv (i := 12) (N := some 25) (v := ?_) (a' := ?_) #[true, true, true, true, true, true, true, true, true, true, false, true, true, false, false, false, false, false] rfl rfl (Zbf HT_.out (by kernel_rfl)) (fun _ _ _ h => h) (Or.inl ⟨by rfl, ?_⟩) ?_ ?_
   rotate_left
   ·intro w'
    go_simp
    with_reducible rfl
   rotate_left
   ·simp only [Act.put, List.setIfInBounds_toArray, List.set_cons_zero, List.set_cons_succ, Zbh, Zbi]
    rfl
   refine Zbv (i := 13) (N := some 26) (v := ?_) (a' := ?_) #[true, true, true, true, true, true, true, true, true, true, false, true, true, true, false, false, false, false] rfl rfl (Zbf HT_.out (by kernel_rfl)) (fun _ _ _ h => h) (Or.inl ⟨by rfl, ?_⟩) ?_ ?_
   rotate_left
   ·intro w'
    go_simp
    with_reducible rfl
   rotate_left
   ·simp only [Act.put, List.setIfInBounds_toArray, List.set_cons_zero, List.set_cons_succ, Zbh, Zbi]
    rfl
   refine Zdw (i := 10) (N := some 23) (v := ?_) (a' := ?_) #[true, true, true, true, true, true, true, true, true, true, true, true, true, true, false, false, false, false] rfl rfl (Zcq HT_.out HW_.out (by kernel_rfl)) (fun _ _ _ h => h) (Or.inl ⟨by rfl, ?_⟩) hHeld ?_ ?_
   rotate_left
   ·rintro w' ⟨s0, s1⟩
    go_simp
    with_reducible rfl
   rotate_left
   ·simp only [Act.put, List.setIfInBounds_toArray, List.set_cons_zero, List.set_cons_succ, Zbh, Zbi]
    rfl
   refine Zdw (i := 14) (N := some 27) (v := ?_) (a' := ?_) #[true, true, true, true, true, true, true, true, true, true, true, true, true, true, true, false, false, false] rfl rfl (Zcq HT_.out HW_.out (by kernel_rfl)) (fun _ _ _ h => h) (Or.inl ⟨by rfl, ?_⟩) hHeld ?_ ?_
   rotate_left
   ·rintro w' ⟨s0, s1⟩
    go_simp
    with_reducible rfl
   rotate_left
   ·simp only [Act.put, List.setIfInBounds_toArray, List.set_cons_zero, List.set_cons_succ, Zbh, Zbi]
    rfl
   refine Zbv (i := 15) (N := some 28) (v := ?_) (a' := ?_) #[true, true, true, true, true, true, true, true, true, true, true, true, true, true, true, true, false, false] rfl rfl (Zbf HT_.out (by kernel_rfl)) (fun _ _ _ h => h) (Or.inl ⟨by rfl, ?_⟩) ?_ ?_
   rotate_left
   ·intro w'
    go_simp
    with_reducible rfl
   rotate_left
   ·simp only [Act.put, List.setIfInBounds_toArray, List.set_cons_zero, List.set_cons_succ, Zbh, Zbi]
    rfl
   refine Zbv (i := 16) (N := some 29) (v := ?_) (a' := ?_) #[true, true, true, true, true, true, true, true, true, true, true, true, true, true, true, true, true, false] rfl rfl (Zbf HT_.out (by kernel_rfl)) (fun _ _ _ h => h) (Or.inl ⟨by rfl, ?_⟩) ?_ ?_
   rotate_left
   ·intro w'
    go_simp
    with_reducible rfl
   rotate_left
   ·simp only [Act.put, List.setIfInBounds_toArray, List.set_cons_zero, List.set_cons_succ, Zbh, Zbi]
    rfl
   refine Zbv (i := 17) (N := some 30) (v := ?_) (a' := ?_) #[true, true, true, true, true, true, true, true, true, true, true, true, true, true, true, true, true, true] rfl rfl (Zbf HT_.out (by kernel_rfl)) (fun _ _ _ h => h) (Or.inl ⟨by rfl, ?_⟩) ?_ ?_
   rotate_left
   ·intro w'
    go_simp
    with_reducible rfl
   rotate_left
   ·simp only [Act.put, List.setIfInBounds_toArray, List.set_cons_zero, List.set_cons_succ, Zbh, Zbi]
    rfl
   refine Zfw (Zdz HT_.out (by kernel_rfl)) ?_
   try go_wp2
   have n0_ := Zaa.mk (Kd.Zbb HO_3.out)
   have n1_ := Zaa.mk (Zac HB.out)
   clear HO_3
   clear HB
   have HO_3 := n0_
   have HB := n1_
   clear n0_ n1_
   have p172 : 0 ≤ (x4_1 : Int) := of_decide_eq_true (by first | (with_reducible assumption) | assumption)
   have q172 : x4_1 < (l0.length : Int) := of_decide_eq_true (by first | (with_reducible assumption) | assumption)
   obtain ⟨ad172, e172, hx172_0⟩ := Kd.Zbx HR0.out x4_1 p172 q172
   have hw172_0 := hx172_0
   obtain rfl : ad170 = ad172 := (by injection e172)
   replace hx172_0 := (HB.out.cell (World.block_lt_of_cell? w _ hx172_0)).trans hx172_0
   replace p172 := eq_true p172
   replace q172 := eq_true q172
   have p173 : 0 ≤ (x5_1 : Int) := of_decide_eq_true (by first | (with_reducible assumption) | assumption)
   have q173 : x5_1 < (l0.length : Int) := of_decide_eq_true (by first | (with_reducible assumption) | assumption)
   obtain ⟨ad173, e173, hx173_0⟩ := Kd.Zbx HR0.out x5_1 p173 q173
   have hw173_0 := hx173_0
   obtain rfl : ad170 = ad173 := (by injection e173)
   replace hx173_0 := (HB.out.cell (World.block_lt_of_cell? w _ hx173_0)).trans hx173_0
   replace p173 := eq_true p173
   replace q173 := eq_true q173
   refine Zeg (n := 13) (S := fun w' => w'.cell? (ad170.add (x4_1).toNat) = some (.int .i64 (rd l0 x4_1)) ∧ w'.cell? (ad170.add (x5_1).toNat) = some (.int .i64 (rd l0 x5_1))) (ds := []) #[false, false, false, false, false, false, false, false, false, false, false, false, false] (by kernel_rfl) rfl rfl ⟨((HB.out.cell (World.block_lt_of_cell? w _ hw172_0)).trans hw172_0), ((HB.out.cell (World.block_lt_of_cell? w _ hw173_0)).trans hw173_0)⟩ (fun hHeld => ?_); refine Zda Zal.tab6 Zal.bits6 (fun HT_ HW_ => ?_)
   generalize w22.drew = w23 at HO_3 HB hx172_0 hx173_0 hHeld ⊢
   refine Zbv (i := 0) (N := some 31) (v := ?_) (a' := ?_) #[true, false, false, false, false, false, false, false, false, false, false, false, false] rfl rfl (Zbf HT_.out (by kernel_rfl)) (fun _ _ _ h => h) (Or.inl ⟨by rfl, ?_⟩) ?_ ?_
   rotate_left
   ·intro w'
    go_simp
    with_reducible rfl
   rotate_left
   ·simp only [Act.put, List.setIfInBounds_toArray, List.set_cons_zero, List.set_cons_succ, Zbh, Zbi]
    rfl
   refine Zbv (i := 1) (N := some 32) (v := ?_) (a' := ?_) #[true, true, false, false, false, false, false, false, false, false, false, false, false] rfl rfl (Zbf HT_.out (by kernel_rfl)) (fun _ _ _ h => h) (Or.inl ⟨by rfl, ?_⟩) ?_ ?_
   rotate_left
   ·intro w'
    go_simp
    with_reducible rfl
   rotate_left
   ·simp only [Act.put, List.setIfInBounds_toArray, List.set_cons_zero, List.set_cons_succ, Zbh, Zbi]
    rfl
   refine Zbv (i := 2) (N := some 33) (v := ?_) (a' := ?_) #[true, true, true, false, false, false, false, false, false, false, false, false, false] rfl rfl (Zbf HT_.out (by kernel_rfl)) (fun _ _ _ h => h) (Or.inl ⟨by rfl, ?_⟩) ?_ ?_
   rotate_left
   ·intro w'
    go_simp
    with_reducible rfl
   rotate_left
   ·simp only [Act.put, List.setIfInBounds_toArray, List.set_cons_zero, List.set_cons_succ, Zbh, Zbi]
    rfl
   refine Zbv (i := 3) (N := some 34) (v := ?_) (a' := ?_) #[true, true, true, true, false, false, false, false, false, false, false, false, false] rfl rfl (Zbf HT_.out (by kernel_rfl)) (fun _ _ _ h => h) (Or.inl ⟨by rfl, ?_⟩) ?_ ?_
   rotate_left
   ·intro w'
    go_simp
    with_reducible rfl
   rotate_left
   ·simp only [Act.put, List.setIfInBounds_toArray, List.set_cons_zero, List.set_cons_succ, Zbh, Zbi]
    rfl
   refine Zbv (i := 5) (N := some 36) (v := ?_) (a' := ?_) #[true, true, true, true, false, true, false, false, false, false, false, false, false] rfl rfl (Zbf HT_.out (by kernel_rfl)) (fun _ _ _ h => h) (Or.inl ⟨by rfl, ?_⟩) ?_ ?_
   rotate_left
   ·intro w'
    go_simp
    with_reducible rfl
   rotate_left
   ·simp only [Act.put, List.setIfInBounds_toArray, List.set_cons_zero, List.set_cons_succ, Zbh, Zbi]
    rfl
   refine Zbv (i := 6) (N := some 37) (v := ?_) (a' := ?_) #[true, true, true, true, false, true, true, false, false, false, false, false, false] rfl rfl (Zbf HT_.out (by kernel_rfl)) (fun _ _ _ h => h) (Or.inl ⟨by rfl, ?_⟩) ?_ ?_
   rotate_left
   ·intro w'
    go_simp
    with_reducible rfl
   rotate_left
   ·simp only [Act.put, List.setIfInBounds_toArray, List.set_cons_zero, List.set_cons_succ, Zbh, Zbi]
    rfl
   refine Zbv (i := 7) (N := some 38) (v := ?_) (a' := ?_) #[true, true, true, true, false, true, true, true, false, false, false, false, false] rfl rfl (Zbf HT_.out (by kernel_rfl)) (fun _ _ _ h => h) (Or.inl ⟨by rfl, ?_⟩) ?_ ?_
   rotate_left
   ·intro w'
    go_simp
    with_reducible rfl
   rotate_left
   ·simp only [Act.put, List.setIfInBounds_toArray, List.set_cons_zero, List.set_cons_succ, Zbh, Zbi]
    rfl
   refine Zdw (i := 4) (N := some 35) (v := ?_) (a' := ?_) #[true, true, true, true, true, true, true, true, false, false, false, false, false] rfl rfl (Zcq HT_.out HW_.out (by kernel_rfl)) (fun _ _ _ h => h) (Or.inl ⟨by rfl, ?_⟩) hHeld ?_ ?_
   rotate_left
   ·rintro w' ⟨s0, s1⟩
    go_simp
    with_reducible rfl
   rotate_left
   ·simp only [Act.put, List.setIfInBounds_toArray, List.set_cons_zero, List.set_cons_succ, Zbh, Zbi]
    rfl
   refine Zdw (i := 8) (N := some 39) (v := ?_) (a' := ?_) #[true, true, true, true, true, true, true, true, true, false, false, false, false] rfl rfl (Zcq HT_.out HW_.out (by kernel_rfl)) (fun _ _ _ h => h) (Or.inl ⟨by rfl, ?_⟩) hHeld ?_ ?_
   rotate_left
   ·rintro w' ⟨s0, s1⟩
    go_simp
    with_reducible rfl
   rotate_left
   ·simp only [Act.put, List.setIfInBounds_toArray, List.set_cons_zero, List.set_cons_succ, Zbh, Zbi]
    rfl
   refine Zbv (i := 9) (N := some 40) (v := ?_) (a' := ?_) #[true, true, true, true, true, true, true, true, true, true, false, false, false] rfl rfl (Zbf HT_.out (by kernel_rfl)) (fun _ _ _ h => h) (Or.inl ⟨by rfl, ?_⟩) ?_ ?_
   rotate_left
   ·intro w'
    go_simp
    with_reducible rfl
   rotate_left
   ·simp only [Act.put, List.setIfInBounds_toArray, List.set_cons_zero, List.set_cons_succ, Zbh, Zbi]
    rfl
   refine one_ (i := 10) (N := some 41) #[true, true, true, true, true, true, true, true, true, true, true, false, false] rfl rfl (Zec HT_.out (by kernel_rfl)) (by decide) (fun K hK => ?_)
   refine value_ (w1 := ?_) (v := ?_) (by rfl) rfl ?_ ?_
   rotate_left 2
   ·go_simp
    constructor
    ·rfl
    rfl
   refine hK.out _ _ ⟨(World.cell?_alloc_lt _ _ _ (World.block_lt_of_cell? _ _ (((HB.out.cell (World.block_lt_of_cell? w _ hw172_0)).trans hw172_0)))).trans (((HB.out.cell (World.block_lt_of_cell? w _ hw172_0)).trans hw172_0)), (World.cell?_alloc_lt _ _ _ (World.block_lt_of_cell? _ _ (((HB.out.cell (World.block_lt_of_cell? w _ hw173_0)).trans hw173_0)))).trans (((HB.out.cell (World.block_lt_of_cell? w _ hw173_0)).trans hw173_0))⟩ (fun hHeld => ?_)
   clear hK K
   refine Zgs (a' := ?_) ?_ ?_
   rotate_left
   ·show Act.put _ (some 41) _ = _
    simp only [Act.put, List.setIfInBounds_toArray, List.set_cons_zero, List.set_cons_succ, Zbh, Zbi]
    rfl
   refine one_ (i := 11) (N := some 42) #[true, true, true, true, true, true, true, true, true, true, true, true, false] rfl rfl (Zec HT_.out (by kernel_rfl)) (by decide) (fun K hK => ?_)
   refine Kd.Zd7 k41 (w0 := w) w.heap.size (by rfl) (.tmp 31) (.tmp 41) 39 41 (.agg #[(.int .i64 0), (.int .i64 0)]) 16 rfl Try.underlying39 Zeb rfl (by decide) (by omega) u3 x3_1 (⟨rd l0 x4_1, rd l0 x5_1⟩ : S41) [.int .i64 (rd l0 x4_1), .int .i64 (rd l0 x5_1)] (fun _ => True) (fun _ => False) rfl rfl ?aP (fun _ hk => hk.elim) ?aF ?aO ?aB ?aS ?aL ?_
   (case aP => exact Zcy _ _ _ (⟨rd l0 x4_1, rd l0 x5_1⟩ : S41))
   (case aB => exact (by repeat (first | (with_reducible first | exact HB.out | apply Zab | apply Za | apply Zac) | exact HB.out)))
   (case aF => exact (fun _ _ => trivial))
   (case aO => exact (mvR HO_3.out))
   (case aS => exact (Zae (by repeat (first | (with_reducible first | exact HB.out | apply Zab | apply Za | apply Zac) | exact HB.out))))
   (case aL => have := LMc21.out; omega)
   intro v175 w24 ho hb hg hat
   rw [← Ny174.out] at ho
   have n0_ := Zaa.mk (hb)
   have n1_ := Zaa.mk (ho)
   clear HB
   clear HO_3
   have HB := n0_
   have HO176 := n1_
   clear n0_ n1_
   clear ho hb hg hat
   refine hK.out _ _ ⟨((HB.out.cell (World.block_lt_of_cell? w _ hw172_0)).trans hw172_0), ((HB.out.cell (World.block_lt_of_cell? w _ hw173_0)).trans hw173_0)⟩ (fun hHeld => ?_)
   clear hK K
   refine Zgs (a' := ?_) ?_ ?_
   rotate_left
   ·show Act.put _ (some 42) _ = _
    simp only [Act.put, List.setIfInBounds_toArray, List.set_cons_zero, List.set_cons_succ, Zbh, Zbi]
    rfl
   refine Zbv (i := 12) (N := some 3) (v := ?_) (a' := ?_) #[true, true, true, true, true, true, true, true, true, true, true, true, true] rfl rfl (Zbf HT_.out (by kernel_rfl)) (fun _ _ _ h => h) (Or.inl ⟨by rfl, ?_⟩) ?_ ?_
   rotate_left
   ·intro w'
    go_simp
    with_reducible rfl
   rotate_left
   ·simp only [Act.put, List.setIfInBounds_toArray, List.set_cons_zero, List.set_cons_succ, Zbh, Zbi]
    rfl
   refine Zfw (Zdz HT_.out (by kernel_rfl)) ?_
   try go_wp2
   go_roundg k1
   case measure => have := HK1.out; omega
   case rel => exact ⟨(y174), (ji13), (ji13), (by first | rfl | (simp; done) | (simp only [← hji13] <;> (first | rfl | simp)) | (simp [*]; done)), (by first | rfl | (simp; done) | (simp only [← hji13] <;> (first | rfl | simp)) | (simp [*]; done)), H', ⟨by have := HK1.out; omega⟩, ⟨by (with_reducible repeat (first | apply Kd.Za6 | apply Kd.Za5 | apply Kd.Zbb)); exact HO176.out⟩, ⟨by repeat (first | (with_reducible first | exact HB.out | apply Zab | apply Za | apply Zac) | exact HB.out)⟩⟩
end Go.Proofs.Ytpbcigilipdedaa.P
