/- Proved: what each function of the program that the statements of this seat reach comes to, for whatever memory and arguments it is called with (on condition that its plain text tells a result). -/
import Derived.Test.YtkgjaklnbgdmiaaProg
import Derived.Below
import Derived.Deep.Draws
import Derived.Deep.AppendLies
import Derived.Maps.AppendAt
import Derived.OwnWalk
import Derived.Laws.BytesArg
import Derived.Laws.MakeOwn
import Derived.Laws.OwnMore
import Derived.Deep.OwnRows
import Derived.Tactics
import Derived.Lib.ConvBytes
import Derived.Laws.Slices
import Derived.WalkKit
import Derived.KernelRfl
import Derived.RowKit3
import Derived.Deep.LoopGhost
import Derived.Deep.QuietTactic
import Derived.BigQuiet
import Derived.WideLaws
import Derived.Deep.DeepCutAuto
import Derived.Deep.CutBlock
import Derived.Deep.RegionHeld3
import Derived.Laws.Rows
import Derived.Lib.AppendStr
import Derived.ArgAppend
import Derived.Laws.IdiomCopy
import Derived.OrdersHeld
import Derived.Laws.BitsLemmas
import Derived.RowKit
import Derived.Test.YtkgjaklnbgdmiaaU1
import Derived.Lib.SliceRun
namespace Go.Proofs.Ytkgjaklnbgdmiaa.P
open Go.RowKit Go.Proofs.YtkgjaklnbgdmiaaW.PrintWords Go.Proofs.YtkgjaklnbgdmiaaW.PrintLast Go.Proofs.YtkgjaklnbgdmiaaW.PrintMore
attribute [local go_sem] Zcm Zco Zc0 Zc1 Zcb Zcc Zcn Zcp
set_option linter.unusedVariables false
set_option linter.unusedSimpArgs false
def errW : Option Int → Value
 | none => .nilIface
 | some c => .iface 0 (.int .i64 c)
theorem Zam : errW none = .nilIface := rfl
theorem Zan (c : Int) : errW (some c) = .iface 0 (.int .i64 c) := rfl
theorem info3 : (Try.prog.info? 3).map (fun i => (i.zero, i.size, i.bytes)) = some (some (.int .i64 0), 1, 8) := by kernel_rfl
theorem info24 : (Try.prog.info? 24).map (fun i => (i.zero, i.size, i.bytes)) = some (some (.slice none 0 0), 1, 24) := by kernel_rfl
theorem info31 : (Try.prog.info? 31).map (fun i => (i.zero, i.size, i.bytes)) = some (some (.agg #[(.int .i64 0), (.slice none 0 0), (.slice none 0 0), (.int .i64 0), (.int .i64 0), (.slice none 0 0), (.int .i64 0)]), 7, 104) := by kernel_rfl
theorem info37 : (Try.prog.info? 37).map (fun i => (i.zero, i.size, i.bytes)) = some (some (.slice none 0 0), 1, 24) := by kernel_rfl
theorem info48 : (Try.prog.info? 48).map (fun i => (i.zero, i.size, i.bytes)) = some (some (.agg #[(.int .i64 0), (.int .i64 0)]), 2, 16) := by kernel_rfl
theorem info50 : (Try.prog.info? 50).map (fun i => (i.zero, i.size, i.bytes)) = some (some (.agg #[(.string ⟨#[]⟩), (.slice none 0 0)]), 2, 40) := by kernel_rfl
def Zdz (xs : List (List Int)) (i : Int) : (List Int) := xs.getD i.toNat ([] : List Int)
theorem at_L1 {w : World} {A : Option Addr} {n : Nat} {xs : List (List Int)} (h : Kd.C (Kd.slice 3 (Kd.int .i64)) w A n xs) (i : Int) (h0 : 0 ≤ i) (h1 : i < n) : ∃ ad A0 c0, A = some ad ∧ w.cell? (ad.add i.toNat) = some (.slice A0 (Zdz xs i).length c0) ∧ (Zdz xs i).length ≤ c0 ∧ (Kd.int .i64).C w A0 (Zdz xs i).length (Zdz xs i) := by
 obtain ⟨ad, c, e, _, hK, hc0⟩ := Kd.C_get h ([] : List Int) i h0 h1
 have hc : ∀ j u, c[j]? = some u → w.cell? (ad.add (i.toNat * 1 + j)) = some u := hc0
 obtain ⟨A0, c0, rfl, l0, g0⟩ := hK
 exact ⟨ad, A0, c0, e, by have hq := hc 0 _ rfl; rwa [Nat.mul_one, Nat.add_zero] at hq, l0, g0⟩
structure S48 where
 f0 : Int
 f1 : Int
def z48 : S48 := ⟨(0 : Int), (0 : Int)⟩
def k48 : Kd S48 := Kd.iso (Kd.pair (Kd.int .i64) (Kd.int .i64)) (fun x : S48 => (x.f0, x.f1))
theorem k48_open {w : World} {x : S48} {cs : List Value} (h : k48.K w x cs) : cs = [.int .i64 x.f0, .int .i64 x.f1] := by
 obtain ⟨_, _, rfl, rfl, rfl⟩ := h
 exact rfl
theorem Zd3 (w : World) (base : Nat) (ok : Nat → Prop) (x : S48)  : k48.M w base ok x [.int .i64 x.f0, .int .i64 x.f1] := ⟨[.int .i64 x.f0], [.int .i64 x.f1], rfl, rfl, rfl⟩
def Zao (xs : List S48) (i : Int) : S48 := xs.getD i.toNat z48
theorem Zdf {w : World} {A : Option Addr} {n : Nat} {xs : List S48} (h : Kd.C k48 w A n xs) (i : Int) (h0 : 0 ≤ i) (h1 : i < n) : ∃ ad , A = some ad ∧ w.cell? (ad.add (i.toNat * 2)) = some (.int .i64 (Zao xs i).f0) ∧ w.cell? ⟨(ad.add (i.toNat * 2)).block, (ad.add (i.toNat * 2)).off + 1, none⟩ = some (.int .i64 (Zao xs i).f1) := by
 obtain ⟨ad, c, e, _, hK, hc0⟩ := Kd.C_get h z48 i h0 h1
 have hc : ∀ j u, c[j]? = some u → w.cell? (ad.add (i.toNat * 2 + j)) = some u := hc0
 obtain rfl := k48_open hK
 exact ⟨ad, e, hc 0 _ rfl, by rw [← Zc8 _ _ 1 (by omega)]; exact hc 1 _ rfl⟩
def rd_L4 (xs : List (List S48)) (i : Int) : (List S48) := xs.getD i.toNat ([] : List S48)
theorem at_L4 {w : World} {A : Option Addr} {n : Nat} {xs : List (List S48)} (h : Kd.C (Kd.slice 48 k48) w A n xs) (i : Int) (h0 : 0 ≤ i) (h1 : i < n) : ∃ ad A0 c0, A = some ad ∧ w.cell? (ad.add i.toNat) = some (.slice A0 (rd_L4 xs i).length c0) ∧ (rd_L4 xs i).length ≤ c0 ∧ k48.C w A0 (rd_L4 xs i).length (rd_L4 xs i) := by
 obtain ⟨ad, c, e, _, hK, hc0⟩ := Kd.C_get h ([] : List S48) i h0 h1
 have hc : ∀ j u, c[j]? = some u → w.cell? (ad.add (i.toNat * 1 + j)) = some u := hc0
 obtain ⟨A0, c0, rfl, l0, g0⟩ := hK
 exact ⟨ad, A0, c0, e, by have hq := hc 0 _ rfl; rwa [Nat.mul_one, Nat.add_zero] at hq, l0, g0⟩
structure S50 where
 f0 : ByteArray
 f1 : (List S48)
def z50 : S50 := ⟨(⟨#[]⟩ : ByteArray), ([] : List S48)⟩
def k50 : Kd S50 := Kd.iso (Kd.pair Kd.string (Kd.slice 48 k48)) (fun x : S50 => (x.f0, x.f1))
theorem k50_open {w : World} {x : S50} {cs : List Value} (h : k50.K w x cs) : ∃ A1 c1, cs = [.string x.f0, .slice A1 x.f1.length c1] ∧ x.f1.length ≤ c1 ∧ k48.C w A1 x.f1.length x.f1 := by
 obtain ⟨_, _, rfl, rfl, ⟨A1, c1, rfl, l1, g1⟩⟩ := h
 exact ⟨A1, c1, rfl, l1, g1⟩
theorem k50_mk (w : World) (x : S50) {A1 : Option Addr} {c1 : Nat} (l1 : x.f1.length ≤ c1) (g1 : k48.C w A1 x.f1.length x.f1) : k50.K w x [.string x.f0, .slice A1 x.f1.length c1] := ⟨[.string x.f0], [.slice A1 x.f1.length c1], rfl, rfl, ⟨A1, c1, rfl, l1, g1⟩⟩
theorem k50_mkM (w : World) (base : Nat) (ok : Nat → Prop) (x : S50) {v1 : Value} (g1 : k48.R 48 w base ok v1 x.f1) : k50.M w base ok x [.string x.f0, v1] := ⟨[.string x.f0], [v1], rfl, rfl, ⟨v1, rfl, g1⟩⟩
theorem k50_mkF (W : World) (ok : Nat → Prop) (x : S50) {A1 : Option Addr} {c1 : Nat} (l1 : x.f1.length ≤ c1) (g1 : Kd.F k48 W ok A1 x.f1.length x.f1) : Kd.FK k50 W ok x [.string x.f0, .slice A1 x.f1.length c1] := fun W2 hW => k50_mk W2 x l1 (g1 W2 hW)
def Zbg (xs : List S50) (i : Int) : S50 := xs.getD i.toNat z50
theorem at_T50 {w : World} {A : Option Addr} {n : Nat} {xs : List S50} (h : Kd.C k50 w A n xs) (i : Int) (h0 : 0 ≤ i) (h1 : i < n) : ∃ ad A1 c1, A = some ad ∧ w.cell? (ad.add (i.toNat * 2)) = some (.string (Zbg xs i).f0) ∧ w.cell? ⟨(ad.add (i.toNat * 2)).block, (ad.add (i.toNat * 2)).off + 1, none⟩ = some (.slice A1 (Zbg xs i).f1.length c1) ∧ (Zbg xs i).f1.length ≤ c1 ∧ k48.C w A1 (Zbg xs i).f1.length (Zbg xs i).f1 := by
 obtain ⟨ad, c, e, _, hK, hc0⟩ := Kd.C_get h z50 i h0 h1
 have hc : ∀ j u, c[j]? = some u → w.cell? (ad.add (i.toNat * 2 + j)) = some u := hc0
 obtain ⟨A1, c1, rfl, l1, g1⟩ := k50_open hK
 exact ⟨ad, A1, c1, e, hc 0 _ rfl, by rw [← Zc8 _ _ 1 (by omega)]; exact hc 1 _ rfl, l1, g1⟩
structure S31 where
 f0 : Int
 f1 : (List Int)
 f2 : (List Int)
 f3 : Int
 f4 : Int
 f5 : (List (List Int))
 f6 : Int
def z31 : S31 := ⟨(0 : Int), ([] : List Int), ([] : List Int), (0 : Int), (0 : Int), ([] : List (List Int)), (0 : Int)⟩
def k31 : Kd S31 := Kd.iso (Kd.pair (Kd.int .i64) (Kd.pair (Kd.slice 3 (Kd.int .i64)) (Kd.pair (Kd.slice 3 (Kd.int .i64)) (Kd.pair (Kd.int .i64) (Kd.pair (Kd.int .i64) (Kd.pair (Kd.slice 24 (Kd.slice 3 (Kd.int .i64))) (Kd.int .i64))))))) (fun x : S31 => (x.f0, x.f1, x.f2, x.f3, x.f4, x.f5, x.f6))
theorem k31_open {w : World} {x : S31} {cs : List Value} (h : k31.K w x cs) : ∃ A1 c1 A2 c2 A5 c5, cs = [.int .i64 x.f0, .slice A1 x.f1.length c1, .slice A2 x.f2.length c2, .int .i64 x.f3, .int .i64 x.f4, .slice A5 x.f5.length c5, .int .i64 x.f6] ∧ x.f1.length ≤ c1 ∧ (Kd.int .i64).C w A1 x.f1.length x.f1 ∧ x.f2.length ≤ c2 ∧ (Kd.int .i64).C w A2 x.f2.length x.f2 ∧ x.f5.length ≤ c5 ∧ (Kd.slice 3 (Kd.int .i64)).C w A5 x.f5.length x.f5 := by
 obtain ⟨_, _, rfl, rfl, ⟨_, _, rfl, ⟨A1, c1, rfl, l1, g1⟩, ⟨_, _, rfl, ⟨A2, c2, rfl, l2, g2⟩, ⟨_, _, rfl, rfl, ⟨_, _, rfl, rfl, ⟨_, _, rfl, ⟨A5, c5, rfl, l5, g5⟩, rfl⟩⟩⟩⟩⟩⟩ := h
 exact ⟨A1, c1, A2, c2, A5, c5, rfl, l1, g1, l2, g2, l5, g5⟩
theorem k31_mk (w : World) (x : S31) {A1 : Option Addr} {c1 : Nat} (l1 : x.f1.length ≤ c1) (g1 : (Kd.int .i64).C w A1 x.f1.length x.f1) {A2 : Option Addr} {c2 : Nat} (l2 : x.f2.length ≤ c2) (g2 : (Kd.int .i64).C w A2 x.f2.length x.f2) {A5 : Option Addr} {c5 : Nat} (l5 : x.f5.length ≤ c5) (g5 : (Kd.slice 3 (Kd.int .i64)).C w A5 x.f5.length x.f5) : k31.K w x [.int .i64 x.f0, .slice A1 x.f1.length c1, .slice A2 x.f2.length c2, .int .i64 x.f3, .int .i64 x.f4, .slice A5 x.f5.length c5, .int .i64 x.f6] := ⟨[.int .i64 x.f0], [.slice A1 x.f1.length c1, .slice A2 x.f2.length c2, .int .i64 x.f3, .int .i64 x.f4, .slice A5 x.f5.length c5, .int .i64 x.f6], rfl, rfl, ⟨[.slice A1 x.f1.length c1], [.slice A2 x.f2.length c2, .int .i64 x.f3, .int .i64 x.f4, .slice A5 x.f5.length c5, .int .i64 x.f6], rfl, ⟨A1, c1, rfl, l1, g1⟩, ⟨[.slice A2 x.f2.length c2], [.int .i64 x.f3, .int .i64 x.f4, .slice A5 x.f5.length c5, .int .i64 x.f6], rfl, ⟨A2, c2, rfl, l2, g2⟩, ⟨[.int .i64 x.f3], [.int .i64 x.f4, .slice A5 x.f5.length c5, .int .i64 x.f6], rfl, rfl, ⟨[.int .i64 x.f4], [.slice A5 x.f5.length c5, .int .i64 x.f6], rfl, rfl, ⟨[.slice A5 x.f5.length c5], [.int .i64 x.f6], rfl, ⟨A5, c5, rfl, l5, g5⟩, rfl⟩⟩⟩⟩⟩⟩
theorem k31_mkM (w : World) (base : Nat) (ok : Nat → Prop) (x : S31) {v1 : Value} (g1 : (Kd.int .i64).R 3 w base ok v1 x.f1) {v2 : Value} (g2 : (Kd.int .i64).R 3 w base ok v2 x.f2) {v5 : Value} (g5 : (Kd.slice 3 (Kd.int .i64)).R 24 w base ok v5 x.f5) : k31.M w base ok x [.int .i64 x.f0, v1, v2, .int .i64 x.f3, .int .i64 x.f4, v5, .int .i64 x.f6] := ⟨[.int .i64 x.f0], [v1, v2, .int .i64 x.f3, .int .i64 x.f4, v5, .int .i64 x.f6], rfl, rfl, ⟨[v1], [v2, .int .i64 x.f3, .int .i64 x.f4, v5, .int .i64 x.f6], rfl, ⟨v1, rfl, g1⟩, ⟨[v2], [.int .i64 x.f3, .int .i64 x.f4, v5, .int .i64 x.f6], rfl, ⟨v2, rfl, g2⟩, ⟨[.int .i64 x.f3], [.int .i64 x.f4, v5, .int .i64 x.f6], rfl, rfl, ⟨[.int .i64 x.f4], [v5, .int .i64 x.f6], rfl, rfl, ⟨[v5], [.int .i64 x.f6], rfl, ⟨v5, rfl, g5⟩, rfl⟩⟩⟩⟩⟩⟩
theorem k31_mkF (W : World) (ok : Nat → Prop) (x : S31) {A1 : Option Addr} {c1 : Nat} (l1 : x.f1.length ≤ c1) (g1 : Kd.F (Kd.int .i64) W ok A1 x.f1.length x.f1) {A2 : Option Addr} {c2 : Nat} (l2 : x.f2.length ≤ c2) (g2 : Kd.F (Kd.int .i64) W ok A2 x.f2.length x.f2) {A5 : Option Addr} {c5 : Nat} (l5 : x.f5.length ≤ c5) (g5 : Kd.F (Kd.slice 3 (Kd.int .i64)) W ok A5 x.f5.length x.f5) : Kd.FK k31 W ok x [.int .i64 x.f0, .slice A1 x.f1.length c1, .slice A2 x.f2.length c2, .int .i64 x.f3, .int .i64 x.f4, .slice A5 x.f5.length c5, .int .i64 x.f6] := fun W2 hW => k31_mk W2 x l1 (g1 W2 hW) l2 (g2 W2 hW) l5 (g5 W2 hW)
def Zai (xs : List S31) (i : Int) : S31 := xs.getD i.toNat z31
theorem at_T31 {w : World} {A : Option Addr} {n : Nat} {xs : List S31} (h : Kd.C k31 w A n xs) (i : Int) (h0 : 0 ≤ i) (h1 : i < n) : ∃ ad A1 c1 A2 c2 A5 c5, A = some ad ∧ w.cell? (ad.add (i.toNat * 7)) = some (.int .i64 (Zai xs i).f0) ∧ w.cell? ⟨(ad.add (i.toNat * 7)).block, (ad.add (i.toNat * 7)).off + 1, none⟩ = some (.slice A1 (Zai xs i).f1.length c1) ∧ w.cell? ⟨(ad.add (i.toNat * 7)).block, (ad.add (i.toNat * 7)).off + 2, none⟩ = some (.slice A2 (Zai xs i).f2.length c2) ∧ w.cell? ⟨(ad.add (i.toNat * 7)).block, (ad.add (i.toNat * 7)).off + 3, none⟩ = some (.int .i64 (Zai xs i).f3) ∧ w.cell? ⟨(ad.add (i.toNat * 7)).block, (ad.add (i.toNat * 7)).off + 4, none⟩ = some (.int .i64 (Zai xs i).f4) ∧ w.cell? ⟨(ad.add (i.toNat * 7)).block, (ad.add (i.toNat * 7)).off + 5, none⟩ = some (.slice A5 (Zai xs i).f5.length c5) ∧ w.cell? ⟨(ad.add (i.toNat * 7)).block, (ad.add (i.toNat * 7)).off + 6, none⟩ = some (.int .i64 (Zai xs i).f6) ∧ (Zai xs i).f1.length ≤ c1 ∧ (Kd.int .i64).C w A1 (Zai xs i).f1.length (Zai xs i).f1 ∧ (Zai xs i).f2.length ≤ c2 ∧ (Kd.int .i64).C w A2 (Zai xs i).f2.length (Zai xs i).f2 ∧ (Zai xs i).f5.length ≤ c5 ∧ (Kd.slice 3 (Kd.int .i64)).C w A5 (Zai xs i).f5.length (Zai xs i).f5 := by
 obtain ⟨ad, c, e, _, hK, hc0⟩ := Kd.C_get h z31 i h0 h1
 have hc : ∀ j u, c[j]? = some u → w.cell? (ad.add (i.toNat * 7 + j)) = some u := hc0
 obtain ⟨A1, c1, A2, c2, A5, c5, rfl, l1, g1, l2, g2, l5, g5⟩ := k31_open hK
 exact ⟨ad, A1, c1, A2, c2, A5, c5, e, hc 0 _ rfl, by rw [← Zc8 _ _ 1 (by omega)]; exact hc 1 _ rfl, by rw [← Zc8 _ _ 2 (by omega)]; exact hc 2 _ rfl, by rw [← Zc8 _ _ 3 (by omega)]; exact hc 3 _ rfl, by rw [← Zc8 _ _ 4 (by omega)]; exact hc 4 _ rfl, by rw [← Zc8 _ _ 5 (by omega)]; exact hc 5 _ rfl, by rw [← Zc8 _ _ 6 (by omega)]; exact hc 6 _ rfl, l1, g1, l2, g2, l5, g5⟩
end Go.Proofs.Ytkgjaklnbgdmiaa.P
/- Facts of a world, at a world that an alloc or a draw has moved: told by the class 'Mv', so that the texts stay short. -/
namespace Go.Proofs.Ytkgjaklnbgdmiaa.P
open Go.RowKit Go.Proofs.YtkgjaklnbgdmiaaW.PrintWords Go.Proofs.YtkgjaklnbgdmiaaW.PrintLast Go.Proofs.YtkgjaklnbgdmiaaW.PrintMore
class Mv (w w' : World) : Prop where
  out : Below w.heap.size w w'
instance (w : World) : Mv w w := ⟨Below.refl _ _⟩
instance (w w' : World) [h : Mv w w'] : Mv w w'.drew := ⟨Zad h.out (Zc5 (Below.refl _ _))⟩
instance (w w' : World) (n : Nat) [h : Mv w w'] : Mv w (w'.drewN n) := ⟨Zad h.out (Zaa (Below.refl _ _) n)⟩
instance (w w' : World) (o : Obj) [h : Mv w w'] : Mv w (w'.alloc o) := ⟨Zad h.out (Zab (Below.refl _ _) o)⟩
section
variable {α : Type} {d : Kd α} {e base : Nat} {ok : Nat → Prop} {w w' W : World} {v : Value} {xs : List α}
theorem mvR [m : Mv w w'] (h : d.R e w base ok v xs) : d.R e w' base ok v xs := Kd.Zbi h m.out
theorem mvB [m : Mv w w'] (h : Below W.heap.size W w) : Below W.heap.size W w' := Zad h m.out
theorem mvK {g : Nat} {o : Obj} [m : Mv w w'] (h : w.heap[g]? = some o) : w'.heap[g]? = some o := Zau h m.out
end
end Go.Proofs.Ytkgjaklnbgdmiaa.P
namespace Go.Proofs.Ytkgjaklnbgdmiaa.P
open Go.RowKit Go.Proofs.YtkgjaklnbgdmiaaW.PrintWords Go.Proofs.YtkgjaklnbgdmiaaW.PrintLast Go.Proofs.YtkgjaklnbgdmiaaW.PrintMore
attribute [local go_sem] Zcm Zco Zc0 Zc1 Zcb Zcc Zcn Zcp
set_option linter.unusedVariables false
set_option linter.unusedSimpArgs false
def Zbh.l0 : Nat → List Int → List Int → Int → Option (Bool)
 | 0, _, _, _ => none
 | k + 1, x0, x1, x5 => if x5 < (x0.length : Int) then (if 0 ≤ x5 then (if x5 < (x1.length : Int) then (if (rd x0 x5) = (rd x1 x5) then (Zbh.l0 k x0 x1 (wrap64 (x5 + 1))) else (some false)) else (none)) else (none)) else (some true)
def Zbh.f (k : Nat) (l0 : List Int) (l1 : List Int) : Option (Bool) := if (l0.length : Int) = (l1.length : Int) then (Zbh.l0 k l0 l1 0) else (some false)
set_option maxHeartbeats 8000000 in
set_option maxRecDepth 100000 in
theorem Zbh.calls (k : Nat) (A0 : Option Addr) (c0 : Nat) (l0 : List Int) (A1 : Option Addr) (c1 : Nat) (l1 : List Int) (r : Bool) (w : World) (hr0 : Kd.C (Kd.int .i64) w A0 l0.length l0) (hc0 : l0.length ≤ c0) (hr1 : Kd.C (Kd.int .i64) w A1 l1.length l1) (hc1 : l1.length ≤ c1) (h : Zbh.f k l0 l1 = some r) :
  Calls Try.prog 16 #[.slice A0 l0.length c0, .slice A1 l1.length c1] w fun e w' => e = .returned (.bool r) ∧ Zbb w w' := by
 have HR0 := Za.mk hr0
 have HC0 := Za.mk hc0
 clear hr0 hc0
 have HR1 := Za.mk hr1
 have HC1 := Za.mk hc1
 clear hr1 hc1
 have H : (if (l0.length : Int) = (l1.length : Int) then (Zbh.l0 k l0 l1 0) else (some false)) = some r := h
 clear h
 by_cases c3 : (l0.length : Int) = (l1.length : Int)
 rotate_left
 ·rw [if_neg c3] at H
  have c3b0 : ((l0.length : Int) == (l1.length : Int)) = false := beq_eq_false_iff_ne.mpr c3
  have c3b1 : ((l0.length : Int) != (l1.length : Int)) = true := bne_iff_ne.mpr c3
  have c3b2 : (l0.length == l1.length) = false := by first | simpa using c3 | (simp at c3 ⊢; omega)
  obtain rfl := Option.some.inj H
  go_enter Try.func16, Try.ntmps16
  go_wp2
  repeat (go_quiet (fail); try go_wp2)
  go_ret
  exact ⟨by first | rfl | (simp; done) | (simp [*]; done), by repeat (first | exact Zbb.refl _ | apply Zbb.step)⟩
 rw [if_pos c3] at H
 have c3b0 : ((l0.length : Int) == (l1.length : Int)) = true := beq_iff_eq.mpr c3
 have c3b1 : ((l0.length : Int) != (l1.length : Int)) = false := bne_eq_false_iff_eq.mpr c3
 have c3b2 : (l0.length == l1.length) = true := by first | simpa using c3 | (simp at c3 ⊢; omega)
 clear c3
 have H' := Za.mk H
 clear H
 go_enter Try.func16, Try.ntmps16
 go_wp2
 repeat (go_quiet (fail); try go_wp2)
 go_loopg [5] k (fun kq v5 w' => ∃ (x5_1 : Int), v5 = .int .i64 x5_1 ∧ Za (Zbh.l0 kq l0 l1 x5_1 = some r) ∧ Za (kq ≤ k) ∧ Zbb w w')
 case atStart => exact ⟨(0), (by first | rfl | (simp; done) | (simp [*]; done)), H', ⟨Nat.le_refl _⟩, by repeat (first | exact Zbb.refl _ | apply Zbb.step)⟩
 case round =>
  clear H'
  try clear c1
  try clear p2
  try clear c3
  try clear c3b0
  try clear c3b1
  try clear c3b2
  obtain ⟨x5_1, rfl, HA, HK1, ⟨m1, rfl⟩⟩ := hrel
  cases gk with
  | zero => exact absurd HA.out (by simp [Zbh.l0])
  | succ k1 =>
   have H := HA.out
   clear HA
   simp only [Zbh.l0] at H
   by_cases c4 : x5_1 < (l0.length : Int)
   rotate_left
   ·rw [if_neg c4] at H
    have c4b0 : decide (x5_1 < (l0.length : Int)) = false := decide_eq_false c4
    clear c4
    obtain rfl := Option.some.inj H
    go_wp2
    repeat (go_quiet (fail); try go_wp2)
    go_ret
    exact ⟨by first | rfl | (simp; done) | (simp [*]; done), by repeat (first | exact Zbb.refl _ | apply Zbb.step)⟩
   rw [if_pos c4] at H
   have c4b0 : decide (x5_1 < (l0.length : Int)) = true := decide_eq_true c4
   clear c4
   by_cases c5 : 0 ≤ x5_1
   rotate_left
   ·rw [if_neg c5] at H
    exact absurd H (by simp)
   rw [if_pos c5] at H
   have c5b0 : decide (0 ≤ x5_1) = true := decide_eq_true c5
   clear c5
   by_cases c6 : x5_1 < (l1.length : Int)
   rotate_left
   ·rw [if_neg c6] at H
    exact absurd H (by simp)
   rw [if_pos c6] at H
   have c6b0 : decide (x5_1 < (l1.length : Int)) = true := decide_eq_true c6
   clear c6
   by_cases c7 : (rd l0 x5_1) = (rd l1 x5_1)
   rotate_left
   ·rw [if_neg c7] at H
    have c7b0 : ((rd l0 x5_1) == (rd l1 x5_1)) = false := beq_eq_false_iff_ne.mpr c7
    have c7b1 : ((rd l0 x5_1) != (rd l1 x5_1)) = true := bne_iff_ne.mpr c7
    obtain rfl := Option.some.inj H
    have p217 : 0 ≤ (x5_1 : Int) := of_decide_eq_true (by first | (with_reducible assumption) | assumption)
    have q217 : x5_1 < (l0.length : Int) := of_decide_eq_true (by first | (with_reducible assumption) | assumption)
    obtain ⟨ad217, e217, hx217_0⟩ := Kd.Zcy HR0.out x5_1 p217 q217
    cases e217
    replace p217 := eq_true p217
    replace q217 := eq_true q217
    have p218 : 0 ≤ (x5_1 : Int) := of_decide_eq_true (by first | (with_reducible assumption) | assumption)
    have q218 : x5_1 < (l1.length : Int) := of_decide_eq_true (by first | (with_reducible assumption) | assumption)
    obtain ⟨ad218, e218, hx218_0⟩ := Kd.Zcy HR1.out x5_1 p218 q218
    cases e218
    replace p218 := eq_true p218
    replace q218 := eq_true q218
    go_wp2
    repeat (go_quiet (fail); try go_wp2)
    go_ret
    exact ⟨by first | rfl | (simp; done) | (simp [*]; done), by repeat (first | exact Zbb.refl _ | apply Zbb.step)⟩
   rw [if_pos c7] at H
   have c7b0 : ((rd l0 x5_1) == (rd l1 x5_1)) = true := beq_iff_eq.mpr c7
   have c7b1 : ((rd l0 x5_1) != (rd l1 x5_1)) = false := bne_eq_false_iff_eq.mpr c7
   clear c7
   have H' := Za.mk H
   clear H
   have p217 : 0 ≤ (x5_1 : Int) := of_decide_eq_true (by first | (with_reducible assumption) | assumption)
   have q217 : x5_1 < (l0.length : Int) := of_decide_eq_true (by first | (with_reducible assumption) | assumption)
   obtain ⟨ad217, e217, hx217_0⟩ := Kd.Zcy HR0.out x5_1 p217 q217
   cases e217
   replace p217 := eq_true p217
   replace q217 := eq_true q217
   have p218 : 0 ≤ (x5_1 : Int) := of_decide_eq_true (by first | (with_reducible assumption) | assumption)
   have q218 : x5_1 < (l1.length : Int) := of_decide_eq_true (by first | (with_reducible assumption) | assumption)
   obtain ⟨ad218, e218, hx218_0⟩ := Kd.Zcy HR1.out x5_1 p218 q218
   cases e218
   replace p218 := eq_true p218
   replace q218 := eq_true q218
   go_wp2
   repeat (go_quiet (fail); try go_wp2)
   go_roundg k1
   case measure => have := HK1.out; omega
   case rel => exact ⟨(wrap64 (x5_1 + 1)), (by first | rfl | (simp; done) | (simp [*]; done)), H', ⟨by have := HK1.out; omega⟩, by repeat (first | exact Zbb.refl _ | apply Zbb.step)⟩
end Go.Proofs.Ytkgjaklnbgdmiaa.P
/- slices.Clone of whole numbers. -/
namespace Go.Proofs.Ytkgjaklnbgdmiaa.P
open Go.RowKit Go.Proofs.YtkgjaklnbgdmiaaW.PrintWords Go.Proofs.YtkgjaklnbgdmiaaW.PrintLast Go.Proofs.YtkgjaklnbgdmiaaW.PrintMore
set_option linter.unusedVariables false
set_option linter.unusedSimpArgs false
def cloneI.f (l0 : List Int) : Option (List Int) := if l0.length < 17592186044416 then some l0 else none
set_option maxRecDepth 100000 in
set_option maxHeartbeats 2000000 in
theorem cloneI.calls (A0 : Option Addr) (c0 : Nat) (l0 : List Int) (r : List Int) (w : World) (hr0 : Kd.C (Kd.int .i64) w A0 l0.length l0) (hc0 : l0.length ≤ c0) (h : cloneI.f l0 = some r) :
    Calls Try.prog 44 #[.slice A0 l0.length c0] w fun e w' => ∃ v0_ : Value, e = .returned (v0_) ∧ Kd.R (Kd.int .i64) 3 w' w.heap.size (fun _ => True) v0_ r ∧ Below w.heap.size w w' := by
  have hu := Try.underlying3
  have q22 : ∀ (w : World) (a : Option Addr) (n c n' c' : Nat), (binOp .eql 24 (.slice a n c) (.slice none n' c')).run Try.prog w = .ok (.bool a.isNone) w := fun w a n c n' c' => Lib.run_eql_slice_nil w _ _ a n c n' c' Try.underlying24
  unfold cloneI.f at h
  split at h
  case isFalse => cases h
  case isTrue hl =>
    obtain rfl := Option.some.inj h
    have HL := Za.mk hl
    clear h hl
    have HR := Za.mk hr0
    have hlen : l0.length ≤ 9223372036854775807 := hr0.2.1
    cases A0 with
    | none =>
      have h0 : l0 = [] := by
        rcases Nat.eq_zero_or_pos l0.length with h | h
        · exact List.length_eq_zero_iff.1 h
        obtain ⟨ad, e, _⟩ := hr0.2.2 h; cases e
      subst h0
      clear hr0
      go_enter Try.func44, Try.ntmps44
      go_wp2
      go_ret
      exact ⟨_, rfl, Kd.Ze2 _ _ _ _ _, Below.refl _ _⟩
    | some ad =>
      clear hr0
      have HB := Za.mk (Below.refl w.heap.size w)
      go_enter Try.func44, Try.ntmps44
      go_wp2_with (first | ((with_reducible refine Zaz (N := 5) rfl ?_); refine Kd.Zcs (Kd.int .i64) _ 3 ?hg (N := 5) ?hd (xs := ([] : List Int)) (inner := []) (ok := fun _ => True) (okp := fun _ => True) ?hr ?hp (fun _ hk => hk) trivial (Below.refl w.heap.size w) (Nat.le_refl _) (by simp) ?_; (case hd => rfl); (case hg => rfl); (case hr => first | (go_simp; done) | (go_simp; rfl)); (case hp => exact (Reps.none _ _)); intro v1 w1 ho hb hg_ hnew_; have HO := Za.mk ho; have HB := Za.mk hb; clear ho hb hg_ hnew_) | ((with_reducible refine Zci (b := .append) (xs := #[.tmp 5, .tmp 6]) rfl ?_); at_builtin; go_loud (refine Kd.Zd6 (Kd.int .i64) (Rr := (Kd.int .i64).K w1) (w0 := w) w.heap.size rfl (.tmp 5) (.tmp 6) 24 3 (.int .i64 0) 8 rfl Try.underlying24 info3 rfl (by decide) (by omega) v1 ([] : List Int) l0 _ _ _ (fun _ => True) (fun _ => False) rfl rfl ?aO ?aR ?aK (fun _ h => h.elim) ?aF ?aB ?aS ?aL ?_; (case aR => exact Kd.Zak HR.out HB.out); (case aK => intro x cs h; have e_ := h; subst e_; rfl); (case aB => exact HB.out); (case aF => exact (fun _ _ => trivial)); (case aO => exact HO.out); (case aS => exact HB.out.size); (case aL => have := HL.out; simp; omega); intro v2 w2 ho2 hb2 hg hat; have HO2 := Za.mk ho2; have HB2 := Za.mk hb2; clear ho2 hb2 hg hat)))
      go_ret
      exact ⟨_, rfl, by simpa using HO2.out, HB2.out⟩
end Go.Proofs.Ytkgjaklnbgdmiaa.P
/- slices.Clone of ranges. -/
namespace Go.Proofs.Ytkgjaklnbgdmiaa.P
open Go.RowKit Go.Proofs.YtkgjaklnbgdmiaaW.PrintWords Go.Proofs.YtkgjaklnbgdmiaaW.PrintLast Go.Proofs.YtkgjaklnbgdmiaaW.PrintMore
set_option linter.unusedVariables false
set_option linter.unusedSimpArgs false
def cloneR.f (l0 : List S48) : Option (List S48) := if l0.length < 8796093022208 then some l0 else none
set_option maxRecDepth 100000 in
set_option maxHeartbeats 2000000 in
theorem cloneR.calls (A0 : Option Addr) (c0 : Nat) (l0 : List S48) (r : List S48) (w : World) (hr0 : Kd.C k48 w A0 l0.length l0) (hc0 : l0.length ≤ c0) (h : cloneR.f l0 = some r) :
    Calls Try.prog 48 #[.slice A0 l0.length c0] w fun e w' => ∃ v0_ : Value, e = .returned (v0_) ∧ Kd.R k48 48 w' w.heap.size (fun _ => True) v0_ r ∧ Below w.heap.size w w' := by
  have hu := Try.underlying48
  have q22 : ∀ (w : World) (a : Option Addr) (n c n' c' : Nat), (binOp .eql 37 (.slice a n c) (.slice none n' c')).run Try.prog w = .ok (.bool a.isNone) w := fun w a n c n' c' => Lib.run_eql_slice_nil w _ _ a n c n' c' Try.underlying37
  unfold cloneR.f at h
  split at h
  case isFalse => cases h
  case isTrue hl =>
    obtain rfl := Option.some.inj h
    have HL := Za.mk hl
    clear h hl
    have HR := Za.mk hr0
    have hlen : l0.length ≤ 9223372036854775807 := hr0.2.1
    cases A0 with
    | none =>
      have h0 : l0 = [] := by
        rcases Nat.eq_zero_or_pos l0.length with h | h
        · exact List.length_eq_zero_iff.1 h
        obtain ⟨ad, e, _⟩ := hr0.2.2 h; cases e
      subst h0
      clear hr0
      go_enter Try.func48, Try.ntmps48
      go_wp2
      go_ret
      exact ⟨_, rfl, Kd.Ze2 _ _ _ _ _, Below.refl _ _⟩
    | some ad =>
      clear hr0
      have HB := Za.mk (Below.refl w.heap.size w)
      go_enter Try.func48, Try.ntmps48
      go_wp2_with (first | ((with_reducible refine Zaz (N := 5) rfl ?_); refine Kd.Zcs k48 _ 48 ?hg (N := 5) ?hd (xs := ([] : List S48)) (inner := []) (ok := fun _ => True) (okp := fun _ => True) ?hr ?hp (fun _ hk => hk) trivial (Below.refl w.heap.size w) (Nat.le_refl _) (by simp) ?_; (case hd => rfl); (case hg => rfl); (case hr => first | (go_simp; done) | (go_simp; rfl)); (case hp => exact (Reps.none _ _)); intro v1 w1 ho hb hg_ hnew_; have HO := Za.mk ho; have HB := Za.mk hb; clear ho hb hg_ hnew_) | ((with_reducible refine Zci (b := .append) (xs := #[.tmp 5, .tmp 6]) rfl ?_); at_builtin; go_loud (refine Kd.Zd6 k48 (Rr := k48.K w1) (w0 := w) w.heap.size rfl (.tmp 5) (.tmp 6) 37 48 (.agg #[(.int .i64 0), (.int .i64 0)]) 16 rfl Try.underlying37 info48 rfl (by decide) (by omega) v1 ([] : List S48) l0 _ _ _ (fun _ => True) (fun _ => False) rfl rfl ?aO ?aR ?aK (fun _ h => h.elim) ?aF ?aB ?aS ?aL ?_; (case aR => exact Kd.Zak HR.out HB.out); (case aK => intro x cs h; have e_ := k48_open h; subst e_; exact Zd3 _ _ _ x); (case aB => exact HB.out); (case aF => exact (fun _ _ => trivial)); (case aO => exact HO.out); (case aS => exact HB.out.size); (case aL => have := HL.out; simp; omega); intro v2 w2 ho2 hb2 hg hat; have HO2 := Za.mk ho2; have HB2 := Za.mk hb2; clear ho2 hb2 hg hat)))
      go_ret
      exact ⟨_, rfl, by simpa using HO2.out, HB2.out⟩
end Go.Proofs.Ytkgjaklnbgdmiaa.P
namespace Go.Proofs.Ytkgjaklnbgdmiaa.P
open Go.RowKit Go.Proofs.YtkgjaklnbgdmiaaW.PrintWords Go.Proofs.YtkgjaklnbgdmiaaW.PrintLast Go.Proofs.YtkgjaklnbgdmiaaW.PrintMore
attribute [local go_sem] Zcm Zco Zc0 Zc1 Zcb Zcc Zcn Zcp
set_option linter.unusedVariables false
set_option linter.unusedSimpArgs false
mutual
def Za1.l0 : Nat → List (S50) → Int → Int → List (S50) → List (S31) → Int → List Int → List Int → List (S50) → Int → List Int → List Int → Option ((List (S50)) × (List (S31)) × Int × List Int × List Int)
 | 0, _, _, _, _, _, _, _, _, _, _, _, _ => none
 | k + 1, x25, x26, x27, x220000, x220001, x220002, x220003, x220004, x228000, x228002, x228003, x228004 => if x27 < x26 then (if 0 ≤ x27 then (if x27 < (x25.length : Int) then ((cloneR.f ((Zbg x25 x27).f1)).bind fun t230 => (if x228000.length < 3518437208883 then (Za1.l0 k x25 x26 (wrap64 (x27 + 1)) x220000 x220001 x220002 x220003 x220004 (x228000 ++ [(⟨(Zbg x25 x27).f0, t230⟩ : S50)]) x228002 x228003 x228004) else (none))) else (none)) else (none)) else (Za1.l1 k x220001 (x220001.length : Int) 0 x228000 ([] : List (S31)) x228002 x228003 x228004)
def Za1.l1 : Nat → List (S31) → Int → Int → List (S50) → List (S31) → Int → List Int → List Int → Option ((List (S50)) × (List (S31)) × Int × List Int × List Int)
 | 0, _, _, _, _, _, _, _, _ => none
 | k + 1, x44, x45, x46, x228000, x228001, x228002, x228003, x228004 => if x46 < x45 then (if 0 ≤ x46 then (if x46 < (x44.length : Int) then ((cloneI.f ((Zai x44 x46).f1)).bind fun t238 => ((cloneI.f ((Zai x44 x46).f2)).bind fun t241 => (Za1.l2 k ([] : List (List Int)) x44 x45 x46 ((Zai x44 x46).f5) (((Zai x44 x46).f5).length : Int) 0 x228000 x228001 x228002 x228003 x228004 ((Zai x44 x46).f0) t238 t241 ((Zai x44 x46).f3) ((Zai x44 x46).f4) ((Zai x44 x46).f5) ((Zai x44 x46).f6)))) else (none)) else (none)) else (some (x228000, x228001, x228002, x228003, x228004))
def Za1.l2 : Nat → List (List Int) → List (S31) → Int → Int → List (List Int) → Int → Int → List (S50) → List (S31) → Int → List Int → List Int → Int → List Int → List Int → Int → Int → List (List Int) → Int → Option ((List (S50)) × (List (S31)) × Int × List Int × List Int)
 | 0, _, _, _, _, _, _, _, _, _, _, _, _, _, _, _, _, _, _, _ => none
 | k + 1, x8, x44, x45, x46, x59, x60, x61, x228000, x228001, x228002, x228003, x228004, x238000, x238001, x238002, x238003, x238004, x238005, x238006 => if x61 < x60 then (if 0 ≤ x61 then (if x61 < (x59.length : Int) then ((cloneI.f (Zdz x59 x61)).bind fun t245 => (if x8.length < 5864062014805 then (Za1.l2 k (x8 ++ [t245]) x44 x45 x46 x59 x60 (wrap64 (x61 + 1)) x228000 x228001 x228002 x228003 x228004 x238000 x238001 x238002 x238003 x238004 x238005 x238006) else (none))) else (none)) else (none)) else (if x228001.length < 1353245080339 then (Za1.l1 k x44 x45 (wrap64 (x46 + 1)) x228000 (x228001 ++ [(⟨x238000, x238001, x238002, x238003, x238004, x8, x238006⟩ : S31)]) x228002 x228003 x228004) else (none))
end
def Za1.f (k : Nat) (l0_0 : List (S50)) (l0_1 : List (S31)) (a0_2 : Int) (l0_3 : List Int) (l0_4 : List Int) : Option ((List (S50)) × (List (S31)) × Int × List Int × List Int) := (cloneI.f l0_3).bind fun t221 => ((cloneI.f l0_4).bind fun t224 => (Za1.l0 k l0_0 (l0_0.length : Int) 0 l0_0 l0_1 a0_2 l0_3 l0_4 ([] : List (S50)) a0_2 t221 t224))
def Za1.T1 : Bool × List (List Nat × List Nat) := (true, [([], []), ([0], [0]), ([1], [1]), ([], []), ([3], [3]), ([4], [4]), ([5], [5]), ([], []), ([7], [7]), ([8], [8]), ([9, 6], [9]), ([2, 6, 10], [2, 6, 10]), ([11], [11]), ([], []), ([13, 12, 10, 0, 1, 2, 3, 4, 5, 6, 7, 8, 9, 10, 11, 12, 13], [12, 13])])
def Za1.B1 : List Nat := [0, 1, 3, 0, 8, 24, 56, 0, 128, 384, 1016, 2047, 4095, 0, 16383]
theorem Za1.tab1 : rtab .any (opsOf Try.f24 1) = Za1.T1 := by kernel_rfl
theorem Za1.bits1 : waitsOk Za1.T1.2 Za1.B1 = true := by kernel_rfl
def Za1.T5 : Bool × List (List Nat × List Nat) := (true, [([], []), ([0], [0]), ([], []), ([2], [2]), ([], []), ([4], [4]), ([5], [5]), ([3, 6], [3, 6]), ([7], [7]), ([1, 8, 6], [1, 8]), ([0, 1, 2, 3, 4, 5, 6, 7, 8, 9], []), ([10, 9, 9, 0, 1, 2, 3, 4, 5, 6, 7, 8, 9], [9, 10])])
def Za1.B5 : List Nat := [0, 1, 0, 4, 0, 16, 48, 124, 252, 511, 1023, 2047]
theorem Za1.tab5 : rtab .any (opsOf Try.f24 5) = Za1.T5 := by kernel_rfl
theorem Za1.bits5 : waitsOk Za1.T5.2 Za1.B5 = true := by kernel_rfl
def Za1.T10 : Bool × List (List Nat × List Nat) := (true, [([], []), ([0], [0]), ([1], [1]), ([], []), ([3], [3]), ([4, 2], [4]), ([0, 1, 2, 3, 4], []), ([6, 2, 5, 0, 1, 2, 3, 4], [2, 6]), ([0, 1, 2, 3, 4, 5, 6, 7], []), ([8, 5, 7, 0, 1, 2, 3, 4, 5, 6, 7], [5, 8])])
def Za1.B10 : List Nat := [0, 1, 3, 0, 8, 31, 31, 127, 255, 511]
theorem Za1.tab10 : rtab .any (opsOf Try.f24 10) = Za1.T10 := by kernel_rfl
theorem Za1.bits10 : waitsOk Za1.T10.2 Za1.B10 = true := by kernel_rfl
set_option maxHeartbeats 8000000 in
set_option maxRecDepth 100000 in
theorem Za1.calls (k : Nat) (A0_0 : Option Addr) (c0_0 : Nat) (l0_0 : List (S50)) (A0_1 : Option Addr) (c0_1 : Nat) (l0_1 : List (S31)) (a0_2 : Int) (A0_3 : Option Addr) (c0_3 : Nat) (l0_3 : List Int) (A0_4 : Option Addr) (c0_4 : Nat) (l0_4 : List Int) (r1 : List (S50)) (r2 : List (S31)) (r3 : Int) (r4 : List Int) (r5 : List Int) (w : World) (hr0_0 : Kd.C k50 w A0_0 l0_0.length l0_0) (hc0_0 : l0_0.length ≤ c0_0) (hr0_1 : Kd.C k31 w A0_1 l0_1.length l0_1) (hc0_1 : l0_1.length ≤ c0_1) (hr0_3 : Kd.C (Kd.int .i64) w A0_3 l0_3.length l0_3) (hc0_3 : l0_3.length ≤ c0_3) (hr0_4 : Kd.C (Kd.int .i64) w A0_4 l0_4.length l0_4) (hc0_4 : l0_4.length ≤ c0_4) (h : Za1.f k l0_0 l0_1 a0_2 l0_3 l0_4 = some (r1, r2, r3, r4, r5)) :
  Calls Try.prog 24 #[.agg #[.slice A0_0 l0_0.length c0_0, .slice A0_1 l0_1.length c0_1, .int .i64 a0_2, .slice A0_3 l0_3.length c0_3, .slice A0_4 l0_4.length c0_4]] w fun e w' => ∃ v0_ v1_ v3_ v4_ : Value, e = .returned (.agg #[v0_, v1_, .int .i64 r3, v3_, v4_]) ∧ Kd.S k50 50 w' w.heap.size (fun _ => True) v0_ r1 ∧ Kd.R k31 31 w' w.heap.size (fun k_ => some k_ ≠ (v3_ : Value).ownBlock ∧ some k_ ≠ (v4_ : Value).ownBlock) v1_ r2 ∧ Kd.R (Kd.int .i64) 3 w' w.heap.size (fun k_ => some k_ ≠ (v4_ : Value).ownBlock) v3_ r4 ∧ Kd.R (Kd.int .i64) 3 w' w.heap.size (fun k_ => some k_ ≠ (v3_ : Value).ownBlock) v4_ r5 ∧ Below w.heap.size w w' := by
 have hu28 := Try.underlying28
 have hu26 := Try.underlying26
 have hu50 := Try.underlying50
 have hu31 := Try.underlying31
 have HR0_0 := Za.mk hr0_0
 have HC0_0 := Za.mk hc0_0
 clear hr0_0 hc0_0
 have HR0_1 := Za.mk hr0_1
 have HC0_1 := Za.mk hc0_1
 clear hr0_1 hc0_1
 have HR0_3 := Za.mk hr0_3
 have HC0_3 := Za.mk hc0_3
 clear hr0_3 hc0_3
 have HR0_4 := Za.mk hr0_4
 have HC0_4 := Za.mk hc0_4
 clear hr0_4 hc0_4
 have HB := Za.mk (Below.refl w.heap.size w)
 have H : ((cloneI.f l0_3).bind fun t221 => ((cloneI.f l0_4).bind fun t224 => (Za1.l0 k l0_0 (l0_0.length : Int) 0 l0_0 l0_1 a0_2 l0_3 l0_4 ([] : List (S50)) a0_2 t221 t224))) = some (r1, r2, r3, r4, r5) := h
 clear h
 replace H := Option.bind_eq_some_iff.mp H
 obtain ⟨t221, A20, H⟩ := H
 replace H : ((cloneI.f l0_4).bind fun t224 => (Za1.l0 k l0_0 (l0_0.length : Int) 0 l0_0 l0_1 a0_2 l0_3 l0_4 ([] : List (S50)) a0_2 t221 t224)) = some (r1, r2, r3, r4, r5) := H
 have A2 := Za.mk A20
 clear A20
 replace H := Option.bind_eq_some_iff.mp H
 obtain ⟨t224, A30, H⟩ := H
 replace H : (Za1.l0 k l0_0 (l0_0.length : Int) 0 l0_0 l0_1 a0_2 l0_3 l0_4 ([] : List (S50)) a0_2 t221 t224) = some (r1, r2, r3, r4, r5) := H
 have A3 := Za.mk A30
 clear A30
 have H' := Za.mk H
 clear H
 go_enter Try.func24, Try.ntmps24
 try go_wp2_with (first | ((with_reducible refine Zaz (N := 1) rfl ?_); refine Za5 ?hg (N := 1) ?hd (cs := #[.slice A0_0 l0_0.length c0_0, .slice A0_1 l0_1.length c0_1, .int .i64 a0_2, .slice A0_3 l0_3.length c0_3, .slice A0_4 l0_4.length c0_4]) (t := 28) ?hr ?_; (case hd => rfl); (case hg => rfl); (case hr => first | (go_simp; done) | (go_simp; rfl)); intro gb219 hg w4 hbox hb; have n0_ := Za.mk (Zad (by repeat (first | (with_reducible first | exact HB.out | apply Zab | apply Zaa | apply Zac) | exact HB.out)) hb); have n1_ := Za.mk (hbox); have n2_ := Za.mk ((by rw [hg]; exact (Zaj (by repeat (first | (with_reducible first | exact HB.out | apply Zab | apply Zaa | apply Zac) | exact HB.out))) : w.heap.size ≤ gb219)); have n3_ := Za.mk ((by rw [hg]; exact (Zaj (by repeat (first | (with_reducible first | exact HB.out | apply Zab | apply Zaa | apply Zac) | exact HB.out))) : w.heap.size ≤ gb219)); clear HB; have HB := n0_; have BK219 := n1_; have GW219 := n2_; have GE219 := n3_; clear n0_ n1_ n2_ n3_; clear hb hbox hg) | ((with_reducible refine Zaz (N := 2) rfl ?_); refine Za5 ?hg (N := 2) ?hd (cs := #[.slice none 0 0, .slice none 0 0, .int .i64 0, .slice none 0 0, .slice none 0 0]) (t := 28) ?hr ?_; (case hd => rfl); (case hg => rfl); (case hr => first | (go_simp; done) | (go_simp; rfl)); intro gb220 hg w5 hbox hb; have n0_ := Za.mk (Zau (g := gb219) (o := .cells #[.slice A0_0 l0_0.length c0_0, .slice A0_1 l0_1.length c0_1, .int .i64 a0_2, .slice A0_3 l0_3.length c0_3, .slice A0_4 l0_4.length c0_4] 28 (0, 0)) (by (with_reducible repeat (first | refine blk_drewN ?_ _ | refine Zag ?_ | refine Zaf ?_ _)); exact BK219.out) hb); have n1_ := Za.mk (Zad (by repeat (first | (with_reducible first | exact HB.out | apply Zab | apply Zaa | apply Zac | refine Zae ?_ GE219.out) | exact HB.out)) hb); have n2_ := Za.mk (hbox); have n3_ := Za.mk ((by rw [hg]; exact (Zaj (by repeat (first | (with_reducible first | exact HB.out | apply Zab | apply Zaa | apply Zac | refine Zae ?_ GE219.out) | exact HB.out))) : w.heap.size ≤ gb220)); have n4_ := Za.mk ((by rw [hg]; exact (Zaj (by repeat (first | (with_reducible first | exact HB.out | apply Zab | apply Zaa | apply Zac | refine Zae ?_ GE219.out) | exact HB.out))) : w.heap.size ≤ gb220)); have n5_ := Za.mk ((by rw [hg]; exact Nat.ne_of_lt (Zbv (g := gb219) (o := .cells #[.slice A0_0 l0_0.length c0_0, .slice A0_1 l0_1.length c0_1, .int .i64 a0_2, .slice A0_3 l0_3.length c0_3, .slice A0_4 l0_4.length c0_4] 28 (0, 0)) (by (with_reducible repeat (first | refine blk_drewN ?_ _ | refine Zag ?_ | refine Zaf ?_ _)); exact BK219.out)) : gb219 ≠ gb220)); have n6_ := Za.mk ((by rw [hg]; exact Nat.ne_of_gt (Zbv (g := gb219) (o := .cells #[.slice A0_0 l0_0.length c0_0, .slice A0_1 l0_1.length c0_1, .int .i64 a0_2, .slice A0_3 l0_3.length c0_3, .slice A0_4 l0_4.length c0_4] 28 (0, 0)) (by (with_reducible repeat (first | refine blk_drewN ?_ _ | refine Zag ?_ | refine Zaf ?_ _)); exact BK219.out)) : gb220 ≠ gb219)); clear BK219; clear HB; have BK219 := n0_; have HB := n1_; have BK220 := n2_; have GW220 := n3_; have GE220 := n4_; have NB219_220 := n5_; have NB220_219 := n6_; clear n0_ n1_ n2_ n3_ n4_ n5_ n6_; clear hb hbox hg))
 have n0_ := Za.mk (Zag BK219.out)
 have n1_ := Za.mk (Zag BK220.out)
 have n2_ := Za.mk (Zac HB.out)
 clear BK219
 clear BK220
 clear HB
 have BK219 := n0_
 have BK220 := n1_
 have HB := n2_
 clear n0_ n1_ n2_
 refine Zd0 (n := 15) (S := fun w' => w'.cell? ⟨gb219, 0, none⟩ = some (.slice A0_0 l0_0.length c0_0) ∧ w'.cell? ⟨gb219, 1, none⟩ = some (.slice A0_1 l0_1.length c0_1) ∧ w'.cell? ⟨gb219, 2, none⟩ = some (.int .i64 a0_2) ∧ w'.cell? ⟨gb219, 3, none⟩ = some (.slice A0_3 l0_3.length c0_3) ∧ w'.cell? ⟨gb219, 4, none⟩ = some (.slice A0_4 l0_4.length c0_4)) (ds := []) #[false, false, false, false, false, false, false, false, false, false, false, false, false, false, false] (by kernel_rfl) rfl rfl ⟨(Zah BK219.out 0).trans rfl, (Zah BK219.out 1).trans rfl, (Zah BK219.out 2).trans rfl, (Zah BK219.out 3).trans rfl, (Zah BK219.out 4).trans rfl⟩ (fun hHeld => ?_); refine Zcu Za1.tab1 Za1.bits1 (fun HT_ HW_ => ?_)
 generalize w5.drew = w6 at BK219 BK220 HB hHeld ⊢
 refine Za0 (i := 0) (N := some 11) (v := ?_) (a' := ?_) #[true, false, false, false, false, false, false, false, false, false, false, false, false, false, false] rfl rfl (Zal HT_.out (by kernel_rfl)) (fun _ _ _ h => h) (Or.inl ⟨by rfl, ?_⟩) ?_ ?_
 rotate_left
 ·intro w'
  go_simp
  with_reducible rfl
 rotate_left
 ·simp only [Act.put, List.setIfInBounds_toArray, List.set_cons_zero, List.set_cons_succ, Zas, Zat]
  rfl
 refine Za0 (i := 1) (N := some 12) (v := ?_) (a' := ?_) #[true, true, false, false, false, false, false, false, false, false, false, false, false, false, false] rfl rfl (Zal HT_.out (by kernel_rfl)) (fun _ _ _ h => h) (Or.inl ⟨by rfl, ?_⟩) ?_ ?_
 rotate_left
 ·intro w'
  go_simp
  with_reducible rfl
 rotate_left
 ·simp only [Act.put, List.setIfInBounds_toArray, List.set_cons_zero, List.set_cons_succ, Zas, Zat]
  rfl
 refine Za0 (i := 3) (N := some 14) (v := ?_) (a' := ?_) #[true, true, false, true, false, false, false, false, false, false, false, false, false, false, false] rfl rfl (Zal HT_.out (by kernel_rfl)) (fun _ _ _ h => h) (Or.inl ⟨by rfl, ?_⟩) ?_ ?_
 rotate_left
 ·intro w'
  go_simp
  with_reducible rfl
 rotate_left
 ·simp only [Act.put, List.setIfInBounds_toArray, List.set_cons_zero, List.set_cons_succ, Zas, Zat]
  rfl
 refine Za0 (i := 4) (N := some 15) (v := ?_) (a' := ?_) #[true, true, false, true, true, false, false, false, false, false, false, false, false, false, false] rfl rfl (Zal HT_.out (by kernel_rfl)) (fun _ _ _ h => h) (Or.inl ⟨by rfl, ?_⟩) ?_ ?_
 rotate_left
 ·intro w'
  go_simp
  with_reducible rfl
 rotate_left
 ·simp only [Act.put, List.setIfInBounds_toArray, List.set_cons_zero, List.set_cons_succ, Zas, Zat]
  rfl
 refine Za0 (i := 7) (N := some 18) (v := ?_) (a' := ?_) #[true, true, false, true, true, false, false, true, false, false, false, false, false, false, false] rfl rfl (Zal HT_.out (by kernel_rfl)) (fun _ _ _ h => h) (Or.inl ⟨by rfl, ?_⟩) ?_ ?_
 rotate_left
 ·intro w'
  go_simp
  with_reducible rfl
 rotate_left
 ·simp only [Act.put, List.setIfInBounds_toArray, List.set_cons_zero, List.set_cons_succ, Zas, Zat]
  rfl
 refine Za0 (i := 8) (N := some 19) (v := ?_) (a' := ?_) #[true, true, false, true, true, false, false, true, true, false, false, false, false, false, false] rfl rfl (Zal HT_.out (by kernel_rfl)) (fun _ _ _ h => h) (Or.inl ⟨by rfl, ?_⟩) ?_ ?_
 rotate_left
 ·intro w'
  go_simp
  with_reducible rfl
 rotate_left
 ·simp only [Act.put, List.setIfInBounds_toArray, List.set_cons_zero, List.set_cons_succ, Zas, Zat]
  rfl
 refine Zcl (i := 2) (N := some 13) (v := ?_) (a' := ?_) #[true, true, true, true, true, false, false, true, true, false, false, false, false, false, false] rfl rfl (Zbj HT_.out HW_.out (by kernel_rfl)) (fun _ _ _ h => h) (Or.inl ⟨by rfl, ?_⟩) hHeld ?_ ?_
 rotate_left
 ·rintro w' ⟨s0, s1, s2, s3, s4⟩
  go_simp
  with_reducible rfl
 rotate_left
 ·simp only [Act.put, List.setIfInBounds_toArray, List.set_cons_zero, List.set_cons_succ, Zas, Zat]
  rfl
 refine Zcl (i := 5) (N := some 16) (v := ?_) (a' := ?_) #[true, true, true, true, true, true, false, true, true, false, false, false, false, false, false] rfl rfl (Zbj HT_.out HW_.out (by kernel_rfl)) (fun _ _ _ h => h) (Or.inl ⟨by rfl, ?_⟩) hHeld ?_ ?_
 rotate_left
 ·rintro w' ⟨s0, s1, s2, s3, s4⟩
  go_simp
  with_reducible rfl
 rotate_left
 ·simp only [Act.put, List.setIfInBounds_toArray, List.set_cons_zero, List.set_cons_succ, Zas, Zat]
  rfl
 refine Zcl (i := 9) (N := some 20) (v := ?_) (a' := ?_) #[true, true, true, true, true, true, false, true, true, true, false, false, false, false, false] rfl rfl (Zbj HT_.out HW_.out (by kernel_rfl)) (fun _ _ _ h => h) (Or.inl ⟨by rfl, ?_⟩) hHeld ?_ ?_
 rotate_left
 ·rintro w' ⟨s0, s1, s2, s3, s4⟩
  go_simp
  with_reducible rfl
 rotate_left
 ·simp only [Act.put, List.setIfInBounds_toArray, List.set_cons_zero, List.set_cons_succ, Zas, Zat]
  rfl
 refine join_ (σ := Value × Value × Nat) 1 #[true, true, true, true, true, true, true, true, true, true, true, true, true, true, false] (fun s_ => [(17, s_.1), (21, s_.2.1), (3, .pointer (some ⟨s_.2.2, 0, none⟩)), (22, .agg #[.int .i64 a0_2, s_.1, s_.2.1]), (23, .agg #[.slice none 0 0, .slice none 0 0, .int .i64 a0_2, s_.1, s_.2.1])]) (fun s_ w' => (w'.cell? ⟨gb219, 0, none⟩ = some (.slice A0_0 l0_0.length c0_0) ∧ w'.cell? ⟨gb219, 1, none⟩ = some (.slice A0_1 l0_1.length c0_1) ∧ w'.cell? ⟨gb219, 2, none⟩ = some (.int .i64 a0_2) ∧ w'.cell? ⟨gb219, 3, none⟩ = some (.slice A0_3 l0_3.length c0_3) ∧ w'.cell? ⟨gb219, 4, none⟩ = some (.slice A0_4 l0_4.length c0_4)) ∧ (Kd.R (Kd.int .i64) 3 w' w.heap.size (fun k_ => some k_ ≠ (s_.2.1 : Value).ownBlock) s_.1 t221) ∧ (Kd.R (Kd.int .i64) 3 w' w.heap.size (fun k_ => some k_ ≠ (s_.1 : Value).ownBlock) s_.2.1 t224) ∧ (w'.heap[gb219]? = some (.cells #[.slice A0_0 l0_0.length c0_0, .slice A0_1 l0_1.length c0_1, .int .i64 a0_2, .slice A0_3 l0_3.length c0_3, .slice A0_4 l0_4.length c0_4] 28 (0, 0))) ∧ (w'.heap[gb220]? = some (.cells #[.slice none 0 0, .slice none 0 0, .int .i64 0, .slice none 0 0, .slice none 0 0] 28 (0, 0))) ∧ (w'.heap[s_.2.2]? = some (.cells #[.slice none 0 0, .slice none 0 0, .int .i64 0, .slice none 0 0, .slice none 0 0] 28 (0, 0))) ∧ (w.heap.size ≤ s_.2.2) ∧ (w.heap.size ≤ s_.2.2) ∧ (gb219 ≠ s_.2.2) ∧ (s_.2.2 ≠ gb219) ∧ (gb220 ≠ s_.2.2) ∧ (s_.2.2 ≠ gb220) ∧ (Below w.heap.size w w')) ?_ ?_
 rotate_left
 ·intro hCont
  refine two_ (i := 6) (j := 13) (Ni := some 17) (Nj := some 3) #[true, true, true, true, true, true, true, true, true, true, false, false, false, false, false] #[true, true, true, true, true, true, false, true, true, true, false, false, false, true, false] rfl rfl rfl rfl (two_of HT_.out (by kernel_rfl)) (by decide) (by decide) (fun K hK => ?_) (fun K hK => ?_)
  ·skip
   refine Zc2 Try.func44 (by kernel_rfl) rfl #[.slice A0_3 l0_3.length c0_3] (by rfl) rfl rfl (by (try simp only [List.map_toArray, List.map_cons, List.map_nil]); first | done | rfl | (simp only [List.length_drop, List.length_take]; rfl)) ?_
   with_reducible refine (cloneI.calls _ _ l0_3 t221 _ ?side1 ?side2 A2.out).mono ?_
   (case side1 => repeat (first | exact (Kd.Zak HR0_3.out HB.out) | (with_reducible refine Kd.C_alloc ?_ _) | (with_reducible refine Kd.C_drewN ?_ _) | (with_reducible refine Kd.C_drew ?_)))
   (case side2 => exact HC0_3.out)
   rintro e w7 ⟨v222, rfl, ho0, hb⟩
   refine ⟨_, rfl, ?_⟩
   have n0_ := Za.mk (Kd.Zbq ho0 (Zaj (by repeat (first | (with_reducible first | exact HB.out | apply Zab | apply Zaa | apply Zac | refine Zae ?_ GE219.out | refine Zae ?_ GE220.out) | exact HB.out))))
   have n1_ := Za.mk (Zau (g := gb219) (o := .cells #[.slice A0_0 l0_0.length c0_0, .slice A0_1 l0_1.length c0_1, .int .i64 a0_2, .slice A0_3 l0_3.length c0_3, .slice A0_4 l0_4.length c0_4] 28 (0, 0)) (by (with_reducible repeat (first | refine blk_drewN ?_ _ | refine Zag ?_ | refine Zaf ?_ _)); exact BK219.out) hb)
   have n2_ := Za.mk (Zau (g := gb220) (o := .cells #[.slice none 0 0, .slice none 0 0, .int .i64 0, .slice none 0 0, .slice none 0 0] 28 (0, 0)) (by (with_reducible repeat (first | refine blk_drewN ?_ _ | refine Zag ?_ | refine Zaf ?_ _)); exact BK220.out) hb)
   have n3_ := Za.mk (Zad (by repeat (first | (with_reducible first | exact HB.out | apply Zab | apply Zaa | apply Zac | refine Zae ?_ GE219.out | refine Zae ?_ GE220.out) | exact HB.out)) hb)
   clear BK219
   clear BK220
   clear HB
   have HO223 := n0_
   have BK219 := n1_
   have BK220 := n2_
   have HB := n3_
   clear n0_ n1_ n2_ n3_
   (try clear hb)
   (try clear hb2)
   (try clear hk)
   (try clear hi)
   (try clear ho0)
   refine hK.out _ _ ⟨(Zah BK219.out 0).trans rfl, (Zah BK219.out 1).trans rfl, (Zah BK219.out 2).trans rfl, (Zah BK219.out 3).trans rfl, (Zah BK219.out 4).trans rfl⟩ (fun hHeld => ?_)
   clear hK K
   refine Zcg (a' := ?_) ?_ ?_
   rotate_left
   ·show Act.put _ (some 17) _ = _
    simp only [Act.put, List.setIfInBounds_toArray, List.set_cons_zero, List.set_cons_succ, Zas, Zat]
    rfl
   refine two_ (i := 10) (j := 13) (Ni := some 21) (Nj := some 3) #[true, true, true, true, true, true, true, true, true, true, true, false, false, false, false] #[true, true, true, true, true, true, true, true, true, true, false, false, false, true, false] rfl rfl rfl rfl (two_of HT_.out (by kernel_rfl)) (by decide) (by decide) (fun K hK => ?_) (fun K hK => ?_)
   ·skip
    refine Zc2 Try.func44 (by kernel_rfl) rfl #[.slice A0_4 l0_4.length c0_4] (by rfl) rfl rfl (by (try simp only [List.map_toArray, List.map_cons, List.map_nil]); first | done | rfl | (simp only [List.length_drop, List.length_take]; rfl)) ?_
    with_reducible refine (cloneI.calls _ _ l0_4 t224 _ ?side1 ?side2 A3.out).mono ?_
    (case side1 => repeat (first | exact (Kd.Zak HR0_4.out HB.out) | (with_reducible refine Kd.C_alloc ?_ _) | (with_reducible refine Kd.C_drewN ?_ _) | (with_reducible refine Kd.C_drew ?_)))
    (case side2 => exact HC0_4.out)
    rintro e w8 ⟨v225, rfl, ho0, hb⟩
    refine ⟨_, rfl, ?_⟩
    have n0_ := Za.mk (Kd.Zb4 (by (with_reducible repeat (first | apply Kd.Zaq | apply Kd.Zar | apply Kd.Zay)); exact HO223.out) (Kd.Zch ho0) hb)
    have n1_ := Za.mk (Kd.Zbq (Kd.Zda ho0 (Kd.R_lt (by (with_reducible repeat (first | apply Kd.Zaq | apply Kd.Zar | apply Kd.Zay)); exact HO223.out))) (Zaj (by repeat (first | (with_reducible first | exact HB.out | apply Zab | apply Zaa | apply Zac | refine Zae ?_ GE219.out | refine Zae ?_ GE220.out) | exact HB.out))))
    have n2_ := Za.mk (Zau (g := gb219) (o := .cells #[.slice A0_0 l0_0.length c0_0, .slice A0_1 l0_1.length c0_1, .int .i64 a0_2, .slice A0_3 l0_3.length c0_3, .slice A0_4 l0_4.length c0_4] 28 (0, 0)) (by (with_reducible repeat (first | refine blk_drewN ?_ _ | refine Zag ?_ | refine Zaf ?_ _)); exact BK219.out) hb)
    have n3_ := Za.mk (Zau (g := gb220) (o := .cells #[.slice none 0 0, .slice none 0 0, .int .i64 0, .slice none 0 0, .slice none 0 0] 28 (0, 0)) (by (with_reducible repeat (first | refine blk_drewN ?_ _ | refine Zag ?_ | refine Zaf ?_ _)); exact BK220.out) hb)
    have n4_ := Za.mk (Zad (by repeat (first | (with_reducible first | exact HB.out | apply Zab | apply Zaa | apply Zac | refine Zae ?_ GE219.out | refine Zae ?_ GE220.out) | exact HB.out)) hb)
    clear HO223
    clear BK219
    clear BK220
    clear HB
    have HO223 := n0_
    have HO226 := n1_
    have BK219 := n2_
    have BK220 := n3_
    have HB := n4_
    clear n0_ n1_ n2_ n3_ n4_
    (try clear hb)
    (try clear hb2)
    (try clear hk)
    (try clear hi)
    (try clear ho0)
    obtain ⟨Ao9, co9, eo9⟩ := Kd.Za9 HO226.out
    (first | subst eo9 | (injection eo9 with f1_ f2_ f3_; have f4_ := f1_.symm; have f5_ := f3_.symm; clear f1_ f2_ f3_; subst f4_; subst f5_))
    obtain ⟨Ao10, co10, eo10⟩ := Kd.Za9 HO223.out
    (first | subst eo10 | (injection eo10 with f1_ f2_ f3_; have f4_ := f1_.symm; have f5_ := f3_.symm; clear f1_ f2_ f3_; subst f4_; subst f5_))
    refine hK.out _ _ ⟨(Zah BK219.out 0).trans rfl, (Zah BK219.out 1).trans rfl, (Zah BK219.out 2).trans rfl, (Zah BK219.out 3).trans rfl, (Zah BK219.out 4).trans rfl⟩ (fun hHeld => ?_)
    clear hK K
    refine Zcg (a' := ?_) ?_ ?_
    rotate_left
    ·show Act.put _ (some 21) _ = _
     simp only [Act.put, List.setIfInBounds_toArray, List.set_cons_zero, List.set_cons_succ, Zas, Zat]
     rfl
    refine Za0 (i := 11) (N := some 22) (v := ?_) (a' := ?_) #[true, true, true, true, true, true, true, true, true, true, true, true, false, false, false] rfl rfl (Zal HT_.out (by kernel_rfl)) (fun _ _ _ h => h) (Or.inl ⟨by rfl, ?_⟩) ?_ ?_
    rotate_left
    ·intro w'
     go_simp
     with_reducible rfl
    rotate_left
    ·simp only [Act.put, List.setIfInBounds_toArray, List.set_cons_zero, List.set_cons_succ, Zas, Zat]
     rfl
    refine Za0 (i := 12) (N := some 23) (v := ?_) (a' := ?_) #[true, true, true, true, true, true, true, true, true, true, true, true, true, false, false] rfl rfl (Zal HT_.out (by kernel_rfl)) (fun _ _ _ h => h) (Or.inl ⟨by rfl, ?_⟩) ?_ ?_
    rotate_left
    ·intro w'
     go_simp
     with_reducible rfl
    rotate_left
    ·simp only [Act.put, List.setIfInBounds_toArray, List.set_cons_zero, List.set_cons_succ, Zas, Zat]
     rfl
    refine one_ (i := 13) (N := some 3) #[true, true, true, true, true, true, true, true, true, true, true, true, true, true, false] rfl rfl (Zb6 HT_.out (by kernel_rfl)) (by decide) (fun K hK => ?_)
    refine box_step ?hg (N := 3) ?hd (cs := #[.slice none 0 0, .slice none 0 0, .int .i64 0, .slice none 0 0, .slice none 0 0]) (t := 28) ?hr ?_; (case hd => rfl); (case hg => rfl); (case hr => first | (go_simp; done) | (go_simp; rfl))
    intro gb227 hg w11 hbox hb
    have n0_ := Za.mk (Kd.Zbi (by (with_reducible repeat (first | apply Kd.Zaq | apply Kd.Zar | apply Kd.Zay)); exact HO223.out) hb)
    have n1_ := Za.mk (Kd.Zbi (by (with_reducible repeat (first | apply Kd.Zaq | apply Kd.Zar | apply Kd.Zay)); exact HO226.out) hb)
    have n2_ := Za.mk (Zau (g := gb219) (o := .cells #[.slice A0_0 l0_0.length c0_0, .slice A0_1 l0_1.length c0_1, .int .i64 a0_2, .slice A0_3 l0_3.length c0_3, .slice A0_4 l0_4.length c0_4] 28 (0, 0)) (by (with_reducible repeat (first | refine blk_drewN ?_ _ | refine Zag ?_ | refine Zaf ?_ _)); exact BK219.out) hb)
    have n3_ := Za.mk (Zau (g := gb220) (o := .cells #[.slice none 0 0, .slice none 0 0, .int .i64 0, .slice none 0 0, .slice none 0 0] 28 (0, 0)) (by (with_reducible repeat (first | refine blk_drewN ?_ _ | refine Zag ?_ | refine Zaf ?_ _)); exact BK220.out) hb)
    have n4_ := Za.mk (Zad (by repeat (first | (with_reducible first | exact HB.out | apply Zab | apply Zaa | apply Zac | refine Zae ?_ GE219.out | refine Zae ?_ GE220.out) | exact HB.out)) hb)
    have n5_ := Za.mk (hbox)
    have n6_ := Za.mk ((by rw [hg]; exact (Zaj (by repeat (first | (with_reducible first | exact HB.out | apply Zab | apply Zaa | apply Zac | refine Zae ?_ GE219.out | refine Zae ?_ GE220.out) | exact HB.out))) : w.heap.size ≤ gb227))
    have n7_ := Za.mk ((by rw [hg]; exact (Zaj (by repeat (first | (with_reducible first | exact HB.out | apply Zab | apply Zaa | apply Zac | refine Zae ?_ GE219.out | refine Zae ?_ GE220.out) | exact HB.out))) : w.heap.size ≤ gb227))
    have n8_ := Za.mk ((by rw [hg]; exact Nat.ne_of_lt (Zbv (g := gb219) (o := .cells #[.slice A0_0 l0_0.length c0_0, .slice A0_1 l0_1.length c0_1, .int .i64 a0_2, .slice A0_3 l0_3.length c0_3, .slice A0_4 l0_4.length c0_4] 28 (0, 0)) (by (with_reducible repeat (first | refine blk_drewN ?_ _ | refine Zag ?_ | refine Zaf ?_ _)); exact BK219.out)) : gb219 ≠ gb227))
    have n9_ := Za.mk ((by rw [hg]; exact Nat.ne_of_gt (Zbv (g := gb219) (o := .cells #[.slice A0_0 l0_0.length c0_0, .slice A0_1 l0_1.length c0_1, .int .i64 a0_2, .slice A0_3 l0_3.length c0_3, .slice A0_4 l0_4.length c0_4] 28 (0, 0)) (by (with_reducible repeat (first | refine blk_drewN ?_ _ | refine Zag ?_ | refine Zaf ?_ _)); exact BK219.out)) : gb227 ≠ gb219))
    have n10_ := Za.mk ((by rw [hg]; exact Nat.ne_of_lt (Zbv (g := gb220) (o := .cells #[.slice none 0 0, .slice none 0 0, .int .i64 0, .slice none 0 0, .slice none 0 0] 28 (0, 0)) (by (with_reducible repeat (first | refine blk_drewN ?_ _ | refine Zag ?_ | refine Zaf ?_ _)); exact BK220.out)) : gb220 ≠ gb227))
    have n11_ := Za.mk ((by rw [hg]; exact Nat.ne_of_gt (Zbv (g := gb220) (o := .cells #[.slice none 0 0, .slice none 0 0, .int .i64 0, .slice none 0 0, .slice none 0 0] 28 (0, 0)) (by (with_reducible repeat (first | refine blk_drewN ?_ _ | refine Zag ?_ | refine Zaf ?_ _)); exact BK220.out)) : gb227 ≠ gb220))
    clear HO223
    clear HO226
    clear BK219
    clear BK220
    clear HB
    have HO223 := n0_
    have HO226 := n1_
    have BK219 := n2_
    have BK220 := n3_
    have HB := n4_
    have BK227 := n5_
    have GW227 := n6_
    have GE227 := n7_
    have NB219_227 := n8_
    have NB227_219 := n9_
    have NB220_227 := n10_
    have NB227_220 := n11_
    clear n0_ n1_ n2_ n3_ n4_ n5_ n6_ n7_ n8_ n9_ n10_ n11_
    clear hb hbox hg
    refine hK.out _ _ ⟨(Zah BK219.out 0).trans rfl, (Zah BK219.out 1).trans rfl, (Zah BK219.out 2).trans rfl, (Zah BK219.out 3).trans rfl, (Zah BK219.out 4).trans rfl⟩ (fun hHeld => ?_)
    clear hK K
    refine Zcg (a' := ?_) ?_ ?_
    rotate_left
    ·show Act.put _ (some 3) _ = _
     simp only [Act.put, List.setIfInBounds_toArray, List.set_cons_zero, List.set_cons_succ, Zas, Zat]
     rfl
    exact Zcg (by simp only [putAll, Act.put, List.setIfInBounds_toArray, List.set_cons_zero, List.set_cons_succ]) (hCont (.slice Ao10 t221.length co10, .slice Ao9 t224.length co9, gb227) _ ⟨hHeld, (by (with_reducible repeat (first | apply Kd.Zaq | apply Kd.Zar | apply Kd.Zay)); exact Kd.Za7 HO223.out (fun _ hk => hk.2)), (by (with_reducible repeat (first | apply Kd.Zaq | apply Kd.Zar | apply Kd.Zay)); exact Kd.Za7 HO226.out (fun _ hk => hk.2)), (by (with_reducible repeat (first | refine blk_drewN ?_ _ | refine Zag ?_ | refine Zaf ?_ _)); exact BK219.out), (by (with_reducible repeat (first | refine blk_drewN ?_ _ | refine Zag ?_ | refine Zaf ?_ _)); exact BK220.out), (by (with_reducible repeat (first | refine blk_drewN ?_ _ | refine Zag ?_ | refine Zaf ?_ _)); exact BK227.out), GW227.out, GE227.out, NB219_227.out, NB227_219.out, NB220_227.out, NB227_220.out, (by repeat (first | (with_reducible first | exact HB.out | apply Zab | apply Zaa | apply Zac | refine Zae ?_ GE219.out | refine Zae ?_ GE220.out | refine Zae ?_ GE227.out) | exact HB.out))⟩)
   skip
   refine box_step ?hg (N := 3) ?hd (cs := #[.slice none 0 0, .slice none 0 0, .int .i64 0, .slice none 0 0, .slice none 0 0]) (t := 28) ?hr ?_; (case hd => rfl); (case hg => rfl); (case hr => first | (go_simp; done) | (go_simp; rfl))
   intro gb227 hg w8 hbox hb
   have n0_ := Za.mk (Kd.Zbi (by (with_reducible repeat (first | apply Kd.Zaq | apply Kd.Zar | apply Kd.Zay)); exact HO223.out) hb)
   have n1_ := Za.mk (Zau (g := gb219) (o := .cells #[.slice A0_0 l0_0.length c0_0, .slice A0_1 l0_1.length c0_1, .int .i64 a0_2, .slice A0_3 l0_3.length c0_3, .slice A0_4 l0_4.length c0_4] 28 (0, 0)) (by (with_reducible repeat (first | refine blk_drewN ?_ _ | refine Zag ?_ | refine Zaf ?_ _)); exact BK219.out) hb)
   have n2_ := Za.mk (Zau (g := gb220) (o := .cells #[.slice none 0 0, .slice none 0 0, .int .i64 0, .slice none 0 0, .slice none 0 0] 28 (0, 0)) (by (with_reducible repeat (first | refine blk_drewN ?_ _ | refine Zag ?_ | refine Zaf ?_ _)); exact BK220.out) hb)
   have n3_ := Za.mk (Zad (by repeat (first | (with_reducible first | exact HB.out | apply Zab | apply Zaa | apply Zac | refine Zae ?_ GE219.out | refine Zae ?_ GE220.out) | exact HB.out)) hb)
   have n4_ := Za.mk (hbox)
   have n5_ := Za.mk ((by rw [hg]; exact (Zaj (by repeat (first | (with_reducible first | exact HB.out | apply Zab | apply Zaa | apply Zac | refine Zae ?_ GE219.out | refine Zae ?_ GE220.out) | exact HB.out))) : w.heap.size ≤ gb227))
   have n6_ := Za.mk ((by rw [hg]; exact (Zaj (by repeat (first | (with_reducible first | exact HB.out | apply Zab | apply Zaa | apply Zac | refine Zae ?_ GE219.out | refine Zae ?_ GE220.out) | exact HB.out))) : w.heap.size ≤ gb227))
   have n7_ := Za.mk ((by rw [hg]; exact Nat.ne_of_lt (Zbv (g := gb219) (o := .cells #[.slice A0_0 l0_0.length c0_0, .slice A0_1 l0_1.length c0_1, .int .i64 a0_2, .slice A0_3 l0_3.length c0_3, .slice A0_4 l0_4.length c0_4] 28 (0, 0)) (by (with_reducible repeat (first | refine blk_drewN ?_ _ | refine Zag ?_ | refine Zaf ?_ _)); exact BK219.out)) : gb219 ≠ gb227))
   have n8_ := Za.mk ((by rw [hg]; exact Nat.ne_of_gt (Zbv (g := gb219) (o := .cells #[.slice A0_0 l0_0.length c0_0, .slice A0_1 l0_1.length c0_1, .int .i64 a0_2, .slice A0_3 l0_3.length c0_3, .slice A0_4 l0_4.length c0_4] 28 (0, 0)) (by (with_reducible repeat (first | refine blk_drewN ?_ _ | refine Zag ?_ | refine Zaf ?_ _)); exact BK219.out)) : gb227 ≠ gb219))
   have n9_ := Za.mk ((by rw [hg]; exact Nat.ne_of_lt (Zbv (g := gb220) (o := .cells #[.slice none 0 0, .slice none 0 0, .int .i64 0, .slice none 0 0, .slice none 0 0] 28 (0, 0)) (by (with_reducible repeat (first | refine blk_drewN ?_ _ | refine Zag ?_ | refine Zaf ?_ _)); exact BK220.out)) : gb220 ≠ gb227))
   have n10_ := Za.mk ((by rw [hg]; exact Nat.ne_of_gt (Zbv (g := gb220) (o := .cells #[.slice none 0 0, .slice none 0 0, .int .i64 0, .slice none 0 0, .slice none 0 0] 28 (0, 0)) (by (with_reducible repeat (first | refine blk_drewN ?_ _ | refine Zag ?_ | refine Zaf ?_ _)); exact BK220.out)) : gb227 ≠ gb220))
   clear HO223
   clear BK219
   clear BK220
   clear HB
   have HO223 := n0_
   have BK219 := n1_
   have BK220 := n2_
   have HB := n3_
   have BK227 := n4_
   have GW227 := n5_
   have GE227 := n6_
   have NB219_227 := n7_
   have NB227_219 := n8_
   have NB220_227 := n9_
   have NB227_220 := n10_
   clear n0_ n1_ n2_ n3_ n4_ n5_ n6_ n7_ n8_ n9_ n10_
   clear hb hbox hg
   refine hK.out _ _ ⟨(Zah BK219.out 0).trans rfl, (Zah BK219.out 1).trans rfl, (Zah BK219.out 2).trans rfl, (Zah BK219.out 3).trans rfl, (Zah BK219.out 4).trans rfl⟩ (fun hHeld => ?_)
   clear hK K
   refine Zcg (a' := ?_) ?_ ?_
   rotate_left
   ·show Act.put _ (some 3) _ = _
    simp only [Act.put, List.setIfInBounds_toArray, List.set_cons_zero, List.set_cons_succ, Zas, Zat]
    rfl
   refine one_ (i := 10) (N := some 21) #[true, true, true, true, true, true, true, true, true, true, true, false, false, true, false] rfl rfl (Zb6 HT_.out (by kernel_rfl)) (by decide) (fun K hK => ?_)
   refine Zc2 Try.func44 (by kernel_rfl) rfl #[.slice A0_4 l0_4.length c0_4] (by rfl) rfl rfl (by (try simp only [List.map_toArray, List.map_cons, List.map_nil]); first | done | rfl | (simp only [List.length_drop, List.length_take]; rfl)) ?_
   with_reducible refine (cloneI.calls _ _ l0_4 t224 _ ?side1 ?side2 A3.out).mono ?_
   (case side1 => repeat (first | exact (Kd.Zak HR0_4.out HB.out) | (with_reducible refine Kd.C_alloc ?_ _) | (with_reducible refine Kd.C_drewN ?_ _) | (with_reducible refine Kd.C_drew ?_)))
   (case side2 => exact HC0_4.out)
   rintro e w9 ⟨v225, rfl, ho0, hb⟩
   refine ⟨_, rfl, ?_⟩
   have n0_ := Za.mk (Kd.Zb4 (by (with_reducible repeat (first | apply Kd.Zaq | apply Kd.Zar | apply Kd.Zay)); exact HO223.out) (Kd.Zch ho0) hb)
   have n1_ := Za.mk (Kd.Zbq (Kd.Zda ho0 (Kd.R_lt (by (with_reducible repeat (first | apply Kd.Zaq | apply Kd.Zar | apply Kd.Zay)); exact HO223.out))) (Zaj (by repeat (first | (with_reducible first | exact HB.out | apply Zab | apply Zaa | apply Zac | refine Zae ?_ GE219.out | refine Zae ?_ GE220.out | refine Zae ?_ GE227.out) | exact HB.out))))
   have n2_ := Za.mk (Zau (g := gb219) (o := .cells #[.slice A0_0 l0_0.length c0_0, .slice A0_1 l0_1.length c0_1, .int .i64 a0_2, .slice A0_3 l0_3.length c0_3, .slice A0_4 l0_4.length c0_4] 28 (0, 0)) (by (with_reducible repeat (first | refine blk_drewN ?_ _ | refine Zag ?_ | refine Zaf ?_ _)); exact BK219.out) hb)
   have n3_ := Za.mk (Zau (g := gb220) (o := .cells #[.slice none 0 0, .slice none 0 0, .int .i64 0, .slice none 0 0, .slice none 0 0] 28 (0, 0)) (by (with_reducible repeat (first | refine blk_drewN ?_ _ | refine Zag ?_ | refine Zaf ?_ _)); exact BK220.out) hb)
   have n4_ := Za.mk (Zau (g := gb227) (o := .cells #[.slice none 0 0, .slice none 0 0, .int .i64 0, .slice none 0 0, .slice none 0 0] 28 (0, 0)) (by (with_reducible repeat (first | refine blk_drewN ?_ _ | refine Zag ?_ | refine Zaf ?_ _)); exact BK227.out) hb)
   have n5_ := Za.mk (Zad (by repeat (first | (with_reducible first | exact HB.out | apply Zab | apply Zaa | apply Zac | refine Zae ?_ GE219.out | refine Zae ?_ GE220.out | refine Zae ?_ GE227.out) | exact HB.out)) hb)
   clear HO223
   clear BK219
   clear BK220
   clear BK227
   clear HB
   have HO223 := n0_
   have HO226 := n1_
   have BK219 := n2_
   have BK220 := n3_
   have BK227 := n4_
   have HB := n5_
   clear n0_ n1_ n2_ n3_ n4_ n5_
   (try clear hb)
   (try clear hb2)
   (try clear hk)
   (try clear hi)
   (try clear ho0)
   obtain ⟨Ao10, co10, eo10⟩ := Kd.Za9 HO226.out
   (first | subst eo10 | (injection eo10 with f1_ f2_ f3_; have f4_ := f1_.symm; have f5_ := f3_.symm; clear f1_ f2_ f3_; subst f4_; subst f5_))
   obtain ⟨Ao11, co11, eo11⟩ := Kd.Za9 HO223.out
   (first | subst eo11 | (injection eo11 with f1_ f2_ f3_; have f4_ := f1_.symm; have f5_ := f3_.symm; clear f1_ f2_ f3_; subst f4_; subst f5_))
   refine hK.out _ _ ⟨(Zah BK219.out 0).trans rfl, (Zah BK219.out 1).trans rfl, (Zah BK219.out 2).trans rfl, (Zah BK219.out 3).trans rfl, (Zah BK219.out 4).trans rfl⟩ (fun hHeld => ?_)
   clear hK K
   refine Zcg (a' := ?_) ?_ ?_
   rotate_left
   ·show Act.put _ (some 21) _ = _
    simp only [Act.put, List.setIfInBounds_toArray, List.set_cons_zero, List.set_cons_succ, Zas, Zat]
    rfl
   refine Za0 (i := 11) (N := some 22) (v := ?_) (a' := ?_) #[true, true, true, true, true, true, true, true, true, true, true, true, false, true, false] rfl rfl (Zal HT_.out (by kernel_rfl)) (fun _ _ _ h => h) (Or.inl ⟨by rfl, ?_⟩) ?_ ?_
   rotate_left
   ·intro w'
    go_simp
    with_reducible rfl
   rotate_left
   ·simp only [Act.put, List.setIfInBounds_toArray, List.set_cons_zero, List.set_cons_succ, Zas, Zat]
    rfl
   refine Za0 (i := 12) (N := some 23) (v := ?_) (a' := ?_) #[true, true, true, true, true, true, true, true, true, true, true, true, true, true, false] rfl rfl (Zal HT_.out (by kernel_rfl)) (fun _ _ _ h => h) (Or.inl ⟨by rfl, ?_⟩) ?_ ?_
   rotate_left
   ·intro w'
    go_simp
    with_reducible rfl
   rotate_left
   ·simp only [Act.put, List.setIfInBounds_toArray, List.set_cons_zero, List.set_cons_succ, Zas, Zat]
    rfl
   exact Zcg (by simp only [putAll, Act.put, List.setIfInBounds_toArray, List.set_cons_zero, List.set_cons_succ]) (hCont (.slice Ao11 t221.length co11, .slice Ao10 t224.length co10, gb227) _ ⟨hHeld, (by (with_reducible repeat (first | apply Kd.Zaq | apply Kd.Zar | apply Kd.Zay)); exact Kd.Za7 HO223.out (fun _ hk => hk.2)), (by (with_reducible repeat (first | apply Kd.Zaq | apply Kd.Zar | apply Kd.Zay)); exact Kd.Za7 HO226.out (fun _ hk => hk.2)), (by (with_reducible repeat (first | refine blk_drewN ?_ _ | refine Zag ?_ | refine Zaf ?_ _)); exact BK219.out), (by (with_reducible repeat (first | refine blk_drewN ?_ _ | refine Zag ?_ | refine Zaf ?_ _)); exact BK220.out), (by (with_reducible repeat (first | refine blk_drewN ?_ _ | refine Zag ?_ | refine Zaf ?_ _)); exact BK227.out), GW227.out, GE227.out, NB219_227.out, NB227_219.out, NB220_227.out, NB227_220.out, (by repeat (first | (with_reducible first | exact HB.out | apply Zab | apply Zaa | apply Zac | refine Zae ?_ GE219.out | refine Zae ?_ GE220.out | refine Zae ?_ GE227.out) | exact HB.out))⟩)
  skip
  refine box_step ?hg (N := 3) ?hd (cs := #[.slice none 0 0, .slice none 0 0, .int .i64 0, .slice none 0 0, .slice none 0 0]) (t := 28) ?hr ?_; (case hd => rfl); (case hg => rfl); (case hr => first | (go_simp; done) | (go_simp; rfl))
  intro gb227 hg w7 hbox hb
  have n0_ := Za.mk (Zau (g := gb219) (o := .cells #[.slice A0_0 l0_0.length c0_0, .slice A0_1 l0_1.length c0_1, .int .i64 a0_2, .slice A0_3 l0_3.length c0_3, .slice A0_4 l0_4.length c0_4] 28 (0, 0)) (by (with_reducible repeat (first | refine blk_drewN ?_ _ | refine Zag ?_ | refine Zaf ?_ _)); exact BK219.out) hb)
  have n1_ := Za.mk (Zau (g := gb220) (o := .cells #[.slice none 0 0, .slice none 0 0, .int .i64 0, .slice none 0 0, .slice none 0 0] 28 (0, 0)) (by (with_reducible repeat (first | refine blk_drewN ?_ _ | refine Zag ?_ | refine Zaf ?_ _)); exact BK220.out) hb)
  have n2_ := Za.mk (Zad (by repeat (first | (with_reducible first | exact HB.out | apply Zab | apply Zaa | apply Zac | refine Zae ?_ GE219.out | refine Zae ?_ GE220.out) | exact HB.out)) hb)
  have n3_ := Za.mk (hbox)
  have n4_ := Za.mk ((by rw [hg]; exact (Zaj (by repeat (first | (with_reducible first | exact HB.out | apply Zab | apply Zaa | apply Zac | refine Zae ?_ GE219.out | refine Zae ?_ GE220.out) | exact HB.out))) : w.heap.size ≤ gb227))
  have n5_ := Za.mk ((by rw [hg]; exact (Zaj (by repeat (first | (with_reducible first | exact HB.out | apply Zab | apply Zaa | apply Zac | refine Zae ?_ GE219.out | refine Zae ?_ GE220.out) | exact HB.out))) : w.heap.size ≤ gb227))
  have n6_ := Za.mk ((by rw [hg]; exact Nat.ne_of_lt (Zbv (g := gb219) (o := .cells #[.slice A0_0 l0_0.length c0_0, .slice A0_1 l0_1.length c0_1, .int .i64 a0_2, .slice A0_3 l0_3.length c0_3, .slice A0_4 l0_4.length c0_4] 28 (0, 0)) (by (with_reducible repeat (first | refine blk_drewN ?_ _ | refine Zag ?_ | refine Zaf ?_ _)); exact BK219.out)) : gb219 ≠ gb227))
  have n7_ := Za.mk ((by rw [hg]; exact Nat.ne_of_gt (Zbv (g := gb219) (o := .cells #[.slice A0_0 l0_0.length c0_0, .slice A0_1 l0_1.length c0_1, .int .i64 a0_2, .slice A0_3 l0_3.length c0_3, .slice A0_4 l0_4.length c0_4] 28 (0, 0)) (by (with_reducible repeat (first | refine blk_drewN ?_ _ | refine Zag ?_ | refine Zaf ?_ _)); exact BK219.out)) : gb227 ≠ gb219))
  have n8_ := Za.mk ((by rw [hg]; exact Nat.ne_of_lt (Zbv (g := gb220) (o := .cells #[.slice none 0 0, .slice none 0 0, .int .i64 0, .slice none 0 0, .slice none 0 0] 28 (0, 0)) (by (with_reducible repeat (first | refine blk_drewN ?_ _ | refine Zag ?_ | refine Zaf ?_ _)); exact BK220.out)) : gb220 ≠ gb227))
  have n9_ := Za.mk ((by rw [hg]; exact Nat.ne_of_gt (Zbv (g := gb220) (o := .cells #[.slice none 0 0, .slice none 0 0, .int .i64 0, .slice none 0 0, .slice none 0 0] 28 (0, 0)) (by (with_reducible repeat (first | refine blk_drewN ?_ _ | refine Zag ?_ | refine Zaf ?_ _)); exact BK220.out)) : gb227 ≠ gb220))
  clear BK219
  clear BK220
  clear HB
  have BK219 := n0_
  have BK220 := n1_
  have HB := n2_
  have BK227 := n3_
  have GW227 := n4_
  have GE227 := n5_
  have NB219_227 := n6_
  have NB227_219 := n7_
  have NB220_227 := n8_
  have NB227_220 := n9_
  clear n0_ n1_ n2_ n3_ n4_ n5_ n6_ n7_ n8_ n9_
  clear hb hbox hg
  refine hK.out _ _ ⟨(Zah BK219.out 0).trans rfl, (Zah BK219.out 1).trans rfl, (Zah BK219.out 2).trans rfl, (Zah BK219.out 3).trans rfl, (Zah BK219.out 4).trans rfl⟩ (fun hHeld => ?_)
  clear hK K
  refine Zcg (a' := ?_) ?_ ?_
  rotate_left
  ·show Act.put _ (some 3) _ = _
   simp only [Act.put, List.setIfInBounds_toArray, List.set_cons_zero, List.set_cons_succ, Zas, Zat]
   rfl
  refine one_ (i := 6) (N := some 17) #[true, true, true, true, true, true, true, true, true, true, false, false, false, true, false] rfl rfl (Zb6 HT_.out (by kernel_rfl)) (by decide) (fun K hK => ?_)
  refine Zc2 Try.func44 (by kernel_rfl) rfl #[.slice A0_3 l0_3.length c0_3] (by rfl) rfl rfl (by (try simp only [List.map_toArray, List.map_cons, List.map_nil]); first | done | rfl | (simp only [List.length_drop, List.length_take]; rfl)) ?_
  with_reducible refine (cloneI.calls _ _ l0_3 t221 _ ?side1 ?side2 A2.out).mono ?_
  (case side1 => repeat (first | exact (Kd.Zak HR0_3.out HB.out) | (with_reducible refine Kd.C_alloc ?_ _) | (with_reducible refine Kd.C_drewN ?_ _) | (with_reducible refine Kd.C_drew ?_)))
  (case side2 => exact HC0_3.out)
  rintro e w8 ⟨v222, rfl, ho0, hb⟩
  refine ⟨_, rfl, ?_⟩
  have n0_ := Za.mk (Kd.Zbq ho0 (Zaj (by repeat (first | (with_reducible first | exact HB.out | apply Zab | apply Zaa | apply Zac | refine Zae ?_ GE219.out | refine Zae ?_ GE220.out | refine Zae ?_ GE227.out) | exact HB.out))))
  have n1_ := Za.mk (Zau (g := gb219) (o := .cells #[.slice A0_0 l0_0.length c0_0, .slice A0_1 l0_1.length c0_1, .int .i64 a0_2, .slice A0_3 l0_3.length c0_3, .slice A0_4 l0_4.length c0_4] 28 (0, 0)) (by (with_reducible repeat (first | refine blk_drewN ?_ _ | refine Zag ?_ | refine Zaf ?_ _)); exact BK219.out) hb)
  have n2_ := Za.mk (Zau (g := gb220) (o := .cells #[.slice none 0 0, .slice none 0 0, .int .i64 0, .slice none 0 0, .slice none 0 0] 28 (0, 0)) (by (with_reducible repeat (first | refine blk_drewN ?_ _ | refine Zag ?_ | refine Zaf ?_ _)); exact BK220.out) hb)
  have n3_ := Za.mk (Zau (g := gb227) (o := .cells #[.slice none 0 0, .slice none 0 0, .int .i64 0, .slice none 0 0, .slice none 0 0] 28 (0, 0)) (by (with_reducible repeat (first | refine blk_drewN ?_ _ | refine Zag ?_ | refine Zaf ?_ _)); exact BK227.out) hb)
  have n4_ := Za.mk (Zad (by repeat (first | (with_reducible first | exact HB.out | apply Zab | apply Zaa | apply Zac | refine Zae ?_ GE219.out | refine Zae ?_ GE220.out | refine Zae ?_ GE227.out) | exact HB.out)) hb)
  clear BK219
  clear BK220
  clear BK227
  clear HB
  have HO223 := n0_
  have BK219 := n1_
  have BK220 := n2_
  have BK227 := n3_
  have HB := n4_
  clear n0_ n1_ n2_ n3_ n4_
  (try clear hb)
  (try clear hb2)
  (try clear hk)
  (try clear hi)
  (try clear ho0)
  refine hK.out _ _ ⟨(Zah BK219.out 0).trans rfl, (Zah BK219.out 1).trans rfl, (Zah BK219.out 2).trans rfl, (Zah BK219.out 3).trans rfl, (Zah BK219.out 4).trans rfl⟩ (fun hHeld => ?_)
  clear hK K
  refine Zcg (a' := ?_) ?_ ?_
  rotate_left
  ·show Act.put _ (some 17) _ = _
   simp only [Act.put, List.setIfInBounds_toArray, List.set_cons_zero, List.set_cons_succ, Zas, Zat]
   rfl
  refine one_ (i := 10) (N := some 21) #[true, true, true, true, true, true, true, true, true, true, true, false, false, true, false] rfl rfl (Zb6 HT_.out (by kernel_rfl)) (by decide) (fun K hK => ?_)
  refine Zc2 Try.func44 (by kernel_rfl) rfl #[.slice A0_4 l0_4.length c0_4] (by rfl) rfl rfl (by (try simp only [List.map_toArray, List.map_cons, List.map_nil]); first | done | rfl | (simp only [List.length_drop, List.length_take]; rfl)) ?_
  with_reducible refine (cloneI.calls _ _ l0_4 t224 _ ?side1 ?side2 A3.out).mono ?_
  (case side1 => repeat (first | exact (Kd.Zak HR0_4.out HB.out) | (with_reducible refine Kd.C_alloc ?_ _) | (with_reducible refine Kd.C_drewN ?_ _) | (with_reducible refine Kd.C_drew ?_)))
  (case side2 => exact HC0_4.out)
  rintro e w9 ⟨v225, rfl, ho0, hb⟩
  refine ⟨_, rfl, ?_⟩
  have n0_ := Za.mk (Kd.Zb4 (by (with_reducible repeat (first | apply Kd.Zaq | apply Kd.Zar | apply Kd.Zay)); exact HO223.out) (Kd.Zch ho0) hb)
  have n1_ := Za.mk (Kd.Zbq (Kd.Zda ho0 (Kd.R_lt (by (with_reducible repeat (first | apply Kd.Zaq | apply Kd.Zar | apply Kd.Zay)); exact HO223.out))) (Zaj (by repeat (first | (with_reducible first | exact HB.out | apply Zab | apply Zaa | apply Zac | refine Zae ?_ GE219.out | refine Zae ?_ GE220.out | refine Zae ?_ GE227.out) | exact HB.out))))
  have n2_ := Za.mk (Zau (g := gb219) (o := .cells #[.slice A0_0 l0_0.length c0_0, .slice A0_1 l0_1.length c0_1, .int .i64 a0_2, .slice A0_3 l0_3.length c0_3, .slice A0_4 l0_4.length c0_4] 28 (0, 0)) (by (with_reducible repeat (first | refine blk_drewN ?_ _ | refine Zag ?_ | refine Zaf ?_ _)); exact BK219.out) hb)
  have n3_ := Za.mk (Zau (g := gb220) (o := .cells #[.slice none 0 0, .slice none 0 0, .int .i64 0, .slice none 0 0, .slice none 0 0] 28 (0, 0)) (by (with_reducible repeat (first | refine blk_drewN ?_ _ | refine Zag ?_ | refine Zaf ?_ _)); exact BK220.out) hb)
  have n4_ := Za.mk (Zau (g := gb227) (o := .cells #[.slice none 0 0, .slice none 0 0, .int .i64 0, .slice none 0 0, .slice none 0 0] 28 (0, 0)) (by (with_reducible repeat (first | refine blk_drewN ?_ _ | refine Zag ?_ | refine Zaf ?_ _)); exact BK227.out) hb)
  have n5_ := Za.mk (Zad (by repeat (first | (with_reducible first | exact HB.out | apply Zab | apply Zaa | apply Zac | refine Zae ?_ GE219.out | refine Zae ?_ GE220.out | refine Zae ?_ GE227.out) | exact HB.out)) hb)
  clear HO223
  clear BK219
  clear BK220
  clear BK227
  clear HB
  have HO223 := n0_
  have HO226 := n1_
  have BK219 := n2_
  have BK220 := n3_
  have BK227 := n4_
  have HB := n5_
  clear n0_ n1_ n2_ n3_ n4_ n5_
  (try clear hb)
  (try clear hb2)
  (try clear hk)
  (try clear hi)
  (try clear ho0)
  obtain ⟨Ao10, co10, eo10⟩ := Kd.Za9 HO226.out
  (first | subst eo10 | (injection eo10 with f1_ f2_ f3_; have f4_ := f1_.symm; have f5_ := f3_.symm; clear f1_ f2_ f3_; subst f4_; subst f5_))
  obtain ⟨Ao11, co11, eo11⟩ := Kd.Za9 HO223.out
  (first | subst eo11 | (injection eo11 with f1_ f2_ f3_; have f4_ := f1_.symm; have f5_ := f3_.symm; clear f1_ f2_ f3_; subst f4_; subst f5_))
  refine hK.out _ _ ⟨(Zah BK219.out 0).trans rfl, (Zah BK219.out 1).trans rfl, (Zah BK219.out 2).trans rfl, (Zah BK219.out 3).trans rfl, (Zah BK219.out 4).trans rfl⟩ (fun hHeld => ?_)
  clear hK K
  refine Zcg (a' := ?_) ?_ ?_
  rotate_left
  ·show Act.put _ (some 21) _ = _
   simp only [Act.put, List.setIfInBounds_toArray, List.set_cons_zero, List.set_cons_succ, Zas, Zat]
   rfl
  refine Za0 (i := 11) (N := some 22) (v := ?_) (a' := ?_) #[true, true, true, true, true, true, true, true, true, true, true, true, false, true, false] rfl rfl (Zal HT_.out (by kernel_rfl)) (fun _ _ _ h => h) (Or.inl ⟨by rfl, ?_⟩) ?_ ?_
  rotate_left
  ·intro w'
   go_simp
   with_reducible rfl
  rotate_left
  ·simp only [Act.put, List.setIfInBounds_toArray, List.set_cons_zero, List.set_cons_succ, Zas, Zat]
   rfl
  refine Za0 (i := 12) (N := some 23) (v := ?_) (a' := ?_) #[true, true, true, true, true, true, true, true, true, true, true, true, true, true, false] rfl rfl (Zal HT_.out (by kernel_rfl)) (fun _ _ _ h => h) (Or.inl ⟨by rfl, ?_⟩) ?_ ?_
  rotate_left
  ·intro w'
   go_simp
   with_reducible rfl
  rotate_left
  ·simp only [Act.put, List.setIfInBounds_toArray, List.set_cons_zero, List.set_cons_succ, Zas, Zat]
   rfl
  exact Zcg (by simp only [putAll, Act.put, List.setIfInBounds_toArray, List.set_cons_zero, List.set_cons_succ]) (hCont (.slice Ao11 t221.length co11, .slice Ao10 t224.length co10, gb227) _ ⟨hHeld, (by (with_reducible repeat (first | apply Kd.Zaq | apply Kd.Zar | apply Kd.Zay)); exact Kd.Za7 HO223.out (fun _ hk => hk.2)), (by (with_reducible repeat (first | apply Kd.Zaq | apply Kd.Zar | apply Kd.Zay)); exact Kd.Za7 HO226.out (fun _ hk => hk.2)), (by (with_reducible repeat (first | refine blk_drewN ?_ _ | refine Zag ?_ | refine Zaf ?_ _)); exact BK219.out), (by (with_reducible repeat (first | refine blk_drewN ?_ _ | refine Zag ?_ | refine Zaf ?_ _)); exact BK220.out), (by (with_reducible repeat (first | refine blk_drewN ?_ _ | refine Zag ?_ | refine Zaf ?_ _)); exact BK227.out), GW227.out, GE227.out, NB219_227.out, NB227_219.out, NB220_227.out, NB227_220.out, (by repeat (first | (with_reducible first | exact HB.out | apply Zab | apply Zaa | apply Zac | refine Zae ?_ GE219.out | refine Zae ?_ GE220.out | refine Zae ?_ GE227.out) | exact HB.out))⟩)
 rintro ⟨v222, v225, gb227⟩ w12 ⟨hS_, h0_, h1_, h2_, h3_, h4_, h5_, h6_, h7_, h8_, h9_, h10_, h11_⟩
 have n0_ : Za (Kd.R (Kd.int .i64) 3 w12 w.heap.size (fun k_ => some k_ ≠ (v225 : Value).ownBlock) v222 t221) := ⟨h0_⟩
 have n1_ : Za (Kd.R (Kd.int .i64) 3 w12 w.heap.size (fun k_ => some k_ ≠ (v222 : Value).ownBlock) v225 t224) := ⟨h1_⟩
 have n2_ : Za (w12.heap[gb219]? = some (.cells #[.slice A0_0 l0_0.length c0_0, .slice A0_1 l0_1.length c0_1, .int .i64 a0_2, .slice A0_3 l0_3.length c0_3, .slice A0_4 l0_4.length c0_4] 28 (0, 0))) := ⟨h2_⟩
 have n3_ : Za (w12.heap[gb220]? = some (.cells #[.slice none 0 0, .slice none 0 0, .int .i64 0, .slice none 0 0, .slice none 0 0] 28 (0, 0))) := ⟨h3_⟩
 have n4_ : Za (w12.heap[gb227]? = some (.cells #[.slice none 0 0, .slice none 0 0, .int .i64 0, .slice none 0 0, .slice none 0 0] 28 (0, 0))) := ⟨h4_⟩
 have n5_ : Za (w.heap.size ≤ gb227) := ⟨h5_⟩
 have n6_ : Za (w.heap.size ≤ gb227) := ⟨h6_⟩
 have n7_ : Za (gb219 ≠ gb227) := ⟨h7_⟩
 have n8_ : Za (gb227 ≠ gb219) := ⟨h8_⟩
 have n9_ : Za (gb220 ≠ gb227) := ⟨h9_⟩
 have n10_ : Za (gb227 ≠ gb220) := ⟨h10_⟩
 have n11_ : Za (Below w.heap.size w w12) := ⟨h11_⟩
 clear BK219
 clear BK220
 clear HB
 clear h0_ h1_ h2_ h3_ h4_ h5_ h6_ h7_ h8_ h9_ h10_ h11_
 have HO223 := n0_
 have HO226 := n1_
 have BK219 := n2_
 have BK220 := n3_
 have BK227 := n4_
 have GW227 := n5_
 have GE227 := n6_
 have NB219_227 := n7_
 have NB227_219 := n8_
 have NB220_227 := n9_
 have NB227_220 := n10_
 have HB := n11_
 clear n0_ n1_ n2_ n3_ n4_ n5_ n6_ n7_ n8_ n9_ n10_ n11_
 have hHeld : w12.cell? ⟨gb219, 0, none⟩ = some (.slice A0_0 l0_0.length c0_0) ∧ w12.cell? ⟨gb219, 1, none⟩ = some (.slice A0_1 l0_1.length c0_1) ∧ w12.cell? ⟨gb219, 2, none⟩ = some (.int .i64 a0_2) ∧ w12.cell? ⟨gb219, 3, none⟩ = some (.slice A0_3 l0_3.length c0_3) ∧ w12.cell? ⟨gb219, 4, none⟩ = some (.slice A0_4 l0_4.length c0_4) := hS_
 obtain ⟨Ao13, co13, eo13⟩ := Kd.Za9 HO226.out
 (first | subst eo13 | (injection eo13 with f1_ f2_ f3_; have f4_ := f1_.symm; have f5_ := f3_.symm; clear f1_ f2_ f3_; subst f4_; subst f5_))
 obtain ⟨Ao14, co14, eo14⟩ := Kd.Za9 HO223.out
 (first | subst eo14 | (injection eo14 with f1_ f2_ f3_; have f4_ := f1_.symm; have f5_ := f3_.symm; clear f1_ f2_ f3_; subst f4_; subst f5_))
 refine Zcg (a' := ?_) ?_ ?_
 rotate_left
 ·simp only [putAll, Act.put, List.setIfInBounds_toArray, List.set_cons_zero, List.set_cons_succ]
  rfl
 refine one_ (i := 14) (N := none) #[true, true, true, true, true, true, true, true, true, true, true, true, true, true, true] rfl rfl (Zb6 HT_.out (by kernel_rfl)) (by decide) (fun K hK => ?_)
 have hs15 : w12.cell? ⟨gb227, 0, none⟩ = some (.slice none 0 0) := (Zah BK227.out 0).trans rfl
 have hfs15 := Zap BK227.out 0
 have hns15_0 := NB219_227.out
 have hns15_1 := NB220_227.out
 have hms15_0 := NB227_219.out
 have hms15_1 := NB227_220.out
 have hs16 : w12.cell? ⟨gb227, 1, none⟩ = some (.slice none 0 0) := (Zah BK227.out 1).trans rfl
 have hfs16 := Zap BK227.out 1
 have hns16_0 := NB219_227.out
 have hns16_1 := NB220_227.out
 have hms16_0 := NB227_219.out
 have hms16_1 := NB227_220.out
 have hs17 : w12.cell? ⟨gb227, 2, none⟩ = some (.int .i64 0) := (Zah BK227.out 2).trans rfl
 have hfs17 := Zap BK227.out 2
 have hns17_0 := NB219_227.out
 have hns17_1 := NB220_227.out
 have hms17_0 := NB227_219.out
 have hms17_1 := NB227_220.out
 have hs18 : w12.cell? ⟨gb227, 3, none⟩ = some (.slice none 0 0) := (Zah BK227.out 3).trans rfl
 have hfs18 := Zap BK227.out 3
 have hns18_0 := NB219_227.out
 have hns18_1 := NB220_227.out
 have hms18_0 := NB227_219.out
 have hms18_1 := NB227_220.out
 have hs19 : w12.cell? ⟨gb227, 4, none⟩ = some (.slice none 0 0) := (Zah BK227.out 4).trans rfl
 have hfs19 := Zap BK227.out 4
 have hns19_0 := NB219_227.out
 have hns19_1 := NB220_227.out
 have hms19_0 := NB227_219.out
 have hms19_1 := NB227_220.out
 refine skip_ (w1 := ?_) (by rfl) rfl ?_ ?_
 rotate_left
 ·go_simp
  rfl
 refine hK.out _ _ ⟨((cell_far (p := ⟨gb227, _, none⟩) NB219_227.out _).trans (((cell_far (p := ⟨gb227, _, none⟩) NB219_227.out _).trans (((cell_far (p := ⟨gb227, _, none⟩) NB219_227.out _).trans (((cell_far (p := ⟨gb227, _, none⟩) NB219_227.out _).trans (((cell_far (p := ⟨gb227, _, none⟩) NB219_227.out _).trans (hHeld.1)))))))))), ((cell_far (p := ⟨gb227, _, none⟩) NB219_227.out _).trans (((cell_far (p := ⟨gb227, _, none⟩) NB219_227.out _).trans (((cell_far (p := ⟨gb227, _, none⟩) NB219_227.out _).trans (((cell_far (p := ⟨gb227, _, none⟩) NB219_227.out _).trans (((cell_far (p := ⟨gb227, _, none⟩) NB219_227.out _).trans (hHeld.2.1)))))))))), ((cell_far (p := ⟨gb227, _, none⟩) NB219_227.out _).trans (((cell_far (p := ⟨gb227, _, none⟩) NB219_227.out _).trans (((cell_far (p := ⟨gb227, _, none⟩) NB219_227.out _).trans (((cell_far (p := ⟨gb227, _, none⟩) NB219_227.out _).trans (((cell_far (p := ⟨gb227, _, none⟩) NB219_227.out _).trans (hHeld.2.2.1)))))))))), ((cell_far (p := ⟨gb227, _, none⟩) NB219_227.out _).trans (((cell_far (p := ⟨gb227, _, none⟩) NB219_227.out _).trans (((cell_far (p := ⟨gb227, _, none⟩) NB219_227.out _).trans (((cell_far (p := ⟨gb227, _, none⟩) NB219_227.out _).trans (((cell_far (p := ⟨gb227, _, none⟩) NB219_227.out _).trans (hHeld.2.2.2.1)))))))))), ((cell_far (p := ⟨gb227, _, none⟩) NB219_227.out _).trans (((cell_far (p := ⟨gb227, _, none⟩) NB219_227.out _).trans (((cell_far (p := ⟨gb227, _, none⟩) NB219_227.out _).trans (((cell_far (p := ⟨gb227, _, none⟩) NB219_227.out _).trans (((cell_far (p := ⟨gb227, _, none⟩) NB219_227.out _).trans (hHeld.2.2.2.2))))))))))⟩ (fun hHeld => ?_)
 clear hK K
 refine Ze4 (Zdl HT_.out (by kernel_rfl)) ?_
 have hnb20 := NB219_220.out
 have hnc20 := NB220_219.out
 have hnb21 := NB219_227.out
 have hnc21 := NB227_219.out
 obtain ⟨hcz22_0, hcz22_1, hcz22_2, hcz22_3, hcz22_4, hfz22_0, hfz22_1, hfz22_2, hfz22_3, hfz22_4⟩ := blks5 BK219.out
 try go_wp2
 go_loopg [27] k (fun kq v27 w' => ∃ (x27_1 : Int) (x228000_1 : List (S50)) (u228000 : Value), v27 = .int .i64 x27_1 ∧ Za (Za1.l0 kq l0_0 (l0_0.length : Int) x27_1 l0_0 l0_1 a0_2 l0_3 l0_4 x228000_1 a0_2 t221 t224 = some (r1, r2, r3, r4, r5)) ∧ Za (kq ≤ k) ∧ Za (Kd.S k50 50 w' w.heap.size (fun _ => True) u228000 x228000_1) ∧ Za (Kd.R (Kd.int .i64) 3 w' w.heap.size (fun k_ => some k_ ≠ ((.slice Ao13 t224.length co13) : Value).ownBlock) (.slice Ao14 t221.length co14) t221) ∧ Za (Kd.R (Kd.int .i64) 3 w' w.heap.size (fun k_ => some k_ ≠ ((.slice Ao14 t221.length co14) : Value).ownBlock) (.slice Ao13 t224.length co13) t224) ∧ Za (w'.heap[gb219]? = some (.cells #[(.slice A0_0 l0_0.length c0_0), (.slice A0_1 l0_1.length c0_1), .int .i64 a0_2, (.slice A0_3 l0_3.length c0_3), (.slice A0_4 l0_4.length c0_4)] 28 (0, 0))) ∧ Za (w'.heap[gb220]? = some (.cells #[(.slice none 0 0), (.slice none 0 0), .int .i64 0, (.slice none 0 0), (.slice none 0 0)] 28 (0, 0))) ∧ Za (w'.heap[gb227]? = some (.cells #[u228000, (.slice none 0 0), .int .i64 a0_2, (.slice Ao14 t221.length co14), (.slice Ao13 t224.length co13)] 28 (0, 0))) ∧ Za (Below w.heap.size w w'))
 case atStart => exact ⟨(0), (([] : List (S50))), (.slice none 0 0), (by first | rfl | (simp; done) | (simp [*]; done)), H', ⟨Nat.le_refl _⟩, ⟨by first | exact Kd.S_nil _ _ _ _ _ | exact Kd.N_nil _ _ _ _ _ | exact Kd.Zd2 _ _ _ _ _ | exact Kd.Q_nil _ _ _ _ _ | exact Kd.Ze2 _ _ _ _ _⟩, ⟨by (with_reducible repeat (first | apply Kd.Zaq | apply Kd.Zar | apply Kd.Zay)); exact Kd.Za7 (Kd.Zb (p := ⟨gb227, 4, none⟩) (Kd.Zb (p := ⟨gb227, 3, none⟩) (Kd.Zb (p := ⟨gb227, 2, none⟩) (Kd.Zb (p := ⟨gb227, 1, none⟩) (Kd.Zb (p := ⟨gb227, 0, none⟩) (Kd.Zbd HO223.out BK227.out (by decide)) (fun _ hk => hk.2) (.slice none 0 0)) (fun _ hk => hk.2) (.slice none 0 0)) (fun _ hk => hk.2) (.int .i64 a0_2)) (fun _ hk => hk.2) (.slice Ao14 t221.length co14)) (fun _ hk => hk.2) (.slice Ao13 t224.length co13)) (fun _ hk => hk.1)⟩, ⟨by (with_reducible repeat (first | apply Kd.Zaq | apply Kd.Zar | apply Kd.Zay)); exact Kd.Za7 (Kd.Zb (p := ⟨gb227, 4, none⟩) (Kd.Zb (p := ⟨gb227, 3, none⟩) (Kd.Zb (p := ⟨gb227, 2, none⟩) (Kd.Zb (p := ⟨gb227, 1, none⟩) (Kd.Zb (p := ⟨gb227, 0, none⟩) (Kd.Zbd HO226.out BK227.out (by decide)) (fun _ hk => hk.2) (.slice none 0 0)) (fun _ hk => hk.2) (.slice none 0 0)) (fun _ hk => hk.2) (.int .i64 a0_2)) (fun _ hk => hk.2) (.slice Ao14 t221.length co14)) (fun _ hk => hk.2) (.slice Ao13 t224.length co13)) (fun _ hk => hk.1)⟩, ⟨by (with_reducible repeat (first | refine blk_drewN ?_ _ | refine Zag ?_ | refine Zaf ?_ _)); refine Zbc ?_ NB219_227.out _; (with_reducible repeat (first | refine blk_drewN ?_ _ | refine Zag ?_ | refine Zaf ?_ _)); refine Zbc ?_ NB219_227.out _; (with_reducible repeat (first | refine blk_drewN ?_ _ | refine Zag ?_ | refine Zaf ?_ _)); refine Zbc ?_ NB219_227.out _; (with_reducible repeat (first | refine blk_drewN ?_ _ | refine Zag ?_ | refine Zaf ?_ _)); refine Zbc ?_ NB219_227.out _; (with_reducible repeat (first | refine blk_drewN ?_ _ | refine Zag ?_ | refine Zaf ?_ _)); refine Zbc ?_ NB219_227.out _; (with_reducible repeat (first | refine blk_drewN ?_ _ | refine Zag ?_ | refine Zaf ?_ _)); exact BK219.out⟩, ⟨by (with_reducible repeat (first | refine blk_drewN ?_ _ | refine Zag ?_ | refine Zaf ?_ _)); refine Zbc ?_ NB220_227.out _; (with_reducible repeat (first | refine blk_drewN ?_ _ | refine Zag ?_ | refine Zaf ?_ _)); refine Zbc ?_ NB220_227.out _; (with_reducible repeat (first | refine blk_drewN ?_ _ | refine Zag ?_ | refine Zaf ?_ _)); refine Zbc ?_ NB220_227.out _; (with_reducible repeat (first | refine blk_drewN ?_ _ | refine Zag ?_ | refine Zaf ?_ _)); refine Zbc ?_ NB220_227.out _; (with_reducible repeat (first | refine blk_drewN ?_ _ | refine Zag ?_ | refine Zaf ?_ _)); refine Zbc ?_ NB220_227.out _; (with_reducible repeat (first | refine blk_drewN ?_ _ | refine Zag ?_ | refine Zaf ?_ _)); exact BK220.out⟩, ⟨by (with_reducible repeat (first | refine blk_drewN ?_ _ | refine Zag ?_ | refine Zaf ?_ _)); refine Zax (cs := #[.slice none 0 0, .slice none 0 0, .int .i64 a0_2, .slice Ao14 t221.length co14, .slice none 0 0]) ?_ 4 _ rfl; (with_reducible repeat (first | refine blk_drewN ?_ _ | refine Zag ?_ | refine Zaf ?_ _)); refine Zax (cs := #[.slice none 0 0, .slice none 0 0, .int .i64 a0_2, .slice none 0 0, .slice none 0 0]) ?_ 3 _ rfl; (with_reducible repeat (first | refine blk_drewN ?_ _ | refine Zag ?_ | refine Zaf ?_ _)); refine Zax (cs := #[.slice none 0 0, .slice none 0 0, .int .i64 0, .slice none 0 0, .slice none 0 0]) ?_ 2 _ rfl; (with_reducible repeat (first | refine blk_drewN ?_ _ | refine Zag ?_ | refine Zaf ?_ _)); refine Zax (cs := #[.slice none 0 0, .slice none 0 0, .int .i64 0, .slice none 0 0, .slice none 0 0]) ?_ 1 _ rfl; (with_reducible repeat (first | refine blk_drewN ?_ _ | refine Zag ?_ | refine Zaf ?_ _)); refine Zax (cs := #[.slice none 0 0, .slice none 0 0, .int .i64 0, .slice none 0 0, .slice none 0 0]) ?_ 0 _ rfl; (with_reducible repeat (first | refine blk_drewN ?_ _ | refine Zag ?_ | refine Zaf ?_ _)); exact BK227.out⟩, ⟨by repeat (first | (with_reducible first | exact HB.out | apply Zab | apply Zaa | apply Zac | refine Zae ?_ GE219.out | refine Zae ?_ GE220.out | refine Zae ?_ GE227.out) | exact HB.out)⟩⟩
 case round =>
  clear H'
  try clear c2
  try clear p2
  try clear c4
  try clear c20
  try clear c21
  try clear hcz22_0
  try clear hcz22_1
  try clear hcz22_2
  try clear hcz22_3
  try clear hcz22_4
  try clear hfz22_0
  try clear hfz22_1
  try clear hfz22_2
  try clear hfz22_3
  try clear hfz22_4
  obtain ⟨x27_1, x228000_1, u228000, rfl, HA, HK1, HO_228000, HO_228003, HO_228004, BK219, BK220, BK227, HB⟩ := hrel
  cases gk with
  | zero => exact absurd HA.out (by simp [Za1.l0])
  | succ k1 =>
   have H := HA.out
   clear HA
   simp only [Za1.l0] at H
   by_cases c23 : x27_1 < (l0_0.length : Int)
   ·rw [if_pos c23] at H
    have c23b0 : decide (x27_1 < (l0_0.length : Int)) = true := decide_eq_true c23
    clear c23
    by_cases c24 : 0 ≤ x27_1
    rotate_left
    ·rw [if_neg c24] at H
     exact absurd H (by simp)
    rw [if_pos c24] at H
    have c24b0 : decide (0 ≤ x27_1) = true := decide_eq_true c24
    clear c24
    by_cases c25 : x27_1 < (l0_0.length : Int)
    rotate_left
    ·rw [if_neg c25] at H
     exact absurd H (by simp)
    rw [if_pos c25] at H
    have c25b0 : decide (x27_1 < (l0_0.length : Int)) = true := decide_eq_true c25
    clear c25
    replace H := Option.bind_eq_some_iff.mp H
    obtain ⟨t230, A260, H⟩ := H
    replace H : (if x228000_1.length < 3518437208883 then (Za1.l0 k1 l0_0 (l0_0.length : Int) (wrap64 (x27_1 + 1)) l0_0 l0_1 a0_2 l0_3 l0_4 (x228000_1 ++ [(⟨(Zbg l0_0 x27_1).f0, t230⟩ : S50)]) a0_2 t221 t224) else (none)) = some (r1, r2, r3, r4, r5) := H
    have A26 := Za.mk A260
    clear A260
    by_cases c27 : x228000_1.length < 3518437208883
    rotate_left
    ·rw [if_neg c27] at H
     exact absurd H (by simp)
    rw [if_pos c27] at H
    have LMc27 := Za.mk c27
    clear c27
    obtain ⟨y233, hy233⟩ : ∃ y_ : List (S50), y_ = (x228000_1 ++ [(⟨(Zbg l0_0 x27_1).f0, t230⟩ : S50)]) := ⟨_, rfl⟩
    replace H : (Za1.l0 k1 l0_0 (l0_0.length : Int) (wrap64 (x27_1 + 1)) l0_0 l0_1 a0_2 l0_3 l0_4 y233 a0_2 t221 t224) = some (r1, r2, r3, r4, r5) := by first | (rw [hy233]; with_reducible exact H) | (have H2_ := (Option.bind_some _ _).symm.trans H; rw [hy233]; with_reducible exact H2_) | (have H2_ := (Option.bind_some _ _).symm.trans H; with_reducible exact H2_) | with_reducible exact H | (rw [hy233]; exact H) | exact H
    have Ny233 := Za.mk hy233
    clear hy233
    have H' := Za.mk H
    clear H
    have p228 : 0 ≤ (x27_1 : Int) := of_decide_eq_true (by first | (with_reducible assumption) | assumption)
    have q228 : x27_1 < (l0_0.length : Int) := of_decide_eq_true (by first | (with_reducible assumption) | assumption)
    obtain ⟨ad228, A228_1, c228_1, e228, hx228_0, hx228_1, hl228_1, hi228_1⟩ := at_T50 HR0_0.out x27_1 p228 q228
    cases e228
    replace hx228_0 := (HB.out.cell (World.block_lt_of_cell? w _ hx228_0)).trans hx228_0
    replace hx228_1 := (HB.out.cell (World.block_lt_of_cell? w _ hx228_1)).trans hx228_1
    have HR228_1 := Za.mk hi228_1
    have HC228_1 := Za.mk hl228_1
    clear hi228_1 hl228_1
    replace p228 := eq_true p228
    replace q228 := eq_true q228
    try go_wp2_with (first | ((with_reducible refine Zaz (N := 5) rfl ?_); refine Za5 ?hg (N := 5) ?hd (cs := #[.string (⟨#[]⟩ : ByteArray), .slice none 0 0]) (t := 50) ?hr ?_; (case hd => rfl); (case hg => rfl); (case hr => first | (go_simp; done) | (go_simp; rfl)); intro gb229 hg w28 hbox hb; have n0_ := Za.mk (Kd.Zdo (Kd.S_elderB (by (with_reducible repeat (first | apply Kd.Zbr | apply Kd.Zbs | apply Kd.Zb0)); exact HO_228000.out) gb229 (Nat.le_of_eq hg.symm)) hb); have n1_ := Za.mk (Kd.Zbi (by (with_reducible repeat (first | apply Kd.Zaq | apply Kd.Zar | apply Kd.Zay)); exact HO_228003.out) hb); have n2_ := Za.mk (Kd.Zbi (by (with_reducible repeat (first | apply Kd.Zaq | apply Kd.Zar | apply Kd.Zay)); exact HO_228004.out) hb); have n3_ := Za.mk (Zau (g := gb219) (o := .cells #[.slice (some ad228) l0_0.length c0_0, .slice A0_1 l0_1.length c0_1, .int .i64 a0_2, .slice A0_3 l0_3.length c0_3, .slice A0_4 l0_4.length c0_4] 28 (0, 0)) (by (with_reducible repeat (first | refine blk_drewN ?_ _ | refine Zag ?_ | refine Zaf ?_ _)); exact BK219.out) hb); have n4_ := Za.mk (Zau (g := gb220) (o := .cells #[.slice none 0 0, .slice none 0 0, .int .i64 0, .slice none 0 0, .slice none 0 0] 28 (0, 0)) (by (with_reducible repeat (first | refine blk_drewN ?_ _ | refine Zag ?_ | refine Zaf ?_ _)); exact BK220.out) hb); have n5_ := Za.mk (Zau (g := gb227) (o := .cells #[u228000, .slice none 0 0, .int .i64 a0_2, .slice Ao14 t221.length co14, .slice Ao13 t224.length co13] 28 (0, 0)) (by (with_reducible repeat (first | refine blk_drewN ?_ _ | refine Zag ?_ | refine Zaf ?_ _)); exact BK227.out) hb); have n6_ := Za.mk (Zad (by repeat (first | (with_reducible first | exact HB.out | apply Zab | apply Zaa | apply Zac | refine Zae ?_ GE219.out | refine Zae ?_ GE220.out | refine Zae ?_ GE227.out) | exact HB.out)) hb); have n7_ := Za.mk (hbox); have n8_ := Za.mk ((by rw [hg]; exact (Zaj (by repeat (first | (with_reducible first | exact HB.out | apply Zab | apply Zaa | apply Zac | refine Zae ?_ GE219.out | refine Zae ?_ GE220.out | refine Zae ?_ GE227.out) | exact HB.out))) : w.heap.size ≤ gb229)); have n9_ := Za.mk ((by rw [hg]; exact (Zaj (by repeat (first | (with_reducible first | exact HB.out | apply Zab | apply Zaa | apply Zac | refine Zae ?_ GE219.out | refine Zae ?_ GE220.out | refine Zae ?_ GE227.out) | exact HB.out))) : w.heap.size ≤ gb229)); have n10_ := Za.mk ((by rw [hg]; exact Nat.ne_of_lt (Zbv (g := gb219) (o := .cells #[.slice (some ad228) l0_0.length c0_0, .slice A0_1 l0_1.length c0_1, .int .i64 a0_2, .slice A0_3 l0_3.length c0_3, .slice A0_4 l0_4.length c0_4] 28 (0, 0)) (by (with_reducible repeat (first | refine blk_drewN ?_ _ | refine Zag ?_ | refine Zaf ?_ _)); exact BK219.out)) : gb219 ≠ gb229)); have n11_ := Za.mk ((by rw [hg]; exact Nat.ne_of_gt (Zbv (g := gb219) (o := .cells #[.slice (some ad228) l0_0.length c0_0, .slice A0_1 l0_1.length c0_1, .int .i64 a0_2, .slice A0_3 l0_3.length c0_3, .slice A0_4 l0_4.length c0_4] 28 (0, 0)) (by (with_reducible repeat (first | refine blk_drewN ?_ _ | refine Zag ?_ | refine Zaf ?_ _)); exact BK219.out)) : gb229 ≠ gb219)); have n12_ := Za.mk ((by rw [hg]; exact Nat.ne_of_lt (Zbv (g := gb220) (o := .cells #[.slice none 0 0, .slice none 0 0, .int .i64 0, .slice none 0 0, .slice none 0 0] 28 (0, 0)) (by (with_reducible repeat (first | refine blk_drewN ?_ _ | refine Zag ?_ | refine Zaf ?_ _)); exact BK220.out)) : gb220 ≠ gb229)); have n13_ := Za.mk ((by rw [hg]; exact Nat.ne_of_gt (Zbv (g := gb220) (o := .cells #[.slice none 0 0, .slice none 0 0, .int .i64 0, .slice none 0 0, .slice none 0 0] 28 (0, 0)) (by (with_reducible repeat (first | refine blk_drewN ?_ _ | refine Zag ?_ | refine Zaf ?_ _)); exact BK220.out)) : gb229 ≠ gb220)); have n14_ := Za.mk ((by rw [hg]; exact Nat.ne_of_lt (Zbv (g := gb227) (o := .cells #[u228000, .slice none 0 0, .int .i64 a0_2, .slice Ao14 t221.length co14, .slice Ao13 t224.length co13] 28 (0, 0)) (by (with_reducible repeat (first | refine blk_drewN ?_ _ | refine Zag ?_ | refine Zaf ?_ _)); exact BK227.out)) : gb227 ≠ gb229)); have n15_ := Za.mk ((by rw [hg]; exact Nat.ne_of_gt (Zbv (g := gb227) (o := .cells #[u228000, .slice none 0 0, .int .i64 a0_2, .slice Ao14 t221.length co14, .slice Ao13 t224.length co13] 28 (0, 0)) (by (with_reducible repeat (first | refine blk_drewN ?_ _ | refine Zag ?_ | refine Zaf ?_ _)); exact BK227.out)) : gb229 ≠ gb227)); clear HO_228000; clear HO_228003; clear HO_228004; clear BK219; clear BK220; clear BK227; clear HB; have HO_228000 := n0_; have HO_228003 := n1_; have HO_228004 := n2_; have BK219 := n3_; have BK220 := n4_; have BK227 := n5_; have HB := n6_; have BK229 := n7_; have GW229 := n8_; have GE229 := n9_; have NB219_229 := n10_; have NB229_219 := n11_; have NB220_229 := n12_; have NB229_220 := n13_; have NB227_229 := n14_; have NB229_227 := n15_; clear n0_ n1_ n2_ n3_ n4_ n5_ n6_ n7_ n8_ n9_ n10_ n11_ n12_ n13_ n14_ n15_; clear hb hbox hg; have hnb29 := NB229_219.out; have hnc29 := NB219_229.out; have hnb30 := NB229_220.out; have hnc30 := NB220_229.out; have hnb31 := NB229_227.out; have hnc31 := NB227_229.out; obtain ⟨hcz32_0, hcz32_1, hfz32_0, hfz32_1⟩ := Zdg BK229.out))
    have n0_ : Za (Kd.S k50 50 ((w28.setCell ⟨gb229, 0, none⟩ (.string ((Zbg l0_0 x27_1).f0))).setCell ⟨gb229, 1, none⟩ (.slice A228_1 ((Zbg l0_0 x27_1).f1).length c228_1)) w.heap.size (fun k_ => k_ ≠ gb229) u228000 x228000_1) := ⟨by (with_reducible repeat (first | apply Kd.Zbr | apply Kd.Zbs | apply Kd.Zb0)); exact Kd.Zdd (Kd.Zdi (p := ⟨gb229, 1, none⟩) (Kd.Zdi (p := ⟨gb229, 0, none⟩) (Kd.Zdd HO_228000.out (fun k_ hk => (⟨hk, hk.2⟩ : _ ∧ k_ ≠ gb229))) (fun _ hk => hk.2) (.string ((Zbg l0_0 x27_1).f0))) (fun _ hk => hk.2) (.slice A228_1 ((Zbg l0_0 x27_1).f1).length c228_1)) (fun _ hk => hk.1.2)⟩
    have n1_ : Za (Kd.R (Kd.int .i64) 3 ((w28.setCell ⟨gb229, 0, none⟩ (.string ((Zbg l0_0 x27_1).f0))).setCell ⟨gb229, 1, none⟩ (.slice A228_1 ((Zbg l0_0 x27_1).f1).length c228_1)) w.heap.size (fun k_ => some k_ ≠ (.slice Ao13 t224.length co13 : Value).ownBlock) (.slice Ao14 t221.length co14) t221) := ⟨by (with_reducible repeat (first | apply Kd.Zaq | apply Kd.Zar | apply Kd.Zay)); exact Kd.Za7 (Kd.Zb (p := ⟨gb229, 1, none⟩) (Kd.Zb (p := ⟨gb229, 0, none⟩) (Kd.Zbd HO_228003.out BK229.out (by decide)) (fun _ hk => hk.2) (.string ((Zbg l0_0 x27_1).f0))) (fun _ hk => hk.2) (.slice A228_1 ((Zbg l0_0 x27_1).f1).length c228_1)) (fun _ hk => hk.1)⟩
    have n2_ : Za (Kd.R (Kd.int .i64) 3 ((w28.setCell ⟨gb229, 0, none⟩ (.string ((Zbg l0_0 x27_1).f0))).setCell ⟨gb229, 1, none⟩ (.slice A228_1 ((Zbg l0_0 x27_1).f1).length c228_1)) w.heap.size (fun k_ => some k_ ≠ (.slice Ao14 t221.length co14 : Value).ownBlock) (.slice Ao13 t224.length co13) t224) := ⟨by (with_reducible repeat (first | apply Kd.Zaq | apply Kd.Zar | apply Kd.Zay)); exact Kd.Za7 (Kd.Zb (p := ⟨gb229, 1, none⟩) (Kd.Zb (p := ⟨gb229, 0, none⟩) (Kd.Zbd HO_228004.out BK229.out (by decide)) (fun _ hk => hk.2) (.string ((Zbg l0_0 x27_1).f0))) (fun _ hk => hk.2) (.slice A228_1 ((Zbg l0_0 x27_1).f1).length c228_1)) (fun _ hk => hk.1)⟩
    have n3_ : Za (((w28.setCell ⟨gb229, 0, none⟩ (.string ((Zbg l0_0 x27_1).f0))).setCell ⟨gb229, 1, none⟩ (.slice A228_1 ((Zbg l0_0 x27_1).f1).length c228_1)).heap[gb219]? = some (.cells #[.slice (some ad228) l0_0.length c0_0, .slice A0_1 l0_1.length c0_1, .int .i64 a0_2, .slice A0_3 l0_3.length c0_3, .slice A0_4 l0_4.length c0_4] 28 (0, 0))) := ⟨by (with_reducible repeat (first | refine blk_drewN ?_ _ | refine Zag ?_ | refine Zaf ?_ _)); refine Zbc ?_ NB219_229.out _; (with_reducible repeat (first | refine blk_drewN ?_ _ | refine Zag ?_ | refine Zaf ?_ _)); refine Zbc ?_ NB219_229.out _; (with_reducible repeat (first | refine blk_drewN ?_ _ | refine Zag ?_ | refine Zaf ?_ _)); exact BK219.out⟩
    have n4_ : Za (((w28.setCell ⟨gb229, 0, none⟩ (.string ((Zbg l0_0 x27_1).f0))).setCell ⟨gb229, 1, none⟩ (.slice A228_1 ((Zbg l0_0 x27_1).f1).length c228_1)).heap[gb220]? = some (.cells #[.slice none 0 0, .slice none 0 0, .int .i64 0, .slice none 0 0, .slice none 0 0] 28 (0, 0))) := ⟨by (with_reducible repeat (first | refine blk_drewN ?_ _ | refine Zag ?_ | refine Zaf ?_ _)); refine Zbc ?_ NB220_229.out _; (with_reducible repeat (first | refine blk_drewN ?_ _ | refine Zag ?_ | refine Zaf ?_ _)); refine Zbc ?_ NB220_229.out _; (with_reducible repeat (first | refine blk_drewN ?_ _ | refine Zag ?_ | refine Zaf ?_ _)); exact BK220.out⟩
    have n5_ : Za (((w28.setCell ⟨gb229, 0, none⟩ (.string ((Zbg l0_0 x27_1).f0))).setCell ⟨gb229, 1, none⟩ (.slice A228_1 ((Zbg l0_0 x27_1).f1).length c228_1)).heap[gb227]? = some (.cells #[u228000, .slice none 0 0, .int .i64 a0_2, .slice Ao14 t221.length co14, .slice Ao13 t224.length co13] 28 (0, 0))) := ⟨by (with_reducible repeat (first | refine blk_drewN ?_ _ | refine Zag ?_ | refine Zaf ?_ _)); refine Zbc ?_ NB227_229.out _; (with_reducible repeat (first | refine blk_drewN ?_ _ | refine Zag ?_ | refine Zaf ?_ _)); refine Zbc ?_ NB227_229.out _; (with_reducible repeat (first | refine blk_drewN ?_ _ | refine Zag ?_ | refine Zaf ?_ _)); exact BK227.out⟩
    have n6_ : Za (((w28.setCell ⟨gb229, 0, none⟩ (.string ((Zbg l0_0 x27_1).f0))).setCell ⟨gb229, 1, none⟩ (.slice A228_1 ((Zbg l0_0 x27_1).f1).length c228_1)).heap[gb229]? = some (.cells #[.string ((Zbg l0_0 x27_1).f0), .slice A228_1 ((Zbg l0_0 x27_1).f1).length c228_1] 50 (0, 0))) := ⟨by (with_reducible repeat (first | refine blk_drewN ?_ _ | refine Zag ?_ | refine Zaf ?_ _)); refine Zax (cs := #[.string ((Zbg l0_0 x27_1).f0), .slice none 0 0]) ?_ 1 _ rfl; (with_reducible repeat (first | refine blk_drewN ?_ _ | refine Zag ?_ | refine Zaf ?_ _)); refine Zax (cs := #[.string (⟨#[]⟩ : ByteArray), .slice none 0 0]) ?_ 0 _ rfl; (with_reducible repeat (first | refine blk_drewN ?_ _ | refine Zag ?_ | refine Zaf ?_ _)); exact BK229.out⟩
    have n7_ : Za (Below w.heap.size w ((w28.setCell ⟨gb229, 0, none⟩ (.string ((Zbg l0_0 x27_1).f0))).setCell ⟨gb229, 1, none⟩ (.slice A228_1 ((Zbg l0_0 x27_1).f1).length c228_1))) := ⟨by repeat (first | (with_reducible first | exact HB.out | apply Zab | apply Zaa | apply Zac | refine Zae ?_ GE219.out | refine Zae ?_ GE220.out | refine Zae ?_ GE227.out | refine Zae ?_ GE229.out) | exact HB.out)⟩
    (try clear HO_228000)
    (try clear HO_228003)
    (try clear HO_228004)
    (try clear BK219)
    (try clear BK220)
    (try clear BK227)
    (try clear BK229)
    (try clear HB)
    generalize ((w28.setCell ⟨gb229, 0, none⟩ (.string ((Zbg l0_0 x27_1).f0))).setCell ⟨gb229, 1, none⟩ (.slice A228_1 ((Zbg l0_0 x27_1).f1).length c228_1)) = w33 at n0_ n1_ n2_ n3_ n4_ n5_ n6_ n7_ ⊢
    have HO_228000 := n0_
    have HO_228003 := n1_
    have HO_228004 := n2_
    have BK219 := n3_
    have BK220 := n4_
    have BK227 := n5_
    have BK229 := n6_
    have HB := n7_
    clear n0_ n1_ n2_ n3_ n4_ n5_ n6_ n7_
    have n0_ := Za.mk (Kd.Zb0 HO_228000.out)
    have n1_ := Za.mk (Kd.Zay HO_228003.out)
    have n2_ := Za.mk (Kd.Zay HO_228004.out)
    have n3_ := Za.mk (Zag BK219.out)
    have n4_ := Za.mk (Zag BK220.out)
    have n5_ := Za.mk (Zag BK227.out)
    have n6_ := Za.mk (Zag BK229.out)
    have n7_ := Za.mk (Zac HB.out)
    clear HO_228000
    clear HO_228003
    clear HO_228004
    clear BK219
    clear BK220
    clear BK227
    clear BK229
    clear HB
    have HO_228000 := n0_
    have HO_228003 := n1_
    have HO_228004 := n2_
    have BK219 := n3_
    have BK220 := n4_
    have BK227 := n5_
    have BK229 := n6_
    have HB := n7_
    clear n0_ n1_ n2_ n3_ n4_ n5_ n6_ n7_
    refine Zd0 (n := 12) (S := fun w' => w'.cell? ⟨gb227, 0, none⟩ = some (u228000) ∧ w'.cell? ⟨gb227, 1, none⟩ = some (.slice none 0 0) ∧ w'.cell? ⟨gb227, 2, none⟩ = some (.int .i64 a0_2) ∧ w'.cell? ⟨gb227, 3, none⟩ = some (.slice Ao14 t221.length co14) ∧ w'.cell? ⟨gb227, 4, none⟩ = some (.slice Ao13 t224.length co13) ∧ w'.cell? ⟨gb229, 0, none⟩ = some (.string ((Zbg l0_0 x27_1).f0)) ∧ w'.cell? ⟨gb229, 1, none⟩ = some (.slice A228_1 ((Zbg l0_0 x27_1).f1).length c228_1)) (ds := [11]) #[false, false, false, false, false, false, false, false, false, false, false, false] (by kernel_rfl) rfl rfl ⟨(Zah BK227.out 0).trans rfl, (Zah BK227.out 1).trans rfl, (Zah BK227.out 2).trans rfl, (Zah BK227.out 3).trans rfl, (Zah BK227.out 4).trans rfl, (Zah BK229.out 0).trans rfl, (Zah BK229.out 1).trans rfl⟩ (fun hHeld => ?_); refine Zcu Za1.tab5 Za1.bits5 (fun HT_ HW_ => ?_)
    generalize w33.drew = w34 at HO_228000 HO_228003 HO_228004 BK219 BK220 BK227 BK229 HB hHeld ⊢
    refine Za0 (i := 0) (N := some 31) (v := ?_) (a' := ?_) #[true, false, false, false, false, false, false, false, false, false, false, false] rfl rfl (Zal HT_.out (by kernel_rfl)) (fun _ _ _ h => h) (Or.inl ⟨by rfl, ?_⟩) ?_ ?_
    rotate_left
    ·intro w'
     go_simp
     with_reducible rfl
    rotate_left
    ·simp only [Act.put, List.setIfInBounds_toArray, List.set_cons_zero, List.set_cons_succ, Zas, Zat]
     rfl
    refine Za0 (i := 2) (N := some 33) (v := ?_) (a' := ?_) #[true, false, true, false, false, false, false, false, false, false, false, false] rfl rfl (Zal HT_.out (by kernel_rfl)) (fun _ _ _ h => h) (Or.inl ⟨by rfl, ?_⟩) ?_ ?_
    rotate_left
    ·intro w'
     go_simp
     with_reducible rfl
    rotate_left
    ·simp only [Act.put, List.setIfInBounds_toArray, List.set_cons_zero, List.set_cons_succ, Zas, Zat]
     rfl
    refine Za0 (i := 4) (N := some 35) (v := ?_) (a' := ?_) #[true, false, true, false, true, false, false, false, false, false, false, false] rfl rfl (Zal HT_.out (by kernel_rfl)) (fun _ _ _ h => h) (Or.inl ⟨by rfl, ?_⟩) ?_ ?_
    rotate_left
    ·intro w'
     go_simp
     with_reducible rfl
    rotate_left
    ·simp only [Act.put, List.setIfInBounds_toArray, List.set_cons_zero, List.set_cons_succ, Zas, Zat]
     rfl
    refine Zcl (i := 1) (N := some 32) (v := ?_) (a' := ?_) #[true, true, true, false, true, false, false, false, false, false, false, false] rfl rfl (Zbj HT_.out HW_.out (by kernel_rfl)) (fun _ _ _ h => h) (Or.inl ⟨by rfl, ?_⟩) hHeld ?_ ?_
    rotate_left
    ·rintro w' ⟨s0, s1, s2, s3, s4, s5, s6⟩
     go_simp
     with_reducible rfl
    rotate_left
    ·simp only [Act.put, List.setIfInBounds_toArray, List.set_cons_zero, List.set_cons_succ, Zas, Zat]
     rfl
    refine Zcl (i := 3) (N := some 34) (v := ?_) (a' := ?_) #[true, true, true, true, true, false, false, false, false, false, false, false] rfl rfl (Zbj HT_.out HW_.out (by kernel_rfl)) (fun _ _ _ h => h) (Or.inl ⟨by rfl, ?_⟩) hHeld ?_ ?_
    rotate_left
    ·rintro w' ⟨s0, s1, s2, s3, s4, s5, s6⟩
     go_simp
     with_reducible rfl
    rotate_left
    ·simp only [Act.put, List.setIfInBounds_toArray, List.set_cons_zero, List.set_cons_succ, Zas, Zat]
     rfl
    refine Zcl (i := 5) (N := some 36) (v := ?_) (a' := ?_) #[true, true, true, true, true, true, false, false, false, false, false, false] rfl rfl (Zbj HT_.out HW_.out (by kernel_rfl)) (fun _ _ _ h => h) (Or.inl ⟨by rfl, ?_⟩) hHeld ?_ ?_
    rotate_left
    ·rintro w' ⟨s0, s1, s2, s3, s4, s5, s6⟩
     go_simp
     with_reducible rfl
    rotate_left
    ·simp only [Act.put, List.setIfInBounds_toArray, List.set_cons_zero, List.set_cons_succ, Zas, Zat]
     rfl
    refine one_ (i := 6) (N := some 37) #[true, true, true, true, true, true, true, false, false, false, false, false] rfl rfl (Zb6 HT_.out (by kernel_rfl)) (by decide) (fun K hK => ?_)
    refine Zc2 Try.func48 (by kernel_rfl) rfl #[.slice A228_1 ((Zbg l0_0 x27_1).f1).length c228_1] (by rfl) rfl rfl (by (try simp only [List.map_toArray, List.map_cons, List.map_nil]); first | done | rfl | (simp only [List.length_drop, List.length_take]; rfl)) ?_
    with_reducible refine (cloneR.calls _ _ ((Zbg l0_0 x27_1).f1) t230 _ ?side1 ?side2 A26.out).mono ?_
    (case side1 => repeat (first | exact (Kd.Zak HR228_1.out HB.out) | (with_reducible refine Kd.C_alloc ?_ _) | (with_reducible refine Kd.C_drewN ?_ _) | (with_reducible refine Kd.C_drew ?_)))
    (case side2 => exact HC228_1.out)
    rintro e w35 ⟨v231, rfl, ho0, hb⟩
    refine ⟨_, rfl, ?_⟩
    have n0_ := Za.mk (Kd.S_elder' (by (with_reducible repeat (first | apply Kd.Zbr | apply Kd.Zbs | apply Kd.Zb0)); exact HO_228000.out) (Kd.Zch ho0) hb)
    have n1_ := Za.mk (Kd.Zbi (by (with_reducible repeat (first | apply Kd.Zaq | apply Kd.Zar | apply Kd.Zay)); exact HO_228003.out) hb)
    have n2_ := Za.mk (Kd.Zbi (by (with_reducible repeat (first | apply Kd.Zaq | apply Kd.Zar | apply Kd.Zay)); exact HO_228004.out) hb)
    have n3_ := Za.mk (Kd.Zbq ho0 (Zaj (by repeat (first | (with_reducible first | exact HB.out | apply Zab | apply Zaa | apply Zac | refine Zae ?_ GE219.out | refine Zae ?_ GE220.out | refine Zae ?_ GE227.out | refine Zae ?_ GE229.out) | exact HB.out))))
    have n4_ := Za.mk (Zau (g := gb219) (o := .cells #[.slice (some ad228) l0_0.length c0_0, .slice A0_1 l0_1.length c0_1, .int .i64 a0_2, .slice A0_3 l0_3.length c0_3, .slice A0_4 l0_4.length c0_4] 28 (0, 0)) (by (with_reducible repeat (first | refine blk_drewN ?_ _ | refine Zag ?_ | refine Zaf ?_ _)); exact BK219.out) hb)
    have n5_ := Za.mk (Zau (g := gb220) (o := .cells #[.slice none 0 0, .slice none 0 0, .int .i64 0, .slice none 0 0, .slice none 0 0] 28 (0, 0)) (by (with_reducible repeat (first | refine blk_drewN ?_ _ | refine Zag ?_ | refine Zaf ?_ _)); exact BK220.out) hb)
    have n6_ := Za.mk (Zau (g := gb227) (o := .cells #[u228000, .slice none 0 0, .int .i64 a0_2, .slice Ao14 t221.length co14, .slice Ao13 t224.length co13] 28 (0, 0)) (by (with_reducible repeat (first | refine blk_drewN ?_ _ | refine Zag ?_ | refine Zaf ?_ _)); exact BK227.out) hb)
    have n7_ := Za.mk (Zau (g := gb229) (o := .cells #[.string ((Zbg l0_0 x27_1).f0), .slice A228_1 ((Zbg l0_0 x27_1).f1).length c228_1] 50 (0, 0)) (by (with_reducible repeat (first | refine blk_drewN ?_ _ | refine Zag ?_ | refine Zaf ?_ _)); exact BK229.out) hb)
    have n8_ := Za.mk (Zad (by repeat (first | (with_reducible first | exact HB.out | apply Zab | apply Zaa | apply Zac | refine Zae ?_ GE219.out | refine Zae ?_ GE220.out | refine Zae ?_ GE227.out | refine Zae ?_ GE229.out) | exact HB.out)) hb)
    clear HO_228000
    clear HO_228003
    clear HO_228004
    clear BK219
    clear BK220
    clear BK227
    clear BK229
    clear HB
    have HO_228000 := n0_
    have HO_228003 := n1_
    have HO_228004 := n2_
    have HO232 := n3_
    have BK219 := n4_
    have BK220 := n5_
    have BK227 := n6_
    have BK229 := n7_
    have HB := n8_
    clear n0_ n1_ n2_ n3_ n4_ n5_ n6_ n7_ n8_
    (try clear hb)
    (try clear hb2)
    (try clear hk)
    (try clear hi)
    (try clear ho0)
    obtain ⟨Ao36, co36, eo36⟩ := Kd.Za9 HO232.out
    (first | subst eo36 | (injection eo36 with f1_ f2_ f3_; have f4_ := f1_.symm; have f5_ := f3_.symm; clear f1_ f2_ f3_; subst f4_; subst f5_))
    refine hK.out _ _ ⟨(Zah BK227.out 0).trans rfl, (Zah BK227.out 1).trans rfl, (Zah BK227.out 2).trans rfl, (Zah BK227.out 3).trans rfl, (Zah BK227.out 4).trans rfl, (Zah BK229.out 0).trans rfl, (Zah BK229.out 1).trans rfl⟩ (fun hHeld => ?_)
    clear hK K
    refine Zcg (a' := ?_) ?_ ?_
    rotate_left
    ·show Act.put _ (some 37) _ = _
     simp only [Act.put, List.setIfInBounds_toArray, List.set_cons_zero, List.set_cons_succ, Zas, Zat]
     rfl
    refine Za0 (i := 7) (N := some 38) (v := ?_) (a' := ?_) #[true, true, true, true, true, true, true, true, false, false, false, false] rfl rfl (Zal HT_.out (by kernel_rfl)) (fun _ _ _ h => h) (Or.inl ⟨by rfl, ?_⟩) ?_ ?_
    rotate_left
    ·intro w'
     go_simp
     with_reducible rfl
    rotate_left
    ·simp only [Act.put, List.setIfInBounds_toArray, List.set_cons_zero, List.set_cons_succ, Zas, Zat]
     rfl
    refine one_ (i := 8) (N := some 39) #[true, true, true, true, true, true, true, true, true, false, false, false] rfl rfl (Zb6 HT_.out (by kernel_rfl)) (by decide) (fun K hK => ?_)
    refine value_ (w1 := ?_) (v := ?_) (by rfl) rfl ?_ ?_
    rotate_left 2
    ·go_simp
     constructor
     ·rfl
     rfl
    refine hK.out _ _ ⟨(Zah (Zaf BK227.out _) 0).trans rfl, (Zah (Zaf BK227.out _) 1).trans rfl, (Zah (Zaf BK227.out _) 2).trans rfl, (Zah (Zaf BK227.out _) 3).trans rfl, (Zah (Zaf BK227.out _) 4).trans rfl, (Zah (Zaf BK229.out _) 0).trans rfl, (Zah (Zaf BK229.out _) 1).trans rfl⟩ (fun hHeld => ?_)
    clear hK K
    refine Zcg (a' := ?_) ?_ ?_
    rotate_left
    ·show Act.put _ (some 39) _ = _
     simp only [Act.put, List.setIfInBounds_toArray, List.set_cons_zero, List.set_cons_succ, Zas, Zat]
     rfl
    refine one_ (i := 9) (N := some 40) #[true, true, true, true, true, true, true, true, true, true, false, false] rfl rfl (Zb6 HT_.out (by kernel_rfl)) (by decide) (fun K hK => ?_)
    refine Kd.S_append_step k50 (w0 := w) w.heap.size (by rfl) (.tmp 32) (.tmp 39) 22 50 (.agg #[(.string ⟨#[]⟩), (.slice none 0 0)]) 40 rfl Try.underlying22 info50 rfl (by decide) (by omega) u228000 x228000_1 (⟨(Zbg l0_0 x27_1).f0, t230⟩ : S50) [.string ((Zbg l0_0 x27_1).f0), .slice Ao36 t230.length co36] (fun k_ => k_ ≠ gb229) (fun k_ => some k_ = (.slice Ao36 t230.length co36 : Value).ownBlock) rfl rfl ?aP (fun k_ hk_ => ((Kd.Za7 (ok' := fun k_ => ((fun k_ => k_ ≠ gb229)) k_ ∧ some k_ ≠ (u228000 : Value).ownBlock) (Kd.Zbd (Kd.Zc (HO232.out) (Kd.Zc4 HO_228000.out) (by decide)) BK229.out (by decide)) (fun k_ hk => ⟨hk.2, hk.1.2⟩))).1 k_ hk_.symm) ?aF ?aO ?aB ?aS ?aL ?_
    (case aP => exact k50_mkM _ _ _ (⟨(Zbg l0_0 x27_1).f0, t230⟩ : S50) (Kd.Za7 (Kd.Zcz rfl (Kd.Za7 (ok' := fun k_ => ((fun k_ => k_ ≠ gb229)) k_ ∧ some k_ ≠ (u228000 : Value).ownBlock) (Kd.Zbd (Kd.Zc (HO232.out) (Kd.Zc4 HO_228000.out) (by decide)) BK229.out (by decide)) (fun k_ hk => ⟨hk.2, hk.1.2⟩))) (fun _ h_ => h_)))
    (case aB => exact (by repeat (first | (with_reducible first | exact HB.out | apply Zab | apply Zaa | apply Zac | refine Zae ?_ GE219.out | refine Zae ?_ GE220.out | refine Zae ?_ GE227.out | refine Zae ?_ GE229.out) | exact HB.out)))
    (case aF => exact (fun k_ hk => Kd.freshB (g := gb229) (o := .cells #[.string ((Zbg l0_0 x27_1).f0), .slice A228_1 ((Zbg l0_0 x27_1).f1).length c228_1] 50 (0, 0)) (by (with_reducible repeat (first | refine blk_drewN ?_ _ | refine Zag ?_ | refine Zaf ?_ _)); exact BK229.out) k_ hk))
    (case aO => exact (by (with_reducible repeat (first | apply Kd.Zbr | apply Kd.Zbs | apply Kd.Zb0)); exact Kd.Zdd HO_228000.out (fun k_ hk => ⟨hk.1, fun e_ => hk.2 e_⟩)))
    (case aS => exact (Zaj (by repeat (first | (with_reducible first | exact HB.out | apply Zab | apply Zaa | apply Zac | refine Zae ?_ GE219.out | refine Zae ?_ GE220.out | refine Zae ?_ GE227.out | refine Zae ?_ GE229.out) | exact HB.out))))
    (case aL => have := LMc27.out; omega)
    intro v234 w37 ho hb hg hat
    rw [← Ny233.out] at ho
    have n0_ := Za.mk (Kd.Zdn (by (with_reducible repeat (first | apply Kd.Zaq | apply Kd.Zar | apply Kd.Zay)); exact HO_228003.out) (Kd.Zc4 (by (with_reducible repeat (first | apply Kd.Zbr | apply Kd.Zbs | apply Kd.Zb0)); exact HO_228000.out)) (by decide) hg)
    have n1_ := Za.mk (Kd.Zdn (by (with_reducible repeat (first | apply Kd.Zaq | apply Kd.Zar | apply Kd.Zay)); exact HO_228004.out) (Kd.Zc4 (by (with_reducible repeat (first | apply Kd.Zbr | apply Kd.Zbs | apply Kd.Zb0)); exact HO_228000.out)) (by decide) hg)
    have n2_ := Za.mk (Zb1 (g := gb219) (o := .cells #[.slice (some ad228) l0_0.length c0_0, .slice A0_1 l0_1.length c0_1, .int .i64 a0_2, .slice A0_3 l0_3.length c0_3, .slice A0_4 l0_4.length c0_4] 28 (0, 0)) (by (with_reducible repeat (first | refine blk_drewN ?_ _ | refine Zag ?_ | refine Zaf ?_ _)); exact BK219.out) hg (Kd.S_ne HO_228000.out BK219.out (by decide)))
    have n3_ := Za.mk (Zb1 (g := gb220) (o := .cells #[.slice none 0 0, .slice none 0 0, .int .i64 0, .slice none 0 0, .slice none 0 0] 28 (0, 0)) (by (with_reducible repeat (first | refine blk_drewN ?_ _ | refine Zag ?_ | refine Zaf ?_ _)); exact BK220.out) hg (Kd.S_ne HO_228000.out BK220.out (by decide)))
    have n4_ := Za.mk (Zb1 (g := gb227) (o := .cells #[u228000, .slice none 0 0, .int .i64 a0_2, .slice Ao14 t221.length co14, .slice Ao13 t224.length co13] 28 (0, 0)) (by (with_reducible repeat (first | refine blk_drewN ?_ _ | refine Zag ?_ | refine Zaf ?_ _)); exact BK227.out) hg (Kd.S_ne HO_228000.out BK227.out (by decide)))
    have n5_ := Za.mk (Zb1 (g := gb229) (o := .cells #[.string ((Zbg l0_0 x27_1).f0), .slice A228_1 ((Zbg l0_0 x27_1).f1).length c228_1] 50 (0, 0)) (by (with_reducible repeat (first | refine blk_drewN ?_ _ | refine Zag ?_ | refine Zaf ?_ _)); exact BK229.out) hg (Kd.S_away HO_228000.out (fun _ hk => hk.1)))
    have n6_ := Za.mk (hb)
    have n7_ := Za.mk (ho)
    clear HO_228003
    clear HO_228004
    clear BK219
    clear BK220
    clear BK227
    clear BK229
    clear HB
    clear HO_228000
    clear HO232
    have HO_228003 := n0_
    have HO_228004 := n1_
    have BK219 := n2_
    have BK220 := n3_
    have BK227 := n4_
    have BK229 := n5_
    have HB := n6_
    have HO235 := n7_
    clear n0_ n1_ n2_ n3_ n4_ n5_ n6_ n7_
    clear ho hb hg hat
    obtain ⟨Ao38, co38, eo38⟩ := Kd.S_slice HO235.out
    (first | subst eo38 | (injection eo38 with f1_ f2_ f3_; have f4_ := f1_.symm; have f5_ := f3_.symm; clear f1_ f2_ f3_; subst f4_; subst f5_))
    refine hK.out _ _ ⟨(Zah BK227.out 0).trans rfl, (Zah BK227.out 1).trans rfl, (Zah BK227.out 2).trans rfl, (Zah BK227.out 3).trans rfl, (Zah BK227.out 4).trans rfl, (Zah BK229.out 0).trans rfl, (Zah BK229.out 1).trans rfl⟩ (fun hHeld => ?_)
    clear hK K
    refine Zcg (a' := ?_) ?_ ?_
    rotate_left
    ·show Act.put _ (some 40) _ = _
     simp only [Act.put, List.setIfInBounds_toArray, List.set_cons_zero, List.set_cons_succ, Zas, Zat]
     rfl
    refine Za0 (i := 10) (N := some 41) (v := ?_) (a' := ?_) #[true, true, true, true, true, true, true, true, true, true, true, false] rfl rfl (Zal HT_.out (by kernel_rfl)) (fun _ _ _ h => h) (Or.inl ⟨by rfl, ?_⟩) ?_ ?_
    rotate_left
    ·intro w'
     go_simp
     with_reducible rfl
    rotate_left
    ·simp only [Act.put, List.setIfInBounds_toArray, List.set_cons_zero, List.set_cons_succ, Zas, Zat]
     rfl
    refine last_ (i := 11) (N := none) #[true, true, true, true, true, true, true, true, true, true, true, true] rfl rfl (Zb6 HT_.out (by kernel_rfl)) (by decide) (fun K hK => ?_)
    have hs39 : w37.cell? ⟨gb227, 0, none⟩ = some (u228000) := (Zah BK227.out 0).trans rfl
    have hfs39 := Zap BK227.out 0
    have hns39_0 := NB219_227.out
    have hns39_1 := NB220_227.out
    have hns39_3 := NB229_227.out
    have hms39_0 := NB227_219.out
    have hms39_1 := NB227_220.out
    have hms39_3 := NB227_229.out
    refine skip_ (w1 := ?_) (by rfl) rfl ?_ ?_
    rotate_left
    ·go_simp
     rfl
    refine hK.out _ _ ?_
    clear hK K
    refine Ze4 (Zdl HT_.out (by kernel_rfl)) ?_
    try go_wp2
    go_roundg k1
    case measure => have := HK1.out; omega
    case rel => exact ⟨(wrap64 (x27_1 + 1)), (y233), (.slice Ao38 y233.length co38), (by first | rfl | (simp; done) | (simp [*]; done)), H', ⟨by have := HK1.out; omega⟩, ⟨by (with_reducible repeat (first | apply Kd.Zbr | apply Kd.Zbs | apply Kd.Zb0)); exact Kd.Zdd (Kd.Zdi (p := ⟨gb227, 0, none⟩) (Kd.Zdt HO235.out BK227.out (by decide)) (fun _ hk => hk.2) (.slice Ao38 y233.length co38)) (fun _ hk => trivial)⟩, ⟨by (with_reducible repeat (first | apply Kd.Zaq | apply Kd.Zar | apply Kd.Zay)); exact Kd.Za7 (Kd.Zb (p := ⟨gb227, 0, none⟩) (Kd.Zbd HO_228003.out BK227.out (by decide)) (fun _ hk => hk.2) (.slice Ao38 y233.length co38)) (fun _ hk => hk.1)⟩, ⟨by (with_reducible repeat (first | apply Kd.Zaq | apply Kd.Zar | apply Kd.Zay)); exact Kd.Za7 (Kd.Zb (p := ⟨gb227, 0, none⟩) (Kd.Zbd HO_228004.out BK227.out (by decide)) (fun _ hk => hk.2) (.slice Ao38 y233.length co38)) (fun _ hk => hk.1)⟩, ⟨by (with_reducible repeat (first | refine blk_drewN ?_ _ | refine Zag ?_ | refine Zaf ?_ _)); refine Zbc ?_ NB219_227.out _; (with_reducible repeat (first | refine blk_drewN ?_ _ | refine Zag ?_ | refine Zaf ?_ _)); exact BK219.out⟩, ⟨by (with_reducible repeat (first | refine blk_drewN ?_ _ | refine Zag ?_ | refine Zaf ?_ _)); refine Zbc ?_ NB220_227.out _; (with_reducible repeat (first | refine blk_drewN ?_ _ | refine Zag ?_ | refine Zaf ?_ _)); exact BK220.out⟩, ⟨by (with_reducible repeat (first | refine blk_drewN ?_ _ | refine Zag ?_ | refine Zaf ?_ _)); refine Zax (cs := #[u228000, .slice none 0 0, .int .i64 a0_2, .slice Ao14 t221.length co14, .slice Ao13 t224.length co13]) ?_ 0 _ rfl; (with_reducible repeat (first | refine blk_drewN ?_ _ | refine Zag ?_ | refine Zaf ?_ _)); exact BK227.out⟩, ⟨by repeat (first | (with_reducible first | exact HB.out | apply Zab | apply Zaa | apply Zac | refine Zae ?_ GE219.out | refine Zae ?_ GE220.out | refine Zae ?_ GE227.out | refine Zae ?_ GE229.out) | exact HB.out)⟩⟩
   rw [if_neg c23] at H
   have c23b0 : decide (x27_1 < (l0_0.length : Int)) = false := decide_eq_false c23
   clear c23
   have H' := Za.mk H
   clear H
   have hnb40 := NB219_220.out
   have hnc40 := NB220_219.out
   have hnb41 := NB219_227.out
   have hnc41 := NB227_219.out
   obtain ⟨hcz42_0, hcz42_1, hcz42_2, hcz42_3, hcz42_4, hfz42_0, hfz42_1, hfz42_2, hfz42_3, hfz42_4⟩ := blks5 BK219.out
   go_wp2
   go_loopg [46] k1 (fun kq v46 w' => ∃ (x46_2 : Int) (x228001_2 : List (S31)) (u228001 : Value), v46 = .int .i64 x46_2 ∧ Za (Za1.l1 kq l0_1 (l0_1.length : Int) x46_2 x228000_1 x228001_2 a0_2 t221 t224 = some (r1, r2, r3, r4, r5)) ∧ Za (kq ≤ k1) ∧ Za (Kd.S k50 50 w' w.heap.size (fun _ => True) u228000 x228000_1) ∧ Za (Kd.R k31 31 w' w.heap.size (fun k_ => some k_ ≠ ((.slice Ao14 t221.length co14) : Value).ownBlock ∧ some k_ ≠ ((.slice Ao13 t224.length co13) : Value).ownBlock) u228001 x228001_2) ∧ Za (Kd.R (Kd.int .i64) 3 w' w.heap.size (fun k_ => some k_ ≠ ((.slice Ao13 t224.length co13) : Value).ownBlock) (.slice Ao14 t221.length co14) t221) ∧ Za (Kd.R (Kd.int .i64) 3 w' w.heap.size (fun k_ => some k_ ≠ ((.slice Ao14 t221.length co14) : Value).ownBlock) (.slice Ao13 t224.length co13) t224) ∧ Za (w'.heap[gb219]? = some (.cells #[(.slice A0_0 l0_0.length c0_0), (.slice A0_1 l0_1.length c0_1), .int .i64 a0_2, (.slice A0_3 l0_3.length c0_3), (.slice A0_4 l0_4.length c0_4)] 28 (0, 0))) ∧ Za (w'.heap[gb220]? = some (.cells #[(.slice none 0 0), (.slice none 0 0), .int .i64 0, (.slice none 0 0), (.slice none 0 0)] 28 (0, 0))) ∧ Za (w'.heap[gb227]? = some (.cells #[u228000, u228001, .int .i64 a0_2, (.slice Ao14 t221.length co14), (.slice Ao13 t224.length co13)] 28 (0, 0))) ∧ Za (Below w.heap.size w w'))
   case atStart => exact ⟨(0), (([] : List (S31))), (.slice none 0 0), (by first | rfl | (simp; done) | (simp [*]; done)), H', ⟨Nat.le_refl _⟩, ⟨by (with_reducible repeat (first | apply Kd.Zbr | apply Kd.Zbs | apply Kd.Zb0)); exact HO_228000.out⟩, ⟨by first | exact Kd.Ze2 _ _ _ _ _ | exact Kd.N_nil _ _ _ _ _ | exact Kd.Zd2 _ _ _ _ _ | exact Kd.Q_nil _ _ _ _ _ | exact Kd.S_nil _ _ _ _ _⟩, ⟨by (with_reducible repeat (first | apply Kd.Zaq | apply Kd.Zar | apply Kd.Zay)); exact HO_228003.out⟩, ⟨by (with_reducible repeat (first | apply Kd.Zaq | apply Kd.Zar | apply Kd.Zay)); exact HO_228004.out⟩, ⟨by (with_reducible repeat (first | refine blk_drewN ?_ _ | refine Zag ?_ | refine Zaf ?_ _)); exact BK219.out⟩, ⟨by (with_reducible repeat (first | refine blk_drewN ?_ _ | refine Zag ?_ | refine Zaf ?_ _)); exact BK220.out⟩, ⟨by (with_reducible repeat (first | refine blk_drewN ?_ _ | refine Zag ?_ | refine Zaf ?_ _)); exact BK227.out⟩, ⟨by repeat (first | (with_reducible first | exact HB.out | apply Zab | apply Zaa | apply Zac | refine Zae ?_ GE219.out | refine Zae ?_ GE220.out | refine Zae ?_ GE227.out) | exact HB.out)⟩⟩
   case round =>
    clear H'
    try clear c2
    try clear p2
    try clear q2
    try clear hx2
    try clear c3
    try clear c4
    try clear p6
    try clear c20
    try clear c21
    try clear c22
    try clear p22
    try clear q22
    try clear hx22
    try clear c23
    try clear c23b0
    try clear c24
    try clear c24b0
    try clear c25
    try clear c25b0
    try clear c27
    try clear c29
    try clear c30
    try clear c31
    try clear c40
    try clear c41
    try clear hcz22_0
    try clear hcz22_1
    try clear hcz22_2
    try clear hcz22_3
    try clear hcz22_4
    try clear hcz32_0
    try clear hcz32_1
    try clear hcz42_0
    try clear hcz42_1
    try clear hcz42_2
    try clear hcz42_3
    try clear hcz42_4
    try clear hfz22_0
    try clear hfz22_1
    try clear hfz22_2
    try clear hfz22_3
    try clear hfz22_4
    try clear hfz32_0
    try clear hfz32_1
    try clear hfz42_0
    try clear hfz42_1
    try clear hfz42_2
    try clear hfz42_3
    try clear hfz42_4
    try clear hx228_0
    try clear hx228_1
    try clear p2
    try clear p228
    try clear q228
    obtain ⟨x46_2, x228001_2, u228001, rfl, HA, HK2, HO_228000, HO_228001, HO_228003, HO_228004, BK219, BK220, BK227, HB⟩ := hrel
    cases gk with
    | zero => exact absurd HA.out (by simp [Za1.l1])
    | succ k2 =>
     have H := HA.out
     clear HA
     simp only [Za1.l1] at H
     by_cases c43 : x46_2 < (l0_1.length : Int)
     rotate_left
     ·rw [if_neg c43] at H
      have c43b0 : decide (x46_2 < (l0_1.length : Int)) = false := decide_eq_false c43
      clear c43
      simp only [Option.some.injEq, Prod.mk.injEq] at H
      obtain ⟨rfl, rfl, rfl, rfl, rfl⟩ := H
      have hnb84 := NB227_219.out
      have hnc84 := NB219_227.out
      have hnb85 := NB227_220.out
      have hnc85 := NB220_227.out
      obtain ⟨hcz86_0, hcz86_1, hcz86_2, hcz86_3, hcz86_4, hfz86_0, hfz86_1, hfz86_2, hfz86_3, hfz86_4⟩ := blks5 BK227.out
      obtain ⟨Ao87, co87, eo87⟩ := Kd.S_slice HO_228000.out
      subst eo87
      have hnb88 := NB220_219.out
      have hnc88 := NB219_220.out
      obtain ⟨hcz89_0, hcz89_1, hcz89_2, hcz89_3, hcz89_4, hfz89_0, hfz89_1, hfz89_2, hfz89_3, hfz89_4⟩ := blks5 BK220.out
      obtain ⟨Ao90, co90, eo90⟩ := Kd.Za9 HO_228001.out
      subst eo90
      go_wp2
      refine bodyPost_ret (results_cell_row rfl _ _ gb220 28 #[.slice Ao87 x228000_1.length co87, .slice Ao90 x228001_2.length co90, .int .i64 a0_2, .slice Ao14 t221.length co14, .slice Ao13 t224.length co13] (0, 0) _ rfl (by (with_reducible repeat (first | refine blk_drewN ?_ _ | refine Zag ?_ | refine Zaf ?_ _)); refine Zax (cs := #[.slice Ao87 x228000_1.length co87, .slice Ao90 x228001_2.length co90, .int .i64 a0_2, .slice Ao14 t221.length co14, .slice none 0 0]) ?_ 4 _ rfl; (with_reducible repeat (first | refine blk_drewN ?_ _ | refine Zag ?_ | refine Zaf ?_ _)); refine Zax (cs := #[.slice Ao87 x228000_1.length co87, .slice Ao90 x228001_2.length co90, .int .i64 a0_2, .slice none 0 0, .slice none 0 0]) ?_ 3 _ rfl; (with_reducible repeat (first | refine blk_drewN ?_ _ | refine Zag ?_ | refine Zaf ?_ _)); refine Zax (cs := #[.slice Ao87 x228000_1.length co87, .slice Ao90 x228001_2.length co90, .int .i64 0, .slice none 0 0, .slice none 0 0]) ?_ 2 _ rfl; (with_reducible repeat (first | refine blk_drewN ?_ _ | refine Zag ?_ | refine Zaf ?_ _)); refine Zax (cs := #[.slice Ao87 x228000_1.length co87, .slice none 0 0, .int .i64 0, .slice none 0 0, .slice none 0 0]) ?_ 1 _ rfl; (with_reducible repeat (first | refine blk_drewN ?_ _ | refine Zag ?_ | refine Zaf ?_ _)); refine Zax (cs := #[.slice none 0 0, .slice none 0 0, .int .i64 0, .slice none 0 0, .slice none 0 0]) ?_ 0 _ rfl; (with_reducible repeat (first | refine blk_drewN ?_ _ | refine Zag ?_ | refine Zaf ?_ _)); exact BK220.out) Try.underlying28 rfl (by kernel_rfl)) rfl ?_
      exact ⟨_, _, _, _, by first | rfl | (simp [Zam, Zan] <;> rfl) | (simp [*, Zam, Zan] <;> rfl), by (with_reducible repeat (first | apply Kd.Zbr | apply Kd.Zbs | apply Kd.Zb0)); exact Kd.Zdd (Kd.Zdi (p := ⟨gb220, 4, none⟩) (Kd.Zdi (p := ⟨gb220, 3, none⟩) (Kd.Zdi (p := ⟨gb220, 2, none⟩) (Kd.Zdi (p := ⟨gb220, 1, none⟩) (Kd.Zdi (p := ⟨gb220, 0, none⟩) (Kd.Zdt HO_228000.out BK220.out (by decide)) (fun _ hk => hk.2) (.slice Ao87 x228000_1.length co87)) (fun _ hk => hk.2) (.slice Ao90 x228001_2.length co90)) (fun _ hk => hk.2) (.int .i64 a0_2)) (fun _ hk => hk.2) (.slice Ao14 t221.length co14)) (fun _ hk => hk.2) (.slice Ao13 t224.length co13)) (fun _ hk => trivial), by (with_reducible repeat (first | apply Kd.Zaq | apply Kd.Zar | apply Kd.Zay)); exact Kd.Za7 (Kd.Zb (p := ⟨gb220, 4, none⟩) (Kd.Zb (p := ⟨gb220, 3, none⟩) (Kd.Zb (p := ⟨gb220, 2, none⟩) (Kd.Zb (p := ⟨gb220, 1, none⟩) (Kd.Zb (p := ⟨gb220, 0, none⟩) (Kd.Zbd HO_228001.out BK220.out (by decide)) (fun _ hk => hk.2) (.slice Ao87 x228000_1.length co87)) (fun _ hk => hk.2) (.slice Ao90 x228001_2.length co90)) (fun _ hk => hk.2) (.int .i64 a0_2)) (fun _ hk => hk.2) (.slice Ao14 t221.length co14)) (fun _ hk => hk.2) (.slice Ao13 t224.length co13)) (fun _ hk => ⟨hk.1.1, hk.1.2⟩), by (with_reducible repeat (first | apply Kd.Zaq | apply Kd.Zar | apply Kd.Zay)); exact Kd.Za7 (Kd.Zb (p := ⟨gb220, 4, none⟩) (Kd.Zb (p := ⟨gb220, 3, none⟩) (Kd.Zb (p := ⟨gb220, 2, none⟩) (Kd.Zb (p := ⟨gb220, 1, none⟩) (Kd.Zb (p := ⟨gb220, 0, none⟩) (Kd.Zbd HO_228003.out BK220.out (by decide)) (fun _ hk => hk.2) (.slice Ao87 x228000_1.length co87)) (fun _ hk => hk.2) (.slice Ao90 x228001_2.length co90)) (fun _ hk => hk.2) (.int .i64 a0_2)) (fun _ hk => hk.2) (.slice Ao14 t221.length co14)) (fun _ hk => hk.2) (.slice Ao13 t224.length co13)) (fun _ hk => hk.1), by (with_reducible repeat (first | apply Kd.Zaq | apply Kd.Zar | apply Kd.Zay)); exact Kd.Za7 (Kd.Zb (p := ⟨gb220, 4, none⟩) (Kd.Zb (p := ⟨gb220, 3, none⟩) (Kd.Zb (p := ⟨gb220, 2, none⟩) (Kd.Zb (p := ⟨gb220, 1, none⟩) (Kd.Zb (p := ⟨gb220, 0, none⟩) (Kd.Zbd HO_228004.out BK220.out (by decide)) (fun _ hk => hk.2) (.slice Ao87 x228000_1.length co87)) (fun _ hk => hk.2) (.slice Ao90 x228001_2.length co90)) (fun _ hk => hk.2) (.int .i64 a0_2)) (fun _ hk => hk.2) (.slice Ao14 t221.length co14)) (fun _ hk => hk.2) (.slice Ao13 t224.length co13)) (fun _ hk => hk.1), by repeat (first | (with_reducible first | exact HB.out | apply Zab | apply Zaa | apply Zac | refine Zae ?_ GE219.out | refine Zae ?_ GE220.out | refine Zae ?_ GE227.out) | exact HB.out)⟩
     rw [if_pos c43] at H
     have c43b0 : decide (x46_2 < (l0_1.length : Int)) = true := decide_eq_true c43
     clear c43
     by_cases c44 : 0 ≤ x46_2
     rotate_left
     ·rw [if_neg c44] at H
      exact absurd H (by simp)
     rw [if_pos c44] at H
     have c44b0 : decide (0 ≤ x46_2) = true := decide_eq_true c44
     clear c44
     by_cases c45 : x46_2 < (l0_1.length : Int)
     rotate_left
     ·rw [if_neg c45] at H
      exact absurd H (by simp)
     rw [if_pos c45] at H
     have c45b0 : decide (x46_2 < (l0_1.length : Int)) = true := decide_eq_true c45
     clear c45
     replace H := Option.bind_eq_some_iff.mp H
     obtain ⟨t238, A460, H⟩ := H
     replace H : ((cloneI.f ((Zai l0_1 x46_2).f2)).bind fun t241 => (Za1.l2 k2 ([] : List (List Int)) l0_1 (l0_1.length : Int) x46_2 ((Zai l0_1 x46_2).f5) (((Zai l0_1 x46_2).f5).length : Int) 0 x228000_1 x228001_2 a0_2 t221 t224 ((Zai l0_1 x46_2).f0) t238 t241 ((Zai l0_1 x46_2).f3) ((Zai l0_1 x46_2).f4) ((Zai l0_1 x46_2).f5) ((Zai l0_1 x46_2).f6))) = some (r1, r2, r3, r4, r5) := H
     have A46 := Za.mk A460
     clear A460
     replace H := Option.bind_eq_some_iff.mp H
     obtain ⟨t241, A470, H⟩ := H
     replace H : (Za1.l2 k2 ([] : List (List Int)) l0_1 (l0_1.length : Int) x46_2 ((Zai l0_1 x46_2).f5) (((Zai l0_1 x46_2).f5).length : Int) 0 x228000_1 x228001_2 a0_2 t221 t224 ((Zai l0_1 x46_2).f0) t238 t241 ((Zai l0_1 x46_2).f3) ((Zai l0_1 x46_2).f4) ((Zai l0_1 x46_2).f5) ((Zai l0_1 x46_2).f6)) = some (r1, r2, r3, r4, r5) := H
     have A47 := Za.mk A470
     clear A470
     have H' := Za.mk H
     clear H
     have p236 : 0 ≤ (x46_2 : Int) := of_decide_eq_true (by first | (with_reducible assumption) | assumption)
     have q236 : x46_2 < (l0_1.length : Int) := of_decide_eq_true (by first | (with_reducible assumption) | assumption)
     obtain ⟨ad236, A236_1, c236_1, A236_2, c236_2, A236_5, c236_5, e236, hx236_0, hx236_1, hx236_2, hx236_3, hx236_4, hx236_5, hx236_6, hl236_1, hi236_1, hl236_2, hi236_2, hl236_5, hi236_5⟩ := at_T31 HR0_1.out x46_2 p236 q236
     cases e236
     replace hx236_0 := (HB.out.cell (World.block_lt_of_cell? w _ hx236_0)).trans hx236_0
     replace hx236_1 := (HB.out.cell (World.block_lt_of_cell? w _ hx236_1)).trans hx236_1
     replace hx236_2 := (HB.out.cell (World.block_lt_of_cell? w _ hx236_2)).trans hx236_2
     replace hx236_3 := (HB.out.cell (World.block_lt_of_cell? w _ hx236_3)).trans hx236_3
     replace hx236_4 := (HB.out.cell (World.block_lt_of_cell? w _ hx236_4)).trans hx236_4
     replace hx236_5 := (HB.out.cell (World.block_lt_of_cell? w _ hx236_5)).trans hx236_5
     replace hx236_6 := (HB.out.cell (World.block_lt_of_cell? w _ hx236_6)).trans hx236_6
     have HR236_1 := Za.mk hi236_1
     have HC236_1 := Za.mk hl236_1
     clear hi236_1 hl236_1
     have HR236_2 := Za.mk hi236_2
     have HC236_2 := Za.mk hl236_2
     clear hi236_2 hl236_2
     have HR236_5 := Za.mk hi236_5
     have HC236_5 := Za.mk hl236_5
     clear hi236_5 hl236_5
     replace p236 := eq_true p236
     replace q236 := eq_true q236
     try go_wp2_with (first | ((with_reducible refine Zaz (N := 7) rfl ?_); refine Za5 ?hg (N := 7) ?hd (cs := #[.int .i64 0, .slice none 0 0, .slice none 0 0, .int .i64 0, .int .i64 0, .slice none 0 0, .int .i64 0]) (t := 31) ?hr ?_; (case hd => rfl); (case hg => rfl); (case hr => first | (go_simp; done) | (go_simp; rfl)); intro gb237 hg w48 hbox hb; have n0_ := Za.mk (Kd.Zdo (by (with_reducible repeat (first | apply Kd.Zbr | apply Kd.Zbs | apply Kd.Zb0)); exact HO_228000.out) hb); have n1_ := Za.mk (Kd.Zbi (Kd.R_elderB (by (with_reducible repeat (first | apply Kd.Zaq | apply Kd.Zar | apply Kd.Zay)); exact HO_228001.out) gb237 (Nat.le_of_eq hg.symm)) hb); have n2_ := Za.mk (Kd.Zbi (by (with_reducible repeat (first | apply Kd.Zaq | apply Kd.Zar | apply Kd.Zay)); exact HO_228003.out) hb); have n3_ := Za.mk (Kd.Zbi (by (with_reducible repeat (first | apply Kd.Zaq | apply Kd.Zar | apply Kd.Zay)); exact HO_228004.out) hb); have n4_ := Za.mk (Zau (g := gb219) (o := .cells #[.slice A0_0 l0_0.length c0_0, .slice (some ad236) l0_1.length c0_1, .int .i64 a0_2, .slice A0_3 l0_3.length c0_3, .slice A0_4 l0_4.length c0_4] 28 (0, 0)) (by (with_reducible repeat (first | refine blk_drewN ?_ _ | refine Zag ?_ | refine Zaf ?_ _)); exact BK219.out) hb); have n5_ := Za.mk (Zau (g := gb220) (o := .cells #[.slice none 0 0, .slice none 0 0, .int .i64 0, .slice none 0 0, .slice none 0 0] 28 (0, 0)) (by (with_reducible repeat (first | refine blk_drewN ?_ _ | refine Zag ?_ | refine Zaf ?_ _)); exact BK220.out) hb); have n6_ := Za.mk (Zau (g := gb227) (o := .cells #[u228000, u228001, .int .i64 a0_2, .slice Ao14 t221.length co14, .slice Ao13 t224.length co13] 28 (0, 0)) (by (with_reducible repeat (first | refine blk_drewN ?_ _ | refine Zag ?_ | refine Zaf ?_ _)); exact BK227.out) hb); have n7_ := Za.mk (Zad (by repeat (first | (with_reducible first | exact HB.out | apply Zab | apply Zaa | apply Zac | refine Zae ?_ GE219.out | refine Zae ?_ GE220.out | refine Zae ?_ GE227.out) | exact HB.out)) hb); have n8_ := Za.mk (hbox); have n9_ := Za.mk ((by rw [hg]; exact (Zaj (by repeat (first | (with_reducible first | exact HB.out | apply Zab | apply Zaa | apply Zac | refine Zae ?_ GE219.out | refine Zae ?_ GE220.out | refine Zae ?_ GE227.out) | exact HB.out))) : w.heap.size ≤ gb237)); have n10_ := Za.mk ((by rw [hg]; exact (Zaj (by repeat (first | (with_reducible first | exact HB.out | apply Zab | apply Zaa | apply Zac | refine Zae ?_ GE219.out | refine Zae ?_ GE220.out | refine Zae ?_ GE227.out) | exact HB.out))) : w.heap.size ≤ gb237)); have n11_ := Za.mk ((by rw [hg]; exact Nat.ne_of_lt (Zbv (g := gb219) (o := .cells #[.slice A0_0 l0_0.length c0_0, .slice (some ad236) l0_1.length c0_1, .int .i64 a0_2, .slice A0_3 l0_3.length c0_3, .slice A0_4 l0_4.length c0_4] 28 (0, 0)) (by (with_reducible repeat (first | refine blk_drewN ?_ _ | refine Zag ?_ | refine Zaf ?_ _)); exact BK219.out)) : gb219 ≠ gb237)); have n12_ := Za.mk ((by rw [hg]; exact Nat.ne_of_gt (Zbv (g := gb219) (o := .cells #[.slice A0_0 l0_0.length c0_0, .slice (some ad236) l0_1.length c0_1, .int .i64 a0_2, .slice A0_3 l0_3.length c0_3, .slice A0_4 l0_4.length c0_4] 28 (0, 0)) (by (with_reducible repeat (first | refine blk_drewN ?_ _ | refine Zag ?_ | refine Zaf ?_ _)); exact BK219.out)) : gb237 ≠ gb219)); have n13_ := Za.mk ((by rw [hg]; exact Nat.ne_of_lt (Zbv (g := gb220) (o := .cells #[.slice none 0 0, .slice none 0 0, .int .i64 0, .slice none 0 0, .slice none 0 0] 28 (0, 0)) (by (with_reducible repeat (first | refine blk_drewN ?_ _ | refine Zag ?_ | refine Zaf ?_ _)); exact BK220.out)) : gb220 ≠ gb237)); have n14_ := Za.mk ((by rw [hg]; exact Nat.ne_of_gt (Zbv (g := gb220) (o := .cells #[.slice none 0 0, .slice none 0 0, .int .i64 0, .slice none 0 0, .slice none 0 0] 28 (0, 0)) (by (with_reducible repeat (first | refine blk_drewN ?_ _ | refine Zag ?_ | refine Zaf ?_ _)); exact BK220.out)) : gb237 ≠ gb220)); have n15_ := Za.mk ((by rw [hg]; exact Nat.ne_of_lt (Zbv (g := gb227) (o := .cells #[u228000, u228001, .int .i64 a0_2, .slice Ao14 t221.length co14, .slice Ao13 t224.length co13] 28 (0, 0)) (by (with_reducible repeat (first | refine blk_drewN ?_ _ | refine Zag ?_ | refine Zaf ?_ _)); exact BK227.out)) : gb227 ≠ gb237)); have n16_ := Za.mk ((by rw [hg]; exact Nat.ne_of_gt (Zbv (g := gb227) (o := .cells #[u228000, u228001, .int .i64 a0_2, .slice Ao14 t221.length co14, .slice Ao13 t224.length co13] 28 (0, 0)) (by (with_reducible repeat (first | refine blk_drewN ?_ _ | refine Zag ?_ | refine Zaf ?_ _)); exact BK227.out)) : gb237 ≠ gb227)); clear HO_228000; clear HO_228001; clear HO_228003; clear HO_228004; clear BK219; clear BK220; clear BK227; clear HB; have HO_228000 := n0_; have HO_228001 := n1_; have HO_228003 := n2_; have HO_228004 := n3_; have BK219 := n4_; have BK220 := n5_; have BK227 := n6_; have HB := n7_; have BK237 := n8_; have GW237 := n9_; have GE237 := n10_; have NB219_237 := n11_; have NB237_219 := n12_; have NB220_237 := n13_; have NB237_220 := n14_; have NB227_237 := n15_; have NB237_227 := n16_; clear n0_ n1_ n2_ n3_ n4_ n5_ n6_ n7_ n8_ n9_ n10_ n11_ n12_ n13_ n14_ n15_ n16_; clear hb hbox hg; have hnb49 := NB237_219.out; have hnc49 := NB219_237.out; have hnb50 := NB237_220.out; have hnc50 := NB220_237.out; have hnb51 := NB237_227.out; have hnc51 := NB227_237.out; obtain ⟨hcz52_0, hcz52_1, hcz52_2, hcz52_3, hcz52_4, hcz52_5, hcz52_6, hfz52_0, hfz52_1, hfz52_2, hfz52_3, hfz52_4, hfz52_5, hfz52_6⟩ := Zc9 BK237.out))
     have n0_ : Za (Kd.S k50 50 (((((((w48.setCell ⟨gb237, 0, none⟩ (.int .i64 ((Zai l0_1 x46_2).f0))).setCell ⟨gb237, 1, none⟩ (.slice A236_1 ((Zai l0_1 x46_2).f1).length c236_1)).setCell ⟨gb237, 2, none⟩ (.slice A236_2 ((Zai l0_1 x46_2).f2).length c236_2)).setCell ⟨gb237, 3, none⟩ (.int .i64 ((Zai l0_1 x46_2).f3))).setCell ⟨gb237, 4, none⟩ (.int .i64 ((Zai l0_1 x46_2).f4))).setCell ⟨gb237, 5, none⟩ (.slice A236_5 ((Zai l0_1 x46_2).f5).length c236_5)).setCell ⟨gb237, 6, none⟩ (.int .i64 ((Zai l0_1 x46_2).f6))) w.heap.size (fun _ => True) u228000 x228000_1) := ⟨by (with_reducible repeat (first | apply Kd.Zbr | apply Kd.Zbs | apply Kd.Zb0)); exact Kd.Zdd (Kd.Zdi (p := ⟨gb237, 6, none⟩) (Kd.Zdi (p := ⟨gb237, 5, none⟩) (Kd.Zdi (p := ⟨gb237, 4, none⟩) (Kd.Zdi (p := ⟨gb237, 3, none⟩) (Kd.Zdi (p := ⟨gb237, 2, none⟩) (Kd.Zdi (p := ⟨gb237, 1, none⟩) (Kd.Zdi (p := ⟨gb237, 0, none⟩) (Kd.Zdt HO_228000.out BK237.out (by decide)) (fun _ hk => hk.2) (.int .i64 ((Zai l0_1 x46_2).f0))) (fun _ hk => hk.2) (.slice A236_1 ((Zai l0_1 x46_2).f1).length c236_1)) (fun _ hk => hk.2) (.slice A236_2 ((Zai l0_1 x46_2).f2).length c236_2)) (fun _ hk => hk.2) (.int .i64 ((Zai l0_1 x46_2).f3))) (fun _ hk => hk.2) (.int .i64 ((Zai l0_1 x46_2).f4))) (fun _ hk => hk.2) (.slice A236_5 ((Zai l0_1 x46_2).f5).length c236_5)) (fun _ hk => hk.2) (.int .i64 ((Zai l0_1 x46_2).f6))) (fun _ hk => trivial)⟩
     have n1_ : Za (Kd.R k31 31 (((((((w48.setCell ⟨gb237, 0, none⟩ (.int .i64 ((Zai l0_1 x46_2).f0))).setCell ⟨gb237, 1, none⟩ (.slice A236_1 ((Zai l0_1 x46_2).f1).length c236_1)).setCell ⟨gb237, 2, none⟩ (.slice A236_2 ((Zai l0_1 x46_2).f2).length c236_2)).setCell ⟨gb237, 3, none⟩ (.int .i64 ((Zai l0_1 x46_2).f3))).setCell ⟨gb237, 4, none⟩ (.int .i64 ((Zai l0_1 x46_2).f4))).setCell ⟨gb237, 5, none⟩ (.slice A236_5 ((Zai l0_1 x46_2).f5).length c236_5)).setCell ⟨gb237, 6, none⟩ (.int .i64 ((Zai l0_1 x46_2).f6))) w.heap.size (fun k_ => some k_ ≠ (.slice Ao14 t221.length co14 : Value).ownBlock ∧ some k_ ≠ (.slice Ao13 t224.length co13 : Value).ownBlock ∧ k_ ≠ gb237) u228001 x228001_2) := ⟨by (with_reducible repeat (first | apply Kd.Zaq | apply Kd.Zar | apply Kd.Zay)); exact Kd.Za7 (Kd.Zb (p := ⟨gb237, 6, none⟩) (Kd.Zb (p := ⟨gb237, 5, none⟩) (Kd.Zb (p := ⟨gb237, 4, none⟩) (Kd.Zb (p := ⟨gb237, 3, none⟩) (Kd.Zb (p := ⟨gb237, 2, none⟩) (Kd.Zb (p := ⟨gb237, 1, none⟩) (Kd.Zb (p := ⟨gb237, 0, none⟩) (Kd.Za7 HO_228001.out (fun k_ hk => (⟨hk, hk.2⟩ : _ ∧ k_ ≠ gb237))) (fun _ hk => hk.2) (.int .i64 ((Zai l0_1 x46_2).f0))) (fun _ hk => hk.2) (.slice A236_1 ((Zai l0_1 x46_2).f1).length c236_1)) (fun _ hk => hk.2) (.slice A236_2 ((Zai l0_1 x46_2).f2).length c236_2)) (fun _ hk => hk.2) (.int .i64 ((Zai l0_1 x46_2).f3))) (fun _ hk => hk.2) (.int .i64 ((Zai l0_1 x46_2).f4))) (fun _ hk => hk.2) (.slice A236_5 ((Zai l0_1 x46_2).f5).length c236_5)) (fun _ hk => hk.2) (.int .i64 ((Zai l0_1 x46_2).f6))) (fun _ hk => ⟨hk.1.1.1, ⟨hk.1.1.2, hk.1.2⟩⟩)⟩
     have n2_ : Za (Kd.R (Kd.int .i64) 3 (((((((w48.setCell ⟨gb237, 0, none⟩ (.int .i64 ((Zai l0_1 x46_2).f0))).setCell ⟨gb237, 1, none⟩ (.slice A236_1 ((Zai l0_1 x46_2).f1).length c236_1)).setCell ⟨gb237, 2, none⟩ (.slice A236_2 ((Zai l0_1 x46_2).f2).length c236_2)).setCell ⟨gb237, 3, none⟩ (.int .i64 ((Zai l0_1 x46_2).f3))).setCell ⟨gb237, 4, none⟩ (.int .i64 ((Zai l0_1 x46_2).f4))).setCell ⟨gb237, 5, none⟩ (.slice A236_5 ((Zai l0_1 x46_2).f5).length c236_5)).setCell ⟨gb237, 6, none⟩ (.int .i64 ((Zai l0_1 x46_2).f6))) w.heap.size (fun k_ => some k_ ≠ (.slice Ao13 t224.length co13 : Value).ownBlock) (.slice Ao14 t221.length co14) t221) := ⟨by (with_reducible repeat (first | apply Kd.Zaq | apply Kd.Zar | apply Kd.Zay)); exact Kd.Za7 (Kd.Zb (p := ⟨gb237, 6, none⟩) (Kd.Zb (p := ⟨gb237, 5, none⟩) (Kd.Zb (p := ⟨gb237, 4, none⟩) (Kd.Zb (p := ⟨gb237, 3, none⟩) (Kd.Zb (p := ⟨gb237, 2, none⟩) (Kd.Zb (p := ⟨gb237, 1, none⟩) (Kd.Zb (p := ⟨gb237, 0, none⟩) (Kd.Zbd HO_228003.out BK237.out (by decide)) (fun _ hk => hk.2) (.int .i64 ((Zai l0_1 x46_2).f0))) (fun _ hk => hk.2) (.slice A236_1 ((Zai l0_1 x46_2).f1).length c236_1)) (fun _ hk => hk.2) (.slice A236_2 ((Zai l0_1 x46_2).f2).length c236_2)) (fun _ hk => hk.2) (.int .i64 ((Zai l0_1 x46_2).f3))) (fun _ hk => hk.2) (.int .i64 ((Zai l0_1 x46_2).f4))) (fun _ hk => hk.2) (.slice A236_5 ((Zai l0_1 x46_2).f5).length c236_5)) (fun _ hk => hk.2) (.int .i64 ((Zai l0_1 x46_2).f6))) (fun _ hk => hk.1)⟩
     have n3_ : Za (Kd.R (Kd.int .i64) 3 (((((((w48.setCell ⟨gb237, 0, none⟩ (.int .i64 ((Zai l0_1 x46_2).f0))).setCell ⟨gb237, 1, none⟩ (.slice A236_1 ((Zai l0_1 x46_2).f1).length c236_1)).setCell ⟨gb237, 2, none⟩ (.slice A236_2 ((Zai l0_1 x46_2).f2).length c236_2)).setCell ⟨gb237, 3, none⟩ (.int .i64 ((Zai l0_1 x46_2).f3))).setCell ⟨gb237, 4, none⟩ (.int .i64 ((Zai l0_1 x46_2).f4))).setCell ⟨gb237, 5, none⟩ (.slice A236_5 ((Zai l0_1 x46_2).f5).length c236_5)).setCell ⟨gb237, 6, none⟩ (.int .i64 ((Zai l0_1 x46_2).f6))) w.heap.size (fun k_ => some k_ ≠ (.slice Ao14 t221.length co14 : Value).ownBlock) (.slice Ao13 t224.length co13) t224) := ⟨by (with_reducible repeat (first | apply Kd.Zaq | apply Kd.Zar | apply Kd.Zay)); exact Kd.Za7 (Kd.Zb (p := ⟨gb237, 6, none⟩) (Kd.Zb (p := ⟨gb237, 5, none⟩) (Kd.Zb (p := ⟨gb237, 4, none⟩) (Kd.Zb (p := ⟨gb237, 3, none⟩) (Kd.Zb (p := ⟨gb237, 2, none⟩) (Kd.Zb (p := ⟨gb237, 1, none⟩) (Kd.Zb (p := ⟨gb237, 0, none⟩) (Kd.Zbd HO_228004.out BK237.out (by decide)) (fun _ hk => hk.2) (.int .i64 ((Zai l0_1 x46_2).f0))) (fun _ hk => hk.2) (.slice A236_1 ((Zai l0_1 x46_2).f1).length c236_1)) (fun _ hk => hk.2) (.slice A236_2 ((Zai l0_1 x46_2).f2).length c236_2)) (fun _ hk => hk.2) (.int .i64 ((Zai l0_1 x46_2).f3))) (fun _ hk => hk.2) (.int .i64 ((Zai l0_1 x46_2).f4))) (fun _ hk => hk.2) (.slice A236_5 ((Zai l0_1 x46_2).f5).length c236_5)) (fun _ hk => hk.2) (.int .i64 ((Zai l0_1 x46_2).f6))) (fun _ hk => hk.1)⟩
     have n4_ : Za ((((((((w48.setCell ⟨gb237, 0, none⟩ (.int .i64 ((Zai l0_1 x46_2).f0))).setCell ⟨gb237, 1, none⟩ (.slice A236_1 ((Zai l0_1 x46_2).f1).length c236_1)).setCell ⟨gb237, 2, none⟩ (.slice A236_2 ((Zai l0_1 x46_2).f2).length c236_2)).setCell ⟨gb237, 3, none⟩ (.int .i64 ((Zai l0_1 x46_2).f3))).setCell ⟨gb237, 4, none⟩ (.int .i64 ((Zai l0_1 x46_2).f4))).setCell ⟨gb237, 5, none⟩ (.slice A236_5 ((Zai l0_1 x46_2).f5).length c236_5)).setCell ⟨gb237, 6, none⟩ (.int .i64 ((Zai l0_1 x46_2).f6))).heap[gb219]? = some (.cells #[.slice A0_0 l0_0.length c0_0, .slice (some ad236) l0_1.length c0_1, .int .i64 a0_2, .slice A0_3 l0_3.length c0_3, .slice A0_4 l0_4.length c0_4] 28 (0, 0))) := ⟨by (with_reducible repeat (first | refine blk_drewN ?_ _ | refine Zag ?_ | refine Zaf ?_ _)); refine Zbc ?_ NB219_237.out _; (with_reducible repeat (first | refine blk_drewN ?_ _ | refine Zag ?_ | refine Zaf ?_ _)); refine Zbc ?_ NB219_237.out _; (with_reducible repeat (first | refine blk_drewN ?_ _ | refine Zag ?_ | refine Zaf ?_ _)); refine Zbc ?_ NB219_237.out _; (with_reducible repeat (first | refine blk_drewN ?_ _ | refine Zag ?_ | refine Zaf ?_ _)); refine Zbc ?_ NB219_237.out _; (with_reducible repeat (first | refine blk_drewN ?_ _ | refine Zag ?_ | refine Zaf ?_ _)); refine Zbc ?_ NB219_237.out _; (with_reducible repeat (first | refine blk_drewN ?_ _ | refine Zag ?_ | refine Zaf ?_ _)); refine Zbc ?_ NB219_237.out _; (with_reducible repeat (first | refine blk_drewN ?_ _ | refine Zag ?_ | refine Zaf ?_ _)); refine Zbc ?_ NB219_237.out _; (with_reducible repeat (first | refine blk_drewN ?_ _ | refine Zag ?_ | refine Zaf ?_ _)); exact BK219.out⟩
     have n5_ : Za ((((((((w48.setCell ⟨gb237, 0, none⟩ (.int .i64 ((Zai l0_1 x46_2).f0))).setCell ⟨gb237, 1, none⟩ (.slice A236_1 ((Zai l0_1 x46_2).f1).length c236_1)).setCell ⟨gb237, 2, none⟩ (.slice A236_2 ((Zai l0_1 x46_2).f2).length c236_2)).setCell ⟨gb237, 3, none⟩ (.int .i64 ((Zai l0_1 x46_2).f3))).setCell ⟨gb237, 4, none⟩ (.int .i64 ((Zai l0_1 x46_2).f4))).setCell ⟨gb237, 5, none⟩ (.slice A236_5 ((Zai l0_1 x46_2).f5).length c236_5)).setCell ⟨gb237, 6, none⟩ (.int .i64 ((Zai l0_1 x46_2).f6))).heap[gb220]? = some (.cells #[.slice none 0 0, .slice none 0 0, .int .i64 0, .slice none 0 0, .slice none 0 0] 28 (0, 0))) := ⟨by (with_reducible repeat (first | refine blk_drewN ?_ _ | refine Zag ?_ | refine Zaf ?_ _)); refine Zbc ?_ NB220_237.out _; (with_reducible repeat (first | refine blk_drewN ?_ _ | refine Zag ?_ | refine Zaf ?_ _)); refine Zbc ?_ NB220_237.out _; (with_reducible repeat (first | refine blk_drewN ?_ _ | refine Zag ?_ | refine Zaf ?_ _)); refine Zbc ?_ NB220_237.out _; (with_reducible repeat (first | refine blk_drewN ?_ _ | refine Zag ?_ | refine Zaf ?_ _)); refine Zbc ?_ NB220_237.out _; (with_reducible repeat (first | refine blk_drewN ?_ _ | refine Zag ?_ | refine Zaf ?_ _)); refine Zbc ?_ NB220_237.out _; (with_reducible repeat (first | refine blk_drewN ?_ _ | refine Zag ?_ | refine Zaf ?_ _)); refine Zbc ?_ NB220_237.out _; (with_reducible repeat (first | refine blk_drewN ?_ _ | refine Zag ?_ | refine Zaf ?_ _)); refine Zbc ?_ NB220_237.out _; (with_reducible repeat (first | refine blk_drewN ?_ _ | refine Zag ?_ | refine Zaf ?_ _)); exact BK220.out⟩
     have n6_ : Za ((((((((w48.setCell ⟨gb237, 0, none⟩ (.int .i64 ((Zai l0_1 x46_2).f0))).setCell ⟨gb237, 1, none⟩ (.slice A236_1 ((Zai l0_1 x46_2).f1).length c236_1)).setCell ⟨gb237, 2, none⟩ (.slice A236_2 ((Zai l0_1 x46_2).f2).length c236_2)).setCell ⟨gb237, 3, none⟩ (.int .i64 ((Zai l0_1 x46_2).f3))).setCell ⟨gb237, 4, none⟩ (.int .i64 ((Zai l0_1 x46_2).f4))).setCell ⟨gb237, 5, none⟩ (.slice A236_5 ((Zai l0_1 x46_2).f5).length c236_5)).setCell ⟨gb237, 6, none⟩ (.int .i64 ((Zai l0_1 x46_2).f6))).heap[gb227]? = some (.cells #[u228000, u228001, .int .i64 a0_2, .slice Ao14 t221.length co14, .slice Ao13 t224.length co13] 28 (0, 0))) := ⟨by (with_reducible repeat (first | refine blk_drewN ?_ _ | refine Zag ?_ | refine Zaf ?_ _)); refine Zbc ?_ NB227_237.out _; (with_reducible repeat (first | refine blk_drewN ?_ _ | refine Zag ?_ | refine Zaf ?_ _)); refine Zbc ?_ NB227_237.out _; (with_reducible repeat (first | refine blk_drewN ?_ _ | refine Zag ?_ | refine Zaf ?_ _)); refine Zbc ?_ NB227_237.out _; (with_reducible repeat (first | refine blk_drewN ?_ _ | refine Zag ?_ | refine Zaf ?_ _)); refine Zbc ?_ NB227_237.out _; (with_reducible repeat (first | refine blk_drewN ?_ _ | refine Zag ?_ | refine Zaf ?_ _)); refine Zbc ?_ NB227_237.out _; (with_reducible repeat (first | refine blk_drewN ?_ _ | refine Zag ?_ | refine Zaf ?_ _)); refine Zbc ?_ NB227_237.out _; (with_reducible repeat (first | refine blk_drewN ?_ _ | refine Zag ?_ | refine Zaf ?_ _)); refine Zbc ?_ NB227_237.out _; (with_reducible repeat (first | refine blk_drewN ?_ _ | refine Zag ?_ | refine Zaf ?_ _)); exact BK227.out⟩
     have n7_ : Za ((((((((w48.setCell ⟨gb237, 0, none⟩ (.int .i64 ((Zai l0_1 x46_2).f0))).setCell ⟨gb237, 1, none⟩ (.slice A236_1 ((Zai l0_1 x46_2).f1).length c236_1)).setCell ⟨gb237, 2, none⟩ (.slice A236_2 ((Zai l0_1 x46_2).f2).length c236_2)).setCell ⟨gb237, 3, none⟩ (.int .i64 ((Zai l0_1 x46_2).f3))).setCell ⟨gb237, 4, none⟩ (.int .i64 ((Zai l0_1 x46_2).f4))).setCell ⟨gb237, 5, none⟩ (.slice A236_5 ((Zai l0_1 x46_2).f5).length c236_5)).setCell ⟨gb237, 6, none⟩ (.int .i64 ((Zai l0_1 x46_2).f6))).heap[gb237]? = some (.cells #[.int .i64 ((Zai l0_1 x46_2).f0), .slice A236_1 ((Zai l0_1 x46_2).f1).length c236_1, .slice A236_2 ((Zai l0_1 x46_2).f2).length c236_2, .int .i64 ((Zai l0_1 x46_2).f3), .int .i64 ((Zai l0_1 x46_2).f4), .slice A236_5 ((Zai l0_1 x46_2).f5).length c236_5, .int .i64 ((Zai l0_1 x46_2).f6)] 31 (0, 0))) := ⟨by (with_reducible repeat (first | refine blk_drewN ?_ _ | refine Zag ?_ | refine Zaf ?_ _)); refine Zax (cs := #[.int .i64 ((Zai l0_1 x46_2).f0), .slice A236_1 ((Zai l0_1 x46_2).f1).length c236_1, .slice A236_2 ((Zai l0_1 x46_2).f2).length c236_2, .int .i64 ((Zai l0_1 x46_2).f3), .int .i64 ((Zai l0_1 x46_2).f4), .slice A236_5 ((Zai l0_1 x46_2).f5).length c236_5, .int .i64 0]) ?_ 6 _ rfl; (with_reducible repeat (first | refine blk_drewN ?_ _ | refine Zag ?_ | refine Zaf ?_ _)); refine Zax (cs := #[.int .i64 ((Zai l0_1 x46_2).f0), .slice A236_1 ((Zai l0_1 x46_2).f1).length c236_1, .slice A236_2 ((Zai l0_1 x46_2).f2).length c236_2, .int .i64 ((Zai l0_1 x46_2).f3), .int .i64 ((Zai l0_1 x46_2).f4), .slice none 0 0, .int .i64 0]) ?_ 5 _ rfl; (with_reducible repeat (first | refine blk_drewN ?_ _ | refine Zag ?_ | refine Zaf ?_ _)); refine Zax (cs := #[.int .i64 ((Zai l0_1 x46_2).f0), .slice A236_1 ((Zai l0_1 x46_2).f1).length c236_1, .slice A236_2 ((Zai l0_1 x46_2).f2).length c236_2, .int .i64 ((Zai l0_1 x46_2).f3), .int .i64 0, .slice none 0 0, .int .i64 0]) ?_ 4 _ rfl; (with_reducible repeat (first | refine blk_drewN ?_ _ | refine Zag ?_ | refine Zaf ?_ _)); refine Zax (cs := #[.int .i64 ((Zai l0_1 x46_2).f0), .slice A236_1 ((Zai l0_1 x46_2).f1).length c236_1, .slice A236_2 ((Zai l0_1 x46_2).f2).length c236_2, .int .i64 0, .int .i64 0, .slice none 0 0, .int .i64 0]) ?_ 3 _ rfl; (with_reducible repeat (first | refine blk_drewN ?_ _ | refine Zag ?_ | refine Zaf ?_ _)); refine Zax (cs := #[.int .i64 ((Zai l0_1 x46_2).f0), .slice A236_1 ((Zai l0_1 x46_2).f1).length c236_1, .slice none 0 0, .int .i64 0, .int .i64 0, .slice none 0 0, .int .i64 0]) ?_ 2 _ rfl; (with_reducible repeat (first | refine blk_drewN ?_ _ | refine Zag ?_ | refine Zaf ?_ _)); refine Zax (cs := #[.int .i64 ((Zai l0_1 x46_2).f0), .slice none 0 0, .slice none 0 0, .int .i64 0, .int .i64 0, .slice none 0 0, .int .i64 0]) ?_ 1 _ rfl; (with_reducible repeat (first | refine blk_drewN ?_ _ | refine Zag ?_ | refine Zaf ?_ _)); refine Zax (cs := #[.int .i64 0, .slice none 0 0, .slice none 0 0, .int .i64 0, .int .i64 0, .slice none 0 0, .int .i64 0]) ?_ 0 _ rfl; (with_reducible repeat (first | refine blk_drewN ?_ _ | refine Zag ?_ | refine Zaf ?_ _)); exact BK237.out⟩
     have n8_ : Za (Below w.heap.size w (((((((w48.setCell ⟨gb237, 0, none⟩ (.int .i64 ((Zai l0_1 x46_2).f0))).setCell ⟨gb237, 1, none⟩ (.slice A236_1 ((Zai l0_1 x46_2).f1).length c236_1)).setCell ⟨gb237, 2, none⟩ (.slice A236_2 ((Zai l0_1 x46_2).f2).length c236_2)).setCell ⟨gb237, 3, none⟩ (.int .i64 ((Zai l0_1 x46_2).f3))).setCell ⟨gb237, 4, none⟩ (.int .i64 ((Zai l0_1 x46_2).f4))).setCell ⟨gb237, 5, none⟩ (.slice A236_5 ((Zai l0_1 x46_2).f5).length c236_5)).setCell ⟨gb237, 6, none⟩ (.int .i64 ((Zai l0_1 x46_2).f6)))) := ⟨by repeat (first | (with_reducible first | exact HB.out | apply Zab | apply Zaa | apply Zac | refine Zae ?_ GE219.out | refine Zae ?_ GE220.out | refine Zae ?_ GE227.out | refine Zae ?_ GE237.out) | exact HB.out)⟩
     (try clear HO_228000)
     (try clear HO_228001)
     (try clear HO_228003)
     (try clear HO_228004)
     (try clear BK219)
     (try clear BK220)
     (try clear BK227)
     (try clear BK237)
     (try clear HB)
     generalize (((((((w48.setCell ⟨gb237, 0, none⟩ (.int .i64 ((Zai l0_1 x46_2).f0))).setCell ⟨gb237, 1, none⟩ (.slice A236_1 ((Zai l0_1 x46_2).f1).length c236_1)).setCell ⟨gb237, 2, none⟩ (.slice A236_2 ((Zai l0_1 x46_2).f2).length c236_2)).setCell ⟨gb237, 3, none⟩ (.int .i64 ((Zai l0_1 x46_2).f3))).setCell ⟨gb237, 4, none⟩ (.int .i64 ((Zai l0_1 x46_2).f4))).setCell ⟨gb237, 5, none⟩ (.slice A236_5 ((Zai l0_1 x46_2).f5).length c236_5)).setCell ⟨gb237, 6, none⟩ (.int .i64 ((Zai l0_1 x46_2).f6))) = w53 at n0_ n1_ n2_ n3_ n4_ n5_ n6_ n7_ n8_ ⊢
     have HO_228000 := n0_
     have HO_228001 := n1_
     have HO_228003 := n2_
     have HO_228004 := n3_
     have BK219 := n4_
     have BK220 := n5_
     have BK227 := n6_
     have BK237 := n7_
     have HB := n8_
     clear n0_ n1_ n2_ n3_ n4_ n5_ n6_ n7_ n8_
     have n0_ := Za.mk (Kd.Zb0 HO_228000.out)
     have n1_ := Za.mk (Kd.Zay HO_228001.out)
     have n2_ := Za.mk (Kd.Zay HO_228003.out)
     have n3_ := Za.mk (Kd.Zay HO_228004.out)
     have n4_ := Za.mk (Zag BK219.out)
     have n5_ := Za.mk (Zag BK220.out)
     have n6_ := Za.mk (Zag BK227.out)
     have n7_ := Za.mk (Zag BK237.out)
     have n8_ := Za.mk (Zac HB.out)
     clear HO_228000
     clear HO_228001
     clear HO_228003
     clear HO_228004
     clear BK219
     clear BK220
     clear BK227
     clear BK237
     clear HB
     have HO_228000 := n0_
     have HO_228001 := n1_
     have HO_228003 := n2_
     have HO_228004 := n3_
     have BK219 := n4_
     have BK220 := n5_
     have BK227 := n6_
     have BK237 := n7_
     have HB := n8_
     clear n0_ n1_ n2_ n3_ n4_ n5_ n6_ n7_ n8_
     refine Zd0 (n := 10) (S := fun w' => w'.cell? ⟨gb237, 0, none⟩ = some (.int .i64 ((Zai l0_1 x46_2).f0)) ∧ w'.cell? ⟨gb237, 1, none⟩ = some (.slice A236_1 ((Zai l0_1 x46_2).f1).length c236_1) ∧ w'.cell? ⟨gb237, 2, none⟩ = some (.slice A236_2 ((Zai l0_1 x46_2).f2).length c236_2) ∧ w'.cell? ⟨gb237, 3, none⟩ = some (.int .i64 ((Zai l0_1 x46_2).f3)) ∧ w'.cell? ⟨gb237, 4, none⟩ = some (.int .i64 ((Zai l0_1 x46_2).f4)) ∧ w'.cell? ⟨gb237, 5, none⟩ = some (.slice A236_5 ((Zai l0_1 x46_2).f5).length c236_5) ∧ w'.cell? ⟨gb237, 6, none⟩ = some (.int .i64 ((Zai l0_1 x46_2).f6))) (ds := [7, 9]) #[false, false, false, false, false, false, false, false, false, false] (by kernel_rfl) rfl rfl ⟨(Zah BK237.out 0).trans rfl, (Zah BK237.out 1).trans rfl, (Zah BK237.out 2).trans rfl, (Zah BK237.out 3).trans rfl, (Zah BK237.out 4).trans rfl, (Zah BK237.out 5).trans rfl, (Zah BK237.out 6).trans rfl⟩ (fun hHeld => ?_); refine Zcu Za1.tab10 Za1.bits10 (fun HT_ HW_ => ?_)
     generalize w53.drew = w54 at HO_228000 HO_228001 HO_228003 HO_228004 BK219 BK220 BK227 BK237 HB hHeld ⊢
     refine Za0 (i := 0) (N := some 50) (v := ?_) (a' := ?_) #[true, false, false, false, false, false, false, false, false, false] rfl rfl (Zal HT_.out (by kernel_rfl)) (fun _ _ _ h => h) (Or.inl ⟨by rfl, ?_⟩) ?_ ?_
     rotate_left
     ·intro w'
      go_simp
      with_reducible rfl
     rotate_left
     ·simp only [Act.put, List.setIfInBounds_toArray, List.set_cons_zero, List.set_cons_succ, Zas, Zat]
      rfl
     refine Za0 (i := 3) (N := some 53) (v := ?_) (a' := ?_) #[true, false, false, true, false, false, false, false, false, false] rfl rfl (Zal HT_.out (by kernel_rfl)) (fun _ _ _ h => h) (Or.inl ⟨by rfl, ?_⟩) ?_ ?_
     rotate_left
     ·intro w'
      go_simp
      with_reducible rfl
     rotate_left
     ·simp only [Act.put, List.setIfInBounds_toArray, List.set_cons_zero, List.set_cons_succ, Zas, Zat]
      rfl
     refine Zcl (i := 1) (N := some 51) (v := ?_) (a' := ?_) #[true, true, false, true, false, false, false, false, false, false] rfl rfl (Zbj HT_.out HW_.out (by kernel_rfl)) (fun _ _ _ h => h) (Or.inl ⟨by rfl, ?_⟩) hHeld ?_ ?_
     rotate_left
     ·rintro w' ⟨s0, s1, s2, s3, s4, s5, s6⟩
      go_simp
      with_reducible rfl
     rotate_left
     ·simp only [Act.put, List.setIfInBounds_toArray, List.set_cons_zero, List.set_cons_succ, Zas, Zat]
      rfl
     refine Zcl (i := 4) (N := some 54) (v := ?_) (a' := ?_) #[true, true, false, true, true, false, false, false, false, false] rfl rfl (Zbj HT_.out HW_.out (by kernel_rfl)) (fun _ _ _ h => h) (Or.inl ⟨by rfl, ?_⟩) hHeld ?_ ?_
     rotate_left
     ·rintro w' ⟨s0, s1, s2, s3, s4, s5, s6⟩
      go_simp
      with_reducible rfl
     rotate_left
     ·simp only [Act.put, List.setIfInBounds_toArray, List.set_cons_zero, List.set_cons_succ, Zas, Zat]
      rfl
     refine one_ (i := 2) (N := some 52) #[true, true, true, true, true, false, false, false, false, false] rfl rfl (Zb6 HT_.out (by kernel_rfl)) (by decide) (fun K hK => ?_)
     refine Zc2 Try.func44 (by kernel_rfl) rfl #[.slice A236_1 ((Zai l0_1 x46_2).f1).length c236_1] (by rfl) rfl rfl (by (try simp only [List.map_toArray, List.map_cons, List.map_nil]); first | done | rfl | (simp only [List.length_drop, List.length_take]; rfl)) ?_
     with_reducible refine (cloneI.calls _ _ ((Zai l0_1 x46_2).f1) t238 _ ?side1 ?side2 A46.out).mono ?_
     (case side1 => repeat (first | exact (Kd.Zak HR236_1.out HB.out) | (with_reducible refine Kd.C_alloc ?_ _) | (with_reducible refine Kd.C_drewN ?_ _) | (with_reducible refine Kd.C_drew ?_)))
     (case side2 => exact HC236_1.out)
     rintro e w55 ⟨v239, rfl, ho0, hb⟩
     refine ⟨_, rfl, ?_⟩
     have n0_ := Za.mk (Kd.Zdo (by (with_reducible repeat (first | apply Kd.Zbr | apply Kd.Zbs | apply Kd.Zb0)); exact HO_228000.out) hb)
     have n1_ := Za.mk (Kd.Zb4 (by (with_reducible repeat (first | apply Kd.Zaq | apply Kd.Zar | apply Kd.Zay)); exact HO_228001.out) (Kd.Zch ho0) hb)
     have n2_ := Za.mk (Kd.Zb4 (by (with_reducible repeat (first | apply Kd.Zaq | apply Kd.Zar | apply Kd.Zay)); exact HO_228003.out) (Kd.Zch ho0) hb)
     have n3_ := Za.mk (Kd.Zb4 (by (with_reducible repeat (first | apply Kd.Zaq | apply Kd.Zar | apply Kd.Zay)); exact HO_228004.out) (Kd.Zch ho0) hb)
     have n4_ := Za.mk (Kd.Zbq (Kd.Zda (Kd.Zda ho0 (Kd.R_lt (by (with_reducible repeat (first | apply Kd.Zaq | apply Kd.Zar | apply Kd.Zay)); exact HO_228003.out))) (Kd.R_lt (by (with_reducible repeat (first | apply Kd.Zaq | apply Kd.Zar | apply Kd.Zay)); exact HO_228004.out))) (Zaj (by repeat (first | (with_reducible first | exact HB.out | apply Zab | apply Zaa | apply Zac | refine Zae ?_ GE219.out | refine Zae ?_ GE220.out | refine Zae ?_ GE227.out | refine Zae ?_ GE237.out) | exact HB.out))))
     have n5_ := Za.mk (Zau (g := gb219) (o := .cells #[.slice A0_0 l0_0.length c0_0, .slice (some ad236) l0_1.length c0_1, .int .i64 a0_2, .slice A0_3 l0_3.length c0_3, .slice A0_4 l0_4.length c0_4] 28 (0, 0)) (by (with_reducible repeat (first | refine blk_drewN ?_ _ | refine Zag ?_ | refine Zaf ?_ _)); exact BK219.out) hb)
     have n6_ := Za.mk (Zau (g := gb220) (o := .cells #[.slice none 0 0, .slice none 0 0, .int .i64 0, .slice none 0 0, .slice none 0 0] 28 (0, 0)) (by (with_reducible repeat (first | refine blk_drewN ?_ _ | refine Zag ?_ | refine Zaf ?_ _)); exact BK220.out) hb)
     have n7_ := Za.mk (Zau (g := gb227) (o := .cells #[u228000, u228001, .int .i64 a0_2, .slice Ao14 t221.length co14, .slice Ao13 t224.length co13] 28 (0, 0)) (by (with_reducible repeat (first | refine blk_drewN ?_ _ | refine Zag ?_ | refine Zaf ?_ _)); exact BK227.out) hb)
     have n8_ := Za.mk (Zau (g := gb237) (o := .cells #[.int .i64 ((Zai l0_1 x46_2).f0), .slice A236_1 ((Zai l0_1 x46_2).f1).length c236_1, .slice A236_2 ((Zai l0_1 x46_2).f2).length c236_2, .int .i64 ((Zai l0_1 x46_2).f3), .int .i64 ((Zai l0_1 x46_2).f4), .slice A236_5 ((Zai l0_1 x46_2).f5).length c236_5, .int .i64 ((Zai l0_1 x46_2).f6)] 31 (0, 0)) (by (with_reducible repeat (first | refine blk_drewN ?_ _ | refine Zag ?_ | refine Zaf ?_ _)); exact BK237.out) hb)
     have n9_ := Za.mk (Zad (by repeat (first | (with_reducible first | exact HB.out | apply Zab | apply Zaa | apply Zac | refine Zae ?_ GE219.out | refine Zae ?_ GE220.out | refine Zae ?_ GE227.out | refine Zae ?_ GE237.out) | exact HB.out)) hb)
     clear HO_228000
     clear HO_228001
     clear HO_228003
     clear HO_228004
     clear BK219
     clear BK220
     clear BK227
     clear BK237
     clear HB
     have HO_228000 := n0_
     have HO_228001 := n1_
     have HO_228003 := n2_
     have HO_228004 := n3_
     have HO240 := n4_
     have BK219 := n5_
     have BK220 := n6_
     have BK227 := n7_
     have BK237 := n8_
     have HB := n9_
     clear n0_ n1_ n2_ n3_ n4_ n5_ n6_ n7_ n8_ n9_
     (try clear hb)
     (try clear hb2)
     (try clear hk)
     (try clear hi)
     (try clear ho0)
     refine hK.out _ _ ⟨(Zah BK237.out 0).trans rfl, (Zah BK237.out 1).trans rfl, (Zah BK237.out 2).trans rfl, (Zah BK237.out 3).trans rfl, (Zah BK237.out 4).trans rfl, (Zah BK237.out 5).trans rfl, (Zah BK237.out 6).trans rfl⟩ (fun hHeld => ?_)
     clear hK K
     refine Zcg (a' := ?_) ?_ ?_
     rotate_left
     ·show Act.put _ (some 52) _ = _
      simp only [Act.put, List.setIfInBounds_toArray, List.set_cons_zero, List.set_cons_succ, Zas, Zat]
      rfl
     refine Za0 (i := 6) (N := some 56) (v := ?_) (a' := ?_) #[true, true, true, true, true, false, true, false, false, false] rfl rfl (Zal HT_.out (by kernel_rfl)) (fun _ _ _ h => h) (Or.inl ⟨by rfl, ?_⟩) ?_ ?_
     rotate_left
     ·intro w'
      go_simp
      with_reducible rfl
     rotate_left
     ·simp only [Act.put, List.setIfInBounds_toArray, List.set_cons_zero, List.set_cons_succ, Zas, Zat]
      rfl
     refine one_ (i := 5) (N := some 55) #[true, true, true, true, true, true, true, false, false, false] rfl rfl (Zb6 HT_.out (by kernel_rfl)) (by decide) (fun K hK => ?_)
     refine Zc2 Try.func44 (by kernel_rfl) rfl #[.slice A236_2 ((Zai l0_1 x46_2).f2).length c236_2] (by rfl) rfl rfl (by (try simp only [List.map_toArray, List.map_cons, List.map_nil]); first | done | rfl | (simp only [List.length_drop, List.length_take]; rfl)) ?_
     with_reducible refine (cloneI.calls _ _ ((Zai l0_1 x46_2).f2) t241 _ ?side1 ?side2 A47.out).mono ?_
     (case side1 => repeat (first | exact (Kd.Zak HR236_2.out HB.out) | (with_reducible refine Kd.C_alloc ?_ _) | (with_reducible refine Kd.C_drewN ?_ _) | (with_reducible refine Kd.C_drew ?_)))
     (case side2 => exact HC236_2.out)
     rintro e w56 ⟨v242, rfl, ho0, hb⟩
     refine ⟨_, rfl, ?_⟩
     have n0_ := Za.mk (Kd.Zdo (by (with_reducible repeat (first | apply Kd.Zbr | apply Kd.Zbs | apply Kd.Zb0)); exact HO_228000.out) hb)
     have n1_ := Za.mk (Kd.Zb4 (by (with_reducible repeat (first | apply Kd.Zaq | apply Kd.Zar | apply Kd.Zay)); exact HO_228001.out) (Kd.Zch ho0) hb)
     have n2_ := Za.mk (Kd.Zb4 (by (with_reducible repeat (first | apply Kd.Zaq | apply Kd.Zar | apply Kd.Zay)); exact HO_228003.out) (Kd.Zch ho0) hb)
     have n3_ := Za.mk (Kd.Zb4 (by (with_reducible repeat (first | apply Kd.Zaq | apply Kd.Zar | apply Kd.Zay)); exact HO_228004.out) (Kd.Zch ho0) hb)
     have n4_ := Za.mk (Kd.Zb4 (by (with_reducible repeat (first | apply Kd.Zaq | apply Kd.Zar | apply Kd.Zay)); exact HO240.out) (Kd.Zch ho0) hb)
     have n5_ := Za.mk (Kd.Zbq (Kd.Zda (Kd.Zda (Kd.Zda ho0 (Kd.R_lt (by (with_reducible repeat (first | apply Kd.Zaq | apply Kd.Zar | apply Kd.Zay)); exact HO_228003.out))) (Kd.R_lt (by (with_reducible repeat (first | apply Kd.Zaq | apply Kd.Zar | apply Kd.Zay)); exact HO_228004.out))) (Kd.R_lt (by (with_reducible repeat (first | apply Kd.Zaq | apply Kd.Zar | apply Kd.Zay)); exact HO240.out))) (Zaj (by repeat (first | (with_reducible first | exact HB.out | apply Zab | apply Zaa | apply Zac | refine Zae ?_ GE219.out | refine Zae ?_ GE220.out | refine Zae ?_ GE227.out | refine Zae ?_ GE237.out) | exact HB.out))))
     have n6_ := Za.mk (Zau (g := gb219) (o := .cells #[.slice A0_0 l0_0.length c0_0, .slice (some ad236) l0_1.length c0_1, .int .i64 a0_2, .slice A0_3 l0_3.length c0_3, .slice A0_4 l0_4.length c0_4] 28 (0, 0)) (by (with_reducible repeat (first | refine blk_drewN ?_ _ | refine Zag ?_ | refine Zaf ?_ _)); exact BK219.out) hb)
     have n7_ := Za.mk (Zau (g := gb220) (o := .cells #[.slice none 0 0, .slice none 0 0, .int .i64 0, .slice none 0 0, .slice none 0 0] 28 (0, 0)) (by (with_reducible repeat (first | refine blk_drewN ?_ _ | refine Zag ?_ | refine Zaf ?_ _)); exact BK220.out) hb)
     have n8_ := Za.mk (Zau (g := gb227) (o := .cells #[u228000, u228001, .int .i64 a0_2, .slice Ao14 t221.length co14, .slice Ao13 t224.length co13] 28 (0, 0)) (by (with_reducible repeat (first | refine blk_drewN ?_ _ | refine Zag ?_ | refine Zaf ?_ _)); exact BK227.out) hb)
     have n9_ := Za.mk (Zau (g := gb237) (o := .cells #[.int .i64 ((Zai l0_1 x46_2).f0), .slice A236_1 ((Zai l0_1 x46_2).f1).length c236_1, .slice A236_2 ((Zai l0_1 x46_2).f2).length c236_2, .int .i64 ((Zai l0_1 x46_2).f3), .int .i64 ((Zai l0_1 x46_2).f4), .slice A236_5 ((Zai l0_1 x46_2).f5).length c236_5, .int .i64 ((Zai l0_1 x46_2).f6)] 31 (0, 0)) (by (with_reducible repeat (first | refine blk_drewN ?_ _ | refine Zag ?_ | refine Zaf ?_ _)); exact BK237.out) hb)
     have n10_ := Za.mk (Zad (by repeat (first | (with_reducible first | exact HB.out | apply Zab | apply Zaa | apply Zac | refine Zae ?_ GE219.out | refine Zae ?_ GE220.out | refine Zae ?_ GE227.out | refine Zae ?_ GE237.out) | exact HB.out)) hb)
     clear HO_228000
     clear HO_228001
     clear HO_228003
     clear HO_228004
     clear HO240
     clear BK219
     clear BK220
     clear BK227
     clear BK237
     clear HB
     have HO_228000 := n0_
     have HO_228001 := n1_
     have HO_228003 := n2_
     have HO_228004 := n3_
     have HO240 := n4_
     have HO243 := n5_
     have BK219 := n6_
     have BK220 := n7_
     have BK227 := n8_
     have BK237 := n9_
     have HB := n10_
     clear n0_ n1_ n2_ n3_ n4_ n5_ n6_ n7_ n8_ n9_ n10_
     (try clear hb)
     (try clear hb2)
     (try clear hk)
     (try clear hi)
     (try clear ho0)
     obtain ⟨Ao57, co57, eo57⟩ := Kd.Za9 HO240.out
     (first | subst eo57 | (injection eo57 with f1_ f2_ f3_; have f4_ := f1_.symm; have f5_ := f3_.symm; clear f1_ f2_ f3_; subst f4_; subst f5_))
     obtain ⟨Ao59, co59, eo59⟩ := Kd.Za9 HO243.out
     (first | subst eo59 | (injection eo59 with f1_ f2_ f3_; have f4_ := f1_.symm; have f5_ := f3_.symm; clear f1_ f2_ f3_; subst f4_; subst f5_))
     refine hK.out _ _ ⟨(Zah BK237.out 0).trans rfl, (Zah BK237.out 1).trans rfl, (Zah BK237.out 2).trans rfl, (Zah BK237.out 3).trans rfl, (Zah BK237.out 4).trans rfl, (Zah BK237.out 5).trans rfl, (Zah BK237.out 6).trans rfl⟩ (fun hHeld => ?_)
     clear hK K
     refine Zcg (a' := ?_) ?_ ?_
     rotate_left
     ·show Act.put _ (some 55) _ = _
      simp only [Act.put, List.setIfInBounds_toArray, List.set_cons_zero, List.set_cons_succ, Zas, Zat]
      rfl
     refine last_ (i := 7) (N := none) #[true, true, true, true, true, true, true, true, false, false] rfl rfl (Zb6 HT_.out (by kernel_rfl)) (by decide) (fun K hK => ?_)
     have hs58 : w56.cell? ⟨gb237, 1, none⟩ = some (.slice A236_1 ((Zai l0_1 x46_2).f1).length c236_1) := (Zah BK237.out 1).trans rfl
     have hfs58 := Zap BK237.out 1
     have hns58_0 := NB219_237.out
     have hns58_1 := NB220_237.out
     have hns58_2 := NB227_237.out
     have hms58_0 := NB237_219.out
     have hms58_1 := NB237_220.out
     have hms58_2 := NB237_227.out
     refine skip_ (w1 := ?_) (by rfl) rfl ?_ ?_
     rotate_left
     ·go_simp
      rfl
     refine hK.out _ _ ?_
     clear hK K
     refine Za0 (i := 8) (N := some 57) (v := ?_) (a' := ?_) #[true, true, true, true, true, true, true, true, true, false] rfl rfl (Zal HT_.out (by kernel_rfl)) (fun _ _ _ h => h) (Or.inl ⟨by rfl, ?_⟩) ?_ ?_
     rotate_left
     ·intro w'
      go_simp
      with_reducible rfl
     rotate_left
     ·simp only [Act.put, List.setIfInBounds_toArray, List.set_cons_zero, List.set_cons_succ, Zas, Zat]
      rfl
     refine last_ (i := 9) (N := none) #[true, true, true, true, true, true, true, true, true, true] rfl rfl (Zb6 HT_.out (by kernel_rfl)) (by decide) (fun K hK => ?_)
     have hs60 : w56.cell? ⟨gb237, 2, none⟩ = some (.slice A236_2 ((Zai l0_1 x46_2).f2).length c236_2) := (Zah BK237.out 2).trans rfl
     have hfs60 := Zap BK237.out 2
     have hns60_0 := NB219_237.out
     have hns60_1 := NB220_237.out
     have hns60_2 := NB227_237.out
     have hms60_0 := NB237_219.out
     have hms60_1 := NB237_220.out
     have hms60_2 := NB237_227.out
     refine skip_ (w1 := ?_) (by rfl) rfl ?_ ?_
     rotate_left
     ·go_simp
      rfl
     refine hK.out _ _ ?_
     clear hK K
     refine Ze4 (Zdl HT_.out (by kernel_rfl)) ?_
     obtain ⟨hcz61_0, hcz61_1, hcz61_2, hcz61_3, hcz61_4, hcz61_5, hcz61_6, hfz61_0, hfz61_1, hfz61_2, hfz61_3, hfz61_4, hfz61_5, hfz61_6⟩ := Zc9 BK237.out
     try go_wp2
     go_loopg [8, 61] k2 (fun kq v8 v61 w' => ∃ (x8_3 : List (List Int)) (x61_3 : Int), v61 = .int .i64 x61_3 ∧ Za (Za1.l2 kq x8_3 l0_1 (l0_1.length : Int) x46_2 ((Zai l0_1 x46_2).f5) (((Zai l0_1 x46_2).f5).length : Int) x61_3 x228000_1 x228001_2 a0_2 t221 t224 ((Zai l0_1 x46_2).f0) t238 t241 ((Zai l0_1 x46_2).f3) ((Zai l0_1 x46_2).f4) ((Zai l0_1 x46_2).f5) ((Zai l0_1 x46_2).f6) = some (r1, r2, r3, r4, r5)) ∧ Za (kq ≤ k2) ∧ Za (Kd.S (Kd.slice 3 (Kd.int .i64)) 24 w' w.heap.size (fun k_ => some k_ ≠ ((.slice Ao14 t221.length co14) : Value).ownBlock ∧ some k_ ≠ ((.slice Ao13 t224.length co13) : Value).ownBlock ∧ some k_ ≠ ((.slice Ao57 t238.length co57) : Value).ownBlock ∧ some k_ ≠ ((.slice Ao59 t241.length co59) : Value).ownBlock) v8 x8_3) ∧ Za (Kd.S k50 50 w' w.heap.size (fun _ => True) u228000 x228000_1) ∧ Za (Kd.R k31 31 w' w.heap.size (fun k_ => some k_ ≠ (v8 : Value).ownBlock ∧ some k_ ≠ ((.slice Ao14 t221.length co14) : Value).ownBlock ∧ some k_ ≠ ((.slice Ao13 t224.length co13) : Value).ownBlock ∧ some k_ ≠ ((.slice Ao57 t238.length co57) : Value).ownBlock ∧ some k_ ≠ ((.slice Ao59 t241.length co59) : Value).ownBlock ∧ k_ ≠ gb237) u228001 x228001_2) ∧ Za (Kd.R (Kd.int .i64) 3 w' w.heap.size (fun k_ => some k_ ≠ ((.slice Ao13 t224.length co13) : Value).ownBlock ∧ some k_ ≠ ((.slice Ao57 t238.length co57) : Value).ownBlock ∧ some k_ ≠ ((.slice Ao59 t241.length co59) : Value).ownBlock) (.slice Ao14 t221.length co14) t221) ∧ Za (Kd.R (Kd.int .i64) 3 w' w.heap.size (fun k_ => some k_ ≠ ((.slice Ao14 t221.length co14) : Value).ownBlock ∧ some k_ ≠ ((.slice Ao57 t238.length co57) : Value).ownBlock ∧ some k_ ≠ ((.slice Ao59 t241.length co59) : Value).ownBlock) (.slice Ao13 t224.length co13) t224) ∧ Za (Kd.R (Kd.int .i64) 3 w' w.heap.size (fun k_ => some k_ ≠ ((.slice Ao14 t221.length co14) : Value).ownBlock ∧ some k_ ≠ ((.slice Ao13 t224.length co13) : Value).ownBlock ∧ some k_ ≠ ((.slice Ao59 t241.length co59) : Value).ownBlock) (.slice Ao57 t238.length co57) t238) ∧ Za (Kd.R (Kd.int .i64) 3 w' w.heap.size (fun k_ => some k_ ≠ ((.slice Ao14 t221.length co14) : Value).ownBlock ∧ some k_ ≠ ((.slice Ao13 t224.length co13) : Value).ownBlock ∧ some k_ ≠ ((.slice Ao57 t238.length co57) : Value).ownBlock) (.slice Ao59 t241.length co59) t241) ∧ Za (w'.heap[gb219]? = some (.cells #[(.slice A0_0 l0_0.length c0_0), (.slice (some ad236) l0_1.length c0_1), .int .i64 a0_2, (.slice A0_3 l0_3.length c0_3), (.slice A0_4 l0_4.length c0_4)] 28 (0, 0))) ∧ Za (w'.heap[gb220]? = some (.cells #[(.slice none 0 0), (.slice none 0 0), .int .i64 0, (.slice none 0 0), (.slice none 0 0)] 28 (0, 0))) ∧ Za (w'.heap[gb227]? = some (.cells #[u228000, u228001, .int .i64 a0_2, (.slice Ao14 t221.length co14), (.slice Ao13 t224.length co13)] 28 (0, 0))) ∧ Za (w'.heap[gb237]? = some (.cells #[.int .i64 ((Zai l0_1 x46_2).f0), (.slice Ao57 t238.length co57), (.slice Ao59 t241.length co59), .int .i64 ((Zai l0_1 x46_2).f3), .int .i64 ((Zai l0_1 x46_2).f4), (.slice A236_5 ((Zai l0_1 x46_2).f5).length c236_5), .int .i64 ((Zai l0_1 x46_2).f6)] 31 (0, 0))) ∧ Za (Below w.heap.size w w'))
     case atStart => exact ⟨(([] : List (List Int))), (0), (by first | rfl | (simp; done) | (simp [*]; done)), H', ⟨Nat.le_refl _⟩, ⟨by first | exact Kd.S_nil _ _ _ _ _ | exact Kd.N_nil _ _ _ _ _ | exact Kd.Zd2 _ _ _ _ _ | exact Kd.Q_nil _ _ _ _ _ | exact Kd.Ze2 _ _ _ _ _⟩, ⟨by (with_reducible repeat (first | apply Kd.Zbr | apply Kd.Zbs | apply Kd.Zb0)); exact Kd.Zdd (Kd.Zdi (p := ⟨gb237, 2, none⟩) (Kd.Zdi (p := ⟨gb237, 1, none⟩) (Kd.Zdt HO_228000.out BK237.out (by decide)) (fun _ hk => hk.2) (.slice Ao57 t238.length co57)) (fun _ hk => hk.2) (.slice Ao59 t241.length co59)) (fun _ hk => trivial)⟩, ⟨by (with_reducible repeat (first | apply Kd.Zaq | apply Kd.Zar | apply Kd.Zay)); exact Kd.Za7 (Kd.Zb (p := ⟨gb237, 2, none⟩) (Kd.Zb (p := ⟨gb237, 1, none⟩) (Kd.Za7 HO_228001.out (fun k_ hk => (⟨hk, hk.1.1.2.2⟩ : _ ∧ k_ ≠ gb237))) (fun _ hk => hk.2) (.slice Ao57 t238.length co57)) (fun _ hk => hk.2) (.slice Ao59 t241.length co59)) (fun _ hk => ⟨(by simp [Value.ownBlock]), ⟨hk.1.1.1.1, ⟨hk.1.1.1.2.1, ⟨hk.1.1.2, ⟨hk.1.2, hk.1.1.1.2.2⟩⟩⟩⟩⟩)⟩, ⟨by (with_reducible repeat (first | apply Kd.Zaq | apply Kd.Zar | apply Kd.Zay)); exact Kd.Za7 (Kd.Zb (p := ⟨gb237, 2, none⟩) (Kd.Zb (p := ⟨gb237, 1, none⟩) (Kd.Zbd HO_228003.out BK237.out (by decide)) (fun _ hk => hk.2) (.slice Ao57 t238.length co57)) (fun _ hk => hk.2) (.slice Ao59 t241.length co59)) (fun _ hk => ⟨hk.1.1.1, ⟨hk.1.1.2, hk.1.2⟩⟩)⟩, ⟨by (with_reducible repeat (first | apply Kd.Zaq | apply Kd.Zar | apply Kd.Zay)); exact Kd.Za7 (Kd.Zb (p := ⟨gb237, 2, none⟩) (Kd.Zb (p := ⟨gb237, 1, none⟩) (Kd.Zbd HO_228004.out BK237.out (by decide)) (fun _ hk => hk.2) (.slice Ao57 t238.length co57)) (fun _ hk => hk.2) (.slice Ao59 t241.length co59)) (fun _ hk => ⟨hk.1.1.1, ⟨hk.1.1.2, hk.1.2⟩⟩)⟩, ⟨by (with_reducible repeat (first | apply Kd.Zaq | apply Kd.Zar | apply Kd.Zay)); exact Kd.Za7 (Kd.Zb (p := ⟨gb237, 2, none⟩) (Kd.Zb (p := ⟨gb237, 1, none⟩) (Kd.Zbd HO240.out BK237.out (by decide)) (fun _ hk => hk.2) (.slice Ao57 t238.length co57)) (fun _ hk => hk.2) (.slice Ao59 t241.length co59)) (fun _ hk => ⟨hk.1.1.1.2, ⟨hk.1.1.2, hk.1.2⟩⟩)⟩, ⟨by (with_reducible repeat (first | apply Kd.Zaq | apply Kd.Zar | apply Kd.Zay)); exact Kd.Za7 (Kd.Zb (p := ⟨gb237, 2, none⟩) (Kd.Zb (p := ⟨gb237, 1, none⟩) (Kd.Zbd HO243.out BK237.out (by decide)) (fun _ hk => hk.2) (.slice Ao57 t238.length co57)) (fun _ hk => hk.2) (.slice Ao59 t241.length co59)) (fun _ hk => ⟨hk.1.1.1.2, ⟨hk.1.1.2, hk.1.2⟩⟩)⟩, ⟨by (with_reducible repeat (first | refine blk_drewN ?_ _ | refine Zag ?_ | refine Zaf ?_ _)); refine Zbc ?_ NB219_237.out _; (with_reducible repeat (first | refine blk_drewN ?_ _ | refine Zag ?_ | refine Zaf ?_ _)); refine Zbc ?_ NB219_237.out _; (with_reducible repeat (first | refine blk_drewN ?_ _ | refine Zag ?_ | refine Zaf ?_ _)); exact BK219.out⟩, ⟨by (with_reducible repeat (first | refine blk_drewN ?_ _ | refine Zag ?_ | refine Zaf ?_ _)); refine Zbc ?_ NB220_237.out _; (with_reducible repeat (first | refine blk_drewN ?_ _ | refine Zag ?_ | refine Zaf ?_ _)); refine Zbc ?_ NB220_237.out _; (with_reducible repeat (first | refine blk_drewN ?_ _ | refine Zag ?_ | refine Zaf ?_ _)); exact BK220.out⟩, ⟨by (with_reducible repeat (first | refine blk_drewN ?_ _ | refine Zag ?_ | refine Zaf ?_ _)); refine Zbc ?_ NB227_237.out _; (with_reducible repeat (first | refine blk_drewN ?_ _ | refine Zag ?_ | refine Zaf ?_ _)); refine Zbc ?_ NB227_237.out _; (with_reducible repeat (first | refine blk_drewN ?_ _ | refine Zag ?_ | refine Zaf ?_ _)); exact BK227.out⟩, ⟨by (with_reducible repeat (first | refine blk_drewN ?_ _ | refine Zag ?_ | refine Zaf ?_ _)); refine Zax (cs := #[.int .i64 ((Zai l0_1 x46_2).f0), .slice Ao57 t238.length co57, .slice A236_2 ((Zai l0_1 x46_2).f2).length c236_2, .int .i64 ((Zai l0_1 x46_2).f3), .int .i64 ((Zai l0_1 x46_2).f4), .slice A236_5 ((Zai l0_1 x46_2).f5).length c236_5, .int .i64 ((Zai l0_1 x46_2).f6)]) ?_ 2 _ rfl; (with_reducible repeat (first | refine blk_drewN ?_ _ | refine Zag ?_ | refine Zaf ?_ _)); refine Zax (cs := #[.int .i64 ((Zai l0_1 x46_2).f0), .slice A236_1 ((Zai l0_1 x46_2).f1).length c236_1, .slice A236_2 ((Zai l0_1 x46_2).f2).length c236_2, .int .i64 ((Zai l0_1 x46_2).f3), .int .i64 ((Zai l0_1 x46_2).f4), .slice A236_5 ((Zai l0_1 x46_2).f5).length c236_5, .int .i64 ((Zai l0_1 x46_2).f6)]) ?_ 1 _ rfl; (with_reducible repeat (first | refine blk_drewN ?_ _ | refine Zag ?_ | refine Zaf ?_ _)); exact BK237.out⟩, ⟨by repeat (first | (with_reducible first | exact HB.out | apply Zab | apply Zaa | apply Zac | refine Zae ?_ GE219.out | refine Zae ?_ GE220.out | refine Zae ?_ GE227.out | refine Zae ?_ GE237.out) | exact HB.out)⟩⟩
     case round =>
      clear H'
      try clear c2
      try clear p2
      try clear q2
      try clear hx2
      try clear c3
      try clear c4
      try clear c5
      try clear p6
      try clear c20
      try clear c21
      try clear c22
      try clear p22
      try clear q22
      try clear hx22
      try clear c23
      try clear c23b0
      try clear p23
      try clear q23
      try clear hx23
      try clear c24
      try clear c24b0
      try clear c25
      try clear c25b0
      try clear c27
      try clear c29
      try clear c30
      try clear c31
      try clear c40
      try clear c41
      try clear c43
      try clear c43b0
      try clear c44
      try clear c44b0
      try clear c45
      try clear c45b0
      try clear c48
      try clear c49
      try clear c50
      try clear c51
      try clear hcz22_0
      try clear hcz22_1
      try clear hcz22_2
      try clear hcz22_3
      try clear hcz22_4
      try clear hcz32_0
      try clear hcz32_1
      try clear hcz42_0
      try clear hcz42_1
      try clear hcz42_2
      try clear hcz42_3
      try clear hcz42_4
      try clear hcz52_0
      try clear hcz52_1
      try clear hcz52_2
      try clear hcz52_3
      try clear hcz52_4
      try clear hcz52_5
      try clear hcz52_6
      try clear hcz61_0
      try clear hcz61_1
      try clear hcz61_2
      try clear hcz61_3
      try clear hcz61_4
      try clear hcz61_5
      try clear hcz61_6
      try clear hfz22_0
      try clear hfz22_1
      try clear hfz22_2
      try clear hfz22_3
      try clear hfz22_4
      try clear hfz32_0
      try clear hfz32_1
      try clear hfz42_0
      try clear hfz42_1
      try clear hfz42_2
      try clear hfz42_3
      try clear hfz42_4
      try clear hfz52_0
      try clear hfz52_1
      try clear hfz52_2
      try clear hfz52_3
      try clear hfz52_4
      try clear hfz52_5
      try clear hfz52_6
      try clear hfz61_0
      try clear hfz61_1
      try clear hfz61_2
      try clear hfz61_3
      try clear hfz61_4
      try clear hfz61_5
      try clear hfz61_6
      try clear hx228_0
      try clear hx228_1
      try clear hx236_0
      try clear hx236_1
      try clear hx236_2
      try clear hx236_3
      try clear hx236_4
      try clear hx236_5
      try clear hx236_6
      try clear p2
      try clear p22
      try clear p228
      try clear p236
      try clear p6
      try clear q2
      try clear q22
      try clear q228
      try clear q236
      obtain ⟨x8_3, x61_3, rfl, HA, HK3, HO_8, HO_228000, HO_228001, HO_228003, HO_228004, HO_238001, HO_238002, BK219, BK220, BK227, BK237, HB⟩ := hrel
      cases gk with
      | zero => exact absurd HA.out (by simp [Za1.l2])
      | succ k3 =>
       have H := HA.out
       clear HA
       simp only [Za1.l2] at H
       by_cases c62 : x61_3 < (((Zai l0_1 x46_2).f5).length : Int)
       ·rw [if_pos c62] at H
        have c62b0 : decide (x61_3 < (((Zai l0_1 x46_2).f5).length : Int)) = true := decide_eq_true c62
        clear c62
        by_cases c63 : 0 ≤ x61_3
        rotate_left
        ·rw [if_neg c63] at H
         exact absurd H (by simp)
        rw [if_pos c63] at H
        have c63b0 : decide (0 ≤ x61_3) = true := decide_eq_true c63
        clear c63
        by_cases c64 : x61_3 < (((Zai l0_1 x46_2).f5).length : Int)
        rotate_left
        ·rw [if_neg c64] at H
         exact absurd H (by simp)
        rw [if_pos c64] at H
        have c64b0 : decide (x61_3 < (((Zai l0_1 x46_2).f5).length : Int)) = true := decide_eq_true c64
        clear c64
        replace H := Option.bind_eq_some_iff.mp H
        obtain ⟨t245, A650, H⟩ := H
        replace H : (if x8_3.length < 5864062014805 then (Za1.l2 k3 (x8_3 ++ [t245]) l0_1 (l0_1.length : Int) x46_2 ((Zai l0_1 x46_2).f5) (((Zai l0_1 x46_2).f5).length : Int) (wrap64 (x61_3 + 1)) x228000_1 x228001_2 a0_2 t221 t224 ((Zai l0_1 x46_2).f0) t238 t241 ((Zai l0_1 x46_2).f3) ((Zai l0_1 x46_2).f4) ((Zai l0_1 x46_2).f5) ((Zai l0_1 x46_2).f6)) else (none)) = some (r1, r2, r3, r4, r5) := H
        have A65 := Za.mk A650
        clear A650
        by_cases c66 : x8_3.length < 5864062014805
        rotate_left
        ·rw [if_neg c66] at H
         exact absurd H (by simp)
        rw [if_pos c66] at H
        have LMc66 := Za.mk c66
        clear c66
        obtain ⟨y248, hy248⟩ : ∃ y_ : List (List Int), y_ = (x8_3 ++ [t245]) := ⟨_, rfl⟩
        replace H : (Za1.l2 k3 y248 l0_1 (l0_1.length : Int) x46_2 ((Zai l0_1 x46_2).f5) (((Zai l0_1 x46_2).f5).length : Int) (wrap64 (x61_3 + 1)) x228000_1 x228001_2 a0_2 t221 t224 ((Zai l0_1 x46_2).f0) t238 t241 ((Zai l0_1 x46_2).f3) ((Zai l0_1 x46_2).f4) ((Zai l0_1 x46_2).f5) ((Zai l0_1 x46_2).f6)) = some (r1, r2, r3, r4, r5) := by first | (rw [hy248]; with_reducible exact H) | (have H2_ := (Option.bind_some _ _).symm.trans H; rw [hy248]; with_reducible exact H2_) | (have H2_ := (Option.bind_some _ _).symm.trans H; with_reducible exact H2_) | with_reducible exact H | (rw [hy248]; exact H) | exact H
        have Ny248 := Za.mk hy248
        clear hy248
        have H' := Za.mk H
        clear H
        have p244 : 0 ≤ (x61_3 : Int) := of_decide_eq_true (by first | (with_reducible assumption) | assumption)
        have q244 : x61_3 < (((Zai l0_1 x46_2).f5).length : Int) := of_decide_eq_true (by first | (with_reducible assumption) | assumption)
        obtain ⟨ad244, A244_0, c244_0, e244, hx244_0, hl244_0, hi244_0⟩ := at_L1 HR236_5.out x61_3 p244 q244
        cases e244
        replace hx244_0 := (HB.out.cell (World.block_lt_of_cell? w _ hx244_0)).trans hx244_0
        have HR244_0 := Za.mk hi244_0
        have HC244_0 := Za.mk hl244_0
        clear hi244_0 hl244_0
        replace p244 := eq_true p244
        replace q244 := eq_true q244
        go_wp2_with (first | ((with_reducible refine Zaw (f := 44) rfl ?_); refine Zbk (some 67) rfl rfl Try.func44 (by kernel_rfl) rfl #[.slice A244_0 (Zdz ((Zai l0_1 x46_2).f5) x61_3).length c244_0] rfl (by (try simp only [List.map_toArray, List.map_cons, List.map_nil]); first | done | rfl | (simp only [List.length_drop, List.length_take]; rfl)) ?_; (with_reducible refine (cloneI.calls _ _ (Zdz ((Zai l0_1 x46_2).f5) x61_3) t245 _ ?side1 ?side2 A65.out).mono ?_); (case side1 => repeat (first | exact (Kd.Zak HR244_0.out HB.out) | (with_reducible refine Kd.C_alloc ?_ _) | (with_reducible refine Kd.C_drewN ?_ _) | (with_reducible refine Kd.C_drew ?_))); (case side2 => exact HC244_0.out); rintro e w67 ⟨v246, rfl, ho0, hb⟩; refine ⟨_, rfl, ?_⟩; have n0_ := Za.mk (Kd.S_elder' (by (with_reducible repeat (first | apply Kd.Zbr | apply Kd.Zbs | apply Kd.Zb0)); exact HO_8.out) (Kd.Zch ho0) hb); have n1_ := Za.mk (Kd.Zdo (by (with_reducible repeat (first | apply Kd.Zbr | apply Kd.Zbs | apply Kd.Zb0)); exact HO_228000.out) hb); have n2_ := Za.mk (Kd.Zb4 (by (with_reducible repeat (first | apply Kd.Zaq | apply Kd.Zar | apply Kd.Zay)); exact HO_228001.out) (Kd.Zch ho0) hb); have n3_ := Za.mk (Kd.Zb4 (by (with_reducible repeat (first | apply Kd.Zaq | apply Kd.Zar | apply Kd.Zay)); exact HO_228003.out) (Kd.Zch ho0) hb); have n4_ := Za.mk (Kd.Zb4 (by (with_reducible repeat (first | apply Kd.Zaq | apply Kd.Zar | apply Kd.Zay)); exact HO_228004.out) (Kd.Zch ho0) hb); have n5_ := Za.mk (Kd.Zb4 (by (with_reducible repeat (first | apply Kd.Zaq | apply Kd.Zar | apply Kd.Zay)); exact HO_238001.out) (Kd.Zch ho0) hb); have n6_ := Za.mk (Kd.Zb4 (by (with_reducible repeat (first | apply Kd.Zaq | apply Kd.Zar | apply Kd.Zay)); exact HO_238002.out) (Kd.Zch ho0) hb); have n7_ := Za.mk (Kd.Zbq (Kd.Zda (Kd.Zda (Kd.Zda (Kd.Zda ho0 (Kd.R_lt (by (with_reducible repeat (first | apply Kd.Zaq | apply Kd.Zar | apply Kd.Zay)); exact HO_228003.out))) (Kd.R_lt (by (with_reducible repeat (first | apply Kd.Zaq | apply Kd.Zar | apply Kd.Zay)); exact HO_228004.out))) (Kd.R_lt (by (with_reducible repeat (first | apply Kd.Zaq | apply Kd.Zar | apply Kd.Zay)); exact HO_238001.out))) (Kd.R_lt (by (with_reducible repeat (first | apply Kd.Zaq | apply Kd.Zar | apply Kd.Zay)); exact HO_238002.out))) (Zaj (by repeat (first | (with_reducible first | exact HB.out | apply Zab | apply Zaa | apply Zac | refine Zae ?_ GE219.out | refine Zae ?_ GE220.out | refine Zae ?_ GE227.out | refine Zae ?_ GE237.out) | exact HB.out)))); have n8_ := Za.mk (Zau (g := gb219) (o := .cells #[.slice A0_0 l0_0.length c0_0, .slice (some ad236) l0_1.length c0_1, .int .i64 a0_2, .slice A0_3 l0_3.length c0_3, .slice A0_4 l0_4.length c0_4] 28 (0, 0)) (by (with_reducible repeat (first | refine blk_drewN ?_ _ | refine Zag ?_ | refine Zaf ?_ _)); exact BK219.out) hb); have n9_ := Za.mk (Zau (g := gb220) (o := .cells #[.slice none 0 0, .slice none 0 0, .int .i64 0, .slice none 0 0, .slice none 0 0] 28 (0, 0)) (by (with_reducible repeat (first | refine blk_drewN ?_ _ | refine Zag ?_ | refine Zaf ?_ _)); exact BK220.out) hb); have n10_ := Za.mk (Zau (g := gb227) (o := .cells #[u228000, u228001, .int .i64 a0_2, .slice Ao14 t221.length co14, .slice Ao13 t224.length co13] 28 (0, 0)) (by (with_reducible repeat (first | refine blk_drewN ?_ _ | refine Zag ?_ | refine Zaf ?_ _)); exact BK227.out) hb); have n11_ := Za.mk (Zau (g := gb237) (o := .cells #[.int .i64 ((Zai l0_1 x46_2).f0), .slice Ao57 t238.length co57, .slice Ao59 t241.length co59, .int .i64 ((Zai l0_1 x46_2).f3), .int .i64 ((Zai l0_1 x46_2).f4), .slice (some ad244) ((Zai l0_1 x46_2).f5).length c236_5, .int .i64 ((Zai l0_1 x46_2).f6)] 31 (0, 0)) (by (with_reducible repeat (first | refine blk_drewN ?_ _ | refine Zag ?_ | refine Zaf ?_ _)); exact BK237.out) hb); have n12_ := Za.mk (Zad (by repeat (first | (with_reducible first | exact HB.out | apply Zab | apply Zaa | apply Zac | refine Zae ?_ GE219.out | refine Zae ?_ GE220.out | refine Zae ?_ GE227.out | refine Zae ?_ GE237.out) | exact HB.out)) hb); clear HO_8; clear HO_228000; clear HO_228001; clear HO_228003; clear HO_228004; clear HO_238001; clear HO_238002; clear BK219; clear BK220; clear BK227; clear BK237; clear HB; have HO_8 := n0_; have HO_228000 := n1_; have HO_228001 := n2_; have HO_228003 := n3_; have HO_228004 := n4_; have HO_238001 := n5_; have HO_238002 := n6_; have HO247 := n7_; have BK219 := n8_; have BK220 := n9_; have BK227 := n10_; have BK237 := n11_; have HB := n12_; clear n0_ n1_ n2_ n3_ n4_ n5_ n6_ n7_ n8_ n9_ n10_ n11_ n12_; (try clear hb); (try clear hb2); (try clear hk); (try clear hi); (try clear ho0); obtain ⟨Ao69, co69, eo69⟩ := Kd.Za9 HO247.out; subst eo69) | ((with_reducible refine Zci (b := .append) (xs := #[.tmp 65, .tmp 68]) rfl ?_); at_builtin; refine Kd.S_append (Kd.slice 3 (Kd.int .i64)) (w0 := w) w.heap.size rfl (.tmp 65) (.tmp 68) 29 24 (.slice none 0 0) 24 rfl Try.underlying29 info24 rfl (by decide) (by omega) u8 x8_3 t245 [.slice Ao69 t245.length co69] (fun k_ => some k_ ≠ (.slice Ao14 t221.length co14 : Value).ownBlock ∧ some k_ ≠ (.slice Ao13 t224.length co13 : Value).ownBlock ∧ some k_ ≠ (.slice Ao57 t238.length co57 : Value).ownBlock ∧ some k_ ≠ (.slice Ao59 t241.length co59 : Value).ownBlock) (fun k_ => some k_ = (.slice Ao69 t245.length co69 : Value).ownBlock) rfl rfl ?aP (fun k_ hk_ => ((Kd.Za7 (ok' := fun k_ => ((fun k_ => some k_ ≠ (.slice Ao14 t221.length co14 : Value).ownBlock ∧ some k_ ≠ (.slice Ao13 t224.length co13 : Value).ownBlock ∧ some k_ ≠ (.slice Ao57 t238.length co57 : Value).ownBlock ∧ some k_ ≠ (.slice Ao59 t241.length co59 : Value).ownBlock)) k_ ∧ some k_ ≠ (u8 : Value).ownBlock) (Kd.Zc (HO247.out) (Kd.Zc4 HO_8.out) (by decide)) (fun k_ hk => ⟨⟨hk.1.1.1.1.2, ⟨hk.1.1.1.2, ⟨hk.1.1.2, hk.1.2⟩⟩⟩, hk.2⟩))).1 k_ hk_.symm) ?aF ?aO ?aB ?aS ?aL ?_; (case aP => exact Kd.M_row (Kd.Za7 (Kd.Zcz rfl (Kd.Za7 (ok' := fun k_ => ((fun k_ => some k_ ≠ (.slice Ao14 t221.length co14 : Value).ownBlock ∧ some k_ ≠ (.slice Ao13 t224.length co13 : Value).ownBlock ∧ some k_ ≠ (.slice Ao57 t238.length co57 : Value).ownBlock ∧ some k_ ≠ (.slice Ao59 t241.length co59 : Value).ownBlock)) k_ ∧ some k_ ≠ (u8 : Value).ownBlock) (Kd.Zc (HO247.out) (Kd.Zc4 HO_8.out) (by decide)) (fun k_ hk => ⟨⟨hk.1.1.1.1.2, ⟨hk.1.1.1.2, ⟨hk.1.1.2, hk.1.2⟩⟩⟩, hk.2⟩))) (fun _ h_ => h_))); (case aB => exact (by repeat (first | (with_reducible first | exact HB.out | apply Zab | apply Zaa | apply Zac | refine Zae ?_ GE219.out | refine Zae ?_ GE220.out | refine Zae ?_ GE227.out | refine Zae ?_ GE237.out) | exact HB.out))); (case aF => exact (fun k_ hk => ⟨Kd.fresh' (Kd.R_lt (by (with_reducible repeat (first | apply Kd.Zaq | apply Kd.Zar | apply Kd.Zay)); exact HO_228003.out)) k_ hk, Kd.fresh' (Kd.R_lt (by (with_reducible repeat (first | apply Kd.Zaq | apply Kd.Zar | apply Kd.Zay)); exact HO_228004.out)) k_ hk, Kd.fresh' (Kd.R_lt (by (with_reducible repeat (first | apply Kd.Zaq | apply Kd.Zar | apply Kd.Zay)); exact HO_238001.out)) k_ hk, Kd.fresh' (Kd.R_lt (by (with_reducible repeat (first | apply Kd.Zaq | apply Kd.Zar | apply Kd.Zay)); exact HO_238002.out)) k_ hk⟩)); (case aO => exact (by (with_reducible repeat (first | apply Kd.Zbr | apply Kd.Zbs | apply Kd.Zb0)); exact Kd.Zdd HO_8.out (fun k_ hk => ⟨⟨hk.1.1, ⟨hk.1.2.1, ⟨hk.1.2.2.1, hk.1.2.2.2⟩⟩⟩, fun e_ => hk.2 e_⟩))); (case aS => exact (Zaj (by repeat (first | (with_reducible first | exact HB.out | apply Zab | apply Zaa | apply Zac | refine Zae ?_ GE219.out | refine Zae ?_ GE220.out | refine Zae ?_ GE227.out | refine Zae ?_ GE237.out) | exact HB.out)))); (case aL => have := LMc66.out; omega); intro v249 w68 ho hb hg hat; rw [← Ny248.out] at ho; have n0_ := Za.mk (Kd.S_over' (by (with_reducible repeat (first | apply Kd.Zbr | apply Kd.Zbs | apply Kd.Zb0)); exact HO_228000.out) (Kd.Zc4 (by (with_reducible repeat (first | apply Kd.Zbr | apply Kd.Zbs | apply Kd.Zb0)); exact HO_8.out)) (by decide) hg); have n1_ := Za.mk (Kd.R_after (ok := (fun k_ => some k_ ≠ (.slice Ao14 t221.length co14 : Value).ownBlock ∧ some k_ ≠ (.slice Ao13 t224.length co13 : Value).ownBlock ∧ some k_ ≠ (.slice Ao57 t238.length co57 : Value).ownBlock ∧ some k_ ≠ (.slice Ao59 t241.length co59 : Value).ownBlock ∧ some k_ ≠ (.slice Ao69 t245.length co69 : Value).ownBlock ∧ k_ ≠ gb237)) (by (with_reducible repeat (first | apply Kd.Zaq | apply Kd.Zar | apply Kd.Zay)); exact Kd.Za7 HO_228001.out (fun _ hk => ⟨⟨hk.1.2.1, ⟨hk.1.2.2.1, ⟨hk.1.2.2.2.1, ⟨hk.1.2.2.2.2.1, ⟨hk.2, hk.1.2.2.2.2.2⟩⟩⟩⟩⟩, hk.1.1⟩)) hg hat); have n2_ := Za.mk (Kd.Zdn (by (with_reducible repeat (first | apply Kd.Zaq | apply Kd.Zar | apply Kd.Zay)); exact HO_228003.out) (Kd.Zc4 (by (with_reducible repeat (first | apply Kd.Zbr | apply Kd.Zbs | apply Kd.Zb0)); exact HO_8.out)) (by decide) hg); have n3_ := Za.mk (Kd.Zdn (by (with_reducible repeat (first | apply Kd.Zaq | apply Kd.Zar | apply Kd.Zay)); exact HO_228004.out) (Kd.Zc4 (by (with_reducible repeat (first | apply Kd.Zbr | apply Kd.Zbs | apply Kd.Zb0)); exact HO_8.out)) (by decide) hg); have n4_ := Za.mk (Kd.Zdn (by (with_reducible repeat (first | apply Kd.Zaq | apply Kd.Zar | apply Kd.Zay)); exact HO_238001.out) (Kd.Zc4 (by (with_reducible repeat (first | apply Kd.Zbr | apply Kd.Zbs | apply Kd.Zb0)); exact HO_8.out)) (by decide) hg); have n5_ := Za.mk (Kd.Zdn (by (with_reducible repeat (first | apply Kd.Zaq | apply Kd.Zar | apply Kd.Zay)); exact HO_238002.out) (Kd.Zc4 (by (with_reducible repeat (first | apply Kd.Zbr | apply Kd.Zbs | apply Kd.Zb0)); exact HO_8.out)) (by decide) hg); have n6_ := Za.mk (Zb1 (g := gb219) (o := .cells #[.slice A0_0 l0_0.length c0_0, .slice (some ad236) l0_1.length c0_1, .int .i64 a0_2, .slice A0_3 l0_3.length c0_3, .slice A0_4 l0_4.length c0_4] 28 (0, 0)) (by (with_reducible repeat (first | refine blk_drewN ?_ _ | refine Zag ?_ | refine Zaf ?_ _)); exact BK219.out) hg (Kd.S_ne HO_8.out BK219.out (by decide))); have n7_ := Za.mk (Zb1 (g := gb220) (o := .cells #[.slice none 0 0, .slice none 0 0, .int .i64 0, .slice none 0 0, .slice none 0 0] 28 (0, 0)) (by (with_reducible repeat (first | refine blk_drewN ?_ _ | refine Zag ?_ | refine Zaf ?_ _)); exact BK220.out) hg (Kd.S_ne HO_8.out BK220.out (by decide))); have n8_ := Za.mk (Zb1 (g := gb227) (o := .cells #[u228000, u228001, .int .i64 a0_2, .slice Ao14 t221.length co14, .slice Ao13 t224.length co13] 28 (0, 0)) (by (with_reducible repeat (first | refine blk_drewN ?_ _ | refine Zag ?_ | refine Zaf ?_ _)); exact BK227.out) hg (Kd.S_ne HO_8.out BK227.out (by decide))); have n9_ := Za.mk (Zb1 (g := gb237) (o := .cells #[.int .i64 ((Zai l0_1 x46_2).f0), .slice Ao57 t238.length co57, .slice Ao59 t241.length co59, .int .i64 ((Zai l0_1 x46_2).f3), .int .i64 ((Zai l0_1 x46_2).f4), .slice (some ad244) ((Zai l0_1 x46_2).f5).length c236_5, .int .i64 ((Zai l0_1 x46_2).f6)] 31 (0, 0)) (by (with_reducible repeat (first | refine blk_drewN ?_ _ | refine Zag ?_ | refine Zaf ?_ _)); exact BK237.out) hg (Kd.S_ne HO_8.out BK237.out (by decide))); have n10_ := Za.mk (hb); have n11_ := Za.mk (ho); clear HO_228000; clear HO_228001; clear HO_228003; clear HO_228004; clear HO_238001; clear HO_238002; clear BK219; clear BK220; clear BK227; clear BK237; clear HB; clear HO_8; clear HO247; have HO_228000 := n0_; have HO_228001 := n1_; have HO_228003 := n2_; have HO_228004 := n3_; have HO_238001 := n4_; have HO_238002 := n5_; have BK219 := n6_; have BK220 := n7_; have BK227 := n8_; have BK237 := n9_; have HB := n10_; have HO250 := n11_; clear n0_ n1_ n2_ n3_ n4_ n5_ n6_ n7_ n8_ n9_ n10_ n11_; clear ho hb hg hat))
        go_roundg k3
        case measure => have := HK1.out; have := HK2.out; have := HK3.out; omega
        case rel => exact ⟨(y248), (wrap64 (x61_3 + 1)), (by first | rfl | (simp; done) | (simp [*]; done)), H', ⟨by have := HK1.out; have := HK2.out; have := HK3.out; omega⟩, ⟨by (with_reducible repeat (first | apply Kd.Zbr | apply Kd.Zbs | apply Kd.Zb0)); exact HO250.out⟩, ⟨by (with_reducible repeat (first | apply Kd.Zbr | apply Kd.Zbs | apply Kd.Zb0)); exact HO_228000.out⟩, ⟨by (with_reducible repeat (first | apply Kd.Zaq | apply Kd.Zar | apply Kd.Zay)); exact Kd.Za7 HO_228001.out (fun _ hk => ⟨hk.2, ⟨hk.1.1, ⟨hk.1.2.1, ⟨hk.1.2.2.1, ⟨hk.1.2.2.2.1, hk.1.2.2.2.2.2⟩⟩⟩⟩⟩)⟩, ⟨by (with_reducible repeat (first | apply Kd.Zaq | apply Kd.Zar | apply Kd.Zay)); exact Kd.Za7 HO_228003.out (fun _ hk => ⟨hk.1.1, ⟨hk.1.2.1, hk.1.2.2⟩⟩)⟩, ⟨by (with_reducible repeat (first | apply Kd.Zaq | apply Kd.Zar | apply Kd.Zay)); exact Kd.Za7 HO_228004.out (fun _ hk => ⟨hk.1.1, ⟨hk.1.2.1, hk.1.2.2⟩⟩)⟩, ⟨by (with_reducible repeat (first | apply Kd.Zaq | apply Kd.Zar | apply Kd.Zay)); exact Kd.Za7 HO_238001.out (fun _ hk => ⟨hk.1.1, ⟨hk.1.2.1, hk.1.2.2⟩⟩)⟩, ⟨by (with_reducible repeat (first | apply Kd.Zaq | apply Kd.Zar | apply Kd.Zay)); exact Kd.Za7 HO_238002.out (fun _ hk => ⟨hk.1.1, ⟨hk.1.2.1, hk.1.2.2⟩⟩)⟩, ⟨by (with_reducible repeat (first | refine blk_drewN ?_ _ | refine Zag ?_ | refine Zaf ?_ _)); exact BK219.out⟩, ⟨by (with_reducible repeat (first | refine blk_drewN ?_ _ | refine Zag ?_ | refine Zaf ?_ _)); exact BK220.out⟩, ⟨by (with_reducible repeat (first | refine blk_drewN ?_ _ | refine Zag ?_ | refine Zaf ?_ _)); exact BK227.out⟩, ⟨by (with_reducible repeat (first | refine blk_drewN ?_ _ | refine Zag ?_ | refine Zaf ?_ _)); exact BK237.out⟩, ⟨by repeat (first | (with_reducible first | exact HB.out | apply Zab | apply Zaa | apply Zac | refine Zae ?_ GE219.out | refine Zae ?_ GE220.out | refine Zae ?_ GE227.out | refine Zae ?_ GE237.out) | exact HB.out)⟩⟩
       rw [if_neg c62] at H
       have c62b0 : decide (x61_3 < (((Zai l0_1 x46_2).f5).length : Int)) = false := decide_eq_false c62
       clear c62
       by_cases c70 : x228001_2.length < 1353245080339
       rotate_left
       ·rw [if_neg c70] at H
        exact absurd H (by simp)
       rw [if_pos c70] at H
       have LMc70 := Za.mk c70
       clear c70
       obtain ⟨y251, hy251⟩ : ∃ y_ : List (S31), y_ = (x228001_2 ++ [(⟨((Zai l0_1 x46_2).f0), t238, t241, ((Zai l0_1 x46_2).f3), ((Zai l0_1 x46_2).f4), x8_3, ((Zai l0_1 x46_2).f6)⟩ : S31)]) := ⟨_, rfl⟩
       replace H : (Za1.l1 k3 l0_1 (l0_1.length : Int) (wrap64 (x46_2 + 1)) x228000_1 y251 a0_2 t221 t224) = some (r1, r2, r3, r4, r5) := by first | (rw [hy251]; with_reducible exact H) | (have H2_ := (Option.bind_some _ _).symm.trans H; rw [hy251]; with_reducible exact H2_) | (have H2_ := (Option.bind_some _ _).symm.trans H; with_reducible exact H2_) | with_reducible exact H | (rw [hy251]; exact H) | exact H
       have Ny251 := Za.mk hy251
       clear hy251
       have H' := Za.mk H
       clear H
       obtain ⟨Ao71, co71, eo71⟩ := Kd.S_slice HO_8.out
       subst eo71
       have hnb72 := NB237_219.out
       have hnc72 := NB219_237.out
       have hnb73 := NB237_220.out
       have hnc73 := NB220_237.out
       have hnb74 := NB237_227.out
       have hnc74 := NB227_237.out
       obtain ⟨hcz75_0, hcz75_1, hcz75_2, hcz75_3, hcz75_4, hcz75_5, hcz75_6, hfz75_0, hfz75_1, hfz75_2, hfz75_3, hfz75_4, hfz75_5, hfz75_6⟩ := Zc9 BK237.out
       go_wp2_with (first | ((with_reducible refine gate_store (t := 29) (p := 72) rfl ?_); refine store_event (t := 29) (p := 72) (v := ?vo_w76) (w1 := (wr.setCell ⟨gb237, 5, none⟩ (.slice Ao71 x8_3.length co71))) ?hg ?ho ?hn ?hr ?_; (case ho => rfl); (case hg => rfl); (case hn => rfl); (case hr => first | (go_simp; done) | (go_simp; rfl)); intro w76 hw; have n0_ : Za (Kd.S (Kd.slice 3 (Kd.int .i64)) 24 w76 w.heap.size (fun k_ => some k_ ≠ (.slice Ao14 t221.length co14 : Value).ownBlock ∧ some k_ ≠ (.slice Ao13 t224.length co13 : Value).ownBlock ∧ some k_ ≠ (.slice Ao57 t238.length co57 : Value).ownBlock ∧ some k_ ≠ (.slice Ao59 t241.length co59 : Value).ownBlock) (.slice Ao71 x8_3.length co71) x8_3) := ⟨(by rw [hw]; exact (by (with_reducible repeat (first | apply Kd.Zbr | apply Kd.Zbs | apply Kd.Zb0)); exact Kd.Zdd (Kd.Zdi (p := ⟨gb237, 5, none⟩) (Kd.Zdt HO_8.out BK237.out (by decide)) (fun _ hk => hk.2) (.slice Ao71 x8_3.length co71)) (fun _ hk => ⟨hk.1.1, ⟨hk.1.2.1, ⟨hk.1.2.2.1, hk.1.2.2.2⟩⟩⟩)))⟩; have n1_ : Za (Kd.S k50 50 w76 w.heap.size (fun _ => True) u228000 x228000_1) := ⟨(by rw [hw]; exact (by (with_reducible repeat (first | apply Kd.Zbr | apply Kd.Zbs | apply Kd.Zb0)); exact Kd.Zdd (Kd.Zdi (p := ⟨gb237, 5, none⟩) (Kd.Zdt HO_228000.out BK237.out (by decide)) (fun _ hk => hk.2) (.slice Ao71 x8_3.length co71)) (fun _ hk => trivial)))⟩; have n2_ : Za (Kd.R k31 31 w76 w.heap.size (fun k_ => some k_ ≠ (.slice Ao71 x8_3.length co71 : Value).ownBlock ∧ some k_ ≠ (.slice Ao14 t221.length co14 : Value).ownBlock ∧ some k_ ≠ (.slice Ao13 t224.length co13 : Value).ownBlock ∧ some k_ ≠ (.slice Ao57 t238.length co57 : Value).ownBlock ∧ some k_ ≠ (.slice Ao59 t241.length co59 : Value).ownBlock ∧ k_ ≠ gb237) u228001 x228001_2) := ⟨(by rw [hw]; exact (by (with_reducible repeat (first | apply Kd.Zaq | apply Kd.Zar | apply Kd.Zay)); exact Kd.Za7 (Kd.Zb (p := ⟨gb237, 5, none⟩) (Kd.Za7 HO_228001.out (fun k_ hk => (⟨hk, hk.2.2.2.2.2⟩ : _ ∧ k_ ≠ gb237))) (fun _ hk => hk.2) (.slice Ao71 x8_3.length co71)) (fun _ hk => ⟨hk.1.1, ⟨hk.1.2.1, ⟨hk.1.2.2.1, ⟨hk.1.2.2.2.1, ⟨hk.1.2.2.2.2.1, hk.1.2.2.2.2.2⟩⟩⟩⟩⟩)))⟩; have n3_ : Za (Kd.R (Kd.int .i64) 3 w76 w.heap.size (fun k_ => some k_ ≠ (.slice Ao13 t224.length co13 : Value).ownBlock ∧ some k_ ≠ (.slice Ao57 t238.length co57 : Value).ownBlock ∧ some k_ ≠ (.slice Ao59 t241.length co59 : Value).ownBlock) (.slice Ao14 t221.length co14) t221) := ⟨(by rw [hw]; exact (by (with_reducible repeat (first | apply Kd.Zaq | apply Kd.Zar | apply Kd.Zay)); exact Kd.Za7 (Kd.Zb (p := ⟨gb237, 5, none⟩) (Kd.Zbd HO_228003.out BK237.out (by decide)) (fun _ hk => hk.2) (.slice Ao71 x8_3.length co71)) (fun _ hk => ⟨hk.1.1, ⟨hk.1.2.1, hk.1.2.2⟩⟩)))⟩; have n4_ : Za (Kd.R (Kd.int .i64) 3 w76 w.heap.size (fun k_ => some k_ ≠ (.slice Ao14 t221.length co14 : Value).ownBlock ∧ some k_ ≠ (.slice Ao57 t238.length co57 : Value).ownBlock ∧ some k_ ≠ (.slice Ao59 t241.length co59 : Value).ownBlock) (.slice Ao13 t224.length co13) t224) := ⟨(by rw [hw]; exact (by (with_reducible repeat (first | apply Kd.Zaq | apply Kd.Zar | apply Kd.Zay)); exact Kd.Za7 (Kd.Zb (p := ⟨gb237, 5, none⟩) (Kd.Zbd HO_228004.out BK237.out (by decide)) (fun _ hk => hk.2) (.slice Ao71 x8_3.length co71)) (fun _ hk => ⟨hk.1.1, ⟨hk.1.2.1, hk.1.2.2⟩⟩)))⟩; have n5_ : Za (Kd.R (Kd.int .i64) 3 w76 w.heap.size (fun k_ => some k_ ≠ (.slice Ao14 t221.length co14 : Value).ownBlock ∧ some k_ ≠ (.slice Ao13 t224.length co13 : Value).ownBlock ∧ some k_ ≠ (.slice Ao59 t241.length co59 : Value).ownBlock) (.slice Ao57 t238.length co57) t238) := ⟨(by rw [hw]; exact (by (with_reducible repeat (first | apply Kd.Zaq | apply Kd.Zar | apply Kd.Zay)); exact Kd.Za7 (Kd.Zb (p := ⟨gb237, 5, none⟩) (Kd.Zbd HO_238001.out BK237.out (by decide)) (fun _ hk => hk.2) (.slice Ao71 x8_3.length co71)) (fun _ hk => ⟨hk.1.1, ⟨hk.1.2.1, hk.1.2.2⟩⟩)))⟩; have n6_ : Za (Kd.R (Kd.int .i64) 3 w76 w.heap.size (fun k_ => some k_ ≠ (.slice Ao14 t221.length co14 : Value).ownBlock ∧ some k_ ≠ (.slice Ao13 t224.length co13 : Value).ownBlock ∧ some k_ ≠ (.slice Ao57 t238.length co57 : Value).ownBlock) (.slice Ao59 t241.length co59) t241) := ⟨(by rw [hw]; exact (by (with_reducible repeat (first | apply Kd.Zaq | apply Kd.Zar | apply Kd.Zay)); exact Kd.Za7 (Kd.Zb (p := ⟨gb237, 5, none⟩) (Kd.Zbd HO_238002.out BK237.out (by decide)) (fun _ hk => hk.2) (.slice Ao71 x8_3.length co71)) (fun _ hk => ⟨hk.1.1, ⟨hk.1.2.1, hk.1.2.2⟩⟩)))⟩; have n7_ : Za (w76.heap[gb219]? = some (.cells #[.slice A0_0 l0_0.length c0_0, .slice (some ad236) l0_1.length c0_1, .int .i64 a0_2, .slice A0_3 l0_3.length c0_3, .slice A0_4 l0_4.length c0_4] 28 (0, 0))) := ⟨(by rw [hw]; exact (by (with_reducible repeat (first | refine blk_drewN ?_ _ | refine Zag ?_ | refine Zaf ?_ _)); refine Zbc ?_ NB219_237.out _; (with_reducible repeat (first | refine blk_drewN ?_ _ | refine Zag ?_ | refine Zaf ?_ _)); exact BK219.out))⟩; have n8_ : Za (w76.heap[gb220]? = some (.cells #[.slice none 0 0, .slice none 0 0, .int .i64 0, .slice none 0 0, .slice none 0 0] 28 (0, 0))) := ⟨(by rw [hw]; exact (by (with_reducible repeat (first | refine blk_drewN ?_ _ | refine Zag ?_ | refine Zaf ?_ _)); refine Zbc ?_ NB220_237.out _; (with_reducible repeat (first | refine blk_drewN ?_ _ | refine Zag ?_ | refine Zaf ?_ _)); exact BK220.out))⟩; have n9_ : Za (w76.heap[gb227]? = some (.cells #[u228000, u228001, .int .i64 a0_2, .slice Ao14 t221.length co14, .slice Ao13 t224.length co13] 28 (0, 0))) := ⟨(by rw [hw]; exact (by (with_reducible repeat (first | refine blk_drewN ?_ _ | refine Zag ?_ | refine Zaf ?_ _)); refine Zbc ?_ NB227_237.out _; (with_reducible repeat (first | refine blk_drewN ?_ _ | refine Zag ?_ | refine Zaf ?_ _)); exact BK227.out))⟩; have n10_ : Za (w76.heap[gb237]? = some (.cells #[.int .i64 ((Zai l0_1 x46_2).f0), .slice Ao57 t238.length co57, .slice Ao59 t241.length co59, .int .i64 ((Zai l0_1 x46_2).f3), .int .i64 ((Zai l0_1 x46_2).f4), .slice Ao71 x8_3.length co71, .int .i64 ((Zai l0_1 x46_2).f6)] 31 (0, 0))) := ⟨(by rw [hw]; exact (by (with_reducible repeat (first | refine blk_drewN ?_ _ | refine Zag ?_ | refine Zaf ?_ _)); refine Zax (cs := #[.int .i64 ((Zai l0_1 x46_2).f0), .slice Ao57 t238.length co57, .slice Ao59 t241.length co59, .int .i64 ((Zai l0_1 x46_2).f3), .int .i64 ((Zai l0_1 x46_2).f4), .slice A236_5 ((Zai l0_1 x46_2).f5).length c236_5, .int .i64 ((Zai l0_1 x46_2).f6)]) ?_ 5 _ rfl; (with_reducible repeat (first | refine blk_drewN ?_ _ | refine Zag ?_ | refine Zaf ?_ _)); exact BK237.out))⟩; have n11_ : Za (Below w.heap.size w w76) := ⟨(by rw [hw]; exact (by repeat (first | (with_reducible first | exact HB.out | apply Zab | apply Zaa | apply Zac | refine Zae ?_ GE219.out | refine Zae ?_ GE220.out | refine Zae ?_ GE227.out | refine Zae ?_ GE237.out) | exact HB.out)))⟩; clear hw; clear HO_8; clear HO_228000; clear HO_228001; clear HO_228003; clear HO_228004; clear HO_238001; clear HO_238002; clear BK219; clear BK220; clear BK227; clear BK237; clear HB; have HO_8 := n0_; have HO_228000 := n1_; have HO_228001 := n2_; have HO_228003 := n3_; have HO_228004 := n4_; have HO_238001 := n5_; have HO_238002 := n6_; have BK219 := n7_; have BK220 := n8_; have BK227 := n9_; have BK237 := n10_; have HB := n11_; clear n0_ n1_ n2_ n3_ n4_ n5_ n6_ n7_ n8_ n9_ n10_ n11_; have hnb77 := NB227_219.out; have hnc77 := NB219_227.out; have hnb78 := NB227_220.out; have hnc78 := NB220_227.out; obtain ⟨hcz79_0, hcz79_1, hcz79_2, hcz79_3, hcz79_4, hfz79_0, hfz79_1, hfz79_2, hfz79_3, hfz79_4⟩ := blks5 BK227.out; obtain ⟨hcz80_0, hcz80_1, hcz80_2, hcz80_3, hcz80_4, hcz80_5, hcz80_6, hfz80_0, hfz80_1, hfz80_2, hfz80_3, hfz80_4, hfz80_5, hfz80_6⟩ := Zc9 BK237.out) | ((with_reducible refine Zci (b := .append) (xs := #[.tmp 74, .tmp 76]) rfl ?_); at_builtin; refine Kd.Zd5 k31 (w0 := w) w.heap.size rfl (.tmp 74) (.tmp 76) 23 31 (.agg #[(.int .i64 0), (.slice none 0 0), (.slice none 0 0), (.int .i64 0), (.int .i64 0), (.slice none 0 0), (.int .i64 0)]) 104 rfl Try.underlying23 info31 rfl (by decide) (by omega) u228001 x228001_2 (⟨((Zai l0_1 x46_2).f0), t238, t241, ((Zai l0_1 x46_2).f3), ((Zai l0_1 x46_2).f4), x8_3, ((Zai l0_1 x46_2).f6)⟩ : S31) [.int .i64 ((Zai l0_1 x46_2).f0), .slice Ao57 t238.length co57, .slice Ao59 t241.length co59, .int .i64 ((Zai l0_1 x46_2).f3), .int .i64 ((Zai l0_1 x46_2).f4), .slice Ao71 x8_3.length co71, .int .i64 ((Zai l0_1 x46_2).f6)] (fun k_ => some k_ ≠ (.slice Ao14 t221.length co14 : Value).ownBlock ∧ some k_ ≠ (.slice Ao13 t224.length co13 : Value).ownBlock ∧ k_ ≠ gb237) (fun k_ => ((fun k_ => some k_ ≠ (.slice Ao14 t221.length co14 : Value).ownBlock ∧ some k_ ≠ (.slice Ao13 t224.length co13 : Value).ownBlock ∧ k_ ≠ gb237)) k_ ∧ some k_ ≠ (u228001 : Value).ownBlock) rfl rfl ?aP (fun _ hk => hk) ?aF ?aO ?aB ?aS ?aL ?_; (case aP => exact k31_mkM _ _ _ (⟨((Zai l0_1 x46_2).f0), t238, t241, ((Zai l0_1 x46_2).f3), ((Zai l0_1 x46_2).f4), x8_3, ((Zai l0_1 x46_2).f6)⟩ : S31) (Kd.Za7 (Kd.Zbd (Kd.Zc (HO_238001.out) (Kd.Zcv HO_228001.out) (by decide)) BK237.out (by decide)) (fun k_ hk => ⟨⟨hk.1.1.1, ⟨hk.1.1.2.1, hk.2⟩⟩, hk.1.2⟩)) (Kd.Za7 (Kd.Zbd (Kd.Zc (HO_238002.out) (Kd.Zcv HO_228001.out) (by decide)) BK237.out (by decide)) (fun k_ hk => ⟨⟨hk.1.1.1, ⟨hk.1.1.2.1, hk.2⟩⟩, hk.1.2⟩)) (Kd.Za7 (Kd.Zbd (Kd.Zc ((Kd.S_R HO_8.out)) (Kd.Zcv HO_228001.out) (by decide)) BK237.out (by decide)) (fun k_ hk => ⟨⟨hk.1.1.1, ⟨hk.1.1.2.1, hk.2⟩⟩, hk.1.2⟩))); (case aB => exact (by repeat (first | (with_reducible first | exact HB.out | apply Zab | apply Zaa | apply Zac | refine Zae ?_ GE219.out | refine Zae ?_ GE220.out | refine Zae ?_ GE227.out | refine Zae ?_ GE237.out) | exact HB.out))); (case aF => exact (fun k_ hk => ⟨Kd.fresh' (Kd.R_lt (by (with_reducible repeat (first | apply Kd.Zaq | apply Kd.Zar | apply Kd.Zay)); exact HO_228003.out)) k_ hk, Kd.fresh' (Kd.R_lt (by (with_reducible repeat (first | apply Kd.Zaq | apply Kd.Zar | apply Kd.Zay)); exact HO_228004.out)) k_ hk, Kd.freshB (g := gb237) (o := .cells #[.int .i64 ((Zai l0_1 x46_2).f0), .slice Ao57 t238.length co57, .slice Ao59 t241.length co59, .int .i64 ((Zai l0_1 x46_2).f3), .int .i64 ((Zai l0_1 x46_2).f4), .slice Ao71 x8_3.length co71, .int .i64 ((Zai l0_1 x46_2).f6)] 31 (0, 0)) (by (with_reducible repeat (first | refine blk_drewN ?_ _ | refine Zag ?_ | refine Zaf ?_ _)); exact BK237.out) k_ hk⟩)); (case aO => exact (by (with_reducible repeat (first | apply Kd.Zaq | apply Kd.Zar | apply Kd.Zay)); exact Kd.Za7 HO_228001.out (fun _ hk => ⟨hk.2.1, ⟨hk.2.2.1, hk.2.2.2.2.2⟩⟩))); (case aS => exact (Zaj (by repeat (first | (with_reducible first | exact HB.out | apply Zab | apply Zaa | apply Zac | refine Zae ?_ GE219.out | refine Zae ?_ GE220.out | refine Zae ?_ GE227.out | refine Zae ?_ GE237.out) | exact HB.out)))); (case aL => have := LMc70.out; omega); intro v252 w81 ho hb hg hat; rw [← Ny251.out] at ho; have n0_ := Za.mk (Kd.S_over' (by (with_reducible repeat (first | apply Kd.Zbr | apply Kd.Zbs | apply Kd.Zb0)); exact HO_228000.out) (Kd.Zcv (by (with_reducible repeat (first | apply Kd.Zaq | apply Kd.Zar | apply Kd.Zay)); exact HO_228001.out)) (by decide) hg); have n1_ := Za.mk (Kd.Zdn (by (with_reducible repeat (first | apply Kd.Zaq | apply Kd.Zar | apply Kd.Zay)); exact HO_228003.out) (Kd.Zcv (by (with_reducible repeat (first | apply Kd.Zaq | apply Kd.Zar | apply Kd.Zay)); exact HO_228001.out)) (by decide) hg); have n2_ := Za.mk (Kd.Zdn (by (with_reducible repeat (first | apply Kd.Zaq | apply Kd.Zar | apply Kd.Zay)); exact HO_228004.out) (Kd.Zcv (by (with_reducible repeat (first | apply Kd.Zaq | apply Kd.Zar | apply Kd.Zay)); exact HO_228001.out)) (by decide) hg); have n3_ := Za.mk (Zb1 (g := gb219) (o := .cells #[.slice A0_0 l0_0.length c0_0, .slice (some ad236) l0_1.length c0_1, .int .i64 a0_2, .slice A0_3 l0_3.length c0_3, .slice A0_4 l0_4.length c0_4] 28 (0, 0)) (by (with_reducible repeat (first | refine blk_drewN ?_ _ | refine Zag ?_ | refine Zaf ?_ _)); exact BK219.out) hg (Kd.R_ne HO_228001.out BK219.out (by decide))); have n4_ := Za.mk (Zb1 (g := gb220) (o := .cells #[.slice none 0 0, .slice none 0 0, .int .i64 0, .slice none 0 0, .slice none 0 0] 28 (0, 0)) (by (with_reducible repeat (first | refine blk_drewN ?_ _ | refine Zag ?_ | refine Zaf ?_ _)); exact BK220.out) hg (Kd.R_ne HO_228001.out BK220.out (by decide))); have n5_ := Za.mk (Zb1 (g := gb227) (o := .cells #[u228000, u228001, .int .i64 a0_2, .slice Ao14 t221.length co14, .slice Ao13 t224.length co13] 28 (0, 0)) (by (with_reducible repeat (first | refine blk_drewN ?_ _ | refine Zag ?_ | refine Zaf ?_ _)); exact BK227.out) hg (Kd.R_ne HO_228001.out BK227.out (by decide))); have n6_ := Za.mk (Zb1 (g := gb237) (o := .cells #[.int .i64 ((Zai l0_1 x46_2).f0), .slice Ao57 t238.length co57, .slice Ao59 t241.length co59, .int .i64 ((Zai l0_1 x46_2).f3), .int .i64 ((Zai l0_1 x46_2).f4), .slice Ao71 x8_3.length co71, .int .i64 ((Zai l0_1 x46_2).f6)] 31 (0, 0)) (by (with_reducible repeat (first | refine blk_drewN ?_ _ | refine Zag ?_ | refine Zaf ?_ _)); exact BK237.out) hg (Kd.R_away HO_228001.out (fun _ hk => hk.2.2.2.2.2))); have n7_ := Za.mk (hb); have n8_ := Za.mk (ho); clear HO_228000; clear HO_228003; clear HO_228004; clear BK219; clear BK220; clear BK227; clear BK237; clear HB; clear HO_228001; clear HO_238001; clear HO_238002; clear HO_8; have HO_228000 := n0_; have HO_228003 := n1_; have HO_228004 := n2_; have BK219 := n3_; have BK220 := n4_; have BK227 := n5_; have BK237 := n6_; have HB := n7_; have HO253 := n8_; clear n0_ n1_ n2_ n3_ n4_ n5_ n6_ n7_ n8_; clear ho hb hg hat; obtain ⟨Ao82, co82, eo82⟩ := Kd.Za9 HO253.out; subst eo82; obtain ⟨hcz83_0, hcz83_1, hcz83_2, hcz83_3, hcz83_4, hfz83_0, hfz83_1, hfz83_2, hfz83_3, hfz83_4⟩ := blks5 BK227.out))
       go_roundg k3
       case measure => have := HK1.out; have := HK2.out; have := HK3.out; omega
       case rel => exact ⟨(wrap64 (x46_2 + 1)), (y251), (.slice Ao82 y251.length co82), (by first | rfl | (simp; done) | (simp [*]; done)), H', ⟨by have := HK1.out; have := HK2.out; have := HK3.out; omega⟩, ⟨by (with_reducible repeat (first | apply Kd.Zbr | apply Kd.Zbs | apply Kd.Zb0)); exact Kd.Zdd (Kd.Zdi (p := ⟨gb227, 1, none⟩) (Kd.Zdt HO_228000.out BK227.out (by decide)) (fun _ hk => hk.2) (.slice Ao82 y251.length co82)) (fun _ hk => trivial)⟩, ⟨by (with_reducible repeat (first | apply Kd.Zaq | apply Kd.Zar | apply Kd.Zay)); exact Kd.Za7 (Kd.Zb (p := ⟨gb227, 1, none⟩) (Kd.Zbd HO253.out BK227.out (by decide)) (fun _ hk => hk.2) (.slice Ao82 y251.length co82)) (fun _ hk => ⟨hk.1.1, hk.1.2.1⟩)⟩, ⟨by (with_reducible repeat (first | apply Kd.Zaq | apply Kd.Zar | apply Kd.Zay)); exact Kd.Za7 (Kd.Zb (p := ⟨gb227, 1, none⟩) (Kd.Zbd HO_228003.out BK227.out (by decide)) (fun _ hk => hk.2) (.slice Ao82 y251.length co82)) (fun _ hk => hk.1.1)⟩, ⟨by (with_reducible repeat (first | apply Kd.Zaq | apply Kd.Zar | apply Kd.Zay)); exact Kd.Za7 (Kd.Zb (p := ⟨gb227, 1, none⟩) (Kd.Zbd HO_228004.out BK227.out (by decide)) (fun _ hk => hk.2) (.slice Ao82 y251.length co82)) (fun _ hk => hk.1.1)⟩, ⟨by (with_reducible repeat (first | refine blk_drewN ?_ _ | refine Zag ?_ | refine Zaf ?_ _)); refine Zbc ?_ NB219_227.out _; (with_reducible repeat (first | refine blk_drewN ?_ _ | refine Zag ?_ | refine Zaf ?_ _)); exact BK219.out⟩, ⟨by (with_reducible repeat (first | refine blk_drewN ?_ _ | refine Zag ?_ | refine Zaf ?_ _)); refine Zbc ?_ NB220_227.out _; (with_reducible repeat (first | refine blk_drewN ?_ _ | refine Zag ?_ | refine Zaf ?_ _)); exact BK220.out⟩, ⟨by (with_reducible repeat (first | refine blk_drewN ?_ _ | refine Zag ?_ | refine Zaf ?_ _)); refine Zax (cs := #[u228000, u228001, .int .i64 a0_2, .slice Ao14 t221.length co14, .slice Ao13 t224.length co13]) ?_ 1 _ rfl; (with_reducible repeat (first | refine blk_drewN ?_ _ | refine Zag ?_ | refine Zaf ?_ _)); exact BK227.out⟩, ⟨by repeat (first | (with_reducible first | exact HB.out | apply Zab | apply Zaa | apply Zac | refine Zae ?_ GE219.out | refine Zae ?_ GE220.out | refine Zae ?_ GE227.out | refine Zae ?_ GE237.out) | exact HB.out)⟩⟩
def Zbx.l0 : Nat → List (List (S48)) → List (S50) → Int → Int → Option ((List (List (S48))))
 | 0, _, _, _, _ => none
 | k + 1, x3, x7, x8, x9 => if x9 < x8 then (if 0 ≤ x9 then (if x9 < (x7.length : Int) then ((cloneR.f ((Zbg x7 x9).f1)).bind fun t257 => (if x3.length < 5864062014805 then (Zbx.l0 k (x3 ++ [t257]) x7 x8 (wrap64 (x9 + 1))) else (none))) else (none)) else (none)) else (some x3)
def Zbx.f (k : Nat) (l0_0 : List (S50)) (l0_1 : List (S31)) (a0_2 : Int) (l0_3 : List Int) (l0_4 : List Int) : Option ((List (List (S48)))) := Zbx.l0 k ([] : List (List (S48))) l0_0 (l0_0.length : Int) 0
set_option maxHeartbeats 8000000 in
set_option maxRecDepth 100000 in
theorem Zbx.calls (k : Nat) (A0_0 : Option Addr) (c0_0 : Nat) (l0_0 : List (S50)) (A0_1 : Option Addr) (c0_1 : Nat) (l0_1 : List (S31)) (a0_2 : Int) (A0_3 : Option Addr) (c0_3 : Nat) (l0_3 : List Int) (A0_4 : Option Addr) (c0_4 : Nat) (l0_4 : List Int) (r : List (List (S48))) (w : World) (hr0_0 : Kd.C k50 w A0_0 l0_0.length l0_0) (hc0_0 : l0_0.length ≤ c0_0) (hr0_1 : Kd.C k31 w A0_1 l0_1.length l0_1) (hc0_1 : l0_1.length ≤ c0_1) (hr0_3 : Kd.C (Kd.int .i64) w A0_3 l0_3.length l0_3) (hc0_3 : l0_3.length ≤ c0_3) (hr0_4 : Kd.C (Kd.int .i64) w A0_4 l0_4.length l0_4) (hc0_4 : l0_4.length ≤ c0_4) (h : Zbx.f k l0_0 l0_1 a0_2 l0_3 l0_4 = some r) :
  Calls Try.prog 25 #[.agg #[.slice A0_0 l0_0.length c0_0, .slice A0_1 l0_1.length c0_1, .int .i64 a0_2, .slice A0_3 l0_3.length c0_3, .slice A0_4 l0_4.length c0_4]] w fun e w' => ∃ v0_ : Value, e = .returned (v0_) ∧ Kd.S (Kd.slice 48 k48) 37 w' w.heap.size (fun _ => True) v0_ r ∧ Below w.heap.size w w' := by
 have hu28 := Try.underlying28
 have hu50 := Try.underlying50
 have HR0_0 := Za.mk hr0_0
 have HC0_0 := Za.mk hc0_0
 clear hr0_0 hc0_0
 have HR0_1 := Za.mk hr0_1
 have HC0_1 := Za.mk hc0_1
 clear hr0_1 hc0_1
 have HR0_3 := Za.mk hr0_3
 have HC0_3 := Za.mk hc0_3
 clear hr0_3 hc0_3
 have HR0_4 := Za.mk hr0_4
 have HC0_4 := Za.mk hc0_4
 clear hr0_4 hc0_4
 have HB := Za.mk (Below.refl w.heap.size w)
 have H : (Zbx.l0 k ([] : List (List (S48))) l0_0 (l0_0.length : Int) 0) = some r := h
 clear h
 have H' := Za.mk H
 clear H
 go_enter Try.func25, Try.ntmps25
 go_wp2_with (first | ((with_reducible refine Zaz (N := 1) rfl ?_); refine Za5 ?hg (N := 1) ?hd (cs := #[.slice A0_0 l0_0.length c0_0, .slice A0_1 l0_1.length c0_1, .int .i64 a0_2, .slice A0_3 l0_3.length c0_3, .slice A0_4 l0_4.length c0_4]) (t := 28) ?hr ?_; (case hd => rfl); (case hg => rfl); (case hr => first | (go_simp; done) | (go_simp; rfl)); intro gb254 hg w2 hbox hb; have n0_ := Za.mk (Zad (by repeat (first | (with_reducible first | exact HB.out | apply Zab | apply Zaa | apply Zac) | exact HB.out)) hb); have n1_ := Za.mk (hbox); have n2_ := Za.mk ((by rw [hg]; exact (Zaj (by repeat (first | (with_reducible first | exact HB.out | apply Zab | apply Zaa | apply Zac) | exact HB.out))) : w.heap.size ≤ gb254)); have n3_ := Za.mk ((by rw [hg]; exact (Zaj (by repeat (first | (with_reducible first | exact HB.out | apply Zab | apply Zaa | apply Zac) | exact HB.out))) : w.heap.size ≤ gb254)); clear HB; have HB := n0_; have BK254 := n1_; have GW254 := n2_; have GE254 := n3_; clear n0_ n1_ n2_ n3_; clear hb hbox hg; obtain ⟨hcz3_0, hcz3_1, hcz3_2, hcz3_3, hcz3_4, hfz3_0, hfz3_1, hfz3_2, hfz3_3, hfz3_4⟩ := blks5 BK254.out))
 go_loopg [3, 9] k (fun kq v3 v9 w' => ∃ (x3_1 : List (List (S48))) (x9_1 : Int), v9 = .int .i64 x9_1 ∧ Za (Zbx.l0 kq x3_1 l0_0 (l0_0.length : Int) x9_1 = some r) ∧ Za (kq ≤ k) ∧ Za (Kd.S (Kd.slice 48 k48) 37 w' w.heap.size (fun _ => True) v3 x3_1) ∧ Za (w'.heap[gb254]? = some (.cells #[(.slice A0_0 l0_0.length c0_0), (.slice A0_1 l0_1.length c0_1), .int .i64 a0_2, (.slice A0_3 l0_3.length c0_3), (.slice A0_4 l0_4.length c0_4)] 28 (0, 0))) ∧ Za (Below w.heap.size w w'))
 case atStart => exact ⟨(([] : List (List (S48)))), (0), (by first | rfl | (simp; done) | (simp [*]; done)), H', ⟨Nat.le_refl _⟩, ⟨by first | exact Kd.S_nil _ _ _ _ _ | exact Kd.N_nil _ _ _ _ _ | exact Kd.Zd2 _ _ _ _ _ | exact Kd.Q_nil _ _ _ _ _ | exact Kd.Ze2 _ _ _ _ _⟩, ⟨by (with_reducible repeat (first | refine blk_drewN ?_ _ | refine Zag ?_ | refine Zaf ?_ _)); exact BK254.out⟩, ⟨by repeat (first | (with_reducible first | exact HB.out | apply Zab | apply Zaa | apply Zac | refine Zae ?_ GE254.out) | exact HB.out)⟩⟩
 case round =>
  clear H'
  try clear c2
  try clear p2
  try clear hcz3_0
  try clear hcz3_1
  try clear hcz3_2
  try clear hcz3_3
  try clear hcz3_4
  try clear hfz3_0
  try clear hfz3_1
  try clear hfz3_2
  try clear hfz3_3
  try clear hfz3_4
  obtain ⟨x3_1, x9_1, rfl, HA, HK1, HO_3, BK254, HB⟩ := hrel
  cases gk with
  | zero => exact absurd HA.out (by simp [Zbx.l0])
  | succ k1 =>
   have H := HA.out
   clear HA
   simp only [Zbx.l0] at H
   by_cases c4 : x9_1 < (l0_0.length : Int)
   rotate_left
   ·rw [if_neg c4] at H
    have c4b0 : decide (x9_1 < (l0_0.length : Int)) = false := decide_eq_false c4
    clear c4
    obtain rfl := Option.some.inj H
    go_wp2
    go_ret
    exact ⟨_, by first | rfl | (simp [Zam, Zan] <;> rfl) | (simp [*, Zam, Zan] <;> rfl), by (with_reducible repeat (first | apply Kd.Zbr | apply Kd.Zbs | apply Kd.Zb0)); exact HO_3.out, by repeat (first | (with_reducible first | exact HB.out | apply Zab | apply Zaa | apply Zac | refine Zae ?_ GE254.out) | exact HB.out)⟩
   rw [if_pos c4] at H
   have c4b0 : decide (x9_1 < (l0_0.length : Int)) = true := decide_eq_true c4
   clear c4
   by_cases c5 : 0 ≤ x9_1
   rotate_left
   ·rw [if_neg c5] at H
    exact absurd H (by simp)
   rw [if_pos c5] at H
   have c5b0 : decide (0 ≤ x9_1) = true := decide_eq_true c5
   clear c5
   by_cases c6 : x9_1 < (l0_0.length : Int)
   rotate_left
   ·rw [if_neg c6] at H
    exact absurd H (by simp)
   rw [if_pos c6] at H
   have c6b0 : decide (x9_1 < (l0_0.length : Int)) = true := decide_eq_true c6
   clear c6
   replace H := Option.bind_eq_some_iff.mp H
   obtain ⟨t257, A70, H⟩ := H
   replace H : (if x3_1.length < 5864062014805 then (Zbx.l0 k1 (x3_1 ++ [t257]) l0_0 (l0_0.length : Int) (wrap64 (x9_1 + 1))) else (none)) = some r := H
   have A7 := Za.mk A70
   clear A70
   by_cases c8 : x3_1.length < 5864062014805
   rotate_left
   ·rw [if_neg c8] at H
    exact absurd H (by simp)
   rw [if_pos c8] at H
   have LMc8 := Za.mk c8
   clear c8
   obtain ⟨y260, hy260⟩ : ∃ y_ : List (List (S48)), y_ = (x3_1 ++ [t257]) := ⟨_, rfl⟩
   replace H : (Zbx.l0 k1 y260 l0_0 (l0_0.length : Int) (wrap64 (x9_1 + 1))) = some r := by first | (rw [hy260]; with_reducible exact H) | (have H2_ := (Option.bind_some _ _).symm.trans H; rw [hy260]; with_reducible exact H2_) | (have H2_ := (Option.bind_some _ _).symm.trans H; with_reducible exact H2_) | with_reducible exact H | (rw [hy260]; exact H) | exact H
   have Ny260 := Za.mk hy260
   clear hy260
   have H' := Za.mk H
   clear H
   have p255 : 0 ≤ (x9_1 : Int) := of_decide_eq_true (by first | (with_reducible assumption) | assumption)
   have q255 : x9_1 < (l0_0.length : Int) := of_decide_eq_true (by first | (with_reducible assumption) | assumption)
   obtain ⟨ad255, A255_1, c255_1, e255, hx255_0, hx255_1, hl255_1, hi255_1⟩ := at_T50 HR0_0.out x9_1 p255 q255
   cases e255
   replace hx255_0 := (HB.out.cell (World.block_lt_of_cell? w _ hx255_0)).trans hx255_0
   replace hx255_1 := (HB.out.cell (World.block_lt_of_cell? w _ hx255_1)).trans hx255_1
   have HR255_1 := Za.mk hi255_1
   have HC255_1 := Za.mk hl255_1
   clear hi255_1 hl255_1
   replace p255 := eq_true p255
   replace q255 := eq_true q255
   go_wp2_with (first | ((with_reducible refine Zaz (N := 5) rfl ?_); refine Za5 ?hg (N := 5) ?hd (cs := #[.string (⟨#[]⟩ : ByteArray), .slice none 0 0]) (t := 50) ?hr ?_; (case hd => rfl); (case hg => rfl); (case hr => first | (go_simp; done) | (go_simp; rfl)); intro gb256 hg w9 hbox hb; have n0_ := Za.mk (Kd.Zdo (by (with_reducible repeat (first | apply Kd.Zbr | apply Kd.Zbs | apply Kd.Zb0)); exact HO_3.out) hb); have n1_ := Za.mk (Zau (g := gb254) (o := .cells #[.slice (some ad255) l0_0.length c0_0, .slice A0_1 l0_1.length c0_1, .int .i64 a0_2, .slice A0_3 l0_3.length c0_3, .slice A0_4 l0_4.length c0_4] 28 (0, 0)) (by (with_reducible repeat (first | refine blk_drewN ?_ _ | refine Zag ?_ | refine Zaf ?_ _)); exact BK254.out) hb); have n2_ := Za.mk (Zad (by repeat (first | (with_reducible first | exact HB.out | apply Zab | apply Zaa | apply Zac | refine Zae ?_ GE254.out) | exact HB.out)) hb); have n3_ := Za.mk (hbox); have n4_ := Za.mk ((by rw [hg]; exact (Zaj (by repeat (first | (with_reducible first | exact HB.out | apply Zab | apply Zaa | apply Zac | refine Zae ?_ GE254.out) | exact HB.out))) : w.heap.size ≤ gb256)); have n5_ := Za.mk ((by rw [hg]; exact (Zaj (by repeat (first | (with_reducible first | exact HB.out | apply Zab | apply Zaa | apply Zac | refine Zae ?_ GE254.out) | exact HB.out))) : w.heap.size ≤ gb256)); have n6_ := Za.mk ((by rw [hg]; exact Nat.ne_of_lt (Zbv (g := gb254) (o := .cells #[.slice (some ad255) l0_0.length c0_0, .slice A0_1 l0_1.length c0_1, .int .i64 a0_2, .slice A0_3 l0_3.length c0_3, .slice A0_4 l0_4.length c0_4] 28 (0, 0)) (by (with_reducible repeat (first | refine blk_drewN ?_ _ | refine Zag ?_ | refine Zaf ?_ _)); exact BK254.out)) : gb254 ≠ gb256)); have n7_ := Za.mk ((by rw [hg]; exact Nat.ne_of_gt (Zbv (g := gb254) (o := .cells #[.slice (some ad255) l0_0.length c0_0, .slice A0_1 l0_1.length c0_1, .int .i64 a0_2, .slice A0_3 l0_3.length c0_3, .slice A0_4 l0_4.length c0_4] 28 (0, 0)) (by (with_reducible repeat (first | refine blk_drewN ?_ _ | refine Zag ?_ | refine Zaf ?_ _)); exact BK254.out)) : gb256 ≠ gb254)); clear HO_3; clear BK254; clear HB; have HO_3 := n0_; have BK254 := n1_; have HB := n2_; have BK256 := n3_; have GW256 := n4_; have GE256 := n5_; have NB254_256 := n6_; have NB256_254 := n7_; clear n0_ n1_ n2_ n3_ n4_ n5_ n6_ n7_; clear hb hbox hg; have hnb10 := NB256_254.out; have hnc10 := NB254_256.out; obtain ⟨hcz11_0, hcz11_1, hfz11_0, hfz11_1⟩ := Zdg BK256.out) | ((with_reducible refine Zaw (f := 48) rfl ?_); refine Zbk (some 16) rfl rfl Try.func48 (by kernel_rfl) rfl #[.slice A255_1 ((Zbg l0_0 x9_1).f1).length c255_1] rfl (by (try simp only [List.map_toArray, List.map_cons, List.map_nil]); first | done | rfl | (simp only [List.length_drop, List.length_take]; rfl)) ?_; (with_reducible refine (cloneR.calls _ _ ((Zbg l0_0 x9_1).f1) t257 _ ?side1 ?side2 A7.out).mono ?_); (case side1 => exact Kd.Zak HR255_1.out (by repeat (first | (with_reducible first | exact HB.out | apply Zab | apply Zaa | apply Zac | refine Zae ?_ GE254.out | refine Zae ?_ GE256.out) | exact HB.out))); (case side2 => exact HC255_1.out); rintro e w12 ⟨v258, rfl, ho0, hb⟩; refine ⟨_, rfl, ?_⟩; have n0_ := Za.mk (Kd.S_elder' (by (with_reducible repeat (first | apply Kd.Zbr | apply Kd.Zbs | apply Kd.Zb0)); exact (Kd.Zdd (Kd.Zdi (p := ⟨gb256, 1, none⟩) (Kd.Zdi (p := ⟨gb256, 0, none⟩) (Kd.Zdt HO_3.out BK256.out (by decide)) (fun _ hk => hk.2) (.string ((Zbg l0_0 x9_1).f0))) (fun _ hk => hk.2) (.slice A255_1 ((Zbg l0_0 x9_1).f1).length c255_1)) (fun _ h_ => h_.1))) (Kd.Zch ho0) hb); have n1_ := Za.mk (Kd.Zbq ho0 (Zaj (by repeat (first | (with_reducible first | exact HB.out | apply Zab | apply Zaa | apply Zac | refine Zae ?_ GE254.out | refine Zae ?_ GE256.out) | exact HB.out)))); have n2_ := Za.mk (Zau (g := gb254) (o := .cells #[.slice (some ad255) l0_0.length c0_0, .slice A0_1 l0_1.length c0_1, .int .i64 a0_2, .slice A0_3 l0_3.length c0_3, .slice A0_4 l0_4.length c0_4] 28 (0, 0)) (by (with_reducible repeat (first | refine blk_drewN ?_ _ | refine Zag ?_ | refine Zaf ?_ _)); refine Zbc ?_ NB254_256.out _; (with_reducible repeat (first | refine blk_drewN ?_ _ | refine Zag ?_ | refine Zaf ?_ _)); refine Zbc ?_ NB254_256.out _; (with_reducible repeat (first | refine blk_drewN ?_ _ | refine Zag ?_ | refine Zaf ?_ _)); exact BK254.out) hb); have n3_ := Za.mk (Zau (g := gb256) (o := .cells #[.string ((Zbg l0_0 x9_1).f0), .slice A255_1 ((Zbg l0_0 x9_1).f1).length c255_1] 50 (0, 0)) (by (with_reducible repeat (first | refine blk_drewN ?_ _ | refine Zag ?_ | refine Zaf ?_ _)); refine Zax (cs := #[.string ((Zbg l0_0 x9_1).f0), .slice none 0 0]) ?_ 1 _ rfl; (with_reducible repeat (first | refine blk_drewN ?_ _ | refine Zag ?_ | refine Zaf ?_ _)); refine Zax (cs := #[.string (⟨#[]⟩ : ByteArray), .slice none 0 0]) ?_ 0 _ rfl; (with_reducible repeat (first | refine blk_drewN ?_ _ | refine Zag ?_ | refine Zaf ?_ _)); exact BK256.out) hb); have n4_ := Za.mk (Zad (by repeat (first | (with_reducible first | exact HB.out | apply Zab | apply Zaa | apply Zac | refine Zae ?_ GE254.out | refine Zae ?_ GE256.out) | exact HB.out)) hb); clear HO_3; clear BK254; clear BK256; clear HB; have HO_3 := n0_; have HO259 := n1_; have BK254 := n2_; have BK256 := n3_; have HB := n4_; clear n0_ n1_ n2_ n3_ n4_; (try clear hb); (try clear hb2); (try clear hk); (try clear hi); (try clear ho0); obtain ⟨Ao14, co14, eo14⟩ := Kd.Za9 HO259.out; subst eo14) | ((with_reducible refine Zci (b := .append) (xs := #[.tmp 13, .tmp 17]) rfl ?_); at_builtin; refine Kd.S_append (Kd.slice 48 k48) (w0 := w) w.heap.size rfl (.tmp 13) (.tmp 17) 33 37 (.slice none 0 0) 24 rfl Try.underlying33 info37 rfl (by decide) (by omega) u3 x3_1 t257 [.slice Ao14 t257.length co14] (fun _ => True) (fun k_ => some k_ = (.slice Ao14 t257.length co14 : Value).ownBlock) rfl rfl ?aP (fun k_ hk_ => ((Kd.Za7 (ok' := fun k_ => ((fun _ => True)) k_ ∧ some k_ ≠ (u3 : Value).ownBlock) (Kd.Zc (HO259.out) (Kd.Zc4 HO_3.out) (by decide)) (fun k_ hk => ⟨trivial, hk.2⟩))).1 k_ hk_.symm) ?aF ?aO ?aB ?aS ?aL ?_; (case aP => exact Kd.M_row (Kd.Za7 (Kd.Zcz rfl (Kd.Za7 (ok' := fun k_ => ((fun _ => True)) k_ ∧ some k_ ≠ (u3 : Value).ownBlock) (Kd.Zc (HO259.out) (Kd.Zc4 HO_3.out) (by decide)) (fun k_ hk => ⟨trivial, hk.2⟩))) (fun _ h_ => h_))); (case aB => exact (by repeat (first | (with_reducible first | exact HB.out | apply Zab | apply Zaa | apply Zac | refine Zae ?_ GE254.out | refine Zae ?_ GE256.out) | exact HB.out))); (case aF => exact (fun _ _ => trivial)); (case aO => exact (by (with_reducible repeat (first | apply Kd.Zbr | apply Kd.Zbs | apply Kd.Zb0)); exact Kd.Zdd HO_3.out (fun k_ hk => ⟨trivial, fun e_ => hk.2 e_⟩))); (case aS => exact (Zaj (by repeat (first | (with_reducible first | exact HB.out | apply Zab | apply Zaa | apply Zac | refine Zae ?_ GE254.out | refine Zae ?_ GE256.out) | exact HB.out)))); (case aL => have := LMc8.out; omega); intro v261 w13 ho hb hg hat; rw [← Ny260.out] at ho; have n0_ := Za.mk (Zb1 (g := gb254) (o := .cells #[.slice (some ad255) l0_0.length c0_0, .slice A0_1 l0_1.length c0_1, .int .i64 a0_2, .slice A0_3 l0_3.length c0_3, .slice A0_4 l0_4.length c0_4] 28 (0, 0)) (by (with_reducible repeat (first | refine blk_drewN ?_ _ | refine Zag ?_ | refine Zaf ?_ _)); exact BK254.out) hg (Kd.S_ne HO_3.out BK254.out (by decide))); have n1_ := Za.mk (Zb1 (g := gb256) (o := .cells #[.string ((Zbg l0_0 x9_1).f0), .slice A255_1 ((Zbg l0_0 x9_1).f1).length c255_1] 50 (0, 0)) (by (with_reducible repeat (first | refine blk_drewN ?_ _ | refine Zag ?_ | refine Zaf ?_ _)); exact BK256.out) hg (Kd.S_ne HO_3.out BK256.out (by decide))); have n2_ := Za.mk (hb); have n3_ := Za.mk (ho); clear BK254; clear BK256; clear HB; clear HO_3; clear HO259; have BK254 := n0_; have BK256 := n1_; have HB := n2_; have HO262 := n3_; clear n0_ n1_ n2_ n3_; clear ho hb hg hat))
   go_roundg k1
   case measure => have := HK1.out; omega
   case rel => exact ⟨(y260), (wrap64 (x9_1 + 1)), (by first | rfl | (simp; done) | (simp [*]; done)), H', ⟨by have := HK1.out; omega⟩, ⟨by (with_reducible repeat (first | apply Kd.Zbr | apply Kd.Zbs | apply Kd.Zb0)); exact HO262.out⟩, ⟨by (with_reducible repeat (first | refine blk_drewN ?_ _ | refine Zag ?_ | refine Zaf ?_ _)); exact BK254.out⟩, ⟨by repeat (first | (with_reducible first | exact HB.out | apply Zab | apply Zaa | apply Zac | refine Zae ?_ GE254.out | refine Zae ?_ GE256.out) | exact HB.out)⟩⟩
def Zbe.f (a0_0 : Int) (l0_1 : List Int) (l0_2 : List Int) (a0_3 : Int) (a0_4 : Int) (l0_5 : List (List Int)) (a0_6 : Int) : Option ((List (S50)) × (List (S31)) × Int × List Int × List Int) := some ((([(⟨(⟨#[120]⟩ : ByteArray), (([(⟨0, 3⟩ : S48)] : List (S48)))⟩ : S50)] : List (S50))), (([(⟨a0_0, l0_1, l0_2, a0_3, a0_4, l0_5, a0_6⟩ : S31)] : List (S31))), 0, ([] : List Int), ([] : List Int))
set_option maxHeartbeats 8000000 in
set_option maxRecDepth 100000 in
theorem Zbe.calls (a0_0 : Int) (P0_1_ : Nat → Prop) (A0_1 : Option Addr) (c0_1 : Nat) (l0_1 : List Int) (P0_2_ : Nat → Prop) (A0_2 : Option Addr) (c0_2 : Nat) (l0_2 : List Int) (a0_3 : Int) (a0_4 : Int) (P0_5_ : Nat → Prop) (A0_5 : Option Addr) (c0_5 : Nat) (l0_5 : List (List Int)) (a0_6 : Int) (r1 : List (S50)) (r2 : List (S31)) (r3 : Int) (r4 : List Int) (r5 : List Int) (w : World) (hs0_1 : Kd.V (Kd.int .i64) 3 w w.heap.size (fun k_ => P0_1_ k_) (.slice A0_1 l0_1.length c0_1) l0_1) (hs0_2 : Kd.V (Kd.int .i64) 3 w w.heap.size (fun k_ => P0_2_ k_) (.slice A0_2 l0_2.length c0_2) l0_2) (hs0_5 : Kd.V (Kd.slice 3 (Kd.int .i64)) 24 w w.heap.size (fun k_ => P0_5_ k_) (.slice A0_5 l0_5.length c0_5) l0_5) (h : Zbe.f a0_0 l0_1 l0_2 a0_3 a0_4 l0_5 a0_6 = some (r1, r2, r3, r4, r5)) :
  Calls Try.prog 37 #[.agg #[.int .i64 a0_0, .slice A0_1 l0_1.length c0_1, .slice A0_2 l0_2.length c0_2, .int .i64 a0_3, .int .i64 a0_4, .slice A0_5 l0_5.length c0_5, .int .i64 a0_6]] w fun e w' => ∃ v0_ v1_ v3_ v4_ : Value, e = .returned (.agg #[v0_, v1_, .int .i64 r3, v3_, v4_]) ∧ Kd.N k50 50 w' w.heap.size (fun k_ => ((P0_1_ k_ ∨ P0_2_ k_ ∨ P0_5_ k_) ∨ w.heap.size ≤ k_) ∧ some k_ ≠ (v1_ : Value).ownBlock ∧ some k_ ≠ (v3_ : Value).ownBlock ∧ some k_ ≠ (v4_ : Value).ownBlock) v0_ r1 ∧ Kd.N k31 31 w' w.heap.size (fun k_ => ((P0_1_ k_ ∨ P0_2_ k_ ∨ P0_5_ k_) ∨ w.heap.size ≤ k_) ∧ some k_ ≠ (v0_ : Value).ownBlock ∧ some k_ ≠ (v3_ : Value).ownBlock ∧ some k_ ≠ (v4_ : Value).ownBlock) v1_ r2 ∧ Kd.R (Kd.int .i64) 3 w' w.heap.size (fun k_ => (w.heap.size ≤ k_) ∧ some k_ ≠ (v4_ : Value).ownBlock) v3_ r4 ∧ Kd.R (Kd.int .i64) 3 w' w.heap.size (fun k_ => (w.heap.size ≤ k_) ∧ some k_ ≠ (v3_ : Value).ownBlock) v4_ r5 ∧ Below w.heap.size w w' := by
 have hu31 := Try.underlying31
 have hu28 := Try.underlying28
 have hu48 := Try.underlying48
 have hu50 := Try.underlying50
 have HO0_1 := Za.mk (show Kd.V (Kd.int .i64) 3 w w.heap.size (fun k_ => ((P0_1_ k_ ∨ P0_2_ k_ ∨ P0_5_ k_) ∨ w.heap.size ≤ k_)) (.slice A0_1 l0_1.length c0_1) l0_1 from Kd.Zd7 hs0_1 (fun k_ hk => .inl (.inl hk)))
 have HO0_2 := Za.mk (show Kd.V (Kd.int .i64) 3 w w.heap.size (fun k_ => ((P0_1_ k_ ∨ P0_2_ k_ ∨ P0_5_ k_) ∨ w.heap.size ≤ k_)) (.slice A0_2 l0_2.length c0_2) l0_2 from Kd.Zd7 hs0_2 (fun k_ hk => .inl (.inr (.inl hk))))
 have HO0_5 := Za.mk (show Kd.V (Kd.slice 3 (Kd.int .i64)) 24 w w.heap.size (fun k_ => ((P0_1_ k_ ∨ P0_2_ k_ ∨ P0_5_ k_) ∨ w.heap.size ≤ k_)) (.slice A0_5 l0_5.length c0_5) l0_5 from Kd.Zd7 hs0_5 (fun k_ hk => .inl (.inr (.inr hk))))
 have HB := Za.mk (Below.refl w.heap.size w)
 have H : (some ((([(⟨(⟨#[120]⟩ : ByteArray), (([(⟨0, 3⟩ : S48)] : List (S48)))⟩ : S50)] : List (S50))), (([(⟨a0_0, l0_1, l0_2, a0_3, a0_4, l0_5, a0_6⟩ : S31)] : List (S31))), 0, ([] : List Int), ([] : List Int))) = some (r1, r2, r3, r4, r5) := h
 clear h
 obtain ⟨y350, hy350⟩ : ∃ y_ : List (S48), y_ = (([(⟨0, 3⟩ : S48)] : List (S48))) := ⟨_, rfl⟩
 replace H : (some ((([(⟨(⟨#[120]⟩ : ByteArray), y350⟩ : S50)] : List (S50))), (([(⟨a0_0, l0_1, l0_2, a0_3, a0_4, l0_5, a0_6⟩ : S31)] : List (S31))), 0, ([] : List Int), ([] : List Int))) = some (r1, r2, r3, r4, r5) := by first | (rw [hy350]; with_reducible exact H) | (have H2_ := (Option.bind_some _ _).symm.trans H; rw [hy350]; with_reducible exact H2_) | (have H2_ := (Option.bind_some _ _).symm.trans H; with_reducible exact H2_) | with_reducible exact H | (rw [hy350]; exact H) | exact H
 have Ny350 := Za.mk hy350
 clear hy350
 obtain ⟨y353, hy353⟩ : ∃ y_ : List (S50), y_ = (([(⟨(⟨#[120]⟩ : ByteArray), y350⟩ : S50)] : List (S50))) := ⟨_, rfl⟩
 replace H : (some (y353, (([(⟨a0_0, l0_1, l0_2, a0_3, a0_4, l0_5, a0_6⟩ : S31)] : List (S31))), 0, ([] : List Int), ([] : List Int))) = some (r1, r2, r3, r4, r5) := by first | (rw [hy353]; with_reducible exact H) | (have H2_ := (Option.bind_some _ _).symm.trans H; rw [hy353]; with_reducible exact H2_) | (have H2_ := (Option.bind_some _ _).symm.trans H; with_reducible exact H2_) | with_reducible exact H | (rw [hy353]; exact H) | exact H
 have Ny353 := Za.mk hy353
 clear hy353
 obtain ⟨y356, hy356⟩ : ∃ y_ : List (S31), y_ = (([(⟨a0_0, l0_1, l0_2, a0_3, a0_4, l0_5, a0_6⟩ : S31)] : List (S31))) := ⟨_, rfl⟩
 replace H : (some (y353, y356, 0, ([] : List Int), ([] : List Int))) = some (r1, r2, r3, r4, r5) := by first | (rw [hy356]; with_reducible exact H) | (have H2_ := (Option.bind_some _ _).symm.trans H; rw [hy356]; with_reducible exact H2_) | (have H2_ := (Option.bind_some _ _).symm.trans H; with_reducible exact H2_) | with_reducible exact H | (rw [hy356]; exact H) | exact H
 have Ny356 := Za.mk hy356
 clear hy356
 simp only [Option.some.injEq, Prod.mk.injEq] at H
 obtain ⟨rfl, rfl, rfl, rfl, rfl⟩ := H
 go_enter Try.func37, Try.ntmps37
 go_wp2_with (first | ((with_reducible refine Zaz (N := 1) rfl ?_); refine Za5 ?hg (N := 1) ?hd (cs := #[.int .i64 a0_0, .slice A0_1 l0_1.length c0_1, .slice A0_2 l0_2.length c0_2, .int .i64 a0_3, .int .i64 a0_4, .slice A0_5 l0_5.length c0_5, .int .i64 a0_6]) (t := 31) ?hr ?_; (case hd => rfl); (case hg => rfl); (case hr => first | (go_simp; done) | (go_simp; rfl)); intro gb348 hg w2 hbox hb; have n0_ := Za.mk (Kd.Zec (Kd.Zdv (by (with_reducible repeat (first | apply Kd.Zcw | apply Kd.Zcx | apply Kd.Zde)); exact HO0_1.out) gb348 (Nat.le_of_eq hg.symm)) hb); have n1_ := Za.mk (Kd.Zec (Kd.Zdv (by (with_reducible repeat (first | apply Kd.Zcw | apply Kd.Zcx | apply Kd.Zde)); exact HO0_2.out) gb348 (Nat.le_of_eq hg.symm)) hb); have n2_ := Za.mk (Kd.Zec (Kd.Zdv (by (with_reducible repeat (first | apply Kd.Zcw | apply Kd.Zcx | apply Kd.Zde)); exact HO0_5.out) gb348 (Nat.le_of_eq hg.symm)) hb); have n3_ := Za.mk (Zad (by repeat (first | (with_reducible first | exact HB.out | apply Zab | apply Zaa | apply Zac) | exact HB.out)) hb); have n4_ := Za.mk (hbox); have n5_ := Za.mk ((by rw [hg]; exact (Zaj (by repeat (first | (with_reducible first | exact HB.out | apply Zab | apply Zaa | apply Zac) | exact HB.out))) : w.heap.size ≤ gb348)); have n6_ := Za.mk ((by rw [hg]; exact (Zaj (by repeat (first | (with_reducible first | exact HB.out | apply Zab | apply Zaa | apply Zac) | exact HB.out))) : w.heap.size ≤ gb348)); clear HO0_1; clear HO0_2; clear HO0_5; clear HB; have HO0_1 := n0_; have HO0_2 := n1_; have HO0_5 := n2_; have HB := n3_; have BK348 := n4_; have GW348 := n5_; have GE348 := n6_; clear n0_ n1_ n2_ n3_ n4_ n5_ n6_; clear hb hbox hg) | ((with_reducible refine Zaz (N := 2) rfl ?_); refine Za5 ?hg (N := 2) ?hd (cs := #[.slice none 0 0, .slice none 0 0, .int .i64 0, .slice none 0 0, .slice none 0 0]) (t := 28) ?hr ?_; (case hd => rfl); (case hg => rfl); (case hr => first | (go_simp; done) | (go_simp; rfl)); intro gb349 hg w3 hbox hb; have n0_ := Za.mk (Kd.Zec (Kd.Zdv (by (with_reducible repeat (first | apply Kd.Zcw | apply Kd.Zcx | apply Kd.Zde)); exact HO0_1.out) gb349 (Nat.le_of_eq hg.symm)) hb); have n1_ := Za.mk (Kd.Zec (Kd.Zdv (by (with_reducible repeat (first | apply Kd.Zcw | apply Kd.Zcx | apply Kd.Zde)); exact HO0_2.out) gb349 (Nat.le_of_eq hg.symm)) hb); have n2_ := Za.mk (Kd.Zec (Kd.Zdv (by (with_reducible repeat (first | apply Kd.Zcw | apply Kd.Zcx | apply Kd.Zde)); exact HO0_5.out) gb349 (Nat.le_of_eq hg.symm)) hb); have n3_ := Za.mk (Zau (g := gb348) (o := .cells #[.int .i64 a0_0, .slice A0_1 l0_1.length c0_1, .slice A0_2 l0_2.length c0_2, .int .i64 a0_3, .int .i64 a0_4, .slice A0_5 l0_5.length c0_5, .int .i64 a0_6] 31 (0, 0)) (by (with_reducible repeat (first | refine blk_drewN ?_ _ | refine Zag ?_ | refine Zaf ?_ _)); exact BK348.out) hb); have n4_ := Za.mk (Zad (by repeat (first | (with_reducible first | exact HB.out | apply Zab | apply Zaa | apply Zac | refine Zae ?_ GE348.out) | exact HB.out)) hb); have n5_ := Za.mk (hbox); have n6_ := Za.mk ((by rw [hg]; exact (Zaj (by repeat (first | (with_reducible first | exact HB.out | apply Zab | apply Zaa | apply Zac | refine Zae ?_ GE348.out) | exact HB.out))) : w.heap.size ≤ gb349)); have n7_ := Za.mk ((by rw [hg]; exact (Zaj (by repeat (first | (with_reducible first | exact HB.out | apply Zab | apply Zaa | apply Zac | refine Zae ?_ GE348.out) | exact HB.out))) : w.heap.size ≤ gb349)); have n8_ := Za.mk ((by rw [hg]; exact Nat.ne_of_lt (Zbv (g := gb348) (o := .cells #[.int .i64 a0_0, .slice A0_1 l0_1.length c0_1, .slice A0_2 l0_2.length c0_2, .int .i64 a0_3, .int .i64 a0_4, .slice A0_5 l0_5.length c0_5, .int .i64 a0_6] 31 (0, 0)) (by (with_reducible repeat (first | refine blk_drewN ?_ _ | refine Zag ?_ | refine Zaf ?_ _)); exact BK348.out)) : gb348 ≠ gb349)); have n9_ := Za.mk ((by rw [hg]; exact Nat.ne_of_gt (Zbv (g := gb348) (o := .cells #[.int .i64 a0_0, .slice A0_1 l0_1.length c0_1, .slice A0_2 l0_2.length c0_2, .int .i64 a0_3, .int .i64 a0_4, .slice A0_5 l0_5.length c0_5, .int .i64 a0_6] 31 (0, 0)) (by (with_reducible repeat (first | refine blk_drewN ?_ _ | refine Zag ?_ | refine Zaf ?_ _)); exact BK348.out)) : gb349 ≠ gb348)); clear HO0_1; clear HO0_2; clear HO0_5; clear BK348; clear HB; have HO0_1 := n0_; have HO0_2 := n1_; have HO0_5 := n2_; have BK348 := n3_; have HB := n4_; have BK349 := n5_; have GW349 := n6_; have GE349 := n7_; have NB348_349 := n8_; have NB349_348 := n9_; clear n0_ n1_ n2_ n3_ n4_ n5_ n6_ n7_ n8_ n9_; clear hb hbox hg) | ((with_reducible refine Zaz (N := 4) rfl ?_); refine Kd.Zcs k48 _ 48 ?hg (N := 4) ?hd (xs := ([(⟨0, 3⟩ : S48)] : List (S48))) (inner := [.int .i64 0, .int .i64 3]) (ok := fun _ => True) (okp := fun _ => True) ?hr ?hp (fun _ hk => hk) trivial (Below.refl _ _) (Nat.le_refl _) (by simp) ?_; (case hd => rfl); (case hg => rfl); (case hr => first | (go_simp; done) | (go_simp; rfl)); (case hp => exact (Reps.c2 (show Kd.M k48 _ _ _ (⟨0, 3⟩ : S48) [.int .i64 0, .int .i64 3] from (Zd3 _ _ _ (⟨0, 3⟩ : S48) )) (Reps.none _ _))); intro v351 w4 ho5 hb hg_ hnew_; clear hg_ hnew_; (first | rw [← Ny350.out] at ho5 | (simp only [Int.reduceToNat] at ho5; rw [← Ny350.out] at ho5)); have n0_ := Za.mk (Kd.Zdb (by (with_reducible repeat (first | apply Kd.Zcw | apply Kd.Zcx | apply Kd.Zde)); exact HO0_1.out) (Kd.Zch ho5) hb); have n1_ := Za.mk (Kd.Zdb (by (with_reducible repeat (first | apply Kd.Zcw | apply Kd.Zcx | apply Kd.Zde)); exact HO0_2.out) (Kd.Zch ho5) hb); have n2_ := Za.mk (Kd.Zdb (by (with_reducible repeat (first | apply Kd.Zcw | apply Kd.Zcx | apply Kd.Zde)); exact HO0_5.out) (Kd.Zch ho5) hb); have n3_ := Za.mk (Kd.Zbq (Kd.R_newM (M := fun k_ => (w.heap.size ≤ k_)) ho5 (Zaj (by repeat (first | (with_reducible first | exact HB.out | apply Zab | apply Zaa | apply Zac | refine Zae ?_ GE348.out | refine Zae ?_ GE349.out) | exact HB.out))) (fun k_ h_ => h_)) (Zaj (by repeat (first | (with_reducible first | exact HB.out | apply Zab | apply Zaa | apply Zac | refine Zae ?_ GE348.out | refine Zae ?_ GE349.out) | exact HB.out)))); have n4_ := Za.mk (Zau (g := gb348) (o := .cells #[.int .i64 a0_0, .slice A0_1 l0_1.length c0_1, .slice A0_2 l0_2.length c0_2, .int .i64 a0_3, .int .i64 a0_4, .slice A0_5 l0_5.length c0_5, .int .i64 a0_6] 31 (0, 0)) (by (with_reducible repeat (first | refine blk_drewN ?_ _ | refine Zag ?_ | refine Zaf ?_ _)); exact BK348.out) hb); have n5_ := Za.mk (Zau (g := gb349) (o := .cells #[.slice none 0 0, .slice none 0 0, .int .i64 0, .slice none 0 0, .slice none 0 0] 28 (0, 0)) (by (with_reducible repeat (first | refine blk_drewN ?_ _ | refine Zag ?_ | refine Zaf ?_ _)); exact BK349.out) hb); have n6_ := Za.mk (Zad (by repeat (first | (with_reducible first | exact HB.out | apply Zab | apply Zaa | apply Zac | refine Zae ?_ GE348.out | refine Zae ?_ GE349.out) | exact HB.out)) hb); clear HO0_1; clear HO0_2; clear HO0_5; clear BK348; clear BK349; clear HB; have HO0_1 := n0_; have HO0_2 := n1_; have HO0_5 := n2_; have HO352 := n3_; have BK348 := n4_; have BK349 := n5_; have HB := n6_; clear n0_ n1_ n2_ n3_ n4_ n5_ n6_; clear hb ho5; obtain ⟨Ao6, co6, eo6⟩ := Kd.Za9 HO352.out; subst eo6) | ((with_reducible refine Zaz (N := 6) rfl ?_); refine Kd.N_lit k50 _ 50 ?hg (N' := 6) ?hd (xs := ([(⟨(⟨#[120]⟩ : ByteArray), y350⟩ : S50)] : List (S50))) (inner := [.string (⟨#[120]⟩ : ByteArray), .slice Ao6 y350.length co6]) (ok := (fun k_ => ((P0_1_ k_ ∨ P0_2_ k_ ∨ P0_5_ k_) ∨ w.heap.size ≤ k_) ∧ k_ ≠ gb348 ∧ k_ ≠ gb349)) (okp := (fun k_ => ((P0_1_ k_ ∨ P0_2_ k_ ∨ P0_5_ k_) ∨ w.heap.size ≤ k_) ∧ k_ ≠ gb348 ∧ k_ ≠ gb349)) ?hr ?hp (fun _ hk => hk) ((show ∀ k_, w4.heap.size ≤ k_ → (fun k_ => ((P0_1_ k_ ∨ P0_2_ k_ ∨ P0_5_ k_) ∨ w.heap.size ≤ k_) ∧ k_ ≠ gb348 ∧ k_ ≠ gb349) k_ from fun k_ hk => ⟨(.inr (Nat.le_trans (Zaj (by repeat (first | (with_reducible first | exact HB.out | apply Zab | apply Zaa | apply Zac | refine Zae ?_ GE348.out | refine Zae ?_ GE349.out) | exact HB.out))) hk)), Kd.freshB (g := gb348) (o := .cells #[.int .i64 a0_0, .slice A0_1 l0_1.length c0_1, .slice A0_2 l0_2.length c0_2, .int .i64 a0_3, .int .i64 a0_4, .slice A0_5 l0_5.length c0_5, .int .i64 a0_6] 31 (0, 0)) (by (with_reducible repeat (first | refine blk_drewN ?_ _ | refine Zag ?_ | refine Zaf ?_ _)); exact BK348.out) k_ hk, Kd.freshB (g := gb349) (o := .cells #[.slice none 0 0, .slice none 0 0, .int .i64 0, .slice none 0 0, .slice none 0 0] 28 (0, 0)) (by (with_reducible repeat (first | refine blk_drewN ?_ _ | refine Zag ?_ | refine Zaf ?_ _)); exact BK349.out) k_ hk⟩) _ (Nat.le_refl _)) (Below.refl _ _) (Nat.le_refl _) (by simp) ?_; (case hd => rfl); (case hg => rfl); (case hr => first | (go_simp; done) | (go_simp; rfl)); (case hp => exact (Reps.c2 (show Kd.FK k50 _ _ (⟨(⟨#[120]⟩ : ByteArray), y350⟩ : S50) [.string (⟨#[120]⟩ : ByteArray), .slice Ao6 y350.length co6] from (k50_mkF _ _ (⟨(⟨#[120]⟩ : ByteArray), y350⟩ : S50) (Kd.Za4 (Kd.Za7 (ok' := (fun k_ => ((P0_1_ k_ ∨ P0_2_ k_ ∨ P0_5_ k_) ∨ w.heap.size ≤ k_) ∧ k_ ≠ gb348 ∧ k_ ≠ gb349)) (Kd.Zbd (Kd.Zbd (HO352.out) BK348.out (by decide)) BK349.out (by decide)) (fun k_ hk => ⟨(.inr (hk.1.1.1)), ⟨hk.1.2, hk.2⟩⟩))).2.1 (Kd.R_F (Kd.Za7 (ok' := (fun k_ => ((P0_1_ k_ ∨ P0_2_ k_ ∨ P0_5_ k_) ∨ w.heap.size ≤ k_) ∧ k_ ≠ gb348 ∧ k_ ≠ gb349)) (Kd.Zbd (Kd.Zbd (HO352.out) BK348.out (by decide)) BK349.out (by decide)) (fun k_ hk => ⟨(.inr (hk.1.1.1)), ⟨hk.1.2, hk.2⟩⟩))))) (Reps.none _ _))); intro v354 w7 ho8 hb hg_ hnew_; clear hg_ hnew_; (first | rw [← Ny353.out] at ho8 | (simp only [Int.reduceToNat] at ho8; rw [← Ny353.out] at ho8)); have n0_ := Za.mk (Kd.Zdb (by (with_reducible repeat (first | apply Kd.Zcw | apply Kd.Zcx | apply Kd.Zde)); exact HO0_1.out) (Kd.Zep ho8) hb); have n1_ := Za.mk (Kd.Zdb (by (with_reducible repeat (first | apply Kd.Zcw | apply Kd.Zcx | apply Kd.Zde)); exact HO0_2.out) (Kd.Zep ho8) hb); have n2_ := Za.mk (Kd.Zdb (by (with_reducible repeat (first | apply Kd.Zcw | apply Kd.Zcx | apply Kd.Zde)); exact HO0_5.out) (Kd.Zep ho8) hb); have n3_ := Za.mk (Kd.N_lower ho8 (Zaj (by repeat (first | (with_reducible first | exact HB.out | apply Zab | apply Zaa | apply Zac | refine Zae ?_ GE348.out | refine Zae ?_ GE349.out) | exact HB.out)))); have n4_ := Za.mk (Zau (g := gb348) (o := .cells #[.int .i64 a0_0, .slice A0_1 l0_1.length c0_1, .slice A0_2 l0_2.length c0_2, .int .i64 a0_3, .int .i64 a0_4, .slice A0_5 l0_5.length c0_5, .int .i64 a0_6] 31 (0, 0)) (by (with_reducible repeat (first | refine blk_drewN ?_ _ | refine Zag ?_ | refine Zaf ?_ _)); exact BK348.out) hb); have n5_ := Za.mk (Zau (g := gb349) (o := .cells #[.slice none 0 0, .slice none 0 0, .int .i64 0, .slice none 0 0, .slice none 0 0] 28 (0, 0)) (by (with_reducible repeat (first | refine blk_drewN ?_ _ | refine Zag ?_ | refine Zaf ?_ _)); exact BK349.out) hb); have n6_ := Za.mk (Zad (by repeat (first | (with_reducible first | exact HB.out | apply Zab | apply Zaa | apply Zac | refine Zae ?_ GE348.out | refine Zae ?_ GE349.out) | exact HB.out)) hb); clear HO0_1; clear HO0_2; clear HO0_5; clear BK348; clear BK349; clear HB; clear HO352; have HO0_1 := n0_; have HO0_2 := n1_; have HO0_5 := n2_; have HO355 := n3_; have BK348 := n4_; have BK349 := n5_; have HB := n6_; clear n0_ n1_ n2_ n3_ n4_ n5_ n6_; clear hb ho8; have hnb9 := NB348_349.out; have hnc9 := NB349_348.out; obtain ⟨hcz10_0, hcz10_1, hcz10_2, hcz10_3, hcz10_4, hcz10_5, hcz10_6, hfz10_0, hfz10_1, hfz10_2, hfz10_3, hfz10_4, hfz10_5, hfz10_6⟩ := Zc9 BK348.out) | ((with_reducible refine Zaz (N := 8) rfl ?_); refine Kd.N_lit k31 _ 31 ?hg (N' := 8) ?hd (xs := ([(⟨a0_0, l0_1, l0_2, a0_3, a0_4, l0_5, a0_6⟩ : S31)] : List (S31))) (inner := [.int .i64 a0_0, .slice A0_1 l0_1.length c0_1, .slice A0_2 l0_2.length c0_2, .int .i64 a0_3, .int .i64 a0_4, .slice A0_5 l0_5.length c0_5, .int .i64 a0_6]) (ok := (fun k_ => ((P0_1_ k_ ∨ P0_2_ k_ ∨ P0_5_ k_) ∨ w.heap.size ≤ k_) ∧ some k_ ≠ (v354 : Value).ownBlock ∧ k_ ≠ gb348 ∧ k_ ≠ gb349)) (okp := (fun k_ => ((P0_1_ k_ ∨ P0_2_ k_ ∨ P0_5_ k_) ∨ w.heap.size ≤ k_) ∧ some k_ ≠ (v354 : Value).ownBlock ∧ k_ ≠ gb348 ∧ k_ ≠ gb349)) ?hr ?hp (fun _ hk => hk) ((show ∀ k_, w7.heap.size ≤ k_ → (fun k_ => ((P0_1_ k_ ∨ P0_2_ k_ ∨ P0_5_ k_) ∨ w.heap.size ≤ k_) ∧ some k_ ≠ (v354 : Value).ownBlock ∧ k_ ≠ gb348 ∧ k_ ≠ gb349) k_ from fun k_ hk => ⟨(.inr (Nat.le_trans (Zaj (by repeat (first | (with_reducible first | exact HB.out | apply Zab | apply Zaa | apply Zac | refine Zae ?_ GE348.out | refine Zae ?_ GE349.out) | exact HB.out))) hk)), Kd.fresh' (Kd.N_lt (by (with_reducible repeat (first | apply Kd.N_alloc | apply Kd.N_drewN | apply Kd.N_drew)); exact HO355.out)) k_ hk, Kd.freshB (g := gb348) (o := .cells #[.int .i64 a0_0, .slice A0_1 l0_1.length c0_1, .slice A0_2 l0_2.length c0_2, .int .i64 a0_3, .int .i64 a0_4, .slice A0_5 l0_5.length c0_5, .int .i64 a0_6] 31 (0, 0)) (by (with_reducible repeat (first | refine blk_drewN ?_ _ | refine Zag ?_ | refine Zaf ?_ _)); exact BK348.out) k_ hk, Kd.freshB (g := gb349) (o := .cells #[.slice none 0 0, .slice none 0 0, .int .i64 0, .slice none 0 0, .slice none 0 0] 28 (0, 0)) (by (with_reducible repeat (first | refine blk_drewN ?_ _ | refine Zag ?_ | refine Zaf ?_ _)); exact BK349.out) k_ hk⟩) _ (Nat.le_refl _)) (Below.refl _ _) (Nat.le_refl _) (by simp) ?_; (case hd => rfl); (case hg => rfl); (case hr => first | (go_simp; done) | (go_simp; rfl)); (case hp => exact (Reps.c7 (show Kd.FK k31 _ _ (⟨a0_0, l0_1, l0_2, a0_3, a0_4, l0_5, a0_6⟩ : S31) [.int .i64 a0_0, .slice A0_1 l0_1.length c0_1, .slice A0_2 l0_2.length c0_2, .int .i64 a0_3, .int .i64 a0_4, .slice A0_5 l0_5.length c0_5, .int .i64 a0_6] from (k31_mkF _ _ (⟨a0_0, l0_1, l0_2, a0_3, a0_4, l0_5, a0_6⟩ : S31) (Kd.V_reads' (Kd.Zd7 (ok' := (fun k_ => ((P0_1_ k_ ∨ P0_2_ k_ ∨ P0_5_ k_) ∨ w.heap.size ≤ k_) ∧ some k_ ≠ (v354 : Value).ownBlock ∧ k_ ≠ gb348 ∧ k_ ≠ gb349)) (HO0_1.out) (fun k_ hk => ⟨hk.1.1.1.1, ⟨hk.2, ⟨hk.1.1.1.2, hk.1.1.2⟩⟩⟩))).2.1 (Kd.V_F (Kd.Zd7 (ok' := (fun k_ => ((P0_1_ k_ ∨ P0_2_ k_ ∨ P0_5_ k_) ∨ w.heap.size ≤ k_) ∧ some k_ ≠ (v354 : Value).ownBlock ∧ k_ ≠ gb348 ∧ k_ ≠ gb349)) (HO0_1.out) (fun k_ hk => ⟨hk.1.1.1.1, ⟨hk.2, ⟨hk.1.1.1.2, hk.1.1.2⟩⟩⟩))) (Kd.V_reads' (Kd.Zd7 (ok' := (fun k_ => ((P0_1_ k_ ∨ P0_2_ k_ ∨ P0_5_ k_) ∨ w.heap.size ≤ k_) ∧ some k_ ≠ (v354 : Value).ownBlock ∧ k_ ≠ gb348 ∧ k_ ≠ gb349)) (HO0_2.out) (fun k_ hk => ⟨hk.1.1.1.1, ⟨hk.2, ⟨hk.1.1.1.2, hk.1.1.2⟩⟩⟩))).2.1 (Kd.V_F (Kd.Zd7 (ok' := (fun k_ => ((P0_1_ k_ ∨ P0_2_ k_ ∨ P0_5_ k_) ∨ w.heap.size ≤ k_) ∧ some k_ ≠ (v354 : Value).ownBlock ∧ k_ ≠ gb348 ∧ k_ ≠ gb349)) (HO0_2.out) (fun k_ hk => ⟨hk.1.1.1.1, ⟨hk.2, ⟨hk.1.1.1.2, hk.1.1.2⟩⟩⟩))) (Kd.V_reads' (Kd.Zd7 (ok' := (fun k_ => ((P0_1_ k_ ∨ P0_2_ k_ ∨ P0_5_ k_) ∨ w.heap.size ≤ k_) ∧ some k_ ≠ (v354 : Value).ownBlock ∧ k_ ≠ gb348 ∧ k_ ≠ gb349)) (HO0_5.out) (fun k_ hk => ⟨hk.1.1.1.1, ⟨hk.2, ⟨hk.1.1.1.2, hk.1.1.2⟩⟩⟩))).2.1 (Kd.V_F (Kd.Zd7 (ok' := (fun k_ => ((P0_1_ k_ ∨ P0_2_ k_ ∨ P0_5_ k_) ∨ w.heap.size ≤ k_) ∧ some k_ ≠ (v354 : Value).ownBlock ∧ k_ ≠ gb348 ∧ k_ ≠ gb349)) (HO0_5.out) (fun k_ hk => ⟨hk.1.1.1.1, ⟨hk.2, ⟨hk.1.1.1.2, hk.1.1.2⟩⟩⟩))))) (Reps.none _ _))); intro v357 w11 ho12 hb hg_ hnew_; clear hg_ hnew_; (first | rw [← Ny356.out] at ho12 | (simp only [Int.reduceToNat] at ho12; rw [← Ny356.out] at ho12)); have n0_ := Za.mk (Kd.Zdb (by (with_reducible repeat (first | apply Kd.Zcw | apply Kd.Zcx | apply Kd.Zde)); exact HO0_1.out) (Kd.Zep ho12) hb); have n1_ := Za.mk (Kd.Zdb (by (with_reducible repeat (first | apply Kd.Zcw | apply Kd.Zcx | apply Kd.Zde)); exact HO0_2.out) (Kd.Zep ho12) hb); have n2_ := Za.mk (Kd.Zdb (by (with_reducible repeat (first | apply Kd.Zcw | apply Kd.Zcx | apply Kd.Zde)); exact HO0_5.out) (Kd.Zep ho12) hb); have n3_ := Za.mk (Kd.N_elder' (by (with_reducible repeat (first | apply Kd.N_alloc | apply Kd.N_drewN | apply Kd.N_drew)); exact HO355.out) (Kd.Zep ho12) hb); have n4_ := Za.mk (Kd.N_lower ho12 (Zaj (by repeat (first | (with_reducible first | exact HB.out | apply Zab | apply Zaa | apply Zac | refine Zae ?_ GE348.out | refine Zae ?_ GE349.out) | exact HB.out)))); have n5_ := Za.mk (Zau (g := gb348) (o := .cells #[.int .i64 a0_0, .slice A0_1 l0_1.length c0_1, .slice A0_2 l0_2.length c0_2, .int .i64 a0_3, .int .i64 a0_4, .slice A0_5 l0_5.length c0_5, .int .i64 a0_6] 31 (0, 0)) (by (with_reducible repeat (first | refine blk_drewN ?_ _ | refine Zag ?_ | refine Zaf ?_ _)); exact BK348.out) hb); have n6_ := Za.mk (Zau (g := gb349) (o := .cells #[.slice none 0 0, .slice none 0 0, .int .i64 0, .slice none 0 0, .slice none 0 0] 28 (0, 0)) (by (with_reducible repeat (first | refine blk_drewN ?_ _ | refine Zag ?_ | refine Zaf ?_ _)); exact BK349.out) hb); have n7_ := Za.mk (Zad (by repeat (first | (with_reducible first | exact HB.out | apply Zab | apply Zaa | apply Zac | refine Zae ?_ GE348.out | refine Zae ?_ GE349.out) | exact HB.out)) hb); clear HO0_1; clear HO0_2; clear HO0_5; clear HO355; clear BK348; clear BK349; clear HB; have HO0_1 := n0_; have HO0_2 := n1_; have HO0_5 := n2_; have HO355 := n3_; have HO358 := n4_; have BK348 := n5_; have BK349 := n6_; have HB := n7_; clear n0_ n1_ n2_ n3_ n4_ n5_ n6_ n7_; clear hb ho12; obtain ⟨Ao13, co13, eo13⟩ := Kd.Zce HO358.out; subst eo13; obtain ⟨Ao14, co14, eo14⟩ := Kd.Zce HO355.out; subst eo14; obtain ⟨hcz15_0, hcz15_1, hcz15_2, hcz15_3, hcz15_4, hfz15_0, hfz15_1, hfz15_2, hfz15_3, hfz15_4⟩ := blks5 BK349.out))
 refine bodyPost_ret (results_cell_row rfl _ _ gb349 28 #[.slice Ao14 y353.length co14, .slice Ao13 y356.length co13, .int .i64 0, .slice none 0 0, .slice none 0 0] (0, 0) _ rfl (by (with_reducible repeat (first | refine blk_drewN ?_ _ | refine Zag ?_ | refine Zaf ?_ _)); refine Zax (cs := #[.slice Ao14 y353.length co14, .slice Ao13 y356.length co13, .int .i64 0, .slice none 0 0, .slice none 0 0]) ?_ 4 _ rfl; (with_reducible repeat (first | refine blk_drewN ?_ _ | refine Zag ?_ | refine Zaf ?_ _)); refine Zax (cs := #[.slice Ao14 y353.length co14, .slice Ao13 y356.length co13, .int .i64 0, .slice none 0 0, .slice none 0 0]) ?_ 3 _ rfl; (with_reducible repeat (first | refine blk_drewN ?_ _ | refine Zag ?_ | refine Zaf ?_ _)); refine Zax (cs := #[.slice Ao14 y353.length co14, .slice Ao13 y356.length co13, .int .i64 0, .slice none 0 0, .slice none 0 0]) ?_ 2 _ rfl; (with_reducible repeat (first | refine blk_drewN ?_ _ | refine Zag ?_ | refine Zaf ?_ _)); refine Zax (cs := #[.slice Ao14 y353.length co14, .slice none 0 0, .int .i64 0, .slice none 0 0, .slice none 0 0]) ?_ 1 _ rfl; (with_reducible repeat (first | refine blk_drewN ?_ _ | refine Zag ?_ | refine Zaf ?_ _)); refine Zax (cs := #[.slice none 0 0, .slice none 0 0, .int .i64 0, .slice none 0 0, .slice none 0 0]) ?_ 0 _ rfl; (with_reducible repeat (first | refine blk_drewN ?_ _ | refine Zag ?_ | refine Zaf ?_ _)); exact BK349.out) Try.underlying28 rfl (by kernel_rfl)) rfl ?_
 exact ⟨_, _, _, _, by first | rfl | (simp [Zam, Zan] <;> rfl) | (simp [*, Zam, Zan] <;> rfl), by (with_reducible repeat (first | apply Kd.N_alloc | apply Kd.N_drewN | apply Kd.N_drew)); exact Kd.Zdm (Kd.Zd4 (p := ⟨gb349, 4, none⟩) (Kd.Zd4 (p := ⟨gb349, 3, none⟩) (Kd.Zd4 (p := ⟨gb349, 2, none⟩) (Kd.Zd4 (p := ⟨gb349, 1, none⟩) (Kd.Zd4 (p := ⟨gb349, 0, none⟩) (Kd.Zdm HO355.out (fun k_ hk => (⟨hk, hk.1.2.2⟩ : _ ∧ k_ ≠ gb349))) (fun _ hk => hk.2) (.slice Ao14 y353.length co14)) (fun _ hk => hk.2) (.slice Ao13 y356.length co13)) (fun _ hk => hk.2) (.int .i64 0)) (fun _ hk => hk.2) (.slice none 0 0)) (fun _ hk => hk.2) (.slice none 0 0)) (fun _ hk => ⟨hk.1.1.1, ⟨hk.1.2, ⟨(by simp [Value.ownBlock]), (by simp [Value.ownBlock])⟩⟩⟩), by (with_reducible repeat (first | apply Kd.N_alloc | apply Kd.N_drewN | apply Kd.N_drew)); exact Kd.Zdm (Kd.Zd4 (p := ⟨gb349, 4, none⟩) (Kd.Zd4 (p := ⟨gb349, 3, none⟩) (Kd.Zd4 (p := ⟨gb349, 2, none⟩) (Kd.Zd4 (p := ⟨gb349, 1, none⟩) (Kd.Zd4 (p := ⟨gb349, 0, none⟩) (Kd.Zdm HO358.out (fun k_ hk => (⟨hk, hk.2.2.2⟩ : _ ∧ k_ ≠ gb349))) (fun _ hk => hk.2) (.slice Ao14 y353.length co14)) (fun _ hk => hk.2) (.slice Ao13 y356.length co13)) (fun _ hk => hk.2) (.int .i64 0)) (fun _ hk => hk.2) (.slice none 0 0)) (fun _ hk => hk.2) (.slice none 0 0)) (fun _ hk => ⟨hk.1.1, ⟨hk.1.2.1, ⟨(by simp [Value.ownBlock]), (by simp [Value.ownBlock])⟩⟩⟩), by first | exact Kd.Ze2 _ _ _ _ _ | exact Kd.N_nil _ _ _ _ _ | exact Kd.Zd2 _ _ _ _ _ | exact Kd.Q_nil _ _ _ _ _ | exact Kd.S_nil _ _ _ _ _, by first | exact Kd.Ze2 _ _ _ _ _ | exact Kd.N_nil _ _ _ _ _ | exact Kd.Zd2 _ _ _ _ _ | exact Kd.Q_nil _ _ _ _ _ | exact Kd.S_nil _ _ _ _ _, by repeat (first | (with_reducible first | exact HB.out | apply Zab | apply Zaa | apply Zac | refine Zae ?_ GE348.out | refine Zae ?_ GE349.out) | exact HB.out)⟩
end Go.Proofs.Ytkgjaklnbgdmiaa.P
